/- Proves rules for the walks and their soundness. -/
import Derived.Test.YtpelnddplemngaaGreatHag
set_option linter.all false
set_option maxRecDepth 100000
namespace Go.Sx
open Go
abbrev lD {α:Type}:Row α:=⟨[],.nil,Nat.zero_le _,rfl,λ_=>rfl⟩
def zt {α:Sort _} {a:α}:True/\a=a:=⟨trivial,rfl⟩
def zT:True:=trivial
def qt {a b:Nat} (h:Nat.ble a b=true:=by rfl):a<=b:=Nat.le_of_ble_eq_true h
abbrev nZ {α:Type} (enc:α->List AV) (n:Nat) (v:AV) (l:List α):jW:=.sl true true v n (List.map enc l)
abbrev mT {α:Type} (enc:α->List AV) (n:Nat) (v:AV) (l:List α):jW:=.sl true false v n (List.map enc l)
abbrev zsP {α:Type} (enc:α->List AV) (n:Nat) (v:AV) (l:List α):jW:=.sl false true v n (List.map enc l)
abbrev qo (v:AV) (l:List Int):jW:=.sl true true v 1 (List.map j4 l)
abbrev je (b:Nat):AV:=.ptr b 0 0 0
abbrev j7 (b:Nat) (c:List AV):jW:=.obj (.ptr b 0 0 0) c
abbrev lW {κ β:Type} (b:Nat) (ek:κ->AV) (ev:β->AV) (l:List (κ×β)):jW:=.map (.hm b) (j1 ek ev l)
abbrev iF (n:Nat):AV:=.int .i64 (n:Int)
abbrev kr (r:Row Int):AV:=Row.av j4 r
abbrev qj (r:jm Int):AV:=jm.av j4 r
abbrev jI (r:Row ko):AV:=Row.av ko.ag r
abbrev jS (r:Row kD):AV:=Row.av kD.ag r
abbrev mD (r:Row jR):AV:=Row.av jR.ag r
abbrev jH (r:Row jN):AV:=Row.av jN.ag r
abbrev ke (r:Row jO):AV:=Row.av jO.ag r
abbrev nm (r:Row iM):AV:=Row.av iM.ag r
abbrev ju (r:Row ja):AV:=Row.av ja.ag r
abbrev jF (r:Row jC):AV:=Row.av jC.ag r
abbrev jP (r:Row kb):AV:=Row.av kb.ag r
abbrev jo (r:Row jg):AV:=Row.av jg.ag r
abbrev j6 (r:Row jr):AV:=Row.av jr.ag r
abbrev uk (r:Row j8):AV:=Row.av j8.ag r
section
variable {C:jZ} {F:lA} {Pr:kU} {fa:iN} {e:Env} {h:aT} {all rest:List Oper} {o:Oper} {q:Env->aT->Prop} {sch:List (Nat×List Nat)} {i t u el:Nat} {x y:Operand} {k k':IntKind} {cl:Call} {ti te:TI} {α:Type} {enc : α->List AV} {H:aT} {ls:lh} {cs cs' new:List AV} {v:AV} {fs:List (Nat×Nat)} {off ft f j i' n:Nat} {wr tt:Bool} {l:List α}
def mZ {p:Prop} {n:Nat} (h:m6.exact n=.nil):p:=by cases h
def jq {a b:Int} (w:kO C F Pr fa all rest q (jn e o (.int .i64 (a+b))) h) (ho:o.op=.binOp .add t x y u:=by rfl) (hw:jt all e o=some true:=by rfl) (hx:iZ e x=.int .i64 a:=by rfl) (hy:iZ e y=.int k' b:=by rfl) (hk:pa .i64 k'=true:=by rfl) (h1 : -9223372036854775808<=a+b:=by first | omega | (simp<;>omega) | (simp_all; omega)) (h2:a+b<=9223372036854775807:=by first | omega | (simp<;>omega) | (simp_all; omega)):kO C F Pr fa all (o::rest) q e h:=iT hw (λ_=>by rw [ho]; exact j9 hx hy hk (TM a b h1 h2)) w
def nI {a b:Int} (w:kO C F Pr fa all rest q (jn e o (.int .i64 (a - b))) h) (ho:o.op=.binOp .sub t x y u:=by rfl) (hw:jt all e o=some true:=by rfl) (hx:iZ e x=.int .i64 a:=by rfl) (hy:iZ e y=.int k' b:=by rfl) (hk:pa .i64 k'=true:=by rfl) (h1 : -9223372036854775808<=a - b:=by first | omega | (simp<;>omega) | (simp_all; omega)) (h2:a - b<=9223372036854775807:=by first | omega | (simp<;>omega) | (simp_all; omega)):kO C F Pr fa all (o::rest) q e h:=iT hw (λ_=>by rw [ho]; exact j9 hx hy hk (GC a b h1 h2)) w
def WG {a b:Int} (w:kX C F Pr fa all sch q (jn e o (.int .i64 (a - b))) h) (hi:all[i]?=some o:=by rfl) (ho:o.op=.binOp .sub t x y u:=by rfl) (hw:jt all e o=some true:=by rfl) (hx:iZ e x=.int .i64 a:=by rfl) (hy:iZ e y=.int k' b:=by rfl) (hk:pa .i64 k'=true:=by rfl) (h1 : -9223372036854775808<=a - b:=by first | omega | (simp<;>omega) | (simp_all; omega)) (h2:a - b<=9223372036854775807:=by first | omega | (simp<;>omega) | (simp_all; omega)):kX C F Pr fa all ((i,[])::sch) q e h:=jh hi hw (λ_=>by rw [ho]; exact j9 hx hy hk (GC a b h1 h2)) w
def jK (r:Row α) (w:kO C F Pr fa all rest q (jn e o (.int .i64 r.l.length)) h) (ho:o.op=.call cl:=by rfl) (hw:jt all e o=some true:=by rfl) (hc:cl.callee=.builtin .len:=by rfl) (ha:cl.args.toList=[x]:=by rfl) (hts:cl.argTypes.toList=[t]:=by rfl) (hT:C.T t=some ti:=by rfl) (hk:ti.kind=.slice el:=by rfl) (hx:iZ e x=r.av enc:=by rfl):kO C F Pr fa all (o::rest) q e h:=iT hw (λ_=>by rw [ho]; exact Hg hc ha hts hT hk hx) w
def LB (r:Row α) (w:kX C F Pr fa all sch q (jn e o (.int .i64 r.l.length)) h) (hi:all[i]?=some o:=by rfl) (ho:o.op=.call cl:=by rfl) (hw:jt all e o=some true:=by rfl) (hc:cl.callee=.builtin .len:=by rfl) (ha:cl.args.toList=[x]:=by rfl) (hts:cl.argTypes.toList=[t]:=by rfl) (hT:C.T t=some ti:=by rfl) (hk:ti.kind=.slice el:=by rfl) (hx:iZ e x=r.av enc:=by rfl):kX C F Pr fa all ((i,[])::sch) q e h:=jh hi hw (λ_=>by rw [ho]; exact Hg hc ha hts hT hk hx) w
def kQ (n:Nat) (r:Row α) (hn:n<r.l.length) (w:kO C F Pr fa all rest q (jn e o (.ip (enc r.l[n]) 0 false)) h) (ho:o.op=.indexAddr t x y:=by rfl) (hw:jt all e o=some true:=by rfl) (hT:C.T t=some ti:=by rfl) (hk:ti.kind=.slice el:=by rfl) (hE:C.T el=some te:=by rfl) (hx:iZ e x=r.av enc:=by rfl) (hi:iZ e y=.int k (n:Int):=by rfl) (hl:(enc r.l[n]).length=te.size:=by rfl):kO C F Pr fa all (o::rest) q e h:=iT hw (λ_=>by rw [ho]; exact wY hT hk hE hx hi hn hl) w
def rP (n:Nat) (r:Row α) (hn:n<r.l.length) (w:kX C F Pr fa all sch q (jn e o (.ip (enc r.l[n]) 0 false)) h) (hi':all[i]?=some o:=by rfl) (ho:o.op=.indexAddr t x y:=by rfl) (hw:jt all e o=some true:=by rfl) (hT:C.T t=some ti:=by rfl) (hk:ti.kind=.slice el:=by rfl) (hE:C.T el=some te:=by rfl) (hx:iZ e x=r.av enc:=by rfl) (hi:iZ e y=.int k (n:Int):=by rfl) (hl:(enc r.l[n]).length=te.size:=by rfl):kX C F Pr fa all ((i,[])::sch) q e h:=jh hi' hw (λ_=>by rw [ho]; exact wY hT hk hE hx hi hn hl) w
def xB {A P:AV->Prop} {B:AV->AV->Prop} {x:AV} (p:P x) (a:A x:=by rfl) (b:B x x:=by rfl):∃ v,A v/\∃ w,B v w/\P w:=⟨x,a,x,b,p⟩
def xG {A P:AV->Prop} {B:AV->AV->Prop} {x:AV} (p:P x) (a:A x:=by rfl) (b:B x x:=by simp only [bG.ag,ko.ag,iM.ag,kD.ag,kb.ag,jN.ag,jr.ag,jR.ag,jC.ag,iO.ag,jg.ag,jO.ag,ja.ag,lE.ag,j8.ag,kF.ag,iX.ag,nC.ag,jY.ag,DH.ag,tI.ag,mI.ag,FZ]<;>rfl):∃ v,A v/\∃ w,B v w/\P w:=⟨x,a,x,b,p⟩
def nh (i:Nat) {L:List jW} (hS:Sep H L) (w:kO C F Pr fa all rest q (jn e o (nw v (j+off))) h) (ho:o.op=.fieldAddr t x f:=by rfl) (hw:jt all e o=some true:=by rfl) (hi:L[i]?=some (.obj v cs):=by rfl) (hT:C.T t=some ti:=by rfl) (hk:ti.kind=.struct fs:=by rfl) (hf:fs[f]?=some (off,ft):=by rfl) (hx:iZ e x=nw v j:=by rfl):kO C F Pr fa all (o::rest) q e h:=iT hw (λ_=>by rw [ho]; exact pB hS hi hT hk hf hx) w
def rq (i:Nat) {L:List jW} (hS:Sep H L) (w:kX C F Pr fa all sch q (jn e o (nw v (j+off))) h) (hj:all[i']?=some o:=by rfl) (ho:o.op=.fieldAddr t x f:=by rfl) (hw:jt all e o=some true:=by rfl) (hi:L[i]?=some (.obj v cs):=by rfl) (hT:C.T t=some ti:=by rfl) (hk:ti.kind=.struct fs:=by rfl) (hf:fs[f]?=some (off,ft):=by rfl) (hx:iZ e x=nw v j:=by rfl):kX C F Pr fa all ((i',[])::sch) q e h:=jh hj hw (λ_=>by rw [ho]; exact pB hS hi hT hk hf hx) w
def Hb (i:Nat) {L:List jW} (hS:Sep H L) (w:kO C F Pr fa all rest q (jn e o (nw v j)) h) (ho:o.op=.nilCheck x:=by rfl) (hw:jt all e o=some true:=by rfl) (hi:L[i]?=some (.obj v cs):=by rfl) (hx:iZ e x=nw v j:=by rfl):kO C F Pr fa all (o::rest) q e h:=iT hw (λ_=>by rw [ho]; exact qI hS hi hx) w
def tn (i:Nat) {L:List jW} (hS:Sep H L) (w:kX C F Pr fa all sch q (jn e o (nw v j)) h) (hj:all[i']?=some o:=by rfl) (ho:o.op=.nilCheck x:=by rfl) (hw:jt all e o=some true:=by rfl) (hi:L[i]?=some (.obj v cs):=by rfl) (hx:iZ e x=nw v j:=by rfl):kX C F Pr fa all ((i',[])::sch) q e h:=jh hj hw (λ_=>by rw [ho]; exact qI hS hi hx) w
def lU (i:Nat) {L:List jW} (hS:Sep H L) (r:AV) (w:kO C F Pr fa all rest q (jn e o r) h) (ho:o.op=.load t x:=by rfl) (hw:jt all e o=some true:=by rfl) (hi:L[i]?=some (.obj v cs):=by rfl) (hT:C.T t=some ti:=by rfl) (hx:iZ e x=nw v j:=by rfl) (hp:part ti cs j=some r:=by rfl) (hh:h = { H with iI:=ls }:=by rfl):kO C F Pr fa all (o::rest) q e h:=by subst hh; exact iT hw (λ_=>by rw [ho]; exact oY hS hi hT hp hx) w
def sb (i:Nat) {L:List jW} (hS:Sep H L) (r:AV) (w:kX C F Pr fa all sch q (jn e o r) h) (hj:all[i']?=some o:=by rfl) (ho:o.op=.load t x:=by rfl) (hw:jt all e o=some true:=by rfl) (hi:L[i]?=some (.obj v cs):=by rfl) (hT:C.T t=some ti:=by rfl) (hx:iZ e x=nw v j:=by rfl) (hp:part ti cs j=some r:=by rfl) (hh:h = { H with iI:=ls }:=by rfl):kX C F Pr fa all ((i',[])::sch) q e h:=by subst hh; exact jh hj hw (λ_=>by rw [ho]; exact oY hS hi hT hp hx) w
def Hc (i:Nat) {L:List jW} (hS:Sep H L) (r:AV) (w:∀ H',Sep H' (L.set i (.obj v cs'))->kO C F Pr fa all rest q (jn e o .undef) { H' with iI:=ls }) (ho:o.op=.store t x y:=by rfl) (hw:jt all e o=some true:=by rfl) (hi:L[i]?=some (.obj v cs):=by rfl) (hT:C.T t=some ti:=by rfl) (hx:iZ e x=nw v j:=by rfl) (hy:iZ e y=r:=by rfl) (hn:cellsOf ti r=some new:=by rfl) (hok:new.all AV.kK=true:=by rfl) (hsp:nu cs j new=some cs':=by rfl) (hh:h = { H with iI:=ls }:=by rfl):kO C F Pr fa all (o::rest) q e h:=by subst hh; exact jG hw (by rw [ho]; exact mN hS hi hT hx hy hn hok hsp) (λ_ H' h=>by obtain ⟨rfl,h⟩:=h; exact w H' h)
def rSt (i:Nat) {L:List jW} (hS:Sep H L) (r:AV) (w:∀ H',Sep H' (L.set i (.obj v cs'))->kX C F Pr fa all sch q (jn e o .undef) { H' with iI:=ls }) (hj:all[i']?=some o:=by rfl) (ho:o.op=.store t x y:=by rfl) (hw:jt all e o=some true:=by rfl) (hi:L[i]?=some (.obj v cs):=by rfl) (hT:C.T t=some ti:=by rfl) (hx:iZ e x=nw v j:=by rfl) (hy:iZ e y=r:=by rfl) (hn:cellsOf ti r=some new:=by rfl) (hok:new.all AV.kK=true:=by rfl) (hsp:nu cs j new=some cs':=by rfl) (hh:h = { H with iI:=ls }:=by rfl):kX C F Pr fa all ((i',[])::sch) q e h:=by subst hh; exact mF hj hw (by rw [ho]; exact mN hS hi hT hx hy hn hok hsp) (λ_ H' h=>by obtain ⟨rfl,h⟩:=h; exact w H' h)
def Gx (i:Nat) (ys:List α) {L:List jW} (hS:Sep H L) (w:∀ v' H',Sep H' (L.set i (.sl wr tt v' n ((l++ys).map enc)))->kO C F Pr fa all rest q (jn e o v') { H' with iI:=ls }) (ho:o.op=.call cl:=by rfl) (hw:jt all e o=some true:=by rfl) (hi:L[i]?=some (.sl wr tt v n (l.map enc)):=by rfl) (hc:cl.callee=.builtin .append:=by rfl) (ha:cl.args.toList=[x,y]:=by rfl) (hts:cl.argTypes.toList=[t,u]:=by rfl) (hT:rZ C [t,u]=some ti:=by rfl) (hSr:Fo C [t,u]=true:=by rfl) (hn:ti.size=n:=by rfl) (hs:iZ e x=v:=by rfl) (hx:pV { H with iI:=ls } (iZ e y)=some (ys.map enc):=by rfl) (hok:∀ y,(enc y).all AV.kK=true:=by exact λ_=>rfl) (ht:tt=true\/ys.length=1:=by first | exact .inl rfl | exact .inr rfl) (hm:l.length+ys.length<=sv:=by simp only [sv]; first | omega | (simp<;>omega)) (henc:∀ x,(enc x).length=n:=by exact λ_=>rfl) (hh:h = { H with iI:=ls }:=by rfl):kO C F Pr fa all (o::rest) q e h:=by subst hh; exact jG hw (by rw [ho]; exact lf ys hS hi hc ha hts hT hSr hn hs hx hok ht hm henc) (λv' H' h=>w v' H' h)
end
section
variable {p q:Prop}
def aa (w:q) (h:q->p:=by intro w_;refine qq ?_;refine qg ?_;exact w_):p:=h w
def ab (w:q) (h:q->p:=by intro w_;refine oV ?_;refine oN ?_;exact w_):p:=h w
def ac (w:q) (h:q->p:=by intro w_;refine oV ?_;refine oN ?_;refine qT ?_;refine qq ?_;refine qg ?_;refine oV ?_;refine oN ?_;refine qr ?_;exact w_):p:=h w
def ae (w:q) (h:q->p:=by intro w_;refine qq ?_;refine qg ?_;(iterate 2 refine oV ?_);exact w_):p:=h w
def af (w:q) (h:q->p:=by intro w_;refine oV ?_;refine oN ?_;refine qr ?_;exact w_):p:=h w
def ah (w:q) (h:q->p:=by intro w_;refine oV ?_;refine oN ?_;refine qF ?_;refine qk ?_;exact w_):p:=h w
def ai (w:q) (h:q->p:=by intro w_;(iterate 2 refine oV ?_);refine oN ?_;refine qF ?_;refine qk ?_;refine wy [.la 5 0,.la 6 0,.la 6 0,iv r2] [(5,(kF.ag a2)),(6,[iv 0,iS,iv 0,iv 0,iv 0]),(6,[iv 0,iS,iv 0,iv 0,iv 0])] ?_;refine qq ?_;refine qg ?_;(iterate 8 refine oV ?_);refine oN ?_;refine qs ?_;refine qq ?_;refine qg ?_;refine oV ?_;exact w_):p:=h w
def aj (w:q) (h:q->p:=by intro w_;refine oN ?_;refine qT ?_;refine qg ?_;(iterate 2 refine oV ?_);refine oN ?_;refine wy [.la 6 0,.la 6 0,.la 10 0] [(6,[iv 0,iS,iv 0,iv 0,iv 0]),(6,[iv 0,iS,iv 0,iv 0,iv 0]),(10,[iv 1,.sl [(iM.ag a2.at_)] (.exact 1),iv a2.left,iv 0,iv 0])] ?_;refine qq ?_;refine qg ?_;(iterate 3 refine oV ?_);refine oN ?_;refine qr ?_;exact w_):p:=h w
def ao (w:q) (h:q->p:=by intro w_;refine qq ?_;refine qg ?_;refine oV ?_;exact w_):p:=h w
def ap (w:q) (h:q->p:=by intro w_;refine oN ?_;refine qs ?_;refine qF ?_;refine qe ?_;exact w_):p:=h w
def aq (w:q) (h:q->p:=by intro w_;refine oN ?_;refine qs ?_;refine qT ?_;refine qk ?_;exact w_):p:=h w
def au (w:q) (h:q->p:=by intro w_;refine oN ?_;refine qF ?_;refine qk ?_;refine wy [.la 6 0,.la 6 0,.la 10 0] [(6,[iv 0,iS,iv 0,iv 0,iv 0]),(6,[iv 0,iS,iv 0,iv 0,iv 0]),(10,[iv 2,.sl [(iM.ag a2.at_)] (.exact 1),iv a2.left,iv 0,iv 0])] ?_;refine qq ?_;refine qg ?_;(iterate 3 refine oV ?_);refine oN ?_;refine qr ?_;exact w_):p:=h w
def aw (w:q) (h:q->p:=by intro w_;(iterate 2 refine oV ?_);exact w_):p:=h w
def az (w:q) (h:q->p:=by intro w_;refine oV ?_;refine oN ?_;refine qs ?_;refine qq ?_;refine qg ?_;refine oV ?_;exact w_):p:=h w
def aA (w:q) (h:q->p:=by intro w_;refine oV ?_;refine oN ?_;refine qs ?_;exact w_):p:=h w
def aB (w:q) (h:q->p:=by intro w_;refine qs ?_;refine qq ?_;refine qg ?_;refine oV ?_;exact w_):p:=h w
def aC (w:q) (h:q->p:=by intro w_;refine oN ?_;refine qT ?_;exact w_):p:=h w
def aD (w:q) (h:q->p:=by intro w_;(iterate 2 refine oV ?_);(iterate 3 refine oS ?_);(iterate 2 refine oV ?_);(iterate 3 refine oS ?_);exact w_):p:=h w
def aE (w:q) (h:q->p:=by intro w_;refine oV ?_;refine oN ?_;refine qT ?_;refine qq ?_;refine qg ?_;(iterate 3 refine oV ?_);refine oN ?_;refine qr ?_;exact w_):p:=h w
def aF (w:q) (h:q->p:=by intro w_;refine qs ?_;refine qb ?_;exact w_):p:=h w
def aG (w:q) (h:q->p:=by intro w_;refine oN ?_;refine qF ?_;refine qk ?_;exact w_):p:=h w
def aH (w:q) (h:q->p:=by intro w_;(iterate 3 refine oV ?_);exact w_):p:=h w
def aI (w:q) (h:q->p:=by intro w_;refine qq ?_;refine qg ?_;refine oV ?_;refine oN ?_;refine qr ?_;exact w_):p:=h w
def aJ (w:q) (h:q->p:=by intro w_;refine qq ?_;refine qg ?_;(iterate 3 refine oV ?_);exact w_):p:=h w
def aK (w:q) (h:q->p:=by intro w_;refine rA hA ?_;refine qq ?_;refine qg ?_;exact w_):p:=h w
def aL (w:q) (h:q->p:=by intro w_;refine oV ?_;refine oN ?_;refine qb ?_;exact w_):p:=h w
def aM (w:q) (h:q->p:=by intro w_;refine oN ?_;refine qF ?_;refine qe ?_;exact w_):p:=h w
def aN (w:q) (h:q->p:=by intro w_;refine oN ?_;refine qT ?_;refine qq ?_;refine qg ?_;(iterate 2 refine oV ?_);refine oN ?_;refine qr ?_;exact w_):p:=h w
def aO (w:q) (h:q->p:=by intro w_;(iterate 4 refine oV ?_);exact w_):p:=h w
def aP (w:q) (h:q->p:=by intro w_;(iterate 2 refine rV ?_);exact w_):p:=h w
def aQ (w:q) (h:q->p:=by intro w_;(iterate 6 refine oV ?_);refine oN ?_;exact w_):p:=h w
def aR (w:q) (h:q->p:=by intro w_;refine rV ?_;refine rN ?_;exact w_):p:=h w
def aS (w:q) (h:q->p:=by intro w_;refine qg ?_;refine oV ?_;exact w_):p:=h w
def aU (w:q) (h:q->p:=by intro w_;(iterate 2 refine oV ?_);(iterate 4 refine oS ?_);exact w_):p:=h w
def aV (w:q) (h:q->p:=by intro w_;refine qq ?_;refine qd ?_;exact w_):p:=h w
def aW (w:q) (h:q->p:=by intro w_;refine oV ?_;refine oN ?_;refine qq ?_;refine qg ?_;exact w_):p:=h w
def aX (w:q) (h:q->p:=by intro w_;refine qq ?_;refine qg ?_;(iterate 2 refine oV ?_);refine oN ?_;exact w_):p:=h w
def aY (w:q) (h:q->p:=by intro w_;refine iT rfl (λ_=>j9 rfl rfl rfl (mu .i64 a2.left a1)) ?_;refine oV ?_;exact w_):p:=h w
def aZ (w:q) (h:q->p:=by intro w_;refine qs ?_;refine qq ?_;refine qg ?_;(iterate 2 refine oV ?_);exact w_):p:=h w
def a6 (w:q) (h:q->p:=by intro w_;(iterate 4 refine oV ?_);refine iT rfl (λ_=>j9 rfl rfl rfl (mu .i64 a2.left a1)) ?_;refine oV ?_;exact w_):p:=h w
def a7 (w:q) (h:q->p:=by intro w_;(iterate 2 refine oV ?_);(iterate 2 refine oS ?_);exact w_):p:=h w
def a8 (w:q) (h:q->p:=by intro w_;(iterate 2 refine oV ?_);refine oN ?_;refine qr ?_;exact w_):p:=h w
def ba (w:q) (h:q->p:=by intro w_;refine oV ?_;refine oN ?_;refine qF ?_;refine qk ?_;refine wz [.fm (j1 pK pK a1) false,.la 2 0,(.hm b1),.la 7 0,jP a0.signals,iF a0.signals.l.length,iF k5] H7 [(2,(bG.ag a0)),(7,(kb.ag x11))] ?_;exact w_):p:=h w
def bb (w:q) (h:q->p:=by intro w_;refine rA hA ?_;refine qs ?_;refine qq ?_;refine qg ?_;(iterate 3 refine oV ?_);exact w_):p:=h w
def bc (w:q) (h:q->p:=by intro w_;refine oV ?_;refine oN ?_;refine qT ?_;exact w_):p:=h w
def bd (w:q) (h:q->p:=by intro w_;(iterate 3 refine oV ?_);refine oN ?_;exact w_):p:=h w
def be (w:q) (h:q->p:=by intro w_;refine oN ?_;refine qT ?_;refine qk ?_;refine qs ?_;refine qb ?_;exact w_):p:=h w
def bf (w:q) (h:q->p:=by intro w_;refine oV ?_;refine oN ?_;refine qF ?_;refine qq ?_;refine qg ?_;exact w_):p:=h w
def bg (w:q) (h:q->p:=by intro w_;refine qs ?_;refine qb ?_;refine qq ?_;refine qg ?_;exact w_):p:=h w
def bh (w:q) (h:q->p:=by intro w_;refine oN ?_;refine qT ?_;refine qq ?_;refine qg ?_;refine oV ?_;refine oN ?_;refine qr ?_;exact w_):p:=h w
def bi (w:q) (h:q->p:=by intro w_;refine iT rfl (λ_=>qI (i:=0) hS rfl rfl) ?_;refine iT rfl (λ_=>pB (i:=0) hS rfl rfl rfl rfl rfl) ?_;exact w_):p:=h w
def bj (w:q) (h:q->p:=by intro w_;refine qq ?_;refine qg ?_;refine oV ?_;refine oN ?_;refine qb ?_;exact w_):p:=h w
def bk (w:q) (h:q->p:=by intro w_;refine oV ?_;(iterate 2 refine oS ?_);exact w_):p:=h w
def bl (w:q) (h:q->p:=by intro w_;refine oV ?_;(iterate 4 refine oS ?_);exact w_):p:=h w
def bm (w:q) (h:q->p:=by intro w_;(iterate 2 refine rV ?_);refine rN ?_;refine qr ?_;exact w_):p:=h w
def bo (w:q) (h:q->p:=by intro w_;refine rV ?_;refine rN ?_;refine qF ?_;refine qk ?_;exact w_):p:=h w
def bp (w:q) (h:q->p:=by intro w_;(iterate 2 refine oV ?_);refine oN ?_;refine qT ?_;refine qq ?_;refine qg ?_;refine oV ?_;refine oN ?_;refine qr ?_;exact w_):p:=h w
def br (w:q) (h:q->p:=by intro w_;refine qq ?_;refine qg ?_;refine oV ?_;refine oN ?_;exact w_):p:=h w
def bu (w:q) (h:q->p:=by intro w_;refine qq ?_;refine qg ?_;(iterate 3 refine oV ?_);refine oN ?_;refine qr ?_;exact w_):p:=h w
def bv (w:q) (h:q->p:=by intro w_;refine qg ?_;(iterate 3 refine oV ?_);exact w_):p:=h w
def bw (w:q) (h:q->p:=by intro w_;(iterate 6 refine rV ?_);refine rN ?_;exact w_):p:=h w
def bz (w:q) (h:q->p:=by intro w_;refine rV ?_;refine rN ?_;refine qT ?_;exact w_):p:=h w
def bA (w:q) (h:q->p:=by intro w_;refine wz [.fm (j1 pK pK a1) false,.la 2 0,(.hm b1),.la 7 0,iv x21,jH a0.lines,iF a0.lines.l.length,iF k5,kr x11.elems,iF x11.elems.l.length,iF kG] H17 [(2,(bG.ag a0)),(7,(jN.ag x11))] ?_;refine qg ?_;(iterate 2 refine oV ?_);refine jG rfl (nj (i:=0) (ek:=iK) (ev:=bK) (l:=l16) x21 true hS18 rfl rfl rfl rfl rfl rfl pE) ?_;exact w_):p:=h w
def bB (w:q) (h:q->p:=by intro w_;(iterate 3 refine rV ?_);exact w_):p:=h w
def bC (w:q) (h:q->p:=by intro w_;refine qq ?_;refine qg ?_;refine oV ?_;refine oN ?_;refine qs ?_;refine qq ?_;refine qg ?_;refine oV ?_;exact w_):p:=h w
def bD (w:q) (h:q->p:=by intro w_;refine qq ?_;refine qg ?_;(iterate 4 refine oV ?_);exact w_):p:=h w
def bE (w:q) (h:q->p:=by intro w_;refine qs ?_;refine qb ?_;refine qq ?_;refine qg ?_;refine oV ?_;exact w_):p:=h w
def bF (w:q) (h:q->p:=by intro w_;refine oN ?_;refine qT ?_;refine qg ?_;(iterate 2 refine oV ?_);refine iT rfl (λ_=>j9 rfl rfl rfl (pW .i64 1 r7.en)) ?_;(iterate 2 refine oV ?_);refine oN ?_;refine wy [.ip (iX.ag a0) 0 false,.la 11 0] [(11,[iv r7.elem,iv (IntKind.i64.wrap (1 - r7.en))])] ?_;refine qq ?_;refine qg ?_;(iterate 2 refine oV ?_);refine oC (t139 a0 (⟨r7.elem,(IntKind.i64.wrap (1 - r7.en))⟩:iM)) ?_;exact w_):p:=h w
def bH (w:q) (h:q->p:=by intro w_;refine oV ?_;refine oN ?_;refine qF ?_;refine qk ?_;refine wy [.str a0.l,iF k1] [] ?_;refine qg ?_;refine oV ?_;exact w_):p:=h w
def bI (w:q) (h:q->p:=by intro w_;(iterate 4 refine oV ?_);refine oN ?_;refine qr ?_;exact w_):p:=h w
def bJ (w:q) (h:q->p:=by intro w_;refine qq ?_;refine qg ?_;(iterate 2 refine oV ?_);refine oN ?_;refine qr ?_;exact w_):p:=h w
def bL (w:q) (h:q->p:=by intro w_;(iterate 2 refine oV ?_);(iterate 5 refine oS ?_);exact w_):p:=h w
def bM (w:q) (h:q->p:=by intro w_;refine qs ?_;refine qq ?_;refine qg ?_;(iterate 3 refine oV ?_);exact w_):p:=h w
def bN (w:q) (h:q->p:=by intro w_;(iterate 2 refine oV ?_);(iterate 4 refine oS ?_);refine oV ?_;refine oN ?_;refine qT ?_;refine qq ?_;refine qg ?_;refine oV ?_;refine oN ?_;refine qr ?_;exact w_):p:=h w
def bO (w:q) (h:q->p:=by intro w_;refine oV ?_;(iterate 3 refine oS ?_);exact w_):p:=h w
def bP (w:q) (h:q->p:=by intro w_;refine oN ?_;refine qs ?_;refine qT ?_;refine qk ?_;refine qs ?_;refine qb ?_;refine qq ?_;refine qg ?_;(iterate 2 refine oV ?_);refine oN ?_;exact w_):p:=h w
def bQ (w:q) (h:q->p:=by intro w_;refine oV ?_;(iterate 5 refine oS ?_);exact w_):p:=h w
def bR (w:q) (h:q->p:=by intro w_;(iterate 5 refine oV ?_);exact w_):p:=h w
def bS (w:q) (h:q->p:=by intro w_;refine qq ?_;refine qg ?_;refine jG (H:=aT.empty) rfl (sr kB rfl rfl rfl rfl rfl) ?_;exact w_):p:=h w
def bT (w:q) (h:q->p:=by intro w_;(iterate 4 refine rV ?_);exact w_):p:=h w
def bU (w:q) (h:q->p:=by intro w_;(iterate 3 refine oV ?_);refine oN ?_;refine qr ?_;exact w_):p:=h w
def bV (w:q) (h:q->p:=by intro w_;(iterate 2 refine oV ?_);(iterate 9 refine oS ?_);exact w_):p:=h w
def bW (w:q) (h:q->p:=by intro w_;(iterate 4 refine oV ?_);refine oN ?_;exact w_):p:=h w
def bX (w:q) (h:q->p:=by intro w_;refine oN ?_;refine qT ?_;refine qk ?_;exact w_):p:=h w
def bZ (w:q) (h:q->p:=by intro w_;refine oN ?_;refine qF ?_;refine qk ?_;refine qg ?_;exact w_):p:=h w
def b5 (w:q) (h:q->p:=by intro w_;(iterate 2 refine rV ?_);(iterate 3 refine rS ?_);(iterate 2 refine rV ?_);(iterate 11 refine rS ?_);(iterate 2 refine rV ?_);refine rN ?_;refine qr ?_;exact w_):p:=h w
def b8 (w:q) (h:q->p:=by intro w_;(iterate 2 refine rV ?_);(iterate 6 refine rS ?_);exact w_):p:=h w
def ca (w:q) (h:q->p:=by intro w_;(iterate 2 refine oV ?_);refine oN ?_;refine qF ?_;refine qk ?_;exact w_):p:=h w
def cb (w:q) (h:q->p:=by intro w_;refine wy [.la 2 0,iv x6.at_,mD a1,iF a1.l.length,iF k2] [(2,(bG.ag a0))] ?_;refine qg ?_;exact w_):p:=h w
def ce (w:q) (h:q->p:=by intro w_;refine Hb 4 hS50 ?_;refine nh 4 hS50 ?_;refine lU 4 hS50 v41 ?_;refine iT rfl (λ_=>oT (H:=H49) (i:=0) (l:=l42) (enc:=jg.ag) hS50 rfl rfl rfl rfl rfl rfl rfl) ?_;exact w_):p:=h w
def cf (w:q) (h:q->p:=by intro w_;(iterate 2 refine oV ?_);(iterate 3 refine oS ?_);exact w_):p:=h w
def cg (w:q) (h:q->p:=by intro w_;refine qq ?_;refine qg ?_;(iterate 3 refine oV ?_);refine oN ?_;exact w_):p:=h w
def ci (w:q) (h:q->p:=by intro w_;refine oN ?_;refine qT ?_;refine qg ?_;(iterate 2 refine oV ?_);refine oN ?_;refine wy [.la 6 0,.la 6 0,.la 11 0] [(6,[.str ([]),iv 0,iv 0,iv 0,iv 0]),(6,[.str ([]),iv 0,iv 0,iv 0,iv 0]),(11,[.str x5.name.l,iv x5.iU,iv r7.elem,iv r7.en,iv 0])] ?_;exact w_):p:=h w
def ck (w:q) (h:q->p:=by intro w_;refine qs ?_;refine qq ?_;refine qg ?_;refine oV ?_;refine oN ?_;refine qb ?_;exact w_):p:=h w
def cm (w:q) (h:q->p:=by intro w_;refine qg ?_;(iterate 2 refine oV ?_);exact w_):p:=h w
def co (w:q) (h:q->p:=by intro w_;(iterate 5 refine rV ?_);exact w_):p:=h w
def cq (w:q) (h:q->p:=by intro w_;(iterate 2 refine oV ?_);refine oN ?_;exact w_):p:=h w
def cr (w:q) (h:q->p:=by intro w_;refine oV ?_;(iterate 9 refine oS ?_);(iterate 3 refine oV ?_);refine oN ?_;refine qF ?_;refine qq ?_;refine qg ?_;refine oV ?_;exact w_):p:=h w
def ct (w:q) (h:q->p:=by intro w_;refine qq ?_;refine qd ?_;(iterate 6 refine rV ?_);refine rC (t10 a0 a2 a3 a4) ?_;exact w_):p:=h w
def cu (w:q) (h:q->p:=by intro w_;refine iT rfl (λ_=>oH (r:=l) (enc:=jC.ag) rfl rfl rfl rfl rfl rfl) ?_;refine oV ?_;refine oN ?_;refine qb ?_;exact w_):p:=h w
def cw (w:q) (h:q->p:=by intro w_;refine oN ?_;refine qF ?_;refine qk ?_;refine wy [.la 6 0,.la 6 0,.la 11 0] [(6,[.str ([]),iv 0,iv 0,iv 0,iv 0]),(6,[.str ([]),iv 0,iv 0,iv 0,iv 0]),(11,[.str x5.name.l,iv x5.iU,iv r7.elem,iv r7.en,iv x5.left])] ?_;exact w_):p:=h w
def cy (w:q) (h:q->p:=by intro w_;refine oN ?_;refine qs ?_;refine qF ?_;refine qe ?_;refine qq ?_;refine qg ?_;refine oV ?_;refine oN ?_;refine qr ?_;exact w_):p:=h w
def cz (w:q) (h:q->p:=by intro w_;(iterate 8 refine oS ?_);exact w_):p:=h w
def cA (w:q) (h:q->p:=by intro w_;refine jK a1.runs ?_;refine oV ?_;refine oN ?_;refine qb ?_;exact w_):p:=h w
def cB (w:q) (h:q->p:=by intro w_;(iterate 2 refine lU 4 hS76 v68 ?_);refine iT rfl (λ_=>oT (H:=H75) (i:=3) (l:=l69) (enc:=iM.ag) hS76 rfl rfl rfl rfl rfl rfl rfl) ?_;exact w_):p:=h w
def cC (w:q) (h:q->p:=by intro w_;refine qq ?_;refine qg ?_;refine oV ?_;refine oN ?_;refine qq ?_;refine qg ?_;(iterate 2 refine oV ?_);exact w_):p:=h w
def cD (w:q) (h:q->p:=by intro w_;refine qq ?_;refine qd ?_;(iterate 2 refine rV ?_);exact w_):p:=h w
def cE (w:q) (h:q->p:=by intro w_;refine qq ?_;refine qd ?_;(iterate 3 refine rV ?_);exact w_):p:=h w
def cF (w:q) (h:q->p:=by intro w_;refine oV ?_;refine oN ?_;refine qT ?_;refine qe ?_;exact w_):p:=h w
def cG (w:q) (h:q->p:=by intro w_;refine rA hA ?_;refine qs ?_;refine qq ?_;refine qg ?_;(iterate 2 refine oV ?_);exact w_):p:=h w
def cH (w:q) (h:q->p:=by intro w_;refine rN ?_;refine qT ?_;exact w_):p:=h w
def cI (w:q) (h:q->p:=by intro w_;(iterate 5 refine oV ?_);refine oN ?_;refine qs ?_;refine qq ?_;refine qg ?_;refine oV ?_;exact w_):p:=h w
def cJ (w:q) (h:q->p:=by intro w_;(iterate 6 refine oV ?_);refine oN ?_;refine qs ?_;refine qq ?_;refine qg ?_;refine oV ?_;exact w_):p:=h w
def cL (w:q) (h:q->p:=by intro w_;refine oV ?_;(iterate 6 refine oS ?_);exact w_):p:=h w
def cM (w:q) (h:q->p:=by intro w_;(iterate 6 refine oV ?_);exact w_):p:=h w
def cN (w:q) (h:q->p:=by intro w_;refine oN ?_;refine qb ?_;refine qq ?_;refine qg ?_;exact w_):p:=h w
def cO (w:q) (h:q->p:=by intro w_;refine qg ?_;(iterate 3 refine oV ?_);refine jG (H:=H7) rfl (nj (H:=H7) (i:=0) (ek:=pK) (ev:=bK) (l:=l6) x11.at_ true hS8 rfl rfl rfl rfl rfl rfl lF) ?_;exact w_):p:=h w
def cP (w:q) (h:q->p:=by intro w_;(iterate 3 refine oV ?_);refine oN ?_;refine qq ?_;refine qg ?_;(iterate 2 refine oV ?_);exact w_):p:=h w
def cQ (w:q) (h:q->p:=by intro w_;(iterate 6 refine oV ?_);refine oN ?_;refine qq ?_;refine qg ?_;exact w_):p:=h w
def cR (w:q) (h:q->p:=by intro w_;refine wz [.la 1 0,(.hm b1),jI a0.elems,iF a0.elems.l.length,iF o5] H7 [(1,(bG.ag a0))] ?_;refine qg ?_;exact w_):p:=h w
def cT (w:q) (h:q->p:=by intro w_;refine rN ?_;refine qF ?_;refine qk ?_;exact w_):p:=h w
def cU (w:q) (h:q->p:=by intro w_;refine wy [.la 2 0,.la 3 0] [(2,(bG.ag a0)),(3,(iO.ag a1))] ?_;refine qs ?_;refine qq ?_;refine qg ?_;(iterate 2 refine oV ?_);exact w_):p:=h w
def cV (w:q) (h:q->p:=by intro w_;refine oV ?_;refine oN ?_;refine qq ?_;refine qg ?_;refine oV ?_;exact w_):p:=h w
def cW (w:q) (h:q->p:=by intro w_;refine wy [.la 1 0,jI a0.elems,iF a0.elems.l.length,iF mw] [(1,(bG.ag a0))] ?_;refine qg ?_;exact w_):p:=h w
def cX (w:q) (h:q->p:=by intro w_;refine qF ?_;refine qq ?_;refine qg ?_;refine oV ?_;exact w_):p:=h w
def cY (w:q) (h:q->p:=by intro w_;refine oV ?_;refine oN ?_;refine qT ?_;refine qq ?_;refine qg ?_;(iterate 2 refine oV ?_);refine oN ?_;refine qr ?_;exact w_):p:=h w
def cZ (w:q) (h:q->p:=by intro w_;refine qq ?_;refine qd ?_;refine rV ?_;exact w_):p:=h w
def c3 (w:q) (h:q->p:=by intro w_;(iterate 5 refine rS ?_);(iterate 2 refine rV ?_);(iterate 12 refine rS ?_);exact w_):p:=h w
def c6 (w:q) (h:q->p:=by intro w_;refine qg ?_;(iterate 2 refine oV ?_);refine jG rfl (nj (i:=0) (ek:=iK) (ev:=bK) (l:=l26) x32 true hS29 rfl rfl rfl rfl rfl rfl pE) ?_;exact w_):p:=h w
def c7 (w:q) (h:q->p:=by intro w_;refine qg ?_;(iterate 2 refine oV ?_);refine jG rfl (nj (i:=0) (ek:=iK) (ev:=bK) (l:=l50) x56 true hS53 rfl rfl rfl rfl rfl rfl pE) ?_;exact w_):p:=h w
def c8 (w:q) (h:q->p:=by intro w_;(iterate 6 refine rV ?_);exact w_):p:=h w
def c9 (w:q) (h:q->p:=by intro w_;refine oN ?_;refine qs ?_;refine qT ?_;refine qk ?_;refine qs ?_;refine qb ?_;refine qq ?_;refine qg ?_;exact w_):p:=h w
def da (w:q) (h:q->p:=by intro w_;refine qq ?_;refine qg ?_;(iterate 4 refine oV ?_);refine oN ?_;refine qr ?_;exact w_):p:=h w
def db (w:q) (h:q->p:=by intro w_;refine jK a0.signals ?_;refine oV ?_;refine oN ?_;refine qb ?_;exact w_):p:=h w
def dc (w:q) (h:q->p:=by intro w_;(iterate 2 refine oV ?_);refine oN ?_;refine qT ?_;refine qq ?_;refine qg ?_;(iterate 3 refine oV ?_);refine oN ?_;refine qr ?_;exact w_):p:=h w
def de (w:q) (h:q->p:=by intro w_;refine wz [(.hm b1),jI a0.elems,iF a0.elems.l.length,iF nd] H7 [] ?_;refine qg ?_;exact w_):p:=h w
def dg (w:q) (h:q->p:=by intro w_;(iterate 6 refine oV ?_);refine oN ?_;refine qs ?_;refine qq ?_;refine qg ?_;(iterate 3 refine oV ?_);exact w_):p:=h w
def dh (w:q) (h:q->p:=by intro w_;refine Hb 4 hS50 ?_;refine nh 4 hS50 ?_;refine lU 4 hS50 v47 ?_;refine oV ?_;exact w_):p:=h w
def di (w:q) (h:q->p:=by intro w_;(iterate 6 refine oV ?_);refine oN ?_;refine qq ?_;refine qg ?_;(iterate 4 refine oV ?_);exact w_):p:=h w
def dj (w:q) (h:q->p:=by intro w_;refine oN ?_;refine qg ?_;exact w_):p:=h w
def dk (w:q) (h:q->p:=by intro w_;refine rV ?_;(iterate 6 refine rS ?_);exact w_):p:=h w
def dl (w:q) (h:q->p:=by intro w_;refine nh 6 hS114 ?_;refine lU 6 hS114 v66 ?_;exact w_):p:=h w
def dm (w:q) (h:q->p:=by intro w_;refine wy [] [] ?_;refine qq ?_;refine qg ?_;refine oV ?_;refine oN ?_;refine qr ?_;exact w_):p:=h w
def dn (w:q) (h:q->p:=by intro w_;(iterate 2 refine rV ?_);(iterate 13 refine rS ?_);refine rV ?_;refine rN ?_;refine qF ?_;refine qk ?_;exact w_):p:=h w
def dp (w:q) (h:q->p:=by intro w_;refine wy [.ip (iX.ag a0) 0 false,.la 11 0] [(11,(iM.ag r7))] ?_;refine qq ?_;refine qg ?_;(iterate 2 refine oV ?_);refine oC (t139 a0 r7) ?_;exact w_):p:=h w
def dq (w:q) (h:q->p:=by intro w_;refine wy [.la 8 0,.la 8 0,.la 11 0] [(8,[iv 0,iv 0]),(8,[iv 0,iv 0]),(11,(jR.ag x16))] ?_;refine qq ?_;refine qg ?_;refine oV ?_;exact w_):p:=h w
def dr (w:q) (h:q->p:=by intro w_;refine oV ?_;refine oN ?_;refine qF ?_;refine qk ?_;refine qg ?_;refine oV ?_;exact w_):p:=h w
def dt (w:q) (h:q->p:=by intro w_;refine qq ?_;refine qd ?_;(iterate 5 refine rV ?_);exact w_):p:=h w
def du (w:q) (h:q->p:=by intro w_;refine tn 0 hS25 ?_;refine rq 0 hS25 ?_;refine sb 0 hS25 ((.hm b6)) ?_;exact w_):p:=h w
theorem dv (h:p:=by assumption):p:=h
def dw (h:p:=by first | assumption | omega | (dsimp only [Row.ny]; omega) | (simp<;>omega) | exact hPre (by omega) | exact hPre | (simp_all; done) | (simp_all; omega)):p:=h
def dx (h:p:=by refine ⟨?_,?_⟩; (intro hz; first | (exfalso; omega) | exact ⟨rfl,K7 hK (by omega)⟩); (have hq:=qn.reads a2.at_; grind [qz,zg])):p:=h
def dy (h:p:=by first | exact hRo | exact qU (P:=λr:ja=>0<r.steps.l.length/\r.steps.l.length<=12/\r.l8.l.length<=12/\ow a0.p.elems.l r) hRo ⟨by omega,by omega,by omega,by assumption⟩ | exact qU (P:=λr:ja=>0<r.steps.l.length/\r.steps.l.length<=12/\r.l8.l.length<=12/\ow a0.p.elems.l r) (qU (P:=λr:ja=>0<r.steps.l.length/\r.steps.l.length<=12/\r.l8.l.length<=12/\ow a0.p.elems.l r) hRo ⟨by omega,by omega,by omega,by assumption⟩) ⟨by omega,by omega,by omega,by assumption⟩):p:=h
def dz (h:p:=by simp only [rX,List.length_append,List.length_cons,List.length_nil,List.length_set,List.length_take,List.length_drop,List.length_replicate]; omega):p:=h
def dA (h:p:=by decide):p:=h
def dB (h:p:=by first | omega | (simp<;>omega) | (simp_all; omega)):p:=h
def dC (h:p:=by (first | omega | (simp<;>omega))):p:=h
theorem dD (h:p:=by omega):p:=h
def dE (h:p:=by first | grind [xw] | (have hLa:=uv dv; grind [xw])):p:=h
def dF (h:p:=by first | exact ⟨λ_=>⟨by assumption,by omega,by omega,by omega,by omega⟩,λh=>absurd h dA⟩ | (refine ⟨λh=>absurd h dA,λ_ hr=>?_⟩; obtain ⟨r1,r2,r3,r4,r5⟩:=hr; first | exact absurd (hNw r1) dA | exact MZ r5 dv hAt (by first | exact .inl (hI.2 rfl) | exact .inr (.inl dv) | exact .inr (.inr (hLea.2 rfl))) | (have:=hI.2 rfl; omega))):p:=h
def dG (h:p:=by intro h; first | (cases h; done) | (simp only [] at *; omega) | (refine ⟨?_,?_,?_,by omega,by omega,by omega,⟨hJvp,hLnp rfl,hKdp rfl⟩⟩<;>first | assumption | (simp_all; done))):p:=h
def dH (h:p:=by intro h1 h2; first | (exfalso; omega) | exact Lh dv dv (by first | (rw [hA.1 rfl]; rfl) | (rw [hA.2 rfl,hA0 rfl]; rfl)) (by rw [<- hK]; first | rw [if_pos dv] | rw [if_neg dv])):p:=h
def dI (h:p:=by (first | omega | (simp only [List.length_append,List.length_cons,List.length_nil,List.length_take] at *; omega))):p:=h
def dJ (h:p:=by simp only [sv]; first | omega | (simp<;>omega)):p:=h
def dK (h:p:=by intro hn; first | rfl | (exfalso; first | (have hq0:=hn.1; simp_all; done) | (have hq0:=hn.2.1; omega) | exact GN dv hn (hLt.2 rfl) (by first | exact .inl rfl | exact .inr (.inl dv) | exact .inr (.inr dv)) | exact E2 dv hn (hLt.2 rfl) (.inl dv) dv | exact E2 dv hn (hLt.2 rfl) (.inr dv) dv)):p:=h
def dL (h:p:=by first | exact Gy dv hX (KR dv dv dv dD hF (by first | assumption | omega) dE dv hStn (hIn.2 rfl) (uv dv) hFt) | exact qH dv hX (KZ hF dv) | exact qH dv hX (Kz dv dv dE) | exact qH dv hX (LR dv) | exact qH dv hX (KM hStn (hIn.1 rfl)) | exact qH dv hX (KA dv dv (uv dv) hFt)):p:=h
def dM (h:p:=by refine ⟨λh=>?_,λh=>?_,λh=>?_⟩<;>first | (cases h; done) | omega | (first | (cases h; done) | exact tX dD | exact C4 dD | exact tJ dD dv dv dD | (rw [D8 dD dv dv dD]; first | exact hA.1 rfl | exact hA.2 rfl) | (rw [Ea dD dv dv dD dD dv dv]; first | (rw [zv dv]; first | exact hA.1 rfl | exact hA.2 rfl) | (rw [Ck dv dv]; done) | (rw [zu dv dv]; simp_all [J9]; done)))):p:=h
def dN (h:p:=by first | exact N7 dv dv | exact Au (m8 hSg dD) (zN hEr dD (y7 dv dv dv dv) (hTr dD dD) hSw dv) dv | exact Au (m8 hSg dD) (hAtk.Be dv (AA (hTr dD dD) hK dv) (hIn.1 rfl) hEr dD dD) dA | exact rp (m8 hSg dD) (vv hEr dD hNM dD dD) dv (PX dv dv) | exact rp (m8 hSg dD) (vv hEr dD hNM dD dD) dv (TA dv dv dv) | exact rp (m8 hSg dD) (vv hEr dD hNM dD dD) dv (PT dv hRe dv dD) | exact EW (m8 hSg dD) (vv hEr dD hNM dD dD) hBd dD):p:=h
def dP (h:p:=by refine ⟨λh=>?_,λh=>?_⟩<;>(first | (cases h; done) | exact tX dD | exact C4 dD | exact tJ dD dv dv dD | (rw [D8 dD dv dv dD]; first | exact hA.1 rfl | exact hA.2 rfl) | (rw [Ea dD dv dv dD dD dv dv]; first | (rw [zv dv]; first | exact hA.1 rfl | exact hA.2 rfl) | (rw [Ck dv dv]; done) | (rw [zu dv dv]; simp_all [J9]; done)))):p:=h
def dQ (h:p:=by refine ⟨?_,?_⟩; (intro hz; first | (exfalso; omega) | exact ⟨hD dD,_,hNe,hNr,hSs dD⟩); (intro hd; first | exact .inl ⟨hSg.1 rfl,rfl⟩ | exact absurd (hDd hd) dv | exact Au (hSg.2 rfl) hSt2 dv | exact rp (hSg.2 rfl) (zl hSt2 dv) dv (PX dv dv) | exact rp (hSg.2 rfl) (zl hSt2 dv) dv (TA dv dv dv) | exact rp (hSg.2 rfl) (zl hSt2 dv) dv (PT dv hRe dv dD) | exact EW (hSg.2 rfl) (zl hSt2 dv) hBd dD)):p:=h
def dR (h:p:=by refine ⟨?_,?_⟩; (intro hz; first | (exfalso; omega) | exact ⟨hSC.trans (congrArg (AV.int .i64) dD),λr hr=>hMy.2 rfl r hr,λi j h hij hj=>hNe i j h hij dD,by omega⟩); (intro hd; first | rfl | (exfalso; first | (have:=hd.runs; omega) | (obtain ⟨x,hx,h3⟩:=hC1.1 rfl; have:=hd.iY x hx; omega) | exact absurd (hSk hd.LQ) dv | exact (hI.2 rfl) hd.beg | (obtain ⟨x,hx,h3⟩:=hMy.1 rfl; exact h3 (hd.ok x hx)) | exact T0 dv hd.name (hCt.1 rfl)))):p:=h
def dS (h:p:=by refine IF ?_; first | exact (pf (KQ (hL.2 rfl))).symm | exact (C5 dD rfl (by rw [<- hLL dD]; omega)).symm | exact (pf (hG.2 rfl)).symm | (rw [BM (hG.1 rfl) (.inl rfl) dD rfl (by rw [<- hLL dD]; omega) rfl]; simp_all [Dv]; done)):p:=h
def dT (h:p:=by intro hz; first | (exfalso; omega) | (have hdv:s8 a0 a1:=⟨by omega,m8 hA dD,hSo dD,by omega,m8 hB dD,λi j h hij=>hNe i j h hij dD⟩; exact ⟨hdv.oX,hdv⟩)):p:=h
def dU (h:p:=by refine ⟨λhz=>?_,?_⟩; (first | (exfalso; omega) | exact ⟨by omega,by omega,by omega,T5 dv dD⟩); first | exact (pf (hG.2.2 rfl)).symm | exact (Dd (hG.2.1 rfl) dv).symm | exact (C5 dv dv dD).symm | (rw [BM (hG.2.1 rfl) (.inr dv) dv dv dv dv]; simp_all [Dv]; done)):p:=h
def dV (h:p:=by first | exact Gy dv hX (KR dv dv dv dD hFr dv hEn dv hStn (hIn.2 rfl) (uv dv) hFt) | exact qH dv hX (KZ hFr dv) | exact qH dv hX (Kz dv dv hEn) | exact qH dv hX (LR dv) | exact qH dv hX (KM hStn (hIn.1 rfl)) | exact qH dv hX (KA dv dv (uv dv) hFt)):p:=h
def dW (h:p:=by refine ⟨?_,Row.lk _⟩; refine ⟨λh=>?_,λh=>?_⟩<;>first | (cases h; done) | (refine ⟨by omega,by omega,by omega,λh=>?_,by omega⟩; simp_all; done) | exact .inl dD | exact .inr (.inl dD) | exact .inr (.inr (.inl dD)) | (refine .inr (.inr (.inr ⟨by assumption,?_⟩)); simp_all; done) | (refine .inr (.inr (.inr ⟨by assumption,?_⟩)); simp_all; omega)):p:=h
def dX (h:p:=by intro h; first | (cases h; done) | (refine ⟨by omega,by omega,by omega,by omega,λx hx=>?_,hJg.1,hJg.2⟩; obtain ⟨i,hi,rfl⟩:=List.mem_iff_getElem.mp hx; exact hI i hi dD)):p:=h
def dY (h:p:=by first | exact ⟨(jm.of_nil dv).symm,λ_=>jm.y9.mp dv,λ_=>rfl⟩ | exact ⟨by assumption,λh=>absurd (hnn.mp h) (hNN (by simp)),λh=>by have:=jm.y9.mpr h; simp_all⟩):p:=h
def dZ (h:p:=by intro h; first | (cases h; done) | exact ⟨by omega,by omega,λi hi=>hC i hi dD⟩):p:=h
def d3 (h:p:=by refine ⟨λh=>?_,λh=>?_⟩<;>first | (exfalso; omega) | exact ⟨_,by assumption,hB.1 rfl⟩ | exact m8 hP dD):p:=h
def d4 (h:p:=by intro h; first | (cases h; done) | exact Yz (m8 hKd dD)):p:=h
def d5 (h:p:=by intro hz; first | (exfalso; omega) | (refine ⟨⟨λx hx=>?_,?_⟩,hPl.trans ((congrArg bG.canon hNe.ki).trans (bG.wh _)),_,hNe,hNr⟩; (first | exact hR x (hlq▸hx) | (simp at hx)); (first | (dsimp only; omega) | simp))):p:=h
def d6 (h:p:=by unfold zG; first | exact ⟨λ_=>dD,λh=>absurd h dA⟩ | exact ⟨λh=>absurd h dA,λ_=>(by first | omega | (have:=hI.2 rfl; omega))⟩):p:=h
def d7 (h:p:=by refine ⟨λh=>?_,λh=>?_⟩<;>first | (cases h; done) | exact hIx.1 dD | exact hIx.2 dD):p:=h
def d8 (h:p:=by intro h; first | omega | (cases h; done)):p:=h
def d9 (h:p:=by refine ⟨?_,λh=>by first | (cases h; done) | rfl⟩; refine ⟨λh=>?_,λh=>?_⟩<;>first | (cases h; done) | exact NW dD | exact Uk dD dv dv):p:=h
def eb (h:p:=by refine ⟨λh=>?_,λh=>?_⟩<;>first | (cases h; done) | assumption | omega | (simp_all; done)):p:=h
def ed (h:p:=by first | rfl | exact absurd (by assumption:false=true) dA | exact absurd (hBn.eq (Lo hCh dv rfl)) dv | exact absurd (hBn.eq (Ka hCh dD hTo dD dD)) dv):p:=h
def ee (h:p:=by have q8:=q9 a2.at_.elem; grind [qz]):p:=h
def ef (h:p:=by first | exact (UE (hL.2 rfl)).symm | (rw [UQ hLt.1 dD hLt.2.2.1 (by rw [<- hLL dD]; exact hLt.2.2.2.2)]; first | (rw [Xv dv]; grind) | (rw [XA dv (hLL dD) dv dv]; grind))):p:=h
def eg (h:p:=by intro h; first | (cases h; done) | exact ⟨NC hV dD,λi h=>hJ i h dD⟩):p:=h
def ei (h:p:=by unfold AH; first | exact ⟨λ_=>dD,λh=>absurd h dA⟩ | exact ⟨λh=>absurd h dA,λ_=>dD⟩):p:=h
def ej (h:p:=by intro h; first | (cases h; done) | exact ⟨hNm,by omega,by omega,by omega,by omega,by omega,by omega,by omega,by omega⟩):p:=h
def eu (h:p:=by intro hk; obtain ⟨k1,k2⟩:=hk; first | rfl | exact hNw k1 | exact absurd (hNw k1) dA | (exfalso; exact hMa.2 rfl dD)):p:=h
def ew (h:p:=by first | omega | (simp; done) | (simp<;>omega)):p:=h
def ey (h:p:=by first | exact ⟨by simp,by simp,Bp hFr dv rfl⟩ | exact ⟨by simp,by simp,Ko dv dD⟩ | exact ⟨by omega,by simp_all,B4 hFr dD (Eq.trans dv hX) dD⟩):p:=h
def ez (h:p:=by refine ⟨?_,?_⟩; (intro hz; first | (exfalso; omega) | exact ⟨λi hi=>hQ i dD,λi j hij hj=>hB.CW hz i j hij dD⟩); (first | exact zN hEr dD (y7 dv dv dv dv) (hTr dD dD) hSw dv | exact Gi hEr dD dD hB hBm)):p:=h
def eA (h:p:=by (intro i h h2; omega)):p:=h
def eB (h:p:=by (first | omega | exact hPle)):p:=h
def eC (h:p:=by first | exact hC2.put dv dv | exact hC2.Be dv dv (by rw [hLie,(hStt dD).1,hTr dD dD]; rfl) (by rw [hLie,(hStt dD).1]; exact N4 _ _) dv rfl):p:=h
def eD (h:p:=by first | exact hAtk.MD dv (AA (hTr dD dD) hK dv) hNM (hIn.2 rfl) | exact LI hNM (FR hEr dD (hTr dD dD) hK dv)):p:=h
def eE (h:p:=by first | decide | (simp; done)):p:=h
def eF (h:p:=by first | grind [tL] | (have hMg:=congrArg bG.kq hPl; simp only [bG.canon] at hMg; grind [tL])):p:=h
def eG (h:p:=by intro hz; first | (cases hz; done) | exact ⟨by assumption,(hBd dv).1.2,(hBd dv).2,hBr.trans (congrArg (λz:Int=>AV.jl [_,.int .i64 z]) dD),hFr,(hBd dv).1.1⟩):p:=h
def eH (h:p:=by first | exact hAtk.snoc (AA (hTr dD dD) hK dv) | exact hAtk.same (FR hEr dD (hTr dD dD) hK dv)):p:=h
def eI (h:p:=by refine ⟨λh=>?_,λh=>?_⟩<;>first | (cases h; done) | (rw [<- hI]; first | exact LO dv dv dv | exact Km dv dv dv dv | exact OB dD)):p:=h
def eJ (h:p:=by intro hz; first | (exfalso; omega) | exact ⟨by omega,m8 hU dD,λi j h hij=>hNe i j h hij dD⟩):p:=h
def eK (h:p:=by intro h; first | (cases h; done) | exact λi hi=>hU i hi dD):p:=h
def eL (h:p:=by intro h; first | (cases h; done) | exact hLn.ok dD):p:=h
def eM (h:p:=by exact T9 dv hC (by unfold Cw AH; omega)):p:=h
def eN (h:p:=by exact ⟨by first | exact (sU dD).symm | exact (AO dD dv dv).symm,by first | exact (E8 dD).symm | exact (CB dD dv dv).symm⟩):p:=h
def eO (h:p:=by first | exact ⟨by omega,λx hx=>.inl hx⟩ | exact ⟨by simp<;>omega,λx hx=>(List.mem_append.mp hx).imp id List.mem_singleton.mp⟩):p:=h
def eP (h:p:=by simp [og,oK,pa,qC,Em]):p:=h
def eQ (h:p:=by intro hk; first | rfl | exact absurd (hWr hk.1) dv | (exfalso; obtain ⟨x,hx,h3⟩:=hC1.1 rfl; exact h3 (hk.2 x hx))):p:=h
def eR (h:p:=by intro hk; first | (exfalso; have:=hk.1; omega) | exact absurd (hMs (hk.2.1 _ (DN dv rfl))) dA | exact hE0 hk):p:=h
def eS (h:p:=by intro hz; first | (exfalso; omega) | exact ⟨hPl2 dD,m8 hU dD⟩):p:=h
def eT (h:p:=by first | exact hRi | exact qU hRi dD):p:=h
def eU (h:p:=by intro h; first | (cases h; done) | omega):p:=h
def eV (h:p:=by first | assumption | exact (jm.of_nil dv).symm | (simp_all; done)):p:=h
def eW (h:p:=by exact zq hEr (We (y7 dv dv dv dv) (hTr dD dD) hSw dD)):p:=h
def eX (h:p:=by (have hg0:=UU hU dD); exact Oa dv hU ⟨by omega,by omega,by omega,by unfold zG; omega⟩):p:=h
def eY (h:p:=by first | exact ⟨(jm.of_nil dv).symm,λ_=>jm.y9.mp dv,λ_=>rfl⟩ | exact ⟨by first | rfl | (simp; done),λh=>absurd h (hNN (by simp)),λh=>by have:=jm.y9.mpr h; simp_all⟩):p:=h
def eZ (h:p:=by first | (refine ⟨by simp,?_⟩; simp; done) | exact ⟨by omega,λx hx=>hRo x (by simp_all)⟩):p:=h
def e8 (h:p:=by first | exact uz.Be hB2 dv dv dD | exact uz.MD hB2 dv dv dv):p:=h
def e9 (h:p:=by exact hTu):p:=h
def fc (h:p:=by first | omega | (refine ⟨?_,?_⟩<;>omega)):p:=h
def fd (h:p:=by first | exact ⟨λ_=>dD,λh=>absurd h dA⟩ | exact ⟨λh=>absurd h dA,λ_=>dD⟩):p:=h
def fe (h:p:=by simp only [FZ]):p:=h
def ff (h:p:=by exact hZr):p:=h
def fg (h:p:=by simp):p:=h
def fh (h:p:=by exact hKu):p:=h
def fi (h:p:=by exact hKd):p:=h
def fj (h:p:=by first | exact ⟨by omega,λy hy=>.inl hy⟩ | exact ⟨by simp,λy hy=>(List.mem_append.mp hy).imp id (λhy=>by rw [List.mem_singleton.mp hy]; exact uy dv)⟩):p:=h
def fk (h:p:=by exact hT):p:=h
def fo (h:p:=by exact qV.put (hC89 dD).2.2.2.2.2.2.ln hLi2 dv dv):p:=h
def fp (h:p:=by kernel_rfl):p:=h
def fq (h:p:=by refine ⟨λh=>?_,λh=>?_⟩<;>first | (cases h; done) | omega):p:=h
def fu (h:p:=by first | exact (sU dD).symm | exact (AO dD dv dv).symm):p:=h
def fw (h:p:=by first | exact (E8 dD).symm | exact (CB dD dv dv).symm):p:=h
def fx (h:p:=by (intro i h; omega)):p:=h
def fy (h:p:=by rw [hLie,(hStt dD).1,hTr dD dD]; rfl):p:=h
def fz (h:p:=by first | exact ⟨λ_=>DN dv dD,λh=>absurd h dA⟩ | exact ⟨λh=>absurd h dA,λ_=>OE hU dD⟩):p:=h
def fA (h:p:=by first | exact ⟨by simp,Bp hF dv rfl⟩ | exact ⟨by omega,B4 hF dD (Eq.trans dv hX) dD⟩):p:=h
def fC (h:p:=by first | exact ⟨λ_=>hIx.1 dD,λh=>absurd h dA⟩ | exact ⟨λh=>absurd h dA,λ_=>hIx.2 dD⟩):p:=h
def fD (h:p:=by refine ⟨λh=>?_,λh=>?_⟩<;>first | (cases h; done) | exact hMay.2 rfl | exact hMay.1 rfl):p:=h
def fE (h:p:=by first | (rw [(by assumption:look _ _=some _)]; rfl) | (rw [(by assumption:look _ _=none)]; rfl)):p:=h
def fG (h:p:=by intro h; first | assumption | (cases h; done)):p:=h
def fJ (h:p:=by first | exact ⟨λ_=>DN dv dD,λh=>dD⟩ | exact ⟨λh=>dD,λ_=>OE hU dD⟩):p:=h
def fK (h:p:=by exact ml (P:=λe:ko=>(1<=e.kind/\e.kind<=4)/\(e.kind=4->e.len=0)) dv hKd dD):p:=h
def fM (h:p:=by first | exact (sU (by have:=hI.2 rfl; omega)).symm | exact (AO dD dv dv).symm):p:=h
def fP (h:p:=by first | assumption | omega | exact Ms dv q1 (hC89 dD) hD hR hN hNg dD dD (hLi.ok dD)):p:=h
def fQ (h:p:=by refine ⟨λh=>?_,λh=>?_,λh=>?_⟩<;>first | (cases h; done) | assumption | rfl):p:=h
def fR (h:p:=by rw [<- hI]; first | (rw [Dl dv dv dv]; rfl) | (rw [Dj dD]; rfl)):p:=h
def fS (h:p:=by exact hSg):p:=h
def fT (h:p:=by rfl):p:=h
def fU (h:p:=by exact zq hQ (stQ (f:=rs 121) hSt (y7 dv dv dv dv) (hTr dD dD) dv)):p:=h
def fV (h:p:=by first | (refine ⟨by simp,?_⟩; simp; done) | exact ⟨hR,by omega⟩):p:=h
def fW (h:p:=by first | exact Om dv dv hI dv dv | exact TN dv dv hI dv dv):p:=h
def fX (h:p:=by first | exact Ur (hG.2.2 rfl) | exact UF (hG.2.1 rfl)):p:=h
def fY (h:p:=by first | exact Lo hCK dv rfl | exact Ka hCK dD hTo dD dD):p:=h
def fZ (h:p:=by first | exact hE0 | exact λhk=>(Nw hk dv dv dv).elim):p:=h
def ga (h:p:=by (intro i j h hij h2; omega)):p:=h
def gb (h:p:=by intro j h h2; first | exact hU j h dD | (exfalso; omega)):p:=h
def gc (h:p:=by exact hLn2.put dv dv (by unfold VE; omega) (by simp_all)):p:=h
def gd (h:p:=by (first | omega | (simp only [List.length_set]; omega))):p:=h
def ge (h:p:=by exact Xa dv):p:=h
def gf (h:p:=by exact ml (P:=λx:Int=>¬ x=a1) dv hU dD):p:=h
def gg (h:p:=by grind [tL]):p:=h
def gh (h:p:=by exact zq hBd (Wn dv dv dv dv hRn dD)):p:=h
def gi (h:p:=by exact ri (P:=λy:Bool=>y=true) hT rfl):p:=h
def gj (h:p:=by exact xG ⟨(⟨(⟨[],by decide⟩:ns),0,(⟨0,0⟩:iM),0⟩:kF),false,dH,rfl⟩):p:=h
def gk (h:p:=by exact xG ⟨(⟨x5.name,x5.iU,r7,0⟩:kF),true,dH,rfl⟩):p:=h
def gl (h:p:=by exact xG ⟨(⟨x5.name,x5.iU,r7,x5.left⟩:kF),true,dH,rfl⟩):p:=h
def gm (h:p:=by exact xB ⟨false,zt⟩):p:=h
def gn (h:p:=by exact ⟨by omega,atR⟩):p:=h
def gp (h:p:=by exact xB ⟨true,zt⟩):p:=h
def gq (h:p:=by exact ⟨iF k2,rfl,((k2:Int)),d3,Sep.iI hS13 _,rfl⟩):p:=h
def gr (h:p:=by exact ⟨iv (-1),rfl,(-1),d3,Sep.iI hS14 _,rfl⟩):p:=h
def gt (h:p:=by exact ⟨.bool true,rfl,true,d7,Sep.iI hS7 _,rfl⟩):p:=h
def gu (h:p:=by exact ⟨.bool false,rfl,false,d7,Sep.iI hS8 _,rfl⟩):p:=h
def gv (h:p:=by exact ⟨_,hc,r0,⟨hp,hr⟩,rfl⟩):p:=h
def gw (h:p:=by exact xB ⟨false,dF,rfl⟩):p:=h
def gx (h:p:=by exact ⟨.bool true,rfl,true,eb,Sep.iI hS2 _,rfl⟩):p:=h
def gy (h:p:=by exact ⟨.bool false,rfl,false,eb,Sep.iI hS3 _,rfl⟩):p:=h
def gz (h:p:=by exact xG ⟨(⟨0,(lD:Row iM),0,0,0⟩:lE),1,dx,rfl⟩):p:=h
def gA (h:p:=by exact xG ⟨(⟨0,(lD:Row iM),0,0,0⟩:lE),7,dx,rfl⟩):p:=h
def gB (h:p:=by exact xG ⟨(⟨0,(lD:Row iM),0,0,0⟩:lE),9,dx,rfl⟩):p:=h
def gC (h:p:=by exact xG ⟨(⟨1,(⟨[a2.at_],.exact 1,qt,rfl,mZ⟩:Row iM),a2.left,0,0⟩:lE),0,dx,rfl⟩):p:=h
def gD (h:p:=by exact xG ⟨(⟨2,(⟨[a2.at_],.exact 1,qt,rfl,mZ⟩:Row iM),a2.left,0,0⟩:lE),0,dx,rfl⟩):p:=h
def gE (h:p:=by exact xB ⟨false,d4,rfl⟩):p:=h
def gF (h:p:=by exact ⟨by omega,((put r21.l true l5)),H22,hS24,atR⟩):p:=h
def gG (h:p:=by exact ⟨.bool true,rfl,true,zT,Sep.iI hS25 _,rfl⟩):p:=h
def gH (h:p:=by exact ⟨by omega,((put r30.l true l5)),H31,hS33,atR⟩):p:=h
def gI (h:p:=by exact ⟨.bool false,rfl,false,zT,Sep.iI hS34 _,rfl⟩):p:=h
def gJ (h:p:=by exact ⟨.str x2.name.l,rfl,x2.name,zT,Sep.iI hS3 _,rfl⟩):p:=h
def gK (h:p:=by exact xB ⟨false,eg,rfl⟩):p:=h
def gL (h:p:=by exact xB ⟨false,eL,rfl⟩):p:=h
def gM (h:p:=by exact xB ⟨false,eU,rfl⟩):p:=h
def gN (h:p:=by exact xG ⟨(⟨0,0⟩:iM),false,d9,rfl⟩):p:=h
def gO (h:p:=by exact xB ⟨1,dT,rfl⟩):p:=h
def gP (h:p:=by exact xB ⟨true,d8,rfl⟩):p:=h
def gQ (h:p:=by exact xB ⟨false,d8,rfl⟩):p:=h
def gR (h:p:=by exact xG ⟨(lD:Row Int),false,zt⟩):p:=h
def gS (h:p:=by exact xB ⟨0,zt⟩):p:=h
def gT (h:p:=by exact xB ⟨false,ej,rfl⟩):p:=h
def gU (h:p:=by exact xB ⟨false,dK,rfl⟩):p:=h
def gV (h:p:=by exact xB ⟨false,d6,rfl⟩):p:=h
def gW (h:p:=by exact xG ⟨(⟨0,(lD:Row iM),0,0,0⟩:lE),1,ee,rfl⟩):p:=h
def gX (h:p:=by exact xG ⟨(⟨0,(lD:Row iM),0,0,0⟩:lE),7,ee,rfl⟩):p:=h
def gY (h:p:=by exact xG ⟨(⟨1,(⟨[a2.at_],.exact 1,qt,rfl,mZ⟩:Row iM),0,0,0⟩:lE),0,ee,rfl⟩):p:=h
def gZ (h:p:=by exact xG ⟨(⟨0,(lD:Row iM),0,0,0⟩:lE),9,ee,rfl⟩):p:=h
def g5 (h:p:=by exact xG ⟨(⟨2,(⟨[a2.at_],.exact 1,qt,rfl,mZ⟩:Row iM),a2.left,0,0⟩:lE),0,ee,rfl⟩):p:=h
def g6 (h:p:=by exact ⟨.bool true,rfl,true,zT,Sep.iI hS7 _,rfl⟩):p:=h
def g7 (h:p:=by exact ⟨.bool false,rfl,false,zT,Sep.iI hS8 _,rfl⟩):p:=h
def g8 (h:p:=by exact ⟨.bool true,rfl,true,zT,Sep.iI hS2 _,rfl⟩):p:=h
def g9 (h:p:=by exact ⟨.bool false,rfl,false,zT,Sep.iI hS3 _,rfl⟩):p:=h
def hO (h:p:=by exact xB ⟨(-1),dU,rfl⟩):p:=h
def hZ (h:p:=by exact xG ⟨(⟨0,0⟩:iM),false,dM,rfl⟩):p:=h
def ia (h:p:=by exact ⟨by omega,(by exact zq hRn (ne_nil hRe dv)),atR⟩):p:=h
def ib (h:p:=by exact xB ⟨false,eu,rfl⟩):p:=h
def ic (h:p:=by exact xB ⟨false,ei,rfl⟩):p:=h
def ig (h:p:=by exact xG ⟨(lD:Row j8),eE,rfl⟩):p:=h
def ij (h:p:=by exact xG ⟨(⟨[(⟨0,0⟩:j8)],.exact 1,qt,rfl,mZ⟩:Row j8),eE,rfl⟩):p:=h
def ik (h:p:=by exact ⟨iF k2,rfl,((k2:Int)),zT,Sep.iI hS13 _,rfl⟩):p:=h
def im (h:p:=by exact ⟨by omega,m13,(by exact rb dv hLi dv),atR⟩):p:=h
def io (h:p:=by exact ⟨by omega,n9,(by exact rb dv rfl (sk hLi dD)),atR⟩):p:=h
def iq (h:p:=by exact xG ⟨(lD:Row Int),ey,rfl⟩):p:=h
def ir (h:p:=by exact ⟨by omega,v20,l21,H22,dB,eT,dV,hS23,(jD hS23 [(14,0)])⟩):p:=h
def iu (h:p:=by exact xB ⟨false,dX,rfl⟩):p:=h
def iw (h:p:=by exact ⟨by omega,eM,atR⟩):p:=h
def iy (h:p:=by exact xB ⟨false,dZ,rfl⟩):p:=h
def iz (h:p:=by exact xB ⟨false,eK,rfl⟩):p:=h
def iA (h:p:=by exact ⟨by omega,x6.at_,ge,eX,atR⟩):p:=h
def iB (h:p:=by exact ⟨by omega,v33,l34,H35,dB,eH,eD,hS36,(jD hS36 [(10,0)])⟩):p:=h
def iC (h:p:=by exact xB ⟨(⟨(⟨[],by decide⟩:ns),0,0⟩:ko),eN,rfl⟩):p:=h
def iD (h:p:=by exact xG ⟨(lD:Row jR),false,dW,rfl⟩):p:=h
def iE (h:p:=by exact xB ⟨(-1),dS,rfl⟩):p:=h
def iG (h:p:=by exact xB ⟨false,dE,rfl⟩):p:=h
def iH (h:p:=by exact ⟨by omega,v11,l12,H13,dB,dL,hS14,(jD hS14 [(13,0)])⟩):p:=h
end
end Go.Sx
