/- Proves rules for the walks and their soundness. -/
import Derived.Test.YtgoeonlbgdamhaaGreatHaf
import Derived.Test.YtgoeonlbgdamhaaGreatHag
set_option linter.all false
set_option maxRecDepth 100000
namespace Go.Sx
open Go
abbrev kI {α:Type}:Row α:=⟨[],.nil,Nat.zero_le _,rfl,λ_=>rfl⟩
def zt {α:Sort _} {a:α}:True/\a=a:=⟨trivial,rfl⟩
def zT:True:=trivial
def nM {a b:Nat} (h:Nat.ble a b=true:=by rfl):a<=b:=Nat.le_of_ble_eq_true h
abbrev nH {α:Type} (enc:α->List AV) (n:Nat) (v:AV) (l:List α):jL:=.sl true true v n (List.map enc l)
abbrev oa {α:Type} (enc:α->List AV) (n:Nat) (v:AV) (l:List α):jL:=.sl true false v n (List.map enc l)
abbrev zsP {α:Type} (enc:α->List AV) (n:Nat) (v:AV) (l:List α):jL:=.sl false true v n (List.map enc l)
abbrev ot (v:AV) (l:List Int):jL:=.sl true true v 1 (List.map iP l)
abbrev iX (b:Nat):AV:=.ptr b 0 0 0
abbrev kM (b:Nat) (c:List AV):jL:=.obj (.ptr b 0 0 0) c
abbrev lJ {κ β:Type} (b:Nat) (ek:κ->AV) (ev:β->AV) (l:List (κ×β)):jL:=.map (.hm b) (jO ek ev l)
abbrev ir (n:Nat):AV:=.int .i64 (n:Int)
abbrev jV (r:Row Int):AV:=Row.av iP r
abbrev py (r:jo Int):AV:=jo.av iP r
abbrev od (r:Row iL):AV:=Row.av iL.af r
abbrev jw (r:Row j9):AV:=Row.av j9.af r
abbrev jC (r:Row j3):AV:=Row.av j3.af r
abbrev Gc (r:Row j7):AV:=Row.av j7.af r
abbrev jr (r:Row jx):AV:=Row.av jx.af r
abbrev jM (r:Row jy):AV:=Row.av jy.af r
abbrev ld (r:Row iu):AV:=Row.av iu.af r
abbrev js (r:Row iQ):AV:=Row.av iQ.af r
abbrev qO (r:Row lb):AV:=Row.av lb.af r
abbrev jD (r:Row j6):AV:=Row.av j6.af r
abbrev ji (r:Row iT):AV:=Row.av iT.af r
abbrev nz (r:Row jW):AV:=Row.av jW.af r
abbrev jQ (r:Row jz):AV:=Row.av jz.af r
abbrev p5 (r:Row jB):AV:=Row.av jB.af r
section
variable {C:jH} {F:kP} {Pr:kx} {fa:iA} {e:Env} {h:aT} {all rest:List Oper} {o:Oper} {q:Env->aT->Prop} {sch:List (Nat×List Nat)} {i t u el:Nat} {x y:Operand} {k k':IntKind} {cl:Call} {ti te:TI} {α:Type} {enc : α->List AV} {H:aT} {ls:kK} {cs cs' new:List AV} {v:AV} {fs:List (Nat×Nat)} {off ft f j i' n:Nat} {wr tt:Bool} {l:List α}
def lN {p:Prop} {n:Nat} (h:mQ.exact n=.nil):p:=by cases h
def jc {a b:Int} (w:ki C F Pr fa all rest q (iS e o (.int .i64 (a+b))) h) (ho:o.op=.binOp .add t x y u:=by rfl) (hw:jg all e o=some true:=by rfl) (hx:iJ e x=.int .i64 a:=by rfl) (hy:iJ e y=.int k' b:=by rfl) (hk:nY .i64 k'=true:=by rfl) (h1 : -9223372036854775808<=a+b:=by first | omega | (simp<;>omega) | (simp_all; omega)) (h2:a+b<=9223372036854775807:=by first | omega | (simp<;>omega) | (simp_all; omega)):ki C F Pr fa all (o::rest) q e h:=iz hw (λ_=>by rw [ho]; exact iZ hx hy hk (Sq a b h1 h2)) w
def jT {a b:Int} (w:ki C F Pr fa all rest q (iS e o (.int .i64 (a - b))) h) (ho:o.op=.binOp .sub t x y u:=by rfl) (hw:jg all e o=some true:=by rfl) (hx:iJ e x=.int .i64 a:=by rfl) (hy:iJ e y=.int k' b:=by rfl) (hk:nY .i64 k'=true:=by rfl) (h1 : -9223372036854775808<=a - b:=by first | omega | (simp<;>omega) | (simp_all; omega)) (h2:a - b<=9223372036854775807:=by first | omega | (simp<;>omega) | (simp_all; omega)):ki C F Pr fa all (o::rest) q e h:=iz hw (λ_=>by rw [ho]; exact iZ hx hy hk (Gb a b h1 h2)) w
def Qx {a b:Int} (w:kB C F Pr fa all sch q (iS e o (.int .i64 (a - b))) h) (hi:all[i]?=some o:=by rfl) (ho:o.op=.binOp .sub t x y u:=by rfl) (hw:jg all e o=some true:=by rfl) (hx:iJ e x=.int .i64 a:=by rfl) (hy:iJ e y=.int k' b:=by rfl) (hk:nY .i64 k'=true:=by rfl) (h1 : -9223372036854775808<=a - b:=by first | omega | (simp<;>omega) | (simp_all; omega)) (h2:a - b<=9223372036854775807:=by first | omega | (simp<;>omega) | (simp_all; omega)):kB C F Pr fa all ((i,[])::sch) q e h:=iN hi hw (λ_=>by rw [ho]; exact iZ hx hy hk (Gb a b h1 h2)) w
def jb (r:Row α) (w:ki C F Pr fa all rest q (iS e o (.int .i64 r.l.length)) h) (ho:o.op=.call cl:=by rfl) (hw:jg all e o=some true:=by rfl) (hc:cl.callee=.builtin .len:=by rfl) (ha:cl.args.toList=[x]:=by rfl) (hts:cl.argTypes.toList=[t]:=by rfl) (hT:C.T t=some ti:=by rfl) (hk:ti.kind=.slice el:=by rfl) (hx:iJ e x=r.av enc:=by rfl):ki C F Pr fa all (o::rest) q e h:=iz hw (λ_=>by rw [ho]; exact Gg hc ha hts hT hk hx) w
def Ca (r:Row α) (w:kB C F Pr fa all sch q (iS e o (.int .i64 r.l.length)) h) (hi:all[i]?=some o:=by rfl) (ho:o.op=.call cl:=by rfl) (hw:jg all e o=some true:=by rfl) (hc:cl.callee=.builtin .len:=by rfl) (ha:cl.args.toList=[x]:=by rfl) (hts:cl.argTypes.toList=[t]:=by rfl) (hT:C.T t=some ti:=by rfl) (hk:ti.kind=.slice el:=by rfl) (hx:iJ e x=r.av enc:=by rfl):kB C F Pr fa all ((i,[])::sch) q e h:=iN hi hw (λ_=>by rw [ho]; exact Gg hc ha hts hT hk hx) w
def kH (n:Nat) (r:Row α) (hn:n<r.l.length) (w:ki C F Pr fa all rest q (iS e o (.ip (enc r.l[n]) 0 false)) h) (ho:o.op=.indexAddr t x y:=by rfl) (hw:jg all e o=some true:=by rfl) (hT:C.T t=some ti:=by rfl) (hk:ti.kind=.slice el:=by rfl) (hE:C.T el=some te:=by rfl) (hx:iJ e x=r.av enc:=by rfl) (hi:iJ e y=.int k (n:Int):=by rfl) (hl:(enc r.l[n]).length=te.size:=by rfl):ki C F Pr fa all (o::rest) q e h:=iz hw (λ_=>by rw [ho]; exact rF hT hk hE hx hi hn hl) w
def lh (n:Nat) (r:Row α) (hn:n<r.l.length) (w:kB C F Pr fa all sch q (iS e o (.ip (enc r.l[n]) 0 false)) h) (hi':all[i]?=some o:=by rfl) (ho:o.op=.indexAddr t x y:=by rfl) (hw:jg all e o=some true:=by rfl) (hT:C.T t=some ti:=by rfl) (hk:ti.kind=.slice el:=by rfl) (hE:C.T el=some te:=by rfl) (hx:iJ e x=r.av enc:=by rfl) (hi:iJ e y=.int k (n:Int):=by rfl) (hl:(enc r.l[n]).length=te.size:=by rfl):kB C F Pr fa all ((i,[])::sch) q e h:=iN hi' hw (λ_=>by rw [ho]; exact rF hT hk hE hx hi hn hl) w
def xB {A P:AV->Prop} {B:AV->AV->Prop} {x:AV} (p:P x) (a:A x:=by rfl) (b:B x x:=by rfl):∃ v,A v/\∃ w,B v w/\P w:=⟨x,a,x,b,p⟩
def xG {A P:AV->Prop} {B:AV->AV->Prop} {x:AV} (p:P x) (a:A x:=by rfl) (b:B x x:=by simp only [bS.af,j9.af,iu.af,j3.af,j6.af,jx.af,jW.af,j7.af,lb.af,iI.af,iT.af,jy.af,iQ.af,iL.af,jB.af,kU.af,iR.af,nw.af,jR.af,Dc.af,tA.af,mI.af,FZ]<;>rfl):∃ v,A v/\∃ w,B v w/\P w:=⟨x,a,x,b,p⟩
def pq (i:Nat) {L:List jL} (hS:Sep H L) (w:ki C F Pr fa all rest q (iS e o (nj v (j+off))) h) (ho:o.op=.fieldAddr t x f:=by rfl) (hw:jg all e o=some true:=by rfl) (hi:L[i]?=some (.obj v cs):=by rfl) (hT:C.T t=some ti:=by rfl) (hk:ti.kind=.struct fs:=by rfl) (hf:fs[f]?=some (off,ft):=by rfl) (hx:iJ e x=nj v j:=by rfl):ki C F Pr fa all (o::rest) q e h:=iz hw (λ_=>by rw [ho]; exact pM hS hi hT hk hf hx) w
def qV (i:Nat) {L:List jL} (hS:Sep H L) (w:kB C F Pr fa all sch q (iS e o (nj v (j+off))) h) (hj:all[i']?=some o:=by rfl) (ho:o.op=.fieldAddr t x f:=by rfl) (hw:jg all e o=some true:=by rfl) (hi:L[i]?=some (.obj v cs):=by rfl) (hT:C.T t=some ti:=by rfl) (hk:ti.kind=.struct fs:=by rfl) (hf:fs[f]?=some (off,ft):=by rfl) (hx:iJ e x=nj v j:=by rfl):kB C F Pr fa all ((i',[])::sch) q e h:=iN hj hw (λ_=>by rw [ho]; exact pM hS hi hT hk hf hx) w
def F5 (i:Nat) {L:List jL} (hS:Sep H L) (w:ki C F Pr fa all rest q (iS e o (nj v j)) h) (ho:o.op=.nilCheck x:=by rfl) (hw:jg all e o=some true:=by rfl) (hi:L[i]?=some (.obj v cs):=by rfl) (hx:iJ e x=nj v j:=by rfl):ki C F Pr fa all (o::rest) q e h:=iz hw (λ_=>by rw [ho]; exact qw hS hi hx) w
def s7 (i:Nat) {L:List jL} (hS:Sep H L) (w:kB C F Pr fa all sch q (iS e o (nj v j)) h) (hj:all[i']?=some o:=by rfl) (ho:o.op=.nilCheck x:=by rfl) (hw:jg all e o=some true:=by rfl) (hi:L[i]?=some (.obj v cs):=by rfl) (hx:iJ e x=nj v j:=by rfl):kB C F Pr fa all ((i',[])::sch) q e h:=iN hj hw (λ_=>by rw [ho]; exact qw hS hi hx) w
def mX (i:Nat) {L:List jL} (hS:Sep H L) (r:AV) (w:ki C F Pr fa all rest q (iS e o r) h) (ho:o.op=.load t x:=by rfl) (hw:jg all e o=some true:=by rfl) (hi:L[i]?=some (.obj v cs):=by rfl) (hT:C.T t=some ti:=by rfl) (hx:iJ e x=nj v j:=by rfl) (hp:part ti cs j=some r:=by rfl) (hh:h = { H with iq:=ls }:=by rfl):ki C F Pr fa all (o::rest) q e h:=by subst hh; exact iz hw (λ_=>by rw [ho]; exact nT hS hi hT hp hx) w
def rL (i:Nat) {L:List jL} (hS:Sep H L) (r:AV) (w:kB C F Pr fa all sch q (iS e o r) h) (hj:all[i']?=some o:=by rfl) (ho:o.op=.load t x:=by rfl) (hw:jg all e o=some true:=by rfl) (hi:L[i]?=some (.obj v cs):=by rfl) (hT:C.T t=some ti:=by rfl) (hx:iJ e x=nj v j:=by rfl) (hp:part ti cs j=some r:=by rfl) (hh:h = { H with iq:=ls }:=by rfl):kB C F Pr fa all ((i',[])::sch) q e h:=by subst hh; exact iN hj hw (λ_=>by rw [ho]; exact nT hS hi hT hp hx) w
def Jt (i:Nat) {L:List jL} (hS:Sep H L) (r:AV) (w:∀ H',Sep H' (L.set i (.obj v cs'))->ki C F Pr fa all rest q (iS e o .undef) { H' with iq:=ls }) (ho:o.op=.store t x y:=by rfl) (hw:jg all e o=some true:=by rfl) (hi:L[i]?=some (.obj v cs):=by rfl) (hT:C.T t=some ti:=by rfl) (hx:iJ e x=nj v j:=by rfl) (hy:iJ e y=r:=by rfl) (hn:cellsOf ti r=some new:=by rfl) (hok:new.all AV.kh=true:=by rfl) (hsp:nc cs j new=some cs':=by rfl) (hh:h = { H with iq:=ls }:=by rfl):ki C F Pr fa all (o::rest) q e h:=by subst hh; exact jq hw (by rw [ho]; exact mP hS hi hT hx hy hn hok hsp) (λ_ H' h=>by obtain ⟨rfl,h⟩:=h; exact w H' h)
def rSt (i:Nat) {L:List jL} (hS:Sep H L) (r:AV) (w:∀ H',Sep H' (L.set i (.obj v cs'))->kB C F Pr fa all sch q (iS e o .undef) { H' with iq:=ls }) (hj:all[i']?=some o:=by rfl) (ho:o.op=.store t x y:=by rfl) (hw:jg all e o=some true:=by rfl) (hi:L[i]?=some (.obj v cs):=by rfl) (hT:C.T t=some ti:=by rfl) (hx:iJ e x=nj v j:=by rfl) (hy:iJ e y=r:=by rfl) (hn:cellsOf ti r=some new:=by rfl) (hok:new.all AV.kh=true:=by rfl) (hsp:nc cs j new=some cs':=by rfl) (hh:h = { H with iq:=ls }:=by rfl):kB C F Pr fa all ((i',[])::sch) q e h:=by subst hh; exact l3 hj hw (by rw [ho]; exact mP hS hi hT hx hy hn hok hsp) (λ_ H' h=>by obtain ⟨rfl,h⟩:=h; exact w H' h)
def Nn (i:Nat) (ys:List α) {L:List jL} (hS:Sep H L) (w:∀ v' H',Sep H' (L.set i (.sl wr tt v' n ((l++ys).map enc)))->ki C F Pr fa all rest q (iS e o v') { H' with iq:=ls }) (ho:o.op=.call cl:=by rfl) (hw:jg all e o=some true:=by rfl) (hi:L[i]?=some (.sl wr tt v n (l.map enc)):=by rfl) (hc:cl.callee=.builtin .append:=by rfl) (ha:cl.args.toList=[x,y]:=by rfl) (hts:cl.argTypes.toList=[t,u]:=by rfl) (hT:rv C [t,u]=some ti:=by rfl) (hSr:En C [t,u]=true:=by rfl) (hn:ti.size=n:=by rfl) (hs:iJ e x=v:=by rfl) (hx:pH { H with iq:=ls } (iJ e y)=some (ys.map enc):=by rfl) (hok:∀ y,(enc y).all AV.kh=true:=by exact λ_=>rfl) (ht:tt=true\/ys.length=1:=by first | exact .inl rfl | exact .inr rfl) (hm:l.length+ys.length<=sj:=by simp only [sj]; first | omega | (simp<;>omega)) (henc:∀ x,(enc x).length=n:=by exact λ_=>rfl) (hh:h = { H with iq:=ls }:=by rfl):ki C F Pr fa all (o::rest) q e h:=by subst hh; exact jq hw (by rw [ho]; exact jZ ys hS hi hc ha hts hT hSr hn hs hx hok ht hm henc) (λv' H' h=>w v' H' h)
end
section
variable {p q:Prop}
def aa (w:q) (h:q->p:=by intro w_;refine qq ?_;refine qg ?_;exact w_):p:=h w
def ab (w:q) (h:q->p:=by intro w_;refine oV ?_;refine oN ?_;exact w_):p:=h w
def ac (w:q) (h:q->p:=by intro w_;refine qT ?_;refine qq ?_;refine qg ?_;refine oV ?_;refine oN ?_;refine qr ?_;exact w_):p:=h w
def ae (w:q) (h:q->p:=by intro w_;refine qq ?_;refine qg ?_;(iterate 2 refine oV ?_);exact w_):p:=h w
def ag (w:q) (h:q->p:=by intro w_;(iterate 3 refine rV ?_);refine rN ?_;refine qr ?_;exact w_):p:=h w
def ah (w:q) (h:q->p:=by intro w_;refine qs ?_;refine qq ?_;refine qg ?_;refine oV ?_;exact w_):p:=h w
def ai (w:q) (h:q->p:=by intro w_;refine oV ?_;refine oN ?_;refine qr ?_;exact w_):p:=h w
def aj (w:q) (h:q->p:=by intro w_;(iterate 2 refine oV ?_);exact w_):p:=h w
def ak (w:q) (h:q->p:=by intro w_;refine oV ?_;refine oN ?_;refine qF ?_;refine qk ?_;refine wy [iv a1,.la 3 0,.la 5 0] [(3,(bS.af a0)),(5,(iL.af a2))] ?_;refine qq ?_;refine qg ?_;(iterate 3 refine oV ?_);refine iz rfl (λ_=>iZ rfl rfl rfl (jF .i64 a1 a2.nt)) ?_;refine oV ?_;refine oN ?_;refine qs ?_;refine qq ?_;refine qg ?_;(iterate 2 refine oV ?_);exact w_):p:=h w
def ao (w:q) (h:q->p:=by intro w_;refine oN ?_;refine qs ?_;refine qF ?_;refine qe ?_;exact w_):p:=h w
def ap (w:q) (h:q->p:=by intro w_;refine oN ?_;refine qs ?_;refine qT ?_;refine qk ?_;exact w_):p:=h w
def aq (w:q) (h:q->p:=by intro w_;refine oV ?_;refine oN ?_;refine qT ?_;refine qq ?_;refine qg ?_;refine oV ?_;refine oN ?_;refine qr ?_;exact w_):p:=h w
def au (w:q) (h:q->p:=by intro w_;(iterate 2 refine rV ?_);(iterate 3 refine rS ?_);(iterate 2 refine rV ?_);exact w_):p:=h w
def aw (w:q) (h:q->p:=by intro w_;(iterate 2 refine rV ?_);(iterate 3 refine rS ?_);(iterate 2 refine rV ?_);(iterate 3 refine rS ?_);(iterate 2 refine rV ?_);exact w_):p:=h w
def ay (w:q) (h:q->p:=by intro w_;(iterate 2 refine rV ?_);exact w_):p:=h w
def az (w:q) (h:q->p:=by intro w_;refine oN ?_;refine qT ?_;exact w_):p:=h w
def aA (w:q) (h:q->p:=by intro w_;refine oV ?_;refine oN ?_;refine qF ?_;refine qk ?_;exact w_):p:=h w
def aB (w:q) (h:q->p:=by intro w_;refine rV ?_;(iterate 13 refine rS ?_);(iterate 2 refine rV ?_);refine rN ?_;refine qr ?_;exact w_):p:=h w
def aC (w:q) (h:q->p:=by intro w_;refine oN ?_;refine qF ?_;refine qk ?_;exact w_):p:=h w
def aD (w:q) (h:q->p:=by intro w_;refine qs ?_;refine qb ?_;exact w_):p:=h w
def aE (w:q) (h:q->p:=by intro w_;refine qq ?_;refine qg ?_;refine oV ?_;exact w_):p:=h w
def aF (w:q) (h:q->p:=by intro w_;(iterate 6 refine oV ?_);refine oN ?_;exact w_):p:=h w
def aH (w:q) (h:q->p:=by intro w_;refine qq ?_;refine qd ?_;exact w_):p:=h w
def aI (w:q) (h:q->p:=by intro w_;refine rV ?_;refine rN ?_;exact w_):p:=h w
def aJ (w:q) (h:q->p:=by intro w_;refine oN ?_;refine qF ?_;refine qe ?_;exact w_):p:=h w
def aK (w:q) (h:q->p:=by intro w_;(iterate 3 refine oV ?_);exact w_):p:=h w
def aL (w:q) (h:q->p:=by intro w_;refine oV ?_;refine oN ?_;refine qb ?_;exact w_):p:=h w
def aM (w:q) (h:q->p:=by intro w_;refine qg ?_;refine oV ?_;exact w_):p:=h w
def aN (w:q) (h:q->p:=by intro w_;refine oV ?_;refine oN ?_;refine qT ?_;exact w_):p:=h w
def aO (w:q) (h:q->p:=by intro w_;refine s6 hA ?_;refine qq ?_;refine qg ?_;exact w_):p:=h w
def aP (w:q) (h:q->p:=by intro w_;refine qq ?_;refine qg ?_;(iterate 3 refine oV ?_);exact w_):p:=h w
def aQ (w:q) (h:q->p:=by intro w_;refine qs ?_;refine qq ?_;refine qg ?_;(iterate 2 refine oV ?_);exact w_):p:=h w
def aR (w:q) (h:q->p:=by intro w_;refine rV ?_;(iterate 8 refine rS ?_);(iterate 3 refine rV ?_);refine rN ?_;refine qr ?_;exact w_):p:=h w
def aS (w:q) (h:q->p:=by intro w_;refine oV ?_;refine oN ?_;refine qF ?_;refine qq ?_;refine qg ?_;exact w_):p:=h w
def aU (w:q) (h:q->p:=by intro w_;refine qq ?_;refine qg ?_;refine oV ?_;refine oN ?_;exact w_):p:=h w
def aV (w:q) (h:q->p:=by intro w_;(iterate 2 refine oV ?_);(iterate 4 refine oS ?_);exact w_):p:=h w
def aW (w:q) (h:q->p:=by intro w_;refine qs ?_;refine qq ?_;refine qg ?_;(iterate 3 refine oV ?_);exact w_):p:=h w
def aX (w:q) (h:q->p:=by intro w_;refine qs ?_;refine qq ?_;refine qg ?_;refine oV ?_;refine oN ?_;refine qb ?_;exact w_):p:=h w
def aY (w:q) (h:q->p:=by intro w_;(iterate 4 refine rS ?_);refine rV ?_;refine rN ?_;refine qT ?_;refine qq ?_;refine qg ?_;refine oV ?_;refine oN ?_;refine qr ?_;exact w_):p:=h w
def aZ (w:q) (h:q->p:=by intro w_;refine oN ?_;refine qT ?_;refine qq ?_;refine qd ?_;refine rV ?_;exact w_):p:=h w
def a6 (w:q) (h:q->p:=by intro w_;refine qq ?_;refine qg ?_;refine oV ?_;refine oN ?_;refine qr ?_;exact w_):p:=h w
def a7 (w:q) (h:q->p:=by intro w_;(iterate 4 refine rV ?_);exact w_):p:=h w
def a8 (w:q) (h:q->p:=by intro w_;refine oN ?_;refine qT ?_;refine qk ?_;exact w_):p:=h w
def ba (w:q) (h:q->p:=by intro w_;(iterate 3 refine oV ?_);refine oN ?_;exact w_):p:=h w
def bb (w:q) (h:q->p:=by intro w_;refine qq ?_;refine qg ?_;(iterate 2 refine oV ?_);refine oN ?_;exact w_):p:=h w
def bc (w:q) (h:q->p:=by intro w_;(iterate 2 refine oV ?_);refine oN ?_;refine qT ?_;refine qq ?_;refine qg ?_;refine oV ?_;refine oN ?_;refine qr ?_;exact w_):p:=h w
def be (w:q) (h:q->p:=by intro w_;refine oV ?_;(iterate 2 refine oS ?_);exact w_):p:=h w
def bf (w:q) (h:q->p:=by intro w_;(iterate 3 refine rV ?_);exact w_):p:=h w
def bg (w:q) (h:q->p:=by intro w_;refine oV ?_;refine oN ?_;refine qF ?_;refine qk ?_;refine wz [.fm (jO pK pK a1) false,.la 2 0,(.hm b1),.la 7 0,jD a0.signals,ir a0.signals.l.length,ir k5] H7 [(2,(bS.af a0)),(7,(j6.af x11))] ?_;exact w_):p:=h w
def bh (w:q) (h:q->p:=by intro w_;refine qg ?_;(iterate 2 refine oV ?_);exact w_):p:=h w
def bi (w:q) (h:q->p:=by intro w_;refine qs ?_;refine qb ?_;refine qq ?_;refine qg ?_;exact w_):p:=h w
def bj (w:q) (h:q->p:=by intro w_;refine qq ?_;refine qg ?_;(iterate 3 refine oV ?_);refine oN ?_;refine qr ?_;exact w_):p:=h w
def bk (w:q) (h:q->p:=by intro w_;(iterate 4 refine oV ?_);exact w_):p:=h w
def bl (w:q) (h:q->p:=by intro w_;refine qg ?_;(iterate 3 refine oV ?_);exact w_):p:=h w
def bo (w:q) (h:q->p:=by intro w_;(iterate 2 refine oV ?_);refine oN ?_;exact w_):p:=h w
def bp (w:q) (h:q->p:=by intro w_;refine qq ?_;refine qg ?_;(iterate 4 refine oV ?_);exact w_):p:=h w
def br (w:q) (h:q->p:=by intro w_;(iterate 2 refine rV ?_);refine rN ?_;refine qr ?_;exact w_):p:=h w
def bu (w:q) (h:q->p:=by intro w_;refine oN ?_;refine qT ?_;refine qq ?_;refine qg ?_;refine oV ?_;refine oN ?_;refine qr ?_;exact w_):p:=h w
def bv (w:q) (h:q->p:=by intro w_;refine qq ?_;refine qg ?_;(iterate 2 refine oV ?_);refine oN ?_;refine qr ?_;exact w_):p:=h w
def bw (w:q) (h:q->p:=by intro w_;(iterate 2 refine oV ?_);(iterate 5 refine oS ?_);exact w_):p:=h w
def bz (w:q) (h:q->p:=by intro w_;refine oV ?_;refine oN ?_;refine qF ?_;refine qk ?_;refine wy [iv a1,.la 3 0,.la 5 0] [(3,(bS.af a0)),(5,(iL.af a2))] ?_;exact w_):p:=h w
def bA (w:q) (h:q->p:=by intro w_;refine iz rfl (λ_=>qw (i:=0) hS rfl rfl) ?_;refine iz rfl (λ_=>pM (i:=0) hS rfl rfl rfl rfl rfl) ?_;exact w_):p:=h w
def bB (w:q) (h:q->p:=by intro w_;refine oV ?_;(iterate 5 refine oS ?_);exact w_):p:=h w
def bC (w:q) (h:q->p:=by intro w_;refine oN ?_;refine qF ?_;refine qe ?_;refine wy [] [] ?_;refine qq ?_;refine qg ?_;refine oV ?_;refine oN ?_;refine qr ?_;exact w_):p:=h w
def bD (w:q) (h:q->p:=by intro w_;refine rV ?_;refine rN ?_;refine qF ?_;refine qk ?_;exact w_):p:=h w
def bE (w:q) (h:q->p:=by intro w_;(iterate 2 refine oV ?_);refine oN ?_;refine qr ?_;exact w_):p:=h w
def bF (w:q) (h:q->p:=by intro w_;refine oV ?_;(iterate 4 refine oS ?_);exact w_):p:=h w
def bG (w:q) (h:q->p:=by intro w_;(iterate 6 refine rV ?_);refine rN ?_;exact w_):p:=h w
def bH (w:q) (h:q->p:=by intro w_;refine qs ?_;refine qb ?_;refine qq ?_;refine qd ?_;(iterate 4 refine rV ?_);exact w_):p:=h w
def bI (w:q) (h:q->p:=by intro w_;(iterate 2 refine oV ?_);(iterate 2 refine oS ?_);exact w_):p:=h w
def bJ (w:q) (h:q->p:=by intro w_;refine oV ?_;refine oN ?_;refine qT ?_;refine qk ?_;refine wy [iv a1,.la 3 0,.la 5 0] [(3,(bS.af a0)),(5,(iL.af a2))] ?_;refine qs ?_;refine qq ?_;refine qg ?_;(iterate 3 refine oV ?_);refine oC (t82 a0 a2.dO) ?_;exact w_):p:=h w
def bL (w:q) (h:q->p:=by intro w_;refine s6 hA ?_;refine qs ?_;refine qq ?_;refine qg ?_;refine oV ?_;exact w_):p:=h w
def bM (w:q) (h:q->p:=by intro w_;(iterate 2 refine rV ?_);(iterate 6 refine rS ?_);exact w_):p:=h w
def bN (w:q) (h:q->p:=by intro w_;refine qq ?_;refine qg ?_;refine oV ?_;refine oN ?_;refine qs ?_;refine qq ?_;refine qg ?_;refine oV ?_;exact w_):p:=h w
def bO (w:q) (h:q->p:=by intro w_;refine wz [.fm (jO pK pK a1) false,.la 2 0,(.hm b1),.la 7 0,iv x21,jr a0.lines,ir a0.lines.l.length,ir k5,jV x11.elems,ir x11.elems.l.length,ir qu] H17 [(2,(bS.af a0)),(7,(jx.af x11))] ?_;refine qg ?_;(iterate 2 refine oV ?_);refine jq rfl (mZ (i:=0) (ek:=iK) (ev:=bK) (l:=l16) x21 true hS18 rfl rfl rfl rfl rfl rfl pY) ?_;exact w_):p:=h w
def bP (w:q) (h:q->p:=by intro w_;refine oN ?_;refine qT ?_;refine qk ?_;refine qs ?_;refine qb ?_;exact w_):p:=h w
def bQ (w:q) (h:q->p:=by intro w_;(iterate 2 refine oV ?_);(iterate 4 refine oS ?_);refine oV ?_;refine oN ?_;refine qT ?_;refine qq ?_;refine qg ?_;refine oV ?_;refine oN ?_;refine qr ?_;exact w_):p:=h w
def bR (w:q) (h:q->p:=by intro w_;refine qq ?_;refine qg ?_;(iterate 3 refine oV ?_);refine oN ?_;exact w_):p:=h w
def bT (w:q) (h:q->p:=by intro w_;refine qs ?_;refine qb ?_;refine qq ?_;refine qg ?_;refine oV ?_;exact w_):p:=h w
def bU (w:q) (h:q->p:=by intro w_;refine rV ?_;(iterate 7 refine rS ?_);(iterate 2 refine rV ?_);(iterate 3 refine rS ?_);exact w_):p:=h w
def bV (w:q) (h:q->p:=by intro w_;(iterate 2 refine rV ?_);(iterate 3 refine rS ?_);(iterate 2 refine rV ?_);(iterate 3 refine rS ?_);(iterate 2 refine rV ?_);(iterate 3 refine rS ?_);(iterate 2 refine rV ?_);exact w_):p:=h w
def bW (w:q) (h:q->p:=by intro w_;refine oV ?_;refine oN ?_;refine qF ?_;refine qk ?_;refine qg ?_;refine oV ?_;exact w_):p:=h w
def bX (w:q) (h:q->p:=by intro w_;refine qq ?_;refine qd ?_;(iterate 2 refine rV ?_);exact w_):p:=h w
def bZ (w:q) (h:q->p:=by intro w_;refine qs ?_;refine qq ?_;refine qd ?_;exact w_):p:=h w
def b5 (w:q) (h:q->p:=by intro w_;refine oN ?_;refine qs ?_;refine qT ?_;refine qk ?_;refine qs ?_;refine qb ?_;refine qq ?_;refine qg ?_;exact w_):p:=h w
def b8 (w:q) (h:q->p:=by intro w_;(iterate 3 refine oV ?_);refine oN ?_;refine qr ?_;exact w_):p:=h w
def ca (w:q) (h:q->p:=by intro w_;refine s6 hA ?_;refine qs ?_;refine qq ?_;refine qg ?_;(iterate 3 refine oV ?_);exact w_):p:=h w
def cb (w:q) (h:q->p:=by intro w_;refine oV ?_;(iterate 14 refine oS ?_);exact w_):p:=h w
def ce (w:q) (h:q->p:=by intro w_;refine oN ?_;refine qT ?_;refine qg ?_;(iterate 3 refine oV ?_);exact w_):p:=h w
def cf (w:q) (h:q->p:=by intro w_;refine rV ?_;refine rN ?_;refine qT ?_;exact w_):p:=h w
def cg (w:q) (h:q->p:=by intro w_;(iterate 4 refine oV ?_);refine oN ?_;exact w_):p:=h w
def ci (w:q) (h:q->p:=by intro w_;(iterate 5 refine oV ?_);exact w_):p:=h w
def ck (w:q) (h:q->p:=by intro w_;(iterate 4 refine oV ?_);refine oN ?_;refine qr ?_;exact w_):p:=h w
def cm (w:q) (h:q->p:=by intro w_;refine oN ?_;refine qF ?_;refine qk ?_;refine qg ?_;exact w_):p:=h w
def co (w:q) (h:q->p:=by intro w_;refine oV ?_;refine oN ?_;refine qT ?_;refine qq ?_;refine qg ?_;(iterate 3 refine oV ?_);refine oN ?_;refine qr ?_;exact w_):p:=h w
def cq (w:q) (h:q->p:=by intro w_;refine F5 4 hS50 ?_;refine pq 4 hS50 ?_;refine mX 4 hS50 v41 ?_;refine iz rfl (λ_=>oJ (H:=H49) (i:=0) (l:=l42) (enc:=iT.af) hS50 rfl rfl rfl rfl rfl rfl rfl) ?_;exact w_):p:=h w
def cr (w:q) (h:q->p:=by intro w_;refine oV ?_;(iterate 3 refine oS ?_);exact w_):p:=h w
def ct (w:q) (h:q->p:=by intro w_;(iterate 6 refine oV ?_);refine oN ?_;refine qs ?_;refine qq ?_;refine qg ?_;(iterate 2 refine oV ?_);exact w_):p:=h w
def cu (w:q) (h:q->p:=by intro w_;(iterate 5 refine rV ?_);exact w_):p:=h w
def cw (w:q) (h:q->p:=by intro w_;refine oV ?_;refine oN ?_;refine qT ?_;refine qq ?_;refine qg ?_;exact w_):p:=h w
def cy (w:q) (h:q->p:=by intro w_;refine qs ?_;refine qq ?_;refine qg ?_;exact w_):p:=h w
def cz (w:q) (h:q->p:=by intro w_;refine rV ?_;refine rN ?_;refine qs ?_;refine qq ?_;refine qg ?_;(iterate 3 refine oV ?_);exact w_):p:=h w
def cA (w:q) (h:q->p:=by intro w_;refine qq ?_;refine qg ?_;refine jq (H:=aT.empty) rfl (vZ j1 rfl rfl rfl rfl rfl) ?_;exact w_):p:=h w
def cB (w:q) (h:q->p:=by intro w_;refine qq ?_;refine qg ?_;(iterate 2 refine mX 4 hS76 v68 ?_);refine iz rfl (λ_=>oJ (H:=H75) (i:=3) (l:=l69) (enc:=iu.af) hS76 rfl rfl rfl rfl rfl rfl rfl) ?_;exact w_):p:=h w
def cC (w:q) (h:q->p:=by intro w_;(iterate 8 refine oS ?_);(iterate 2 refine oV ?_);(iterate 9 refine oS ?_);exact w_):p:=h w
def cD (w:q) (h:q->p:=by intro w_;refine oV ?_;refine oN ?_;refine qF ?_;refine qk ?_;refine qg ?_;exact w_):p:=h w
def cE (w:q) (h:q->p:=by intro w_;(iterate 2 refine oV ?_);(iterate 7 refine oS ?_);exact w_):p:=h w
def cF (w:q) (h:q->p:=by intro w_;(iterate 5 refine oV ?_);refine oN ?_;exact w_):p:=h w
def cG (w:q) (h:q->p:=by intro w_;refine oN ?_;refine qs ?_;refine qF ?_;refine qe ?_;refine qq ?_;refine qg ?_;refine oV ?_;refine oN ?_;refine qr ?_;exact w_):p:=h w
def cH (w:q) (h:q->p:=by intro w_;(iterate 2 refine oV ?_);(iterate 3 refine oS ?_);exact w_):p:=h w
def cI (w:q) (h:q->p:=by intro w_;refine qq ?_;refine qg ?_;refine jq rfl (oe j1) ?_;exact w_):p:=h w
def cJ (w:q) (h:q->p:=by intro w_;(iterate 6 refine rV ?_);exact w_):p:=h w
def cL (w:q) (h:q->p:=by intro w_;refine qq ?_;refine qg ?_;refine iz rfl (λ_=>pM (i:=0) hS rfl rfl rfl rfl rfl) ?_;exact w_):p:=h w
def cM (w:q) (h:q->p:=by intro w_;refine qq ?_;refine qd ?_;(iterate 6 refine rV ?_);refine rC (t113 a0 a2 a3 a4) ?_;exact w_):p:=h w
def cN (w:q) (h:q->p:=by intro w_;refine oV ?_;refine oN ?_;refine qT ?_;refine qe ?_;exact w_):p:=h w
def cO (w:q) (h:q->p:=by intro w_;refine rN ?_;refine qF ?_;refine qk ?_;exact w_):p:=h w
def cP (w:q) (h:q->p:=by intro w_;(iterate 2 refine rV ?_);(iterate 8 refine rS ?_);(iterate 2 refine rV ?_);refine rN ?_;refine qr ?_;exact w_):p:=h w
def cQ (w:q) (h:q->p:=by intro w_;refine oV ?_;(iterate 2 refine oS ?_);(iterate 2 refine oV ?_);(iterate 5 refine oS ?_);(iterate 2 refine oV ?_);refine oN ?_;refine qT ?_;refine qq ?_;refine qg ?_;refine oV ?_;refine oN ?_;refine qr ?_;exact w_):p:=h w
def cR (w:q) (h:q->p:=by intro w_;refine oV ?_;refine oN ?_;refine qq ?_;refine qg ?_;refine oV ?_;exact w_):p:=h w
def cT (w:q) (h:q->p:=by intro w_;refine oN ?_;refine qb ?_;refine qq ?_;refine qg ?_;exact w_):p:=h w
def cU (w:q) (h:q->p:=by intro w_;refine wz [.la 1 0,(.hm b1),jw a0.elems,ir a0.elems.l.length,ir nE] H7 [(1,(bS.af a0))] ?_;refine qg ?_;exact w_):p:=h w
def cV (w:q) (h:q->p:=by intro w_;refine oN ?_;refine qg ?_;exact w_):p:=h w
def cW (w:q) (h:q->p:=by intro w_;(iterate 6 refine oV ?_);refine oN ?_;refine qq ?_;refine qg ?_;refine oV ?_;exact w_):p:=h w
def cX (w:q) (h:q->p:=by intro w_;(iterate 2 refine oV ?_);(iterate 3 refine oS ?_);(iterate 2 refine oV ?_);(iterate 3 refine oS ?_);(iterate 2 refine oV ?_);(iterate 3 refine oS ?_);exact w_):p:=h w
def cY (w:q) (h:q->p:=by intro w_;refine qq ?_;refine qd ?_;(iterate 3 refine rV ?_);exact w_):p:=h w
def cZ (w:q) (h:q->p:=by intro w_;refine s6 hA ?_;refine qs ?_;refine qq ?_;refine qg ?_;(iterate 2 refine oV ?_);exact w_):p:=h w
def c3 (w:q) (h:q->p:=by intro w_;refine qg ?_;(iterate 3 refine oV ?_);refine jq rfl (mZ (i:=0) (ek:=pK) (ev:=bK) (l:=l6) x11.at_ true hS8 rfl rfl rfl rfl rfl rfl lx) ?_;exact w_):p:=h w
def c6 (w:q) (h:q->p:=by intro w_;(iterate 4 refine rS ?_);(iterate 2 refine rV ?_);(iterate 6 refine rS ?_);exact w_):p:=h w
def c7 (w:q) (h:q->p:=by intro w_;refine oN ?_;refine qF ?_;refine qe ?_;refine qq ?_;refine qg ?_;refine oV ?_;refine oN ?_;refine qr ?_;exact w_):p:=h w
def c8 (w:q) (h:q->p:=by intro w_;refine rV ?_;refine rN ?_;refine qT ?_;refine qq ?_;refine qg ?_;refine oV ?_;refine oN ?_;refine qr ?_;exact w_):p:=h w
def c9 (w:q) (h:q->p:=by intro w_;(iterate 2 refine oV ?_);refine oN ?_;refine qq ?_;refine qg ?_;exact w_):p:=h w
def da (w:q) (h:q->p:=by intro w_;refine jb a0.signals ?_;refine oV ?_;refine oN ?_;refine qb ?_;exact w_):p:=h w
def db (w:q) (h:q->p:=by intro w_;refine wz [(.hm b1),jw a0.elems,ir a0.elems.l.length,ir rP] H7 [] ?_;refine qg ?_;exact w_):p:=h w
def dc (w:q) (h:q->p:=by intro w_;refine oV ?_;refine oN ?_;refine qF ?_;refine qk ?_;refine wz [(.hm b1)] H8 [] ?_;refine qq ?_;refine qg ?_;refine oV ?_;exact w_):p:=h w
def de (w:q) (h:q->p:=by intro w_;refine iz rfl (λ_=>iZ rfl rfl rfl (uw .i64 a2.left a1)) ?_;refine oV ?_;exact w_):p:=h w
def dg (w:q) (h:q->p:=by intro w_;refine F5 4 hS50 ?_;refine pq 4 hS50 ?_;refine mX 4 hS50 v47 ?_;refine oV ?_;exact w_):p:=h w
def dh (w:q) (h:q->p:=by intro w_;(iterate 3 refine oV ?_);refine oN ?_;refine qq ?_;refine qg ?_;(iterate 2 refine oV ?_);exact w_):p:=h w
def di (w:q) (h:q->p:=by intro w_;refine oN ?_;refine qF ?_;refine qk ?_;refine wy [.la 3 0,.la 5 0,iv n109,iv n110,iv r118] [(3,(bS.af a0)),(5,(iL.af a2))] ?_;exact w_):p:=h w
def dj (w:q) (h:q->p:=by intro w_;refine oN ?_;refine qF ?_;refine qk ?_;refine wy [.la 3 0,.la 5 0,iv n160,iv n161,iv r169] [(3,(bS.af a0)),(5,(iL.af a2))] ?_;exact w_):p:=h w
def dk (w:q) (h:q->p:=by intro w_;(iterate 8 refine oS ?_);exact w_):p:=h w
def dl (w:q) (h:q->p:=by intro w_;refine oN ?_;refine qF ?_;refine qk ?_;refine wy [.la 3 0,.la 5 0,iv n196,iv n197,iv r205] [(3,(bS.af a0)),(5,(iL.af a2))] ?_;exact w_):p:=h w
def dm (w:q) (h:q->p:=by intro w_;refine oN ?_;refine qF ?_;refine qk ?_;refine wy [.la 3 0,.la 5 0,iv n227,iv n228,iv r236] [(3,(bS.af a0)),(5,(iL.af a2))] ?_;exact w_):p:=h w
def dn (w:q) (h:q->p:=by intro w_;refine oN ?_;refine qF ?_;refine qk ?_;refine wy [.la 3 0,.la 5 0,iv n281,iv n282,iv r290] [(3,(bS.af a0)),(5,(iL.af a2))] ?_;exact w_):p:=h w
def dp (w:q) (h:q->p:=by intro w_;refine oN ?_;refine qF ?_;refine qk ?_;refine wy [.la 3 0,.la 5 0,iv n317,iv n318,iv r326] [(3,(bS.af a0)),(5,(iL.af a2))] ?_;exact w_):p:=h w
def dq (w:q) (h:q->p:=by intro w_;refine oN ?_;refine qF ?_;refine qk ?_;refine wy [.la 3 0,.la 5 0,iv n348,iv n349,iv r357] [(3,(bS.af a0)),(5,(iL.af a2))] ?_;exact w_):p:=h w
def dr (w:q) (h:q->p:=by intro w_;refine oN ?_;refine qF ?_;refine qk ?_;refine wy [.la 3 0,.la 5 0,iv n402,iv n403,iv r411] [(3,(bS.af a0)),(5,(iL.af a2))] ?_;exact w_):p:=h w
def dt (w:q) (h:q->p:=by intro w_;refine oN ?_;refine qF ?_;refine qk ?_;refine wy [.la 3 0,.la 5 0,iv n438,iv n439,iv r447] [(3,(bS.af a0)),(5,(iL.af a2))] ?_;exact w_):p:=h w
def du (w:q) (h:q->p:=by intro w_;refine oN ?_;refine qF ?_;refine qk ?_;refine wy [.la 3 0,.la 5 0,iv n469,iv n470,iv r478] [(3,(bS.af a0)),(5,(iL.af a2))] ?_;exact w_):p:=h w
def dv (w:q) (h:q->p:=by intro w_;refine oN ?_;refine qF ?_;refine qk ?_;refine wy [.la 3 0,.la 5 0,iv n523,iv n524,iv r532] [(3,(bS.af a0)),(5,(iL.af a2))] ?_;exact w_):p:=h w
def dw (w:q) (h:q->p:=by intro w_;refine oN ?_;refine qF ?_;refine qk ?_;refine wy [.la 3 0,.la 5 0,iv n559,iv n560,iv r568] [(3,(bS.af a0)),(5,(iL.af a2))] ?_;exact w_):p:=h w
def dx (w:q) (h:q->p:=by intro w_;refine oN ?_;refine qF ?_;refine qk ?_;refine wy [.la 3 0,.la 5 0,iv n590,iv n591,iv r599] [(3,(bS.af a0)),(5,(iL.af a2))] ?_;exact w_):p:=h w
def dy (w:q) (h:q->p:=by intro w_;refine oN ?_;refine qT ?_;refine qq ?_;refine qg ?_;(iterate 2 refine oV ?_);refine oN ?_;refine qr ?_;exact w_):p:=h w
def dz (w:q) (h:q->p:=by intro w_;refine pq 6 hS114 ?_;refine mX 6 hS114 v66 ?_;exact w_):p:=h w
def dA (w:q) (h:q->p:=by intro w_;(iterate 2 refine oV ?_);refine oN ?_;refine qF ?_;refine qq ?_;refine qg ?_;refine oV ?_;exact w_):p:=h w
def dB (w:q) (h:q->p:=by intro w_;refine oN ?_;refine qF ?_;refine qk ?_;refine wy [.la 3 0,.la 5 0,iv n42,iv n43,iv r51] [(3,(bS.af a0)),(5,(iL.af a2))] ?_;exact w_):p:=h w
def dC (w:q) (h:q->p:=by intro w_;refine oN ?_;refine qF ?_;refine qk ?_;refine wy [.la 3 0,.la 5 0,iv n78,iv n79,iv r87] [(3,(bS.af a0)),(5,(iL.af a2))] ?_;exact w_):p:=h w
def dD (w:q) (h:q->p:=by intro w_;(iterate 2 refine rV ?_);(iterate 13 refine rS ?_);refine rV ?_;refine rN ?_;refine qF ?_;refine qk ?_;exact w_):p:=h w
def dE (w:q) (h:q->p:=by intro w_;refine oV ?_;refine oN ?_;refine qF ?_;refine qk ?_;refine qq ?_;refine qg ?_;refine oV ?_;exact w_):p:=h w
def dF (w:q) (h:q->p:=by intro w_;(iterate 2 refine oV ?_);refine oN ?_;refine qF ?_;refine qk ?_;exact w_):p:=h w
def dG (w:q) (h:q->p:=by intro w_;(iterate 8 refine rV ?_);exact w_):p:=h w
def dH (w:q) (h:q->p:=by intro w_;refine qq ?_;refine qg ?_;refine jq rfl (oe hS) ?_;exact w_):p:=h w
def dI (w:q) (h:q->p:=by intro w_;refine s7 0 hS25 ?_;refine qV 0 hS25 ?_;refine rL 0 hS25 ((.hm b6)) ?_;exact w_):p:=h w
def dJ (h:p:=by intro h; first | (cases h; done) | exact SZ (by assumption) hK (by omega) (by omega) | exact Vm (by omega) | exact T9 (by assumption) (by omega) | (exfalso; omega)):p:=h
def dK (h:p:=by first | assumption | omega | (dsimp only [Row.ow]; omega) | (simp<;>omega) | exact hPre (by omega) | exact hPre | (simp_all; done) | (simp_all; omega)):p:=h
def dL (h:p:=by first | exact Sz (by assumption) hX (Ur (by assumption) (by assumption) (by assumption) (by omega) hF (by first | assumption | omega) (by first | grind [wO] | (have hLa:=w5 (by assumption); grind [wO])) (by assumption) hStn (hIn.2 rfl) (w5 (by assumption)) hFt) | exact xQ (by assumption) hX (Ub hF (by assumption)) | exact xQ (by assumption) hX (S5 (by assumption) (by assumption) (by first | grind [wO] | (have hLa:=w5 (by assumption); grind [wO]))) | exact xQ (by assumption) hX (T2 (by assumption)) | exact xQ (by assumption) hX (Us hStn (hIn.1 rfl)) | exact xQ (by assumption) hX (TB (by assumption) (by assumption) (w5 (by assumption)) hFt)):p:=h
def dM (h:p:=by first | exact Na (by assumption) (by assumption) | exact Ej (lu hSg (by omega)) (Fh hEr (by omega) (Ge (by assumption) (by assumption) (by assumption) (by assumption)) (hTr (by omega) (by omega)) hSw (by assumption)) (by assumption) | exact Ej (lu hSg (by omega)) (hAtk.DI (by assumption) (Ad (hTr (by omega) (by omega)) hK (by assumption)) (hIn.1 rfl) hEr (by omega) (by omega)) (by decide) | exact yf (lu hSg (by omega)) (uC hEr (by omega) hNM (by omega) (by omega)) (by assumption) (acj (by assumption) (by assumption)) | exact yf (lu hSg (by omega)) (uC hEr (by omega) hNM (by omega) (by omega)) (by assumption) (YJ (by assumption) (by assumption) (by assumption)) | exact yf (lu hSg (by omega)) (uC hEr (by omega) hNM (by omega) (by omega)) (by assumption) (YU (by assumption) hRe (by assumption) (by omega)) | exact Ll (lu hSg (by omega)) (uC hEr (by omega) hNM (by omega) (by omega)) hBd (by omega)):p:=h
def dN (h:p:=by refine ⟨λh=>?_,λh=>?_,λh=>?_⟩<;>first | (cases h; done) | omega | (first | (cases h; done) | exact HB (by omega) | exact Kb (by omega) | exact GW (by omega) (by assumption) (by assumption) (by omega) | (rw [Mu (by omega) (by assumption) (by assumption) (by omega)]; first | exact hA.1 rfl | exact hA.2 rfl) | (rw [LQ (by omega) (by assumption) (by assumption) (by omega) (by omega) (by assumption) (by assumption)]; first | (rw [BE (by assumption)]; first | exact hA.1 rfl | exact hA.2 rfl) | (rw [GD (by assumption) (by assumption)]; done) | (rw [BX (by assumption) (by assumption)]; simp_all [Ox]; done)))):p:=h
def dP (h:p:=by first | omega | (simp<;>omega) | (simp_all; omega)):p:=h
def dQ (h:p:=by simp only [rl,List.length_append,List.length_cons,List.length_nil,List.length_set,List.length_take,List.length_drop,List.length_replicate]; omega):p:=h
def dR (h:p:=by first | exact hRo | exact sm (P:=λr:iQ=>0<r.steps.l.length/\r.steps.l.length<=12/\r.lQ.l.length<=12/\nL r) hRo ⟨by omega,by omega,by omega,by assumption⟩ | exact sm (P:=λr:iQ=>0<r.steps.l.length/\r.steps.l.length<=12/\r.lQ.l.length<=12/\nL r) (sm (P:=λr:iQ=>0<r.steps.l.length/\r.steps.l.length<=12/\r.lQ.l.length<=12/\nL r) hRo ⟨by omega,by omega,by omega,by assumption⟩) ⟨by omega,by omega,by omega,by assumption⟩):p:=h
theorem dS (h:p:=by assumption):p:=h
theorem dT (h:p:=by omega):p:=h
def dU (h:p:=by (first | omega | (simp<;>omega))):p:=h
def dV (h:p:=by intro h; first | (cases h; done) | (simp only [] at *; omega) | (refine ⟨?_,?_,?_,by omega,by omega,by omega,⟨hJvp,hLnp rfl,hKdp rfl⟩⟩<;>first | assumption | (simp_all; done))):p:=h
def dW (h:p:=by simp only [sj]; first | omega | (simp<;>omega)):p:=h
def dX (h:p:=by decide):p:=h
def dY (h:p:=by (first | omega | (simp only [List.length_append,List.length_cons,List.length_nil,List.length_take] at *; omega))):p:=h
def dZ (h:p:=by intro hz; first | (exfalso; omega) | (refine ⟨⟨λx hx=>?_,?_⟩,hPl.trans ((congrArg bS.canon hNe.vk).trans (bS.v8 _)),_,hNe,hNr⟩; (first | exact hR x (hlq▸hx) | (simp at hx)); (first | (dsimp only; omega) | simp))):p:=h
def d5 (h:p:=by intro hz; first | (exfalso; omega) | (have hdv:xz a0 a1:=⟨by omega,lu hA dT,hSo dT,by omega,lu hB dT,λi j h hij=>hNe i j h hij dT⟩; exact ⟨hdv.oZ,hdv⟩)):p:=h
def d6 (h:p:=by refine ⟨λhz=>?_,?_⟩; (first | (exfalso; omega) | exact ⟨by omega,by omega,by omega,SP dS dT⟩); first | exact (wQ (hG.2.2 rfl)).symm | exact (Co (hG.2.1 rfl) dS).symm | exact (KZ dS dS dT).symm | (rw [Hr (hG.2.1 rfl) (.inr dS) dS dS dS dS]; simp_all [IF]; done)):p:=h
def d7 (h:p:=by intro hn; first | rfl | (exfalso; first | (have hq0:=hn.1; simp_all; done) | (have hq0:=hn.2.1; omega) | exact Gk dS hn (hLt.2 rfl) (by first | exact .inl rfl | exact .inr (.inl dS) | exact .inr (.inr dS)) | exact Es dS hn (hLt.2 rfl) (.inl dS) dS | exact Es dS hn (hLt.2 rfl) (.inr dS) dS)):p:=h
def d8 (h:p:=by intro h; first | (cases h; done) | (refine ⟨by omega,by omega,by omega,by omega,λx hx=>?_,hJg.1,hJg.2⟩; obtain ⟨i,hi,rfl⟩:=List.mem_iff_getElem.mp hx; exact hI i hi dT)):p:=h
def d9 (h:p:=by first | exact ⟨(jo.of_nil dS).symm,λ_=>jo.yN.mp dS,λ_=>rfl⟩ | exact ⟨by assumption,λh=>absurd (hnn.mp h) (hNN (by simp)),λh=>by have:=jo.yN.mpr h; simp_all⟩):p:=h
def eb (h:p:=by intro h; first | (cases h; done) | exact ⟨by omega,by omega,λi hi=>hC i hi dT⟩):p:=h
def ed (h:p:=by first | exact Vi hNd hRs (by first | rfl | assumption) hp1 dS dT dT dS hH2 dT | exact TT hNd hRs (by first | rfl | assumption) hp1 dS dT dT (hH0 dT) dT | exact Um hNd hRs (by first | rfl | assumption) dT dT):p:=h
def ee (h:p:=by intro h; first | (cases h; done) | exact Xl (lu hKd dT)):p:=h
def ef (h:p:=by intro h; first | (cases h; done) | exact ⟨by omega,lu hCh dT⟩ | (exfalso; omega)):p:=h
def eg (h:p:=by intro h1 h2; first | (exfalso; omega) | exact JL dS dS (by first | (rw [hA.1 rfl]; rfl) | (rw [hA.2 rfl,hA0 rfl]; rfl)) (by rw [<- hK]; first | rw [if_pos dS] | rw [if_neg dS])):p:=h
def ei (h:p:=by intro h; first | omega | (cases h; done)):p:=h
def ej (h:p:=by refine ⟨?_,λh=>by first | (cases h; done) | rfl⟩; refine ⟨λh=>?_,λh=>?_⟩<;>first | (cases h; done) | exact Nf dT | exact Sw dT dS dS):p:=h
def eq (h:p:=by have q8:=q9 a2.at_.elem; grind [uq]):p:=h
def eu (h:p:=by first | rfl | exact absurd (by assumption:false=true) dX | exact absurd (hSm (has_eq hHm hHd hnp)) dX):p:=h
def ew (h:p:=by first | omega | (simp; done) | (simp<;>omega)):p:=h
def ey (h:p:=by intro h; first | (cases h; done) | exact ⟨LM hV dT,λi h=>hJ i h dT⟩):p:=h
def ez (h:p:=by unfold zR; first | exact ⟨λ_=>dT,λh=>absurd h dX⟩ | exact ⟨λh=>absurd h dX,λ_=>dT⟩):p:=h
def eA (h:p:=by intro h; first | (cases h; done) | exact ⟨hNm,by omega,by omega,by omega,by omega,by omega,by omega,by omega,by omega⟩):p:=h
def eB (h:p:=by first | exact RU dT | exact Lb dT dT dS dS dS dS hS2 dT hTk dT (by first | rfl | assumption) | exact LI dT dT dS dS dS hS0 dT hTk dT (by first | rfl | assumption) | (exfalso; omega)):p:=h
def eC (h:p:=by intro h; first | (cases h; done) | exact lu hTr dT):p:=h
def eD (h:p:=by first | exact ab4 hTk dS dS trivial | exact aaf hTk (λ_ hh=>by simp_all)):p:=h
def eE (h:p:=by (intro i h h2; omega)):p:=h
def eF (h:p:=by intro h; first | (cases h; done) | exact ⟨by omega,lu hSm dT⟩):p:=h
def eG (h:p:=by (first | omega | exact hPle)):p:=h
def eH (h:p:=by (first | omega | (simp only [List.length_set]; omega))):p:=h
def eI (h:p:=by first | omega | (refine ⟨?_,?_⟩<;>omega)):p:=h
def eJ (h:p:=by first | exact hAtk.SW dS (Ad (hTr dT dT) hK dS) hNM (hIn.2 rfl) | exact J8 hNM (DO hEr dT (hTr dT dT) hK dS)):p:=h
def eK (h:p:=by first | decide | (simp; done)):p:=h
def eL (h:p:=by intro hz; first | (cases hz; done) | exact ⟨by assumption,(hBd dS).1.2,(hBd dS).2,hBr.trans (congrArg (λz:Int=>AV.je [_,.int .i64 z]) dT),hFr,(hBd dS).1.1⟩):p:=h
def eM (h:p:=by first | exact hAtk.snoc (Ad (hTr dT dT) hK dS) | exact hAtk.same (DO hEr dT (hTr dT dT) hK dS)):p:=h
def eN (h:p:=by refine ⟨λh=>?_,λh=>?_⟩<;>first | (cases h; done) | (rw [<- hI]; first | exact KA dS dS dS | exact Jl dS dS dS dS | exact LW dT)):p:=h
def eO (h:p:=by intro hz; first | (exfalso; omega) | exact ⟨by omega,lu hU dT,λi j h hij=>hNe i j h hij dT⟩):p:=h
def eP (h:p:=by intro h; first | (cases h; done) | exact λi hi=>hU i hi dT):p:=h
def eQ (h:p:=by intro h; first | (cases h; done) | exact hLn.ok dT):p:=h
def eR (h:p:=by exact Si dS hC (by unfold B4 zR; omega)):p:=h
def eS (h:p:=by exact ⟨by first | exact (xw dT).symm | exact (EX dT dS dS).symm,by first | exact (DH dT).symm | exact (FU dT dS dS).symm⟩):p:=h
def eT (h:p:=by first | exact ⟨by omega,λx hx=>.inl hx⟩ | exact ⟨by simp<;>omega,λx hx=>(List.mem_append.mp hx).imp id List.mem_singleton.mp⟩):p:=h
def eU (h:p:=by simp [lZ,mB,nY,o7,B8]):p:=h
def eV (h:p:=by first | exact ⟨λh=>absurd h dX,λ_=>by omega⟩ | exact ⟨λ_=>⟨by omega,ZR dS dS⟩,λh=>absurd h dX⟩):p:=h
def eW (h:p:=by intro hz; first | (exfalso; omega) | exact ⟨hPl2 dT,lu hU dT⟩):p:=h
def eX (h:p:=by first | exact YC dS hTm dT dT hK dS | exact Xg dS hTm dT dT hK dT):p:=h
def eY (h:p:=by exact lC (P:=λx:iu=>pS a0 x.elem) dS hCh (Cq dT)):p:=h
def eZ (h:p:=by intro h; first | (cases h; done) | omega):p:=h
def e8 (h:p:=by first | assumption | exact (jo.of_nil dS).symm | (simp_all; done)):p:=h
def e9 (h:p:=by (have hg0:=UW hU dT); exact Mf dS hU ⟨by omega,by omega,by omega,by unfold OM; omega⟩):p:=h
def fc (h:p:=by intro h; first | rfl | exact absurd (congrArg List.length h) dT | exact (J9 h dS dS dS).elim):p:=h
def fd (h:p:=by first | exact ⟨(jo.of_nil dS).symm,λ_=>jo.yN.mp dS,λ_=>rfl⟩ | exact ⟨by first | rfl | (simp; done),λh=>absurd h (hNN (by simp)),λh=>by have:=jo.yN.mpr h; simp_all⟩):p:=h
def fe (h:p:=by first | (refine ⟨by simp,?_⟩; simp; done) | exact ⟨by omega,λx hx=>hRo x (by simp_all)⟩):p:=h
def ff (h:p:=by exact hTu):p:=h
def fg (h:p:=by simp only [FZ]):p:=h
def fh (h:p:=by first | exact SA q1 dS dS | exact R8 hTm dT hTk dT (by first | rfl | assumption)):p:=h
def fi (h:p:=by exact hZr):p:=h
def fj (h:p:=by exact hKu):p:=h
def fk (h:p:=by exact hKd):p:=h
def fo (h:p:=by first | exact ⟨by omega,λy hy=>.inl hy⟩ | exact ⟨by simp,λy hy=>(List.mem_append.mp hy).imp id (λhy=>by rw [List.mem_singleton.mp hy]; exact tP dS)⟩):p:=h
def fp (h:p:=by simp):p:=h
def fq (h:p:=by exact hT):p:=h
def fu (h:p:=by exact qK.put (hC89 dT).2.2.2.2.2.2.ln hLi2 dS dS):p:=h
def fw (h:p:=by kernel_rfl):p:=h
def fx (h:p:=by first | exact (xw dT).symm | exact (EX dT dS dS).symm):p:=h
def fy (h:p:=by first | exact (DH dT).symm | exact (FU dT dS dS).symm):p:=h
def fz (h:p:=by first | (simp; done) | omega):p:=h
def fA (h:p:=by first | exact ⟨λ_=>JZ dS dT,λh=>absurd h dX⟩ | exact ⟨λh=>absurd h dX,λ_=>OU hU dT⟩):p:=h
def fC (h:p:=by first | exact ⟨by simp,Jj hF dS rfl⟩ | exact ⟨by omega,Ik hF dT (Eq.trans dS hX) dT⟩):p:=h
def fD (h:p:=by first | exact λ_=>GU hH1 dT hA1 dT hA2 hLie | exact λhz=>GQ (hH0 hz) (hAt.2 rfl) hp1):p:=h
def fE (h:p:=by first | exact ⟨λ_=>hIx.1 dT,λh=>absurd h dX⟩ | exact ⟨λh=>absurd h dX,λ_=>hIx.2 dT⟩):p:=h
def fG (h:p:=by first | (rw [(by assumption:look _ _=some _)]; rfl) | (rw [(by assumption:look _ _=none)]; rfl)):p:=h
def fJ (h:p:=by intro h; first | assumption | (cases h; done)):p:=h
def fK (h:p:=by first | exact ⟨λ_=>JZ dS dT,λh=>dT⟩ | exact ⟨λh=>dT,λ_=>OU hU dT⟩):p:=h
def fM (h:p:=by exact lC (P:=λe:j9=>(1<=e.kind/\e.kind<=4)/\(e.kind=4->e.len=0)) dS hKd dT):p:=h
def fP (h:p:=by first | assumption | omega | exact LR dS q1 (hC89 dT) hD hR hN hNg dT dT (hLi.ok dT)):p:=h
def fQ (h:p:=by refine ⟨λh=>?_,λh=>?_,λh=>?_⟩<;>first | (cases h; done) | assumption | rfl):p:=h
def fR (h:p:=by rw [<- hI]; first | (rw [CN dS dS dS]; rfl) | (rw [CK dT]; rfl)):p:=h
def fS (h:p:=by exact hSg):p:=h
def fT (h:p:=by exact hRg):p:=h
def fU (h:p:=by exact hNd):p:=h
def fV (h:p:=by first | (refine ⟨by simp,?_⟩; simp; done) | exact ⟨hR,by omega⟩):p:=h
def fW (h:p:=by first | exact Mq dS dS hI dS dS | exact Sh dS dS hI dS dS):p:=h
def fX (h:p:=by exact BZ hEr (Uk (Ge dS dS dS dS) (hTr dT dT) hSw dT)):p:=h
def fY (h:p:=by first | exact SI (hG.2.2 rfl) | exact SH (hG.2.1 rfl)):p:=h
def fZ (h:p:=by intro j h h2; first | exact hU j h dT | (exfalso; omega)):p:=h
def ga (h:p:=by exact hLn2.put dS dS (by unfold VE; omega) (by simp_all)):p:=h
def gb (h:p:=by exact lC (P:=λx:Int=>¬ x=a1) dS hU dT):p:=h
def gc (h:p:=by grind [Ar]):p:=h
def gd (h:p:=by exact qR (P:=λy:Bool=>y=true) hT rfl):p:=h
def ge (h:p:=by exact xB ⟨3,dV,rfl⟩):p:=h
def gf (h:p:=by exact xG ⟨(⟨0,0⟩:iu),false,ej,rfl⟩):p:=h
def gg (h:p:=by exact xB ⟨(-1),d6,rfl⟩):p:=h
def gh (h:p:=by exact xB ⟨false,eF,rfl⟩):p:=h
def gi (h:p:=by exact xB ⟨false,eC,rfl⟩):p:=h
def gj (h:p:=by exact xG ⟨(kI:Row Int),(kI:Row Int),(-1),eB,rfl⟩):p:=h
def gk (h:p:=by exact xB ⟨(⟨(⟨[],by decide⟩:nm),0,0⟩:j9),eS,rfl⟩):p:=h
def gl (h:p:=by exact xB ⟨false,zt⟩):p:=h
def gm (h:p:=by exact ⟨by omega,atR⟩):p:=h
def gn (h:p:=by exact xB ⟨true,zt⟩):p:=h
def gp (h:p:=by exact xB ⟨false,ee,rfl⟩):p:=h
def gq (h:p:=by exact ⟨by omega,((put r21.l true l5)),H22,hS24,atR⟩):p:=h
def gr (h:p:=by exact ⟨.bool true,rfl,true,zT,Sep.iq hS25 _,rfl⟩):p:=h
def gt (h:p:=by exact ⟨by omega,((put r30.l true l5)),H31,hS33,atR⟩):p:=h
def gu (h:p:=by exact ⟨.bool false,rfl,false,zT,Sep.iq hS34 _,rfl⟩):p:=h
def gv (h:p:=by exact ⟨.str x2.name.l,rfl,x2.name,zT,Sep.iq hS3 _,rfl⟩):p:=h
def gw (h:p:=by exact xB ⟨false,ey,rfl⟩):p:=h
def gx (h:p:=by exact xB ⟨false,eQ,rfl⟩):p:=h
def gy (h:p:=by exact xG ⟨(⟨0,0⟩:iu),false,dN,rfl⟩):p:=h
def gz (h:p:=by exact ⟨by omega,v33,l34,H35,dP,eM,eJ,hS36,(jd hS36 [(10,0)])⟩):p:=h
def gA (h:p:=by exact xB ⟨true,ei,rfl⟩):p:=h
def gB (h:p:=by exact xB ⟨false,ei,rfl⟩):p:=h
def gC (h:p:=by exact xG ⟨(kI:Row Int),false,zt⟩):p:=h
def gD (h:p:=by exact xB ⟨0,zt⟩):p:=h
def gE (h:p:=by exact xB ⟨false,eA,rfl⟩):p:=h
def gF (h:p:=by exact xB ⟨false,d7,rfl⟩):p:=h
def gG (h:p:=by exact ⟨_,hc,r0,⟨hp,hr⟩,rfl⟩):p:=h
def gH (h:p:=by exact ⟨.bool true,rfl,true,zT,Sep.iq hS7 _,rfl⟩):p:=h
def gI (h:p:=by exact ⟨.bool false,rfl,false,zT,Sep.iq hS8 _,rfl⟩):p:=h
def gJ (h:p:=by exact ⟨.bool true,rfl,true,zT,Sep.iq hS2 _,rfl⟩):p:=h
def gK (h:p:=by exact ⟨.bool false,rfl,false,zT,Sep.iq hS3 _,rfl⟩):p:=h
def gL (h:p:=by exact xB ⟨false,ez,rfl⟩):p:=h
def gM (h:p:=by exact xG ⟨(kI:Row jB),eK,rfl⟩):p:=h
def gN (h:p:=by exact xG ⟨(⟨[(⟨0,0⟩:jB)],.exact 1,nM,rfl,lN⟩:Row jB),eK,rfl⟩):p:=h
def gO (h:p:=by exact ⟨ir k2,rfl,((k2:Int)),zT,Sep.iq hS13 _,rfl⟩):p:=h
def gP (h:p:=by exact xB ⟨false,dJ,rfl⟩):p:=h
def gQ (h:p:=by exact xB ⟨true,dJ,rfl⟩):p:=h
def gR (h:p:=by exact xB ⟨true,eu,rfl⟩):p:=h
def gS (h:p:=by exact xG ⟨(⟨0,(kI:Row iu),0,0,0⟩:iL),false,eV,rfl⟩):p:=h
def gT (h:p:=by exact xB ⟨false,eZ,rfl⟩):p:=h
def gU (h:p:=by exact xB ⟨1,d5,rfl⟩):p:=h
def gV (h:p:=by exact xG ⟨(⟨(⟨[],by decide⟩:nm),0,(⟨0,0⟩:iu),0⟩:kU),false,eg,rfl⟩):p:=h
def gW (h:p:=by exact xG ⟨(⟨x5.name,x5.iW,r7,0⟩:kU),true,eg,rfl⟩):p:=h
def gX (h:p:=by exact xG ⟨(⟨x5.name,x5.iW,r7,x5.left⟩:kU),true,eg,rfl⟩):p:=h
def gY (h:p:=by exact xG ⟨(⟨0,(kI:Row iu),0,0,0⟩:iL),1,eq,rfl⟩):p:=h
def gZ (h:p:=by exact xG ⟨(⟨0,(kI:Row iu),0,0,0⟩:iL),7,eq,rfl⟩):p:=h
def g5 (h:p:=by exact xG ⟨(⟨1,(⟨[a2.at_],.exact 1,nM,rfl,lN⟩:Row iu),0,0,0⟩:iL),0,eq,rfl⟩):p:=h
def g6 (h:p:=by exact xG ⟨(⟨0,(kI:Row iu),0,0,0⟩:iL),9,eq,rfl⟩):p:=h
def g7 (h:p:=by exact xG ⟨(⟨2,(⟨[a2.at_],.exact 1,nM,rfl,lN⟩:Row iu),a2.left,0,0⟩:iL),0,eq,rfl⟩):p:=h
def g8 (h:p:=by exact ⟨by omega,v11,l12,H13,dP,dL,hS14,(jd hS14 [(13,0)])⟩):p:=h
def g9 (h:p:=by exact xB ⟨false,ef,rfl⟩):p:=h
def hZ (h:p:=by exact ⟨by omega,eY,atR⟩):p:=h
def ia (h:p:=by exact ⟨by omega,true,atR⟩):p:=h
def ib (h:p:=by exact xB ⟨false,d8,rfl⟩):p:=h
def ic (h:p:=by exact ⟨by omega,eR,atR⟩):p:=h
def ig (h:p:=by exact xB ⟨false,eb,rfl⟩):p:=h
def ij (h:p:=by exact xB ⟨false,eP,rfl⟩):p:=h
def ik (h:p:=by exact ⟨by omega,x6.at_,(by exact Vq dS),e9,atR⟩):p:=h
end
end Go.Sx
