/- Proves rules for the walks and their soundness. -/
import Derived.Test.YtmnmenklbegmeaaGreatHag
import Derived.Test.YtmnmenklbegmeaaGreatHah
set_option linter.all false
set_option maxRecDepth 100000
namespace Go.Sx
open Go
abbrev kF {α:Type}:Row α:=⟨[],.nil,Nat.zero_le _,rfl,λ_=>rfl⟩
def zt {α:Sort _} {a:α}:True/\a=a:=⟨trivial,rfl⟩
def zT:True:=trivial
def qx {a b:Nat} (h:Nat.ble a b=true:=by rfl):a<=b:=Nat.le_of_ble_eq_true h
abbrev kW {α:Type} (enc:α->List AV) (n:Nat) (v:AV) (l:List α):jH:=.sl true true v n (List.map enc l)
abbrev lK {α:Type} (enc:α->List AV) (n:Nat) (v:AV) (l:List α):jH:=.sl true false v n (List.map enc l)
abbrev zsP {α:Type} (enc:α->List AV) (n:Nat) (v:AV) (l:List α):jH:=.sl false true v n (List.map enc l)
abbrev qt (v:AV) (l:List Int):jH:=.sl true true v 1 (List.map jL l)
abbrev iV (b:Nat):AV:=.ptr b 0 0 0
abbrev j8 (b:Nat) (c:List AV):jH:=.obj (.ptr b 0 0 0) c
abbrev lO {κ β:Type} (b:Nat) (ek:κ->AV) (ev:β->AV) (l:List (κ×β)):jH:=.map (.hm b) (jO ek ev l)
abbrev cb (n:Nat):AV:=.int .i64 (n:Int)
abbrev j3 (r:Row Int):AV:=Row.av jL r
abbrev py (r:jn Int):AV:=jn.av jL r
abbrev jw (r:Row jZ):AV:=Row.av jZ.af r
abbrev jA (r:Row jX):AV:=Row.av jX.af r
abbrev oL (r:Row jJ):AV:=Row.av jJ.af r
abbrev jr (r:Row ju):AV:=Row.av ju.af r
abbrev jf (r:Row iu):AV:=Row.av iu.af r
abbrev pT (r:Row iz):AV:=Row.av iz.af r
abbrev iT (r:Row iG):AV:=Row.av iG.af r
abbrev mi (r:Row j7):AV:=Row.av j7.af r
abbrev jB (r:Row jY):AV:=Row.av jY.af r
abbrev jc (r:Row iR):AV:=Row.av iR.af r
abbrev kb (r:Row jF):AV:=Row.av jF.af r
abbrev uh (r:Row jC):AV:=Row.av jC.af r
section
variable {C:jE} {F:kJ} {Pr:ko} {fa:iC} {e:Env} {h:aT} {all rest:List Oper} {o:Oper} {q:Env->aT->Prop} {sch:List (Nat×List Nat)} {i t u el:Nat} {x y:Operand} {k k':IntKind} {cl:Call} {ti te:TI} {α:Type} {enc : α->List AV} {H:aT} {ls:kI} {cs cs' new:List AV} {v:AV} {fs:List (Nat×Nat)} {off ft f j i' n:Nat} {wr tt:Bool} {l:List α}
def nd {p:Prop} {n:Nat} (h:mV.exact n=.nil):p:=by cases h
def jd {a b:Int} (w:kh C F Pr fa all rest q (iW e o (.int .i64 (a+b))) h) (ho:o.op=.binOp .add t x y u:=by rfl) (hw:jg all e o=some true:=by rfl) (hx:iP e x=.int .i64 a:=by rfl) (hy:iP e y=.int k' b:=by rfl) (hk:oA .i64 k'=true:=by rfl) (h1 : -9223372036854775808<=a+b:=by first | omega | (simp<;>omega) | (simp_all; omega)) (h2:a+b<=9223372036854775807:=by first | omega | (simp<;>omega) | (simp_all; omega)):kh C F Pr fa all (o::rest) q e h:=iI hw (λ_=>by rw [ho]; exact kj hx hy hk (TO a b h1 h2)) w
def oP {a b:Int} (w:kh C F Pr fa all rest q (iW e o (.int .i64 (a - b))) h) (ho:o.op=.binOp .sub t x y u:=by rfl) (hw:jg all e o=some true:=by rfl) (hx:iP e x=.int .i64 a:=by rfl) (hy:iP e y=.int k' b:=by rfl) (hk:oA .i64 k'=true:=by rfl) (h1 : -9223372036854775808<=a - b:=by first | omega | (simp<;>omega) | (simp_all; omega)) (h2:a - b<=9223372036854775807:=by first | omega | (simp<;>omega) | (simp_all; omega)):kh C F Pr fa all (o::rest) q e h:=iI hw (λ_=>by rw [ho]; exact kj hx hy hk (Hj a b h1 h2)) w
def EK {a b:Int} (w:ky C F Pr fa all sch q (iW e o (.int .i64 (a - b))) h) (hi:all[i]?=some o:=by rfl) (ho:o.op=.binOp .sub t x y u:=by rfl) (hw:jg all e o=some true:=by rfl) (hx:iP e x=.int .i64 a:=by rfl) (hy:iP e y=.int k' b:=by rfl) (hk:oA .i64 k'=true:=by rfl) (h1 : -9223372036854775808<=a - b:=by first | omega | (simp<;>omega) | (simp_all; omega)) (h2:a - b<=9223372036854775807:=by first | omega | (simp<;>omega) | (simp_all; omega)):ky C F Pr fa all ((i,[])::sch) q e h:=iU hi hw (λ_=>by rw [ho]; exact kj hx hy hk (Hj a b h1 h2)) w
def jy (r:Row α) (w:kh C F Pr fa all rest q (iW e o (.int .i64 r.l.length)) h) (ho:o.op=.call cl:=by rfl) (hw:jg all e o=some true:=by rfl) (hc:cl.callee=.builtin .len:=by rfl) (ha:cl.args.toList=[x]:=by rfl) (hts:cl.argTypes.toList=[t]:=by rfl) (hT:C.T t=some ti:=by rfl) (hk:ti.kind=.slice el:=by rfl) (hx:iP e x=r.av enc:=by rfl):kh C F Pr fa all (o::rest) q e h:=iI hw (λ_=>by rw [ho]; exact GW hc ha hts hT hk hx) w
def K0 (r:Row α) (w:ky C F Pr fa all sch q (iW e o (.int .i64 r.l.length)) h) (hi:all[i]?=some o:=by rfl) (ho:o.op=.call cl:=by rfl) (hw:jg all e o=some true:=by rfl) (hc:cl.callee=.builtin .len:=by rfl) (ha:cl.args.toList=[x]:=by rfl) (hts:cl.argTypes.toList=[t]:=by rfl) (hT:C.T t=some ti:=by rfl) (hk:ti.kind=.slice el:=by rfl) (hx:iP e x=r.av enc:=by rfl):ky C F Pr fa all ((i,[])::sch) q e h:=iU hi hw (λ_=>by rw [ho]; exact GW hc ha hts hT hk hx) w
def kM (n:Nat) (r:Row α) (hn:n<r.l.length) (w:kh C F Pr fa all rest q (iW e o (.ip (enc r.l[n]) 0 false)) h) (ho:o.op=.indexAddr t x y:=by rfl) (hw:jg all e o=some true:=by rfl) (hT:C.T t=some ti:=by rfl) (hk:ti.kind=.slice el:=by rfl) (hE:C.T el=some te:=by rfl) (hx:iP e x=r.av enc:=by rfl) (hi:iP e y=.int k (n:Int):=by rfl) (hl:(enc r.l[n]).length=te.size:=by rfl):kh C F Pr fa all (o::rest) q e h:=iI hw (λ_=>by rw [ho]; exact wh hT hk hE hx hi hn hl) w
def pM (n:Nat) (r:Row α) (hn:n<r.l.length) (w:ky C F Pr fa all sch q (iW e o (.ip (enc r.l[n]) 0 false)) h) (hi':all[i]?=some o:=by rfl) (ho:o.op=.indexAddr t x y:=by rfl) (hw:jg all e o=some true:=by rfl) (hT:C.T t=some ti:=by rfl) (hk:ti.kind=.slice el:=by rfl) (hE:C.T el=some te:=by rfl) (hx:iP e x=r.av enc:=by rfl) (hi:iP e y=.int k (n:Int):=by rfl) (hl:(enc r.l[n]).length=te.size:=by rfl):ky C F Pr fa all ((i,[])::sch) q e h:=iU hi' hw (λ_=>by rw [ho]; exact wh hT hk hE hx hi hn hl) w
def xB {A P:AV->Prop} {B:AV->AV->Prop} {x:AV} (p:P x) (a:A x:=by rfl) (b:B x x:=by rfl):∃ v,A v/\∃ w,B v w/\P w:=⟨x,a,x,b,p⟩
def xG {A P:AV->Prop} {B:AV->AV->Prop} {x:AV} (p:P x) (a:A x:=by rfl) (b:B x x:=by simp only [bY.af,jZ.af,iz.af,jX.af,jY.af,ju.af,jF.af,jJ.af,j7.af,iB.af,iR.af,iu.af,iG.af,nS.af,jC.af,kU.af,iD.af,nw.af,jh.af,DS.af,tS.af,mn.af,FZ]<;>rfl):∃ v,A v/\∃ w,B v w/\P w:=⟨x,a,x,b,p⟩
def pz (i:Nat) {L:List jH} (hS:Sep H L) (w:kh C F Pr fa all rest q (iW e o (nm v (j+off))) h) (ho:o.op=.fieldAddr t x f:=by rfl) (hw:jg all e o=some true:=by rfl) (hi:L[i]?=some (.obj v cs):=by rfl) (hT:C.T t=some ti:=by rfl) (hk:ti.kind=.struct fs:=by rfl) (hf:fs[f]?=some (off,ft):=by rfl) (hx:iP e x=nm v j:=by rfl):kh C F Pr fa all (o::rest) q e h:=iI hw (λ_=>by rw [ho]; exact pe hS hi hT hk hf hx) w
def qS (i:Nat) {L:List jH} (hS:Sep H L) (w:ky C F Pr fa all sch q (iW e o (nm v (j+off))) h) (hj:all[i']?=some o:=by rfl) (ho:o.op=.fieldAddr t x f:=by rfl) (hw:jg all e o=some true:=by rfl) (hi:L[i]?=some (.obj v cs):=by rfl) (hT:C.T t=some ti:=by rfl) (hk:ti.kind=.struct fs:=by rfl) (hf:fs[f]?=some (off,ft):=by rfl) (hx:iP e x=nm v j:=by rfl):ky C F Pr fa all ((i',[])::sch) q e h:=iU hj hw (λ_=>by rw [ho]; exact pe hS hi hT hk hf hx) w
def Hl (i:Nat) {L:List jH} (hS:Sep H L) (w:kh C F Pr fa all rest q (iW e o (nm v j)) h) (ho:o.op=.nilCheck x:=by rfl) (hw:jg all e o=some true:=by rfl) (hi:L[i]?=some (.obj v cs):=by rfl) (hx:iP e x=nm v j:=by rfl):kh C F Pr fa all (o::rest) q e h:=iI hw (λ_=>by rw [ho]; exact pN hS hi hx) w
def tv (i:Nat) {L:List jH} (hS:Sep H L) (w:ky C F Pr fa all sch q (iW e o (nm v j)) h) (hj:all[i']?=some o:=by rfl) (ho:o.op=.nilCheck x:=by rfl) (hw:jg all e o=some true:=by rfl) (hi:L[i]?=some (.obj v cs):=by rfl) (hx:iP e x=nm v j:=by rfl):ky C F Pr fa all ((i',[])::sch) q e h:=iU hj hw (λ_=>by rw [ho]; exact pN hS hi hx) w
def mH (i:Nat) {L:List jH} (hS:Sep H L) (r:AV) (w:kh C F Pr fa all rest q (iW e o r) h) (ho:o.op=.load t x:=by rfl) (hw:jg all e o=some true:=by rfl) (hi:L[i]?=some (.obj v cs):=by rfl) (hT:C.T t=some ti:=by rfl) (hx:iP e x=nm v j:=by rfl) (hp:part ti cs j=some r:=by rfl) (hh:h = { H with iq:=ls }:=by rfl):kh C F Pr fa all (o::rest) q e h:=by subst hh; exact iI hw (λ_=>by rw [ho]; exact pj hS hi hT hp hx) w
def rE (i:Nat) {L:List jH} (hS:Sep H L) (r:AV) (w:ky C F Pr fa all sch q (iW e o r) h) (hj:all[i']?=some o:=by rfl) (ho:o.op=.load t x:=by rfl) (hw:jg all e o=some true:=by rfl) (hi:L[i]?=some (.obj v cs):=by rfl) (hT:C.T t=some ti:=by rfl) (hx:iP e x=nm v j:=by rfl) (hp:part ti cs j=some r:=by rfl) (hh:h = { H with iq:=ls }:=by rfl):ky C F Pr fa all ((i',[])::sch) q e h:=by subst hh; exact iU hj hw (λ_=>by rw [ho]; exact pj hS hi hT hp hx) w
def Hf (i:Nat) {L:List jH} (hS:Sep H L) (r:AV) (w:∀ H',Sep H' (L.set i (.obj v cs'))->kh C F Pr fa all rest q (iW e o .undef) { H' with iq:=ls }) (ho:o.op=.store t x y:=by rfl) (hw:jg all e o=some true:=by rfl) (hi:L[i]?=some (.obj v cs):=by rfl) (hT:C.T t=some ti:=by rfl) (hx:iP e x=nm v j:=by rfl) (hy:iP e y=r:=by rfl) (hn:cellsOf ti r=some new:=by rfl) (hok:new.all AV.j5=true:=by rfl) (hsp:nv cs j new=some cs':=by rfl) (hh:h = { H with iq:=ls }:=by rfl):kh C F Pr fa all (o::rest) q e h:=by subst hh; exact jt hw (by rw [ho]; exact mP hS hi hT hx hy hn hok hsp) (λ_ H' h=>by obtain ⟨rfl,h⟩:=h; exact w H' h)
def rSt (i:Nat) {L:List jH} (hS:Sep H L) (r:AV) (w:∀ H',Sep H' (L.set i (.obj v cs'))->ky C F Pr fa all sch q (iW e o .undef) { H' with iq:=ls }) (hj:all[i']?=some o:=by rfl) (ho:o.op=.store t x y:=by rfl) (hw:jg all e o=some true:=by rfl) (hi:L[i]?=some (.obj v cs):=by rfl) (hT:C.T t=some ti:=by rfl) (hx:iP e x=nm v j:=by rfl) (hy:iP e y=r:=by rfl) (hn:cellsOf ti r=some new:=by rfl) (hok:new.all AV.j5=true:=by rfl) (hsp:nv cs j new=some cs':=by rfl) (hh:h = { H with iq:=ls }:=by rfl):ky C F Pr fa all ((i',[])::sch) q e h:=by subst hh; exact lR hj hw (by rw [ho]; exact mP hS hi hT hx hy hn hok hsp) (λ_ H' h=>by obtain ⟨rfl,h⟩:=h; exact w H' h)
def xP (i:Nat) (ys:List α) {L:List jH} (hS:Sep H L) (w:∀ v' H',Sep H' (L.set i (.sl wr tt v' n ((l++ys).map enc)))->kh C F Pr fa all rest q (iW e o v') { H' with iq:=ls }) (ho:o.op=.call cl:=by rfl) (hw:jg all e o=some true:=by rfl) (hi:L[i]?=some (.sl wr tt v n (l.map enc)):=by rfl) (hc:cl.callee=.builtin .append:=by rfl) (ha:cl.args.toList=[x,y]:=by rfl) (hts:cl.argTypes.toList=[t,u]:=by rfl) (hT:pX C [t,u]=some ti:=by rfl) (hSr:CG C [t,u]=true:=by rfl) (hn:ti.size=n:=by rfl) (hs:iP e x=v:=by rfl) (hx:o1 { H with iq:=ls } (iP e y)=some (ys.map enc):=by rfl) (hok:∀ y,(enc y).all AV.j5=true:=by exact λ_=>rfl) (ht:tt=true\/ys.length=1:=by first | exact .inl rfl | exact .inr rfl) (hm:l.length+ys.length<=qQ:=by simp only [qQ]; first | omega | (simp<;>omega)) (henc:∀ x,(enc x).length=n:=by exact λ_=>rfl) (hh:h = { H with iq:=ls }:=by rfl):kh C F Pr fa all (o::rest) q e h:=by subst hh; exact jt hw (by rw [ho]; exact kq ys hS hi hc ha hts hT hSr hn hs hx hok ht hm henc) (λv' H' h=>w v' H' h)
def rAp (i:Nat) (ys:List α) {L:List jH} (hS:Sep H L) (w:∀ v' H',Sep H' (L.set i (.sl wr tt v' n ((l++ys).map enc)))->ky C F Pr fa all sch q (iW e o v') { H' with iq:=ls }) (hj:all[i']?=some o:=by rfl) (ho:o.op=.call cl:=by rfl) (hw:jg all e o=some true:=by rfl) (hi:L[i]?=some (.sl wr tt v n (l.map enc)):=by rfl) (hc:cl.callee=.builtin .append:=by rfl) (ha:cl.args.toList=[x,y]:=by rfl) (hts:cl.argTypes.toList=[t,u]:=by rfl) (hT:pX C [t,u]=some ti:=by rfl) (hSr:CG C [t,u]=true:=by rfl) (hn:ti.size=n:=by rfl) (hs:iP e x=v:=by rfl) (hx:o1 { H with iq:=ls } (iP e y)=some (ys.map enc):=by rfl) (hok:∀ y,(enc y).all AV.j5=true:=by exact λ_=>rfl) (ht:tt=true\/ys.length=1:=by first | exact .inl rfl | exact .inr rfl) (hm:l.length+ys.length<=qQ:=by simp only [qQ]; first | omega | (simp<;>omega)) (henc:∀ x,(enc x).length=n:=by exact λ_=>rfl) (hh:h = { H with iq:=ls }:=by rfl):ky C F Pr fa all ((i',[])::sch) q e h:=by subst hh; exact lR hj hw (by rw [ho]; exact kq ys hS hi hc ha hts hT hSr hn hs hx hok ht hm henc) (λv' H' h=>w v' H' h)
end
section
variable {p q:Prop}
def aa (w:q) (h:q->p:=by intro w_;refine qq ?_;refine qg ?_;exact w_):p:=h w
def ab (w:q) (h:q->p:=by intro w_;refine oV ?_;refine oN ?_;exact w_):p:=h w
def ac (w:q) (h:q->p:=by intro w_;refine oV ?_;refine oN ?_;refine qT ?_;refine qq ?_;refine qg ?_;refine oV ?_;refine oN ?_;refine qr ?_;exact w_):p:=h w
def ae (w:q) (h:q->p:=by intro w_;refine qq ?_;refine qg ?_;(iterate 2 refine oV ?_);exact w_):p:=h w
def ag (w:q) (h:q->p:=by intro w_;refine oV ?_;refine oN ?_;refine qr ?_;exact w_):p:=h w
def ah (w:q) (h:q->p:=by intro w_;refine qq ?_;refine qg ?_;refine oV ?_;refine oN ?_;exact w_):p:=h w
def ai (w:q) (h:q->p:=by intro w_;refine oN ?_;refine qs ?_;refine qF ?_;refine qe ?_;exact w_):p:=h w
def aj (w:q) (h:q->p:=by intro w_;refine qq ?_;refine qg ?_;refine oV ?_;exact w_):p:=h w
def ak (w:q) (h:q->p:=by intro w_;refine oN ?_;refine qs ?_;refine qT ?_;refine qk ?_;exact w_):p:=h w
def am (w:q) (h:q->p:=by intro w_;(iterate 2 refine oV ?_);exact w_):p:=h w
def ao (w:q) (h:q->p:=by intro w_;refine qs ?_;refine qq ?_;refine qg ?_;refine oV ?_;exact w_):p:=h w
def ap (w:q) (h:q->p:=by intro w_;refine qq ?_;refine qg ?_;(iterate 3 refine oV ?_);exact w_):p:=h w
def aq (w:q) (h:q->p:=by intro w_;refine oV ?_;refine oN ?_;refine qF ?_;refine qk ?_;exact w_):p:=h w
def au (w:q) (h:q->p:=by intro w_;refine oN ?_;refine qT ?_;exact w_):p:=h w
def aw (w:q) (h:q->p:=by intro w_;refine qs ?_;refine qb ?_;exact w_):p:=h w
def az (w:q) (h:q->p:=by intro w_;(iterate 6 refine oV ?_);refine oN ?_;exact w_):p:=h w
def aA (w:q) (h:q->p:=by intro w_;refine qq ?_;refine qg ?_;refine oV ?_;refine oN ?_;refine qr ?_;exact w_):p:=h w
def aB (w:q) (h:q->p:=by intro w_;refine oN ?_;refine qF ?_;refine qk ?_;exact w_):p:=h w
def aC (w:q) (h:q->p:=by intro w_;(iterate 3 refine oV ?_);exact w_):p:=h w
def aD (w:q) (h:q->p:=by intro w_;refine oN ?_;refine qF ?_;refine qe ?_;exact w_):p:=h w
def aE (w:q) (h:q->p:=by intro w_;refine oV ?_;refine oN ?_;refine qT ?_;exact w_):p:=h w
def aF (w:q) (h:q->p:=by intro w_;refine rz hA ?_;refine qq ?_;refine qg ?_;exact w_):p:=h w
def aG (w:q) (h:q->p:=by intro w_;refine oV ?_;refine oN ?_;refine qb ?_;exact w_):p:=h w
def aH (w:q) (h:q->p:=by intro w_;refine qs ?_;refine qq ?_;refine qg ?_;(iterate 2 refine oV ?_);exact w_):p:=h w
def aI (w:q) (h:q->p:=by intro w_;refine qg ?_;refine oV ?_;exact w_):p:=h w
def aJ (w:q) (h:q->p:=by intro w_;(iterate 2 refine rV ?_);exact w_):p:=h w
def aK (w:q) (h:q->p:=by intro w_;refine qs ?_;refine qq ?_;refine qg ?_;refine oV ?_;refine oN ?_;refine qb ?_;exact w_):p:=h w
def aL (w:q) (h:q->p:=by intro w_;refine qq ?_;refine qd ?_;exact w_):p:=h w
def aM (w:q) (h:q->p:=by intro w_;refine rV ?_;refine rN ?_;exact w_):p:=h w
def aN (w:q) (h:q->p:=by intro w_;refine qq ?_;refine qg ?_;(iterate 2 refine oV ?_);refine oN ?_;exact w_):p:=h w
def aO (w:q) (h:q->p:=by intro w_;refine qq ?_;refine qg ?_;(iterate 2 refine oV ?_);refine oN ?_;refine qr ?_;exact w_):p:=h w
def aP (w:q) (h:q->p:=by intro w_;(iterate 2 refine oV ?_);(iterate 4 refine oS ?_);exact w_):p:=h w
def aQ (w:q) (h:q->p:=by intro w_;(iterate 4 refine oV ?_);exact w_):p:=h w
def aR (w:q) (h:q->p:=by intro w_;refine qq ?_;refine qg ?_;(iterate 4 refine oV ?_);exact w_):p:=h w
def aS (w:q) (h:q->p:=by intro w_;(iterate 3 refine oV ?_);refine oN ?_;exact w_):p:=h w
def aU (w:q) (h:q->p:=by intro w_;(iterate 2 refine oV ?_);(iterate 2 refine oS ?_);exact w_):p:=h w
def aV (w:q) (h:q->p:=by intro w_;refine qs ?_;refine qq ?_;refine qg ?_;(iterate 3 refine oV ?_);exact w_):p:=h w
def aW (w:q) (h:q->p:=by intro w_;refine oV ?_;refine oN ?_;refine qF ?_;refine qk ?_;refine wz [.fm (jO pK pK a1) false,.la 2 0,(.hm b1),.la 7 0,jB a0.signals,cb a0.signals.l.length,cb k5] H7 [(2,(bY.af a0)),(7,(jY.af x11))] ?_;exact w_):p:=h w
def aX (w:q) (h:q->p:=by intro w_;refine rz hA ?_;refine qs ?_;refine qq ?_;refine qg ?_;(iterate 3 refine oV ?_);exact w_):p:=h w
def aY (w:q) (h:q->p:=by intro w_;refine oN ?_;refine qT ?_;refine qk ?_;refine qs ?_;refine qb ?_;exact w_):p:=h w
def aZ (w:q) (h:q->p:=by intro w_;refine oN ?_;refine qT ?_;refine qk ?_;exact w_):p:=h w
def a6 (w:q) (h:q->p:=by intro w_;refine qq ?_;refine qg ?_;(iterate 3 refine oV ?_);refine oN ?_;refine qr ?_;exact w_):p:=h w
def a8 (w:q) (h:q->p:=by intro w_;refine oV ?_;(iterate 5 refine oS ?_);exact w_):p:=h w
def ba (w:q) (h:q->p:=by intro w_;refine oV ?_;refine oN ?_;refine qF ?_;refine qq ?_;refine qg ?_;exact w_):p:=h w
def bb (w:q) (h:q->p:=by intro w_;(iterate 2 refine oV ?_);refine oN ?_;exact w_):p:=h w
def bc (w:q) (h:q->p:=by intro w_;refine qs ?_;refine qb ?_;refine qq ?_;refine qg ?_;exact w_):p:=h w
def be (w:q) (h:q->p:=by intro w_;refine oN ?_;refine qT ?_;refine qq ?_;refine qg ?_;refine oV ?_;refine oN ?_;refine qr ?_;exact w_):p:=h w
def bf (w:q) (h:q->p:=by intro w_;(iterate 2 refine oV ?_);refine oN ?_;refine qT ?_;refine qq ?_;refine qg ?_;refine oV ?_;refine oN ?_;refine qr ?_;exact w_):p:=h w
def bg (w:q) (h:q->p:=by intro w_;refine iI rfl (λ_=>pN (i:=0) hS rfl rfl) ?_;refine iI rfl (λ_=>pe (i:=0) hS rfl rfl rfl rfl rfl) ?_;exact w_):p:=h w
def bh (w:q) (h:q->p:=by intro w_;refine rV ?_;refine rN ?_;refine qF ?_;refine qk ?_;exact w_):p:=h w
def bi (w:q) (h:q->p:=by intro w_;refine iI rfl (λ_=>pN (i:=0) hS rfl rfl) ?_;refine iI rfl (λ_=>pe (i:=0) hS rfl rfl rfl rfl rfl) ?_;refine iI rfl (λ_=>pj (i:=0) (o:=6) (r:=vz) hS rfl rfl rfl rfl) ?_;exact w_):p:=h w
def bj (w:q) (h:q->p:=by intro w_;refine oV ?_;(iterate 2 refine oS ?_);exact w_):p:=h w
def bk (w:q) (h:q->p:=by intro w_;(iterate 2 refine oV ?_);refine oN ?_;refine qr ?_;exact w_):p:=h w
def bl (w:q) (h:q->p:=by intro w_;refine oV ?_;(iterate 4 refine oS ?_);exact w_):p:=h w
def bm (w:q) (h:q->p:=by intro w_;refine rV ?_;refine rN ?_;refine qT ?_;exact w_):p:=h w
def bo (w:q) (h:q->p:=by intro w_;refine qq ?_;refine qg ?_;refine oV ?_;refine oN ?_;refine qs ?_;refine qq ?_;refine qg ?_;refine oV ?_;exact w_):p:=h w
def bp (w:q) (h:q->p:=by intro w_;(iterate 2 refine rV ?_);(iterate 11 refine rS ?_);(iterate 2 refine rV ?_);refine rN ?_;refine qr ?_;exact w_):p:=h w
def br (w:q) (h:q->p:=by intro w_;(iterate 5 refine rV ?_);exact w_):p:=h w
def bu (w:q) (h:q->p:=by intro w_;refine wz [.fm (jO pK pK a1) false,.la 2 0,(.hm b1),.la 7 0,iv x21,jr a0.lines,cb a0.lines.l.length,cb k5,j3 x11.elems,cb x11.elems.l.length,cb qw] H17 [(2,(bY.af a0)),(7,(ju.af x11))] ?_;refine qg ?_;(iterate 2 refine oV ?_);refine jt rfl (nV (i:=0) (ek:=iK) (ev:=bK) (l:=l16) x21 true hS18 rfl rfl rfl rfl rfl rfl qW) ?_;exact w_):p:=h w
def bv (w:q) (h:q->p:=by intro w_;refine qg ?_;(iterate 3 refine oV ?_);exact w_):p:=h w
def bw (w:q) (h:q->p:=by intro w_;(iterate 3 refine rV ?_);exact w_):p:=h w
def bz (w:q) (h:q->p:=by intro w_;refine qq ?_;refine qg ?_;(iterate 3 refine oV ?_);refine oN ?_;exact w_):p:=h w
def bA (w:q) (h:q->p:=by intro w_;refine oV ?_;refine oN ?_;refine qF ?_;refine qk ?_;refine wy [.str a0.l,cb k1] [] ?_;refine qg ?_;refine oV ?_;exact w_):p:=h w
def bB (w:q) (h:q->p:=by intro w_;(iterate 4 refine oV ?_);refine oN ?_;refine qr ?_;exact w_):p:=h w
def bC (w:q) (h:q->p:=by intro w_;(iterate 5 refine oV ?_);refine oN ?_;exact w_):p:=h w
def bD (w:q) (h:q->p:=by intro w_;(iterate 5 refine oV ?_);refine oN ?_;refine qs ?_;refine qq ?_;refine qg ?_;refine oV ?_;exact w_):p:=h w
def bE (w:q) (h:q->p:=by intro w_;(iterate 2 refine oV ?_);(iterate 5 refine oS ?_);exact w_):p:=h w
def bF (w:q) (h:q->p:=by intro w_;refine oN ?_;refine qT ?_;refine qg ?_;(iterate 2 refine oV ?_);refine iI rfl (λ_=>kj rfl rfl rfl (pb .i64 1 r7.en)) ?_;(iterate 2 refine oV ?_);refine oN ?_;refine wy [.ip (iD.af a0) 0 false,.la 11 0] [(11,[iv r7.elem,iv (IntKind.i64.wrap (1 - r7.en))])] ?_;refine qq ?_;refine qg ?_;(iterate 2 refine oV ?_);refine oC (t132 a0 (⟨r7.elem,(IntKind.i64.wrap (1 - r7.en))⟩:iz)) ?_;exact w_):p:=h w
def bG (w:q) (h:q->p:=by intro w_;refine qq ?_;refine qd ?_;(iterate 2 refine rV ?_);exact w_):p:=h w
def bH (w:q) (h:q->p:=by intro w_;refine qs ?_;refine qb ?_;refine qq ?_;refine qg ?_;(iterate 2 refine oV ?_);refine oN ?_;exact w_):p:=h w
def bI (w:q) (h:q->p:=by intro w_;(iterate 2 refine oV ?_);(iterate 9 refine oS ?_);exact w_):p:=h w
def bJ (w:q) (h:q->p:=by intro w_;refine oV ?_;refine oN ?_;refine qT ?_;refine qe ?_;exact w_):p:=h w
def bL (w:q) (h:q->p:=by intro w_;refine rN ?_;refine qT ?_;exact w_):p:=h w
def bM (w:q) (h:q->p:=by intro w_;(iterate 2 refine oV ?_);(iterate 4 refine oS ?_);refine oV ?_;refine oN ?_;refine qT ?_;refine qq ?_;refine qg ?_;refine oV ?_;refine oN ?_;refine qr ?_;exact w_):p:=h w
def bN (w:q) (h:q->p:=by intro w_;(iterate 3 refine oV ?_);refine oN ?_;refine qr ?_;exact w_):p:=h w
def bO (w:q) (h:q->p:=by intro w_;refine rN ?_;refine qF ?_;refine qk ?_;exact w_):p:=h w
def bP (w:q) (h:q->p:=by intro w_;refine rV ?_;refine rN ?_;refine qr ?_;exact w_):p:=h w
def bQ (w:q) (h:q->p:=by intro w_;refine qs ?_;refine qb ?_;refine qq ?_;refine qg ?_;refine oV ?_;exact w_):p:=h w
def bR (w:q) (h:q->p:=by intro w_;refine wy [.la 2 0,iv x6.at_,oL a1,cb a1.l.length,cb k2] [(2,(bY.af a0))] ?_;refine qg ?_;exact w_):p:=h w
def bS (w:q) (h:q->p:=by intro w_;refine oV ?_;refine oN ?_;refine qT ?_;refine qq ?_;refine qg ?_;(iterate 2 refine oV ?_);refine oN ?_;refine qr ?_;exact w_):p:=h w
def bT (w:q) (h:q->p:=by intro w_;refine Hl 4 hS50 ?_;refine pz 4 hS50 ?_;refine mH 4 hS50 v41 ?_;refine iI rfl (λ_=>mZ (H:=H49) (i:=0) (l:=l42) (enc:=iR.af) hS50 rfl rfl rfl rfl rfl rfl rfl) ?_;exact w_):p:=h w
def bU (w:q) (h:q->p:=by intro w_;(iterate 5 refine oV ?_);exact w_):p:=h w
def bV (w:q) (h:q->p:=by intro w_;(iterate 2 refine oV ?_);refine oN ?_;refine qF ?_;refine qk ?_;exact w_):p:=h w
def bW (w:q) (h:q->p:=by intro w_;(iterate 4 refine oV ?_);refine oN ?_;exact w_):p:=h w
def bX (w:q) (h:q->p:=by intro w_;(iterate 6 refine rV ?_);refine rN ?_;exact w_):p:=h w
def bZ (w:q) (h:q->p:=by intro w_;refine qq ?_;refine qd ?_;(iterate 6 refine rV ?_);refine rC (t95 a0 a2 a3 a4) ?_;exact w_):p:=h w
def b5 (w:q) (h:q->p:=by intro w_;refine oV ?_;(iterate 3 refine oS ?_);exact w_):p:=h w
def b8 (w:q) (h:q->p:=by intro w_;refine qq ?_;refine qg ?_;refine jt (H:=aT.empty) rfl (wb jW rfl rfl rfl rfl rfl) ?_;exact w_):p:=h w
def ca (w:q) (h:q->p:=by intro w_;refine qq ?_;refine qg ?_;(iterate 2 refine mH 4 hS76 v68 ?_);refine iI rfl (λ_=>mZ (H:=H75) (i:=3) (l:=l69) (enc:=iz.af) hS76 rfl rfl rfl rfl rfl rfl rfl) ?_;exact w_):p:=h w
def ce (w:q) (h:q->p:=by intro w_;(iterate 2 refine rV ?_);(iterate 6 refine rS ?_);exact w_):p:=h w
def cg (w:q) (h:q->p:=by intro w_;refine oV ?_;refine oN ?_;refine qT ?_;refine qq ?_;refine qg ?_;(iterate 3 refine oV ?_);refine oN ?_;refine qr ?_;exact w_):p:=h w
def ci (w:q) (h:q->p:=by intro w_;refine oN ?_;refine qT ?_;refine qq ?_;refine qg ?_;(iterate 2 refine oV ?_);refine oN ?_;refine qr ?_;exact w_):p:=h w
def ck (w:q) (h:q->p:=by intro w_;refine qq ?_;refine qd ?_;(iterate 3 refine rV ?_);exact w_):p:=h w
def cm (w:q) (h:q->p:=by intro w_;refine qq ?_;refine qg ?_;(iterate 6 refine oV ?_);exact w_):p:=h w
def co (w:q) (h:q->p:=by intro w_;refine qq ?_;refine qg ?_;refine iI rfl (λ_=>pe (i:=0) hS rfl rfl rfl rfl rfl) ?_;exact w_):p:=h w
def cq (w:q) (h:q->p:=by intro w_;refine oN ?_;refine qF ?_;refine qk ?_;refine qg ?_;exact w_):p:=h w
def cr (w:q) (h:q->p:=by intro w_;(iterate 8 refine oS ?_);exact w_):p:=h w
def ct (w:q) (h:q->p:=by intro w_;(iterate 6 refine oV ?_);refine oN ?_;refine qs ?_;refine qq ?_;refine qg ?_;refine oV ?_;exact w_):p:=h w
def cu (w:q) (h:q->p:=by intro w_;(iterate 4 refine rV ?_);exact w_):p:=h w
def cw (w:q) (h:q->p:=by intro w_;refine qq ?_;refine qg ?_;(iterate 4 refine oV ?_);refine oN ?_;refine qr ?_;exact w_):p:=h w
def cy (w:q) (h:q->p:=by intro w_;(iterate 2 refine rV ?_);(iterate 3 refine rS ?_);exact w_):p:=h w
def cz (w:q) (h:q->p:=by intro w_;refine oN ?_;refine qb ?_;refine qq ?_;refine qg ?_;exact w_):p:=h w
def cA (w:q) (h:q->p:=by intro w_;refine qg ?_;(iterate 2 refine oV ?_);refine iI rfl (λ_=>kj rfl rfl rfl (uR .i64 n6 n5)) ?_;refine oV ?_;refine oN ?_;refine qg ?_;(iterate 2 refine oV ?_);exact w_):p:=h w
def cB (w:q) (h:q->p:=by intro w_;refine wz [.la 1 0,(.hm b1),jw a0.elems,cb a0.elems.l.length,cb mE] H7 [(1,(bY.af a0))] ?_;refine qg ?_;exact w_):p:=h w
def cC (w:q) (h:q->p:=by intro w_;refine qs ?_;refine qq ?_;refine qg ?_;exact w_):p:=h w
def cD (w:q) (h:q->p:=by intro w_;refine wy [.la 2 0,.la 3 0] [(2,(bY.af a0)),(3,(iB.af a1))] ?_;refine qs ?_;refine qq ?_;refine qg ?_;(iterate 2 refine oV ?_);exact w_):p:=h w
def cE (w:q) (h:q->p:=by intro w_;refine rz hA ?_;refine qs ?_;refine qq ?_;refine qg ?_;(iterate 2 refine oV ?_);exact w_):p:=h w
def cF (w:q) (h:q->p:=by intro w_;(iterate 2 refine oV ?_);(iterate 3 refine oS ?_);exact w_):p:=h w
def cG (w:q) (h:q->p:=by intro w_;(iterate 6 refine oV ?_);refine oN ?_;refine qq ?_;refine qg ?_;exact w_):p:=h w
def cH (w:q) (h:q->p:=by intro w_;(iterate 2 refine oV ?_);(iterate 3 refine oS ?_);(iterate 2 refine oV ?_);(iterate 3 refine oS ?_);(iterate 2 refine oV ?_);(iterate 3 refine oS ?_);exact w_):p:=h w
def cJ (w:q) (h:q->p:=by intro w_;refine wy [] [] ?_;refine qq ?_;refine qg ?_;refine oV ?_;refine oN ?_;refine qr ?_;exact w_):p:=h w
def cL (w:q) (h:q->p:=by intro w_;refine qg ?_;(iterate 3 refine oV ?_);refine jt rfl (nV (i:=0) (ek:=pK) (ev:=bK) (l:=l6) x11.at_ true hS8 rfl rfl rfl rfl rfl rfl lq) ?_;exact w_):p:=h w
def cM (w:q) (h:q->p:=by intro w_;refine qq ?_;refine qd ?_;refine rV ?_;exact w_):p:=h w
def cN (w:q) (h:q->p:=by intro w_;(iterate 3 refine oV ?_);refine oN ?_;refine qq ?_;refine qg ?_;(iterate 2 refine oV ?_);exact w_):p:=h w
def cO (w:q) (h:q->p:=by intro w_;(iterate 5 refine rS ?_);(iterate 2 refine rV ?_);(iterate 12 refine rS ?_);exact w_):p:=h w
def cP (w:q) (h:q->p:=by intro w_;refine qq ?_;refine qg ?_;refine oV ?_;refine oN ?_;refine qq ?_;refine qg ?_;(iterate 2 refine oV ?_);exact w_):p:=h w
def cQ (w:q) (h:q->p:=by intro w_;refine oN ?_;refine qs ?_;refine qF ?_;refine qe ?_;refine qq ?_;refine qg ?_;refine oV ?_;refine oN ?_;refine qr ?_;exact w_):p:=h w
def cR (w:q) (h:q->p:=by intro w_;(iterate 7 refine rS ?_);exact w_):p:=h w
def cT (w:q) (h:q->p:=by intro w_;refine jy a0.signals ?_;refine oV ?_;refine oN ?_;refine qb ?_;exact w_):p:=h w
def cU (w:q) (h:q->p:=by intro w_;refine qq ?_;refine qd ?_;(iterate 5 refine rV ?_);exact w_):p:=h w
def cV (w:q) (h:q->p:=by intro w_;refine qq ?_;refine qg ?_;refine jt rfl (oi jW) ?_;exact w_):p:=h w
def cW (w:q) (h:q->p:=by intro w_;refine wz [(.hm b1),jw a0.elems,cb a0.elems.l.length,cb sd] H7 [] ?_;refine qg ?_;exact w_):p:=h w
def cX (w:q) (h:q->p:=by intro w_;(iterate 6 refine oV ?_);exact w_):p:=h w
def cY (w:q) (h:q->p:=by intro w_;refine rV ?_;refine rC (afa (⟨[r2,r4],.exact 2,qx,rfl,nd⟩:Row Int)) ?_;exact w_):p:=h w
def cZ (w:q) (h:q->p:=by intro w_;(iterate 6 refine rV ?_);exact w_):p:=h w
def c3 (w:q) (h:q->p:=by intro w_;refine iI rfl (λ_=>kj rfl rfl rfl (uR .i64 a2.left a1)) ?_;refine oV ?_;exact w_):p:=h w
def c6 (w:q) (h:q->p:=by intro w_;refine Hl 4 hS50 ?_;refine pz 4 hS50 ?_;refine mH 4 hS50 v47 ?_;refine oV ?_;exact w_):p:=h w
def c7 (w:q) (h:q->p:=by intro w_;refine oN ?_;refine qg ?_;exact w_):p:=h w
def c8 (w:q) (h:q->p:=by intro w_;refine rV ?_;(iterate 6 refine rS ?_);exact w_):p:=h w
def c9 (w:q) (h:q->p:=by intro w_;refine rz hA ?_;refine qs ?_;refine qq ?_;refine qg ?_;refine oV ?_;exact w_):p:=h w
def da (w:q) (h:q->p:=by intro w_;refine pz 6 hS114 ?_;refine mH 6 hS114 v66 ?_;exact w_):p:=h w
def db (w:q) (h:q->p:=by intro w_;refine jy a0.elems ?_;refine oV ?_;refine oN ?_;refine qb ?_;exact w_):p:=h w
def dc (w:q) (h:q->p:=by intro w_;(iterate 2 refine oV ?_);refine oN ?_;refine qF ?_;refine qq ?_;refine qg ?_;refine oV ?_;exact w_):p:=h w
def de (w:q) (h:q->p:=by intro w_;refine wy [.ip (iD.af a0) 0 false,.la 11 0] [(11,(iz.af r7))] ?_;refine qq ?_;refine qg ?_;(iterate 2 refine oV ?_);refine oC (t132 a0 r7) ?_;exact w_):p:=h w
def dg (w:q) (h:q->p:=by intro w_;refine oV ?_;refine oN ?_;refine qF ?_;refine qk ?_;refine qg ?_;refine oV ?_;exact w_):p:=h w
def dh (w:q) (h:q->p:=by intro w_;refine qq ?_;refine qg ?_;refine jt rfl (oi hS) ?_;exact w_):p:=h w
def di (w:q) (h:q->p:=by intro w_;refine tv 0 hS25 ?_;refine qS 0 hS25 ?_;refine rE 0 hS25 ((.hm b6)) ?_;exact w_):p:=h w
def dj (h:p:=by first | assumption | omega | (dsimp only [Row.oo]; omega) | (simp<;>omega) | exact hPre (by omega) | exact hPre | (simp_all; done) | (simp_all; omega)):p:=h
theorem dl (h:p:=by assumption):p:=h
def dm (h:p:=by first | omega | (simp<;>omega) | (simp_all; omega)):p:=h
def dn (h:p:=by simp only [rT,List.length_append,List.length_cons,List.length_nil,List.length_set,List.length_take,List.length_drop,List.length_replicate]; omega):p:=h
def dp (h:p:=by first | exact hRo | exact oe (P:=λr:iG=>0<r.steps.l.length/\r.steps.l.length<=12/\r.jK.l.length<=12/\lV a0.p r) hRo ⟨by omega,by omega,by omega,by assumption⟩ | exact oe (P:=λr:iG=>0<r.steps.l.length/\r.steps.l.length<=12/\r.jK.l.length<=12/\lV a0.p r) (oe (P:=λr:iG=>0<r.steps.l.length/\r.steps.l.length<=12/\r.jK.l.length<=12/\lV a0.p r) hRo ⟨by omega,by omega,by omega,by assumption⟩) ⟨by omega,by omega,by omega,by assumption⟩):p:=h
def dq (h:p:=by (first | omega | (simp<;>omega))):p:=h
def dr (h:p:=by intro h; first | (cases h; done) | (simp only [] at *; omega) | (refine ⟨?_,?_,?_,by omega,by omega,by omega,⟨hJvp,hLnp rfl,(hKdp rfl).1,(hKdp rfl).2⟩⟩<;>first | assumption | (simp_all; done))):p:=h
def dt (h:p:=by decide):p:=h
theorem du (h:p:=by omega):p:=h
def dv (h:p:=by first | grind [xD] | (have hLa:=uN dl; grind [xD])):p:=h
def dw (h:p:=by (first | omega | (simp only [List.length_append,List.length_cons,List.length_nil,List.length_take] at *; omega))):p:=h
def dx (h:p:=by first | exact acE hFd3 (by first | rfl | assumption) | exact Yy dl (by first | assumption | exact ⟨by assumption,by assumption⟩) | exact abD hFd3 (by first | rfl | assumption) dl (by first | assumption | exact λh=>absurd h.1 dl | exact λh=>absurd h.2 dl)):p:=h
def dy (h:p:=by simp only [qQ]; first | omega | (simp<;>omega)):p:=h
def dz (h:p:=by intro hn; first | rfl | (exfalso; first | (have hq0:=hn.1; simp_all; done) | (have hq0:=hn.2.1; omega) | exact Hc dl hn (hLt.2 rfl) (by first | exact .inl rfl | exact .inr (.inl dl) | exact .inr (.inr dl)) | exact Ew dl hn (hLt.2 rfl) (.inl dl) dl | exact Ew dl hn (hLt.2 rfl) (.inr dl) dl)):p:=h
def dA (h:p:=by first | exact ⟨(jn.of_nil dl).symm,λ_=>jn.zV.mp dl,λ_=>rfl⟩ | exact ⟨by assumption,λh=>absurd (hnn.mp h) (hNN (by simp)),λh=>by have:=jn.zV.mpr h; simp_all⟩):p:=h
def dB (h:p:=by intro hz; first | (exfalso; omega) | (refine ⟨⟨λx hx=>?_,?_⟩,hPl.trans ((congrArg bY.canon hNe.qj).trans (bY.wS _)),_,hNe,hNr⟩; (first | exact hR x (hlq▸hx) | (simp at hx)); (first | (dsimp only; omega) | simp))):p:=h
def dC (h:p:=by first | exact Hq dl hX (L4 dl dl dl du hF (by first | assumption | omega) dv dl hStn (hIn.2 rfl) (uN dl) hFt) | exact qm dl hX (Ld hF dl) | exact qm dl hX (KG dl dl dv) | exact qm dl hX (LK dl) | exact qm dl hX (Lx hStn (hIn.1 rfl)) | exact qm dl hX (LI dl dl (uN dl) hFt)):p:=h
def dD (h:p:=by refine ⟨λh=>?_,λh=>?_,λh=>?_⟩<;>first | (cases h; done) | omega | (first | (cases h; done) | exact tQ du | exact Db du | exact tK du dl dl du | (rw [EP du dl dl du]; first | exact hA.1 rfl | exact hA.2 rfl) | (rw [FO du dl dl du du dl dl]; first | (rw [zj dl]; first | exact hA.1 rfl | exact hA.2 rfl) | (rw [CD dl dl]; done) | (rw [zy dl dl]; simp_all [Kz]; done)))):p:=h
def dE (h:p:=by first | exact Ms dl dl | exact EJ (mY hSg du) (Gw hEr du (G4 dl dl dl dl) (hTr du du) hSw dl) dl | exact EJ (mY hSg du) (hAtk.Fg dl (AF (hTr du du) hK dl) (hIn.1 rfl) hEr du du) dt | exact yN (mY hSg du) (vj hEr du hNM du du) dl (ZW dl dl) | exact yN (mY hSg du) (vj hEr du hNM du du) dl (Xg dl dl dl) | exact yN (mY hSg du) (vj hEr du hNM du du) dl (aaV dl hRe dl du) | exact M6 (mY hSg du) (vj hEr du hNM du du) hBd du):p:=h
def dF (h:p:=by refine ⟨λh=>?_,λh=>?_⟩<;>(first | (cases h; done) | exact tQ du | exact Db du | exact tK du dl dl du | (rw [EP du dl dl du]; first | exact hA.1 rfl | exact hA.2 rfl) | (rw [FO du dl dl du du dl dl]; first | (rw [zj dl]; first | exact hA.1 rfl | exact hA.2 rfl) | (rw [CD dl dl]; done) | (rw [zy dl dl]; simp_all [Kz]; done)))):p:=h
def dG (h:p:=by refine Je ?_; first | exact (o7 (Ly (hL.2 rfl))).symm | exact (Dh du rfl (by rw [<- hLL du]; omega)).symm | exact (o7 (hG.2 rfl)).symm | (rw [B8 (hG.1 rfl) (.inl rfl) du rfl (by rw [<- hLL du]; omega) rfl]; simp_all [D2]; done)):p:=h
def dH (h:p:=by intro hz; first | (exfalso; omega) | (have hdv:yO a0 a1:=⟨by omega,mY hA du,hSo du,by omega,mY hB du,λi j h hij=>hNe i j h hij du⟩; exact ⟨hdv.oW,hdv⟩)):p:=h
def dI (h:p:=by refine ⟨λhz=>?_,?_⟩; (first | (exfalso; omega) | exact ⟨by omega,by omega,by omega,Tg dl du⟩); first | exact (o7 (hG.2.2 rfl)).symm | exact (Dn (hG.2.1 rfl) dl).symm | exact (Dh dl dl du).symm | (rw [B8 (hG.2.1 rfl) (.inr dl) dl dl dl dl]; simp_all [D2]; done)):p:=h
def dJ (h:p:=by first | exact Hq dl hX (L4 dl dl dl du hFr dl hEn dl hStn (hIn.2 rfl) (uN dl) hFt) | exact qm dl hX (Ld hFr dl) | exact qm dl hX (KG dl dl hEn) | exact qm dl hX (LK dl) | exact qm dl hX (Lx hStn (hIn.1 rfl)) | exact qm dl hX (LI dl dl (uN dl) hFt)):p:=h
def dK (h:p:=by refine ⟨?_,Row.lk _⟩; refine ⟨λh=>?_,λh=>?_⟩<;>first | (cases h; done) | (refine ⟨by omega,by omega,by omega,λh=>?_,by omega⟩; simp_all; done) | exact .inl du | exact .inr (.inl du) | exact .inr (.inr (.inl du)) | (refine .inr (.inr (.inr ⟨by assumption,?_⟩)); simp_all; done) | (refine .inr (.inr (.inr ⟨by assumption,?_⟩)); simp_all; omega)):p:=h
def dL (h:p:=by intro h; first | (cases h; done) | (refine ⟨by omega,by omega,by omega,by omega,λx hx=>?_,hJg.1,hJg.2⟩; obtain ⟨i,hi,rfl⟩:=List.mem_iff_getElem.mp hx; exact hI i hi du)):p:=h
def dM (h:p:=by intro h; first | (cases h; done) | exact ⟨ab9 (mY hKd du),by omega⟩):p:=h
def dN (h:p:=by intro h; first | (cases h; done) | exact ⟨by omega,by omega,λi hi=>hC i hi du⟩):p:=h
def dP (h:p:=by first | exact hGd | exact oe hGd (Td (q6 _ dl) hK du du)):p:=h
def dQ (h:p:=by first | rfl | exact absurd (by assumption:false=true) dt | (exfalso; omega) | exact (Q9 hab dl dl du (DJ dl)).elim | exact (Q9 hxy dl dl du (DJ dl)).elim):p:=h
def dR (h:p:=by intro h1 h2; first | (exfalso; omega) | exact KZ dl dl (by first | (rw [hA.1 rfl]; rfl) | (rw [hA.2 rfl,hA0 rfl]; rfl)) (by rw [<- hK]; first | rw [if_pos dl] | rw [if_neg dl])):p:=h
def dS (h:p:=by refine ⟨by first | decide | (simp; done),?_⟩; unfold nQ; (simp<;>omega)):p:=h
def dT (h:p:=by first | (simp only [List.length_map,List.length_set]; done) | (simp only [List.length_map,List.length_set]; omega)):p:=h
def dU (h:p:=by refine ⟨?_,λh=>by first | (cases h; done) | rfl⟩; refine ⟨λh=>?_,λh=>?_⟩<;>first | (cases h; done) | exact MZ du | exact T4 du dl dl):p:=h
def dV (h:p:=by have q8:=q9 a2.at_.elem; grind [uK]):p:=h
def dW (h:p:=by first | exact (TT (hL.2 rfl)).symm | (rw [U4 hLt.1 du hLt.2.2.1 (by rw [<- hLL du]; exact hLt.2.2.2.2)]; first | (rw [WX dl]; grind) | (rw [acS dl (hLL du) dl dl]; grind))):p:=h
def dX (h:p:=by intro h; first | (cases h; done) | exact ⟨L7 hV du,λi h=>hJ i h du⟩):p:=h
def dY (h:p:=by unfold Ar; first | exact ⟨λ_=>du,λh=>absurd h dt⟩ | exact ⟨λh=>absurd h dt,λ_=>du⟩):p:=h
def dZ (h:p:=by intro h; first | (cases h; done) | exact ⟨hNm,by omega,by omega,by omega,by omega,by omega,by omega,by omega,by omega⟩):p:=h
def d3 (h:p:=by first | omega | (simp; done) | (simp<;>omega)):p:=h
def d4 (h:p:=by intro h; first | omega | (cases h; done)):p:=h
def d5 (h:p:=by first | exact ⟨by simp,by simp,B2 hFr dl rfl⟩ | exact ⟨by simp,by simp,LJ dl du⟩ | exact ⟨by omega,by simp_all,Bp hFr du (Eq.trans dl hX) du⟩):p:=h
def d6 (h:p:=by first | exact UO (UT du) | exact Vd hEn du du (by first | rfl | assumption | simp_all)):p:=h
def d7 (h:p:=by (first | omega | exact hPle)):p:=h
def d8 (h:p:=by refine ⟨(by first | omega | (refine ⟨?_,?_⟩<;>omega)),?_⟩; unfold vI; (repeat' split)<;>omega):p:=h
def d9 (h:p:=by first | exact DF du | exact tz.all hKp du | exact pc.done hCp du du):p:=h
def ed (h:p:=by first | exact hAtk.Wh dl (AF (hTr du du) hK dl) hNM (hIn.2 rfl) | exact K6 hNM (FA hEr du (hTr du du) hK dl)):p:=h
def ee (h:p:=by (intro i h h2; omega)):p:=h
def ef (h:p:=by first | (unfold cI; (repeat' split)<;>omega) | (exfalso; simp_all)):p:=h
def eg (h:p:=by first | grind [vv] | (have hMg:=congrArg bY.jS hPl; simp only [bY.canon] at hMg; grind [vv])):p:=h
def ei (h:p:=by first | exact TR hCp hgC du hgB du (DJ dl) du du du | exact T5 hCp hgB du hgA du (U6 dl) du):p:=h
def ej (h:p:=by intro hz; first | (cases hz; done) | exact ⟨by assumption,(hBd dl).1.2,(hBd dl).2,hBr.trans (congrArg (λz:Int=>AV.je [_,.int .i64 z]) du),hFr,(hBd dl).1.1⟩):p:=h
def eu (h:p:=by intro h; first | (cases h; done) | exact ⟨by omega,Vx dl dl dl hEnd dl⟩):p:=h
def ew (h:p:=by first | exact hAtk.snoc (AF (hTr du du) hK dl) | exact hAtk.same (FA hEr du (hTr du du) hK dl)):p:=h
def ey (h:p:=by refine ⟨λh=>?_,λh=>?_⟩<;>first | (cases h; done) | (rw [<- hI]; first | exact Kh dl dl dl | exact Kl dl dl dl dl | exact NM du)):p:=h
def ez (h:p:=by intro hz; first | (exfalso; omega) | exact ⟨by omega,mY hU du,λi j h hij=>hNe i j h hij du⟩):p:=h
def eA (h:p:=by intro h; first | (cases h; done) | exact λi hi=>hU i hi du):p:=h
def eB (h:p:=by intro h; first | (cases h; done) | exact hLn.ok du):p:=h
def eC (h:p:=by exact TZ dl hC (by unfold Cv Ar; omega)):p:=h
def eD (h:p:=by exact ⟨by first | exact (Dx du).symm | exact (ur du dl dl).symm,by first | exact (Ff du).symm | exact (HC du dl dl).symm⟩):p:=h
def eE (h:p:=by first | exact Up hEn2 du du du (VM hFd dl du) du | exact abm hEn2 (Zp hFd dl du) du):p:=h
def eF (h:p:=by first | exact ⟨by omega,λx hx=>.inl hx⟩ | exact ⟨by simp<;>omega,λx hx=>(List.mem_append.mp hx).imp id List.mem_singleton.mp⟩):p:=h
def eG (h:p:=by simp [lM,nq,oA,pH,CZ]):p:=h
def eH (h:p:=by simp):p:=h
def eI (h:p:=by first | exact VJ dl hTk hLf dl | exact Zh dl hTk hLf (hCt.1 rfl) | exact Va dl hTk hLf dl (hCt.2 rfl) hLd):p:=h
def eJ (h:p:=by intro hz; first | (exfalso; omega) | exact ⟨hPl2 du,mY hU du⟩):p:=h
def eK (h:p:=by first | exact ⟨Wu du,by simp⟩ | exact ⟨λy=>by rw [hlq]; exact We hRd dl du du y,by omega⟩):p:=h
def eL (h:p:=by first | exact hRi | exact oe hRi du):p:=h
def eM (h:p:=by intro h; first | (cases h; done) | omega):p:=h
def eN (h:p:=by first | assumption | exact (jn.of_nil dl).symm | (simp_all; done)):p:=h
def eO (h:p:=by (have hg0:=Vm hU du); exact Nd dl hU ⟨by omega,by omega,by omega,by unfold S7; omega⟩):p:=h
def eP (h:p:=by first | (refine ⟨by simp,?_⟩; simp; done) | exact ⟨by omega,λx hx=>hRo x (by simp_all)⟩):p:=h
def eQ (h:p:=by first | exact ⟨(jn.of_nil dl).symm,λ_=>jn.zV.mp dl,λ_=>rfl⟩ | exact ⟨by first | rfl | (simp; done),λh=>absurd h (hNN eH),λh=>by have:=jn.zV.mpr h; simp_all⟩):p:=h
def eR (h:p:=by exact hTu):p:=h
def eS (h:p:=by first | omega | (refine ⟨?_,?_⟩<;>omega)):p:=h
def eT (h:p:=by simp only [FZ]):p:=h
def eU (h:p:=by exact hZr):p:=h
def eV (h:p:=by exact hKu):p:=h
def eW (h:p:=by exact hKd):p:=h
def eX (h:p:=by first | exact ⟨by omega,λy hy=>.inl hy⟩ | exact ⟨by simp,λy hy=>(List.mem_append.mp hy).imp id (λhy=>by rw [List.mem_singleton.mp hy]; exact uC dl)⟩):p:=h
def eY (h:p:=by exact hT):p:=h
def eZ (h:p:=by exact qM.put (hC89 du).2.2.2.2.2.2.ln hLi2 dl dl):p:=h
def e8 (h:p:=by kernel_rfl):p:=h
def e9 (h:p:=by first | exact (Dx du).symm | exact (ur du dl dl).symm):p:=h
def fc (h:p:=by first | exact (Ff du).symm | exact (HC du dl dl).symm):p:=h
def fd (h:p:=by refine ⟨λh=>?_,λh=>?_⟩<;>first | (exfalso; omega) | exact ⟨_,by assumption,hB.1 rfl⟩ | exact mY hP du):p:=h
def fe (h:p:=by first | exact Ur hFd3 du V6 dl dl | (exfalso; omega)):p:=h
def ff (h:p:=by first | exact Ur hFd3 du hTw dl dl | (exfalso; omega)):p:=h
def fg (h:p:=by first | exact ⟨λ_=>Kr dl du,λh=>absurd h dt⟩ | exact ⟨λh=>absurd h dt,λ_=>Qo hU du⟩):p:=h
def fh (h:p:=by first | exact ⟨by simp,B2 hF dl rfl⟩ | exact ⟨by omega,Bp hF du (Eq.trans dl hX) du⟩):p:=h
def fi (h:p:=by first | exact ⟨λ_=>hIx.1 du,λh=>absurd h dt⟩ | exact ⟨λh=>absurd h dt,λ_=>hIx.2 du⟩):p:=h
def fj (h:p:=by first | exact hNw | exact oe hNw ⟨⟨_,by assumption,rfl⟩,by assumption,by assumption⟩):p:=h
def fk (h:p:=by first | (rw [(by assumption:look _ _=some _)]; rfl) | (rw [(by assumption:look _ _=none)]; rfl)):p:=h
def fo (h:p:=by first | assumption | omega | exact NI dl q1 (hC89 du) hD hR hN hNg du du (hLi.ok du) hLe):p:=h
def fp (h:p:=by intro h; first | assumption | (cases h; done)):p:=h
def fq (h:p:=by (unfold rm; grind)):p:=h
def fu (h:p:=by refine ⟨λh=>?_,λh=>?_⟩<;>first | (cases h; done) | exact hIx.1 du | exact hIx.2 du):p:=h
def fw (h:p:=by first | exact ⟨λ_=>Kr dl du,λh=>du⟩ | exact ⟨λh=>du,λ_=>Qo hU du⟩):p:=h
def fx (h:p:=by exact nI (P:=λe:jZ=>(1<=e.kind/\e.kind<=4)/\(e.kind=4->e.len=0)) dl hKd du):p:=h
def fy (h:p:=by first | exact ⟨λ_=>dl,λh=>absurd h dt⟩ | exact ⟨λh=>absurd h dt,λ_=>dl⟩):p:=h
def fz (h:p:=by refine ⟨λh=>?_,λh=>?_,λh=>?_⟩<;>first | (cases h; done) | assumption | rfl):p:=h
def fA (h:p:=by rw [<- hI]; first | (rw [DB dl dl dl]; rfl) | (rw [DH du]; rfl)):p:=h
def fC (h:p:=by exact hSg):p:=h
def fD (h:p:=by exact hPs):p:=h
def fE (h:p:=by exact hLf):p:=h
def fG (h:p:=by first | exact .inl ⟨_,by assumption⟩ | exact .inr ⟨by assumption,rfl⟩):p:=h
def fJ (h:p:=by first | (refine ⟨by simp,?_⟩; simp; done) | exact ⟨hR,by omega⟩):p:=h
def fK (h:p:=by exact CC hEr (Wt (G4 dl dl dl dl) (hTr du du) hSw du)):p:=h
def fM (h:p:=by first | exact TG (hG.2.2 rfl) | exact Tu (hG.2.1 rfl)):p:=h
def fP (h:p:=by exact TL hLe2):p:=h
def fQ (h:p:=by intro j h h2; first | exact hU j h du | (exfalso; omega)):p:=h
def fR (h:p:=by (first | omega | (simp only [List.length_set]; omega))):p:=h
def fS (h:p:=by first | exact Wa hOr dl du | exact Wo hOr du):p:=h
def fT (h:p:=by exact hLn2.put dl dl (adn du dl du) (by simp_all)):p:=h
def fU (h:p:=by exact nI (P:=λx:Int=>¬ x=a1) dl hU du):p:=h
def fV (h:p:=by exact Nt hKp hgB du hgA du (Se dl) du):p:=h
def fW (h:p:=by rfl):p:=h
def fX (h:p:=by grind [vv]):p:=h
def fY (h:p:=by exact TF hKp hgB du hgA du (DJ dl) du):p:=h
def fZ (h:p:=by exact rk (P:=λy:Bool=>y=true) hT rfl):p:=h
def ga (h:p:=by exact xG ⟨(kF:Row iu),d6,rfl⟩):p:=h
def gb (h:p:=by exact ⟨by omega,v12,l13,H15,(by exact TB hEn2 du du),du,hS16,(iO hS16 [(11,0)])⟩):p:=h
def gc (h:p:=by exact xG ⟨(kF:Row jJ),false,dK,rfl⟩):p:=h
def gd (h:p:=by exact ⟨by omega,v33,l34,H35,dm,ew,ed,hS36,(iO hS36 [(10,0)])⟩):p:=h
def ge (h:p:=by exact xB ⟨false,zt⟩):p:=h
def gf (h:p:=by exact ⟨by omega,atR⟩):p:=h
def gh (h:p:=by exact xB ⟨true,zt⟩):p:=h
def gi (h:p:=by exact xB ⟨false,dM,rfl⟩):p:=h
def gj (h:p:=by exact ⟨by omega,((put r21.l true l5)),H22,hS24,atR⟩):p:=h
def gk (h:p:=by exact ⟨.bool true,rfl,true,zT,Sep.iq hS25 _,rfl⟩):p:=h
def gl (h:p:=by exact ⟨by omega,((put r30.l true l5)),H31,hS33,atR⟩):p:=h
def gm (h:p:=by exact ⟨.bool false,rfl,false,zT,Sep.iq hS34 _,rfl⟩):p:=h
def gn (h:p:=by exact ⟨.str x2.name.l,rfl,x2.name,zT,Sep.iq hS3 _,rfl⟩):p:=h
def gp (h:p:=by exact xB ⟨false,dX,rfl⟩):p:=h
def gq (h:p:=by exact xB ⟨false,eB,rfl⟩):p:=h
def gr (h:p:=by exact xG ⟨(⟨0,0⟩:iz),false,dD,rfl⟩):p:=h
def gt (h:p:=by exact xG ⟨(⟨0,0⟩:iz),false,dU,rfl⟩):p:=h
def gu (h:p:=by exact xB ⟨(⟨(⟨[],by decide⟩:nu),0,0⟩:jZ),eD,rfl⟩):p:=h
def gv (h:p:=by exact xB ⟨true,d4,rfl⟩):p:=h
def gw (h:p:=by exact xB ⟨false,d4,rfl⟩):p:=h
def gx (h:p:=by exact xG ⟨(kF:Row Int),false,zt⟩):p:=h
def gy (h:p:=by exact xB ⟨0,zt⟩):p:=h
def gz (h:p:=by exact xB ⟨false,dZ,rfl⟩):p:=h
def gA (h:p:=by exact xB ⟨false,dz,rfl⟩):p:=h
def gB (h:p:=by exact ⟨_,hc,r0,⟨hp,hr⟩,rfl⟩):p:=h
def gC (h:p:=by exact xB ⟨false,eu,rfl⟩):p:=h
def gD (h:p:=by exact ⟨vs,(kr (vs:=[vs]) rfl (iN (Sep.arg (i:=0) hS rfl) jD)),vs,l,d9,Sep.iq hS2 _,rfl⟩):p:=h
def gE (h:p:=by exact ⟨v72,(kr (vs:=[v72]) rfl (iN (Sep.arg (i:=0) hS75 rfl) jD)),v72,((((l27.take ((n28).toNat)++List.replicate (l27.length - ((n28).toNat)) (⟨0,0⟩:iu))).take ((n28).toNat))),d9,Sep.iq hS76 _,rfl⟩):p:=h
def gF (h:p:=by exact ⟨vs,(kr (vs:=[vs]) rfl (iN (Sep.arg (i:=0) hS rfl) jD)),vs,l,d9,Sep.iq hS77 _,rfl⟩):p:=h
def gG (h:p:=by exact xG ⟨(kF:Row Int),d5,rfl⟩):p:=h
def gH (h:p:=by exact ⟨by omega,v20,l21,H22,dm,eL,dJ,hS23,(iO hS23 [(14,0)])⟩):p:=h
def gI (h:p:=by exact ⟨.bool true,rfl,true,zT,Sep.iq hS7 _,rfl⟩):p:=h
def gJ (h:p:=by exact ⟨.bool false,rfl,false,zT,Sep.iq hS8 _,rfl⟩):p:=h
def gK (h:p:=by exact ⟨.bool true,rfl,true,zT,Sep.iq hS2 _,rfl⟩):p:=h
def gL (h:p:=by exact ⟨.bool false,rfl,false,zT,Sep.iq hS3 _,rfl⟩):p:=h
def gM (h:p:=by exact xB ⟨false,dQ,rfl⟩):p:=h
def gN (h:p:=by exact xB ⟨false,dY,rfl⟩):p:=h
def gO (h:p:=by exact xG ⟨(kF:Row jC),dS,rfl⟩):p:=h
def gP (h:p:=by exact xG ⟨(⟨[(⟨0,0⟩:jC)],.exact 1,qx,rfl,nd⟩:Row jC),dS,rfl⟩):p:=h
def gQ (h:p:=by exact ⟨cb k2,rfl,((k2:Int)),zT,Sep.iq hS13 _,rfl⟩):p:=h
def gR (h:p:=by exact xB ⟨false,eM,rfl⟩):p:=h
def gS (h:p:=by exact xB ⟨1,dH,rfl⟩):p:=h
def gT (h:p:=by exact xG ⟨(⟨(⟨[],by decide⟩:nu),0,(⟨0,0⟩:iz),0⟩:kU),false,dR,rfl⟩):p:=h
def gU (h:p:=by exact xG ⟨(⟨x5.name,x5.jb,r7,0⟩:kU),true,dR,rfl⟩):p:=h
def gV (h:p:=by exact xG ⟨(⟨x5.name,x5.jb,r7,x5.left⟩:kU),true,dR,rfl⟩):p:=h
def gW (h:p:=by exact xG ⟨(⟨0,(kF:Row iz),0,0,0⟩:nS),1,dV,rfl⟩):p:=h
def gX (h:p:=by exact xG ⟨(⟨0,(kF:Row iz),0,0,0⟩:nS),7,dV,rfl⟩):p:=h
def gY (h:p:=by exact xG ⟨(⟨1,(⟨[a2.at_],.exact 1,qx,rfl,nd⟩:Row iz),0,0,0⟩:nS),0,dV,rfl⟩):p:=h
def gZ (h:p:=by exact xG ⟨(⟨0,(kF:Row iz),0,0,0⟩:nS),9,dV,rfl⟩):p:=h
def g5 (h:p:=by exact xG ⟨(⟨2,(⟨[a2.at_],.exact 1,qx,rfl,nd⟩:Row iz),a2.left,0,0⟩:nS),0,dV,rfl⟩):p:=h
def g6 (h:p:=by exact ⟨by omega,v11,l12,H13,dm,dC,hS14,(iO hS14 [(13,0)])⟩):p:=h
def g7 (h:p:=by exact xB ⟨(-1),dG,rfl⟩):p:=h
def g8 (h:p:=by exact xB ⟨false,dL,rfl⟩):p:=h
def g9 (h:p:=by exact ⟨by omega,eC,atR⟩):p:=h
def hZ (h:p:=by exact xB ⟨false,dN,rfl⟩):p:=h
def ia (h:p:=by exact xB ⟨false,eA,rfl⟩):p:=h
def ib (h:p:=by exact ⟨by omega,x6.at_,(by exact VW dl),eO,atR⟩):p:=h
def ic (h:p:=by exact ⟨by omega,b31,H32,fe,hS33,(iO hS33 [(11,0)])⟩):p:=h
def ig (h:p:=by exact ⟨by omega,true,dx,(iO hS52 [(11,1),(85,0)])⟩):p:=h
def ij (h:p:=by exact ⟨by omega,false,dx,(iO hS52 [(11,1),(85,0)])⟩):p:=h
def ik (h:p:=by exact xB ⟨3,dr,rfl⟩):p:=h
def im (h:p:=by exact xB ⟨(-1),dI,rfl⟩):p:=h
end
end Go.Sx
