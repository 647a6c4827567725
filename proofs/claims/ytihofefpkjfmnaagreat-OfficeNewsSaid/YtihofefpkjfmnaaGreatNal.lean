/- Proves rules for the walks and their soundness. -/
import Derived.Test.YtihofefpkjfmnaaGreatNag
set_option linter.all false
set_option maxRecDepth 100000
namespace Go.Sx
open Go
abbrev pk (n:kb) (c:kV) (d:dO) (a b e f:AV):List AV:=[.ip (kb.af n) 0 false,Row.av my.af c.kH.elems,Row.av mr.af c.kH.kB,Row.av lY.af c.kH.signals,Row.av lq.af c.kH.lines,iv c.kH.top,iv c.kH.lC,iv c.kH.lN,iv c.kH.lU,.bool c.kH.lZ,Row.av kq.af c.roads,iv d.nP,Row.av kR.af d.ko,Row.av kS.af d.runs,a,b,e,f]
abbrev mu {α:Type}:Row α:=⟨[],.nil,Nat.zero_le _,rfl,λ_=>rfl⟩
def zt {α:Sort _} {a:α}:True/\a=a:=⟨trivial,rfl⟩
def zT:True:=trivial
def rD {a b:Nat} (h:Nat.ble a b=true:=by rfl):a<=b:=Nat.le_of_ble_eq_true h
abbrev nu {α:Type} (enc:α->List AV) (n:Nat) (v:AV) (l:List α):lF:=.sl true true v n (List.map enc l)
abbrev oT {α:Type} (enc:α->List AV) (n:Nat) (v:AV) (l:List α):lF:=.sl true false v n (List.map enc l)
abbrev zsP {α:Type} (enc:α->List AV) (n:Nat) (v:AV) (l:List α):lF:=.sl false true v n (List.map enc l)
abbrev om (v:AV) (l:List Int):lF:=.sl true true v 1 (List.map kX l)
abbrev ki (b:Nat):AV:=.ptr b 0 0 0
abbrev lE (b:Nat) (c:List AV):lF:=.obj (.ptr b 0 0 0) c
abbrev m5 {κ β:Type} (b:Nat) (ek:κ->AV) (ev:β->AV) (l:List (κ×β)):lF:=.map (.hm b) (lP ek ev l)
abbrev ck (n:Nat):AV:=.int .i64 (n:Int)
abbrev kU (r:Row Int):AV:=Row.av kX r
abbrev lG (r:ka Int):AV:=ka.av kX r
abbrev ma (r:Row kn):AV:=Row.av kn.af r
abbrev ld (r:Row my):AV:=Row.av my.af r
abbrev lv (r:Row mr):AV:=Row.av mr.af r
abbrev nF (r:Row lD):AV:=Row.av lD.af r
abbrev kD (r:Row lq):AV:=Row.av lq.af r
abbrev lX (r:Row lI):AV:=Row.av lI.af r
abbrev pG (r:Row j7):AV:=Row.av j7.af r
abbrev kx (r:Row kq):AV:=Row.av kq.af r
abbrev lW (r:Row kS):AV:=Row.av kS.af r
abbrev lz (r:Row lY):AV:=Row.av lY.af r
abbrev kQ (r:Row kL):AV:=Row.av kL.af r
abbrev lH (r:Row kR):AV:=Row.av kR.af r
abbrev nJ (r:Row lL):AV:=Row.av lL.af r
abbrev vm (r:Row lV):AV:=Row.av lV.af r
section
variable {C:lS} {F:m0} {Pr:mM} {fa:kp} {e:Env} {h:bV} {all rest:List Oper} {o:Oper} {q:Env->bV->Prop} {sch:List (Nat×List Nat)} {i t u el:Nat} {x y:Operand} {k k':IntKind} {cl:Call} {ti te:TI} {α:Type} {enc : α->List AV} {H:bV} {ls:mR} {cs cs' new:List AV} {v:AV} {fs:List (Nat×Nat)} {off ft f j i' n:Nat} {wr tt:Bool} {l:List α}
def oq {p:Prop} {n:Nat} (h:oW.exact n=.nil):p:=by cases h
def kI {a b:Int} (w:mG C F Pr fa all rest q (kN e o (.int .i64 (a+b))) h) (ho:o.op=.binOp .add t x y u:=by rfl) (hw:kT all e o=some true:=by rfl) (hx:kz e x=.int .i64 a:=by rfl) (hy:kz e y=.int k' b:=by rfl) (hk:qN .i64 k'=true:=by rfl) (h1 : -9223372036854775808<=a+b:=by first | omega | (simp<;>omega) | (simp_all; omega)) (h2:a+b<=9223372036854775807:=by first | omega | (simp<;>omega) | (simp_all; omega)):mG C F Pr fa all (o::rest) q e h:=iS hw (λ_=>by rw [ho]; exact ml hx hy hk (G7 a b h1 h2)) w
def Zu {a b:Int} (w:mI C F Pr fa all sch q (kN e o (.int .i64 (a+b))) h) (hi:all[i]?=some o:=by rfl) (ho:o.op=.binOp .add t x y u:=by rfl) (hw:kT all e o=some true:=by rfl) (hx:kz e x=.int .i64 a:=by rfl) (hy:kz e y=.int k' b:=by rfl) (hk:qN .i64 k'=true:=by rfl) (h1 : -9223372036854775808<=a+b:=by first | omega | (simp<;>omega) | (simp_all; omega)) (h2:a+b<=9223372036854775807:=by first | omega | (simp<;>omega) | (simp_all; omega)):mI C F Pr fa all ((i,[])::sch) q e h:=kG hi hw (λ_=>by rw [ho]; exact ml hx hy hk (G7 a b h1 h2)) w
def pW {a b:Int} (w:mG C F Pr fa all rest q (kN e o (.int .i64 (a - b))) h) (ho:o.op=.binOp .sub t x y u:=by rfl) (hw:kT all e o=some true:=by rfl) (hx:kz e x=.int .i64 a:=by rfl) (hy:kz e y=.int k' b:=by rfl) (hk:qN .i64 k'=true:=by rfl) (h1 : -9223372036854775808<=a - b:=by first | omega | (simp<;>omega) | (simp_all; omega)) (h2:a - b<=9223372036854775807:=by first | omega | (simp<;>omega) | (simp_all; omega)):mG C F Pr fa all (o::rest) q e h:=iS hw (λ_=>by rw [ho]; exact ml hx hy hk (Hr a b h1 h2)) w
def SI {a b:Int} (w:mI C F Pr fa all sch q (kN e o (.int .i64 (a - b))) h) (hi:all[i]?=some o:=by rfl) (ho:o.op=.binOp .sub t x y u:=by rfl) (hw:kT all e o=some true:=by rfl) (hx:kz e x=.int .i64 a:=by rfl) (hy:kz e y=.int k' b:=by rfl) (hk:qN .i64 k'=true:=by rfl) (h1 : -9223372036854775808<=a - b:=by first | omega | (simp<;>omega) | (simp_all; omega)) (h2:a - b<=9223372036854775807:=by first | omega | (simp<;>omega) | (simp_all; omega)):mI C F Pr fa all ((i,[])::sch) q e h:=kG hi hw (λ_=>by rw [ho]; exact ml hx hy hk (Hr a b h1 h2)) w
def lx (r:Row α) (w:mG C F Pr fa all rest q (kN e o (.int .i64 r.l.length)) h) (ho:o.op=.call cl:=by rfl) (hw:kT all e o=some true:=by rfl) (hc:cl.callee=.builtin .len:=by rfl) (ha:cl.args.toList=[x]:=by rfl) (hts:cl.argTypes.toList=[t]:=by rfl) (hT:C.T t=some ti:=by rfl) (hk:ti.kind=.slice el:=by rfl) (hx:kz e x=r.av enc:=by rfl):mG C F Pr fa all (o::rest) q e h:=iS hw (λ_=>by rw [ho]; exact Hv hc ha hts hT hk hx) w
def xQ (r:Row α) (w:mI C F Pr fa all sch q (kN e o (.int .i64 r.l.length)) h) (hi:all[i]?=some o:=by rfl) (ho:o.op=.call cl:=by rfl) (hw:kT all e o=some true:=by rfl) (hc:cl.callee=.builtin .len:=by rfl) (ha:cl.args.toList=[x]:=by rfl) (hts:cl.argTypes.toList=[t]:=by rfl) (hT:C.T t=some ti:=by rfl) (hk:ti.kind=.slice el:=by rfl) (hx:kz e x=r.av enc:=by rfl):mI C F Pr fa all ((i,[])::sch) q e h:=kG hi hw (λ_=>by rw [ho]; exact Hv hc ha hts hT hk hx) w
def mB (n:Nat) (r:Row α) (hn:n<r.l.length) (w:mG C F Pr fa all rest q (kN e o (.ip (enc r.l[n]) 0 false)) h) (ho:o.op=.indexAddr t x y:=by rfl) (hw:kT all e o=some true:=by rfl) (hT:C.T t=some ti:=by rfl) (hk:ti.kind=.slice el:=by rfl) (hE:C.T el=some te:=by rfl) (hx:kz e x=r.av enc:=by rfl) (hi:kz e y=.int k (n:Int):=by rfl) (hl:(enc r.l[n]).length=te.size:=by rfl):mG C F Pr fa all (o::rest) q e h:=iS hw (λ_=>by rw [ho]; exact xn hT hk hE hx hi hn hl) w
def qV (n:Nat) (r:Row α) (hn:n<r.l.length) (w:mI C F Pr fa all sch q (kN e o (.ip (enc r.l[n]) 0 false)) h) (hi':all[i]?=some o:=by rfl) (ho:o.op=.indexAddr t x y:=by rfl) (hw:kT all e o=some true:=by rfl) (hT:C.T t=some ti:=by rfl) (hk:ti.kind=.slice el:=by rfl) (hE:C.T el=some te:=by rfl) (hx:kz e x=r.av enc:=by rfl) (hi:kz e y=.int k (n:Int):=by rfl) (hl:(enc r.l[n]).length=te.size:=by rfl):mI C F Pr fa all ((i,[])::sch) q e h:=kG hi' hw (λ_=>by rw [ho]; exact xn hT hk hE hx hi hn hl) w
def xB {A P:AV->Prop} {B:AV->AV->Prop} {x:AV} (p:P x) (a:A x:=by rfl) (b:B x x:=by rfl):∃ v,A v/\∃ w,B v w/\P w:=⟨x,a,x,b,p⟩
def xG {A P:AV->Prop} {B:AV->AV->Prop} {x:AV} (p:P x) (a:A x:=by rfl) (b:B x x:=by simp only [bY.af,my.af,j7.af,mr.af,lY.af,lq.af,kR.af,lD.af,kS.af,dO.af,kL.af,lI.af,kq.af,nh.af,lV.af,mA.af,kb.af,pQ.af,kV.af,D1.af,lL.af,kn.af,FZ]<;>rfl):∃ v,A v/\∃ w,B v w/\P w:=⟨x,a,x,b,p⟩
def pC (i:Nat) {L:List lF} (hS:Sep H L) (w:mG C F Pr fa all rest q (kN e o (pM v (j+off))) h) (ho:o.op=.fieldAddr t x f:=by rfl) (hw:kT all e o=some true:=by rfl) (hi:L[i]?=some (.obj v cs):=by rfl) (hT:C.T t=some ti:=by rfl) (hk:ti.kind=.struct fs:=by rfl) (hf:fs[f]?=some (off,ft):=by rfl) (hx:kz e x=pM v j:=by rfl):mG C F Pr fa all (o::rest) q e h:=iS hw (λ_=>by rw [ho]; exact qH hS hi hT hk hf hx) w
def sV (i:Nat) {L:List lF} (hS:Sep H L) (w:mI C F Pr fa all sch q (kN e o (pM v (j+off))) h) (hj:all[i']?=some o:=by rfl) (ho:o.op=.fieldAddr t x f:=by rfl) (hw:kT all e o=some true:=by rfl) (hi:L[i]?=some (.obj v cs):=by rfl) (hT:C.T t=some ti:=by rfl) (hk:ti.kind=.struct fs:=by rfl) (hf:fs[f]?=some (off,ft):=by rfl) (hx:kz e x=pM v j:=by rfl):mI C F Pr fa all ((i',[])::sch) q e h:=kG hj hw (λ_=>by rw [ho]; exact qH hS hi hT hk hf hx) w
def Hd (i:Nat) {L:List lF} (hS:Sep H L) (w:mG C F Pr fa all rest q (kN e o (pM v j)) h) (ho:o.op=.nilCheck x:=by rfl) (hw:kT all e o=some true:=by rfl) (hi:L[i]?=some (.obj v cs):=by rfl) (hx:kz e x=pM v j:=by rfl):mG C F Pr fa all (o::rest) q e h:=iS hw (λ_=>by rw [ho]; exact rl hS hi hx) w
def uN (i:Nat) {L:List lF} (hS:Sep H L) (w:mI C F Pr fa all sch q (kN e o (pM v j)) h) (hj:all[i']?=some o:=by rfl) (ho:o.op=.nilCheck x:=by rfl) (hw:kT all e o=some true:=by rfl) (hi:L[i]?=some (.obj v cs):=by rfl) (hx:kz e x=pM v j:=by rfl):mI C F Pr fa all ((i',[])::sch) q e h:=kG hj hw (λ_=>by rw [ho]; exact rl hS hi hx) w
def nB (i:Nat) {L:List lF} (hS:Sep H L) (r:AV) (w:mG C F Pr fa all rest q (kN e o r) h) (ho:o.op=.load t x:=by rfl) (hw:kT all e o=some true:=by rfl) (hi:L[i]?=some (.obj v cs):=by rfl) (hT:C.T t=some ti:=by rfl) (hx:kz e x=pM v j:=by rfl) (hp:part ti cs j=some r:=by rfl) (hh:h = { H with cT:=ls }:=by rfl):mG C F Pr fa all (o::rest) q e h:=by subst hh; exact iS hw (λ_=>by rw [ho]; exact nY hS hi hT hp hx) w
def sZ (i:Nat) {L:List lF} (hS:Sep H L) (r:AV) (w:mI C F Pr fa all sch q (kN e o r) h) (hj:all[i']?=some o:=by rfl) (ho:o.op=.load t x:=by rfl) (hw:kT all e o=some true:=by rfl) (hi:L[i]?=some (.obj v cs):=by rfl) (hT:C.T t=some ti:=by rfl) (hx:kz e x=pM v j:=by rfl) (hp:part ti cs j=some r:=by rfl) (hh:h = { H with cT:=ls }:=by rfl):mI C F Pr fa all ((i',[])::sch) q e h:=by subst hh; exact kG hj hw (λ_=>by rw [ho]; exact nY hS hi hT hp hx) w
def F4 (i:Nat) {L:List lF} (hS:Sep H L) (r:AV) (w:∀ H',Sep H' (L.set i (.obj v cs'))->mG C F Pr fa all rest q (kN e o .undef) { H' with cT:=ls }) (ho:o.op=.store t x y:=by rfl) (hw:kT all e o=some true:=by rfl) (hi:L[i]?=some (.obj v cs):=by rfl) (hT:C.T t=some ti:=by rfl) (hx:kz e x=pM v j:=by rfl) (hy:kz e y=r:=by rfl) (hn:cellsOf ti r=some new:=by rfl) (hok:new.all AV.mE=true:=by rfl) (hsp:pg cs j new=some cs':=by rfl) (hh:h = { H with cT:=ls }:=by rfl):mG C F Pr fa all (o::rest) q e h:=by subst hh; exact kM hw (by rw [ho]; exact nZ hS hi hT hx hy hn hok hsp) (λ_ H' h=>by obtain ⟨rfl,h⟩:=h; exact w H' h)
def Zt (i:Nat) {L:List lF} (hS:Sep H L) (r:AV) (w:∀ H',Sep H' (L.set i (.obj v cs'))->mI C F Pr fa all sch q (kN e o .undef) { H' with cT:=ls }) (hj:all[i']?=some o:=by rfl) (ho:o.op=.store t x y:=by rfl) (hw:kT all e o=some true:=by rfl) (hi:L[i]?=some (.obj v cs):=by rfl) (hT:C.T t=some ti:=by rfl) (hx:kz e x=pM v j:=by rfl) (hy:kz e y=r:=by rfl) (hn:cellsOf ti r=some new:=by rfl) (hok:new.all AV.mE=true:=by rfl) (hsp:pg cs j new=some cs':=by rfl) (hh:h = { H with cT:=ls }:=by rfl):mI C F Pr fa all ((i',[])::sch) q e h:=by subst hh; exact mP hj hw (by rw [ho]; exact nZ hS hi hT hx hy hn hok hsp) (λ_ H' h=>by obtain ⟨rfl,h⟩:=h; exact w H' h)
def KG (i:Nat) (ys:List α) {L:List lF} (hS:Sep H L) (w:∀ v' H',Sep H' (L.set i (.sl wr tt v' n ((l++ys).map enc)))->mG C F Pr fa all rest q (kN e o v') { H' with cT:=ls }) (ho:o.op=.call cl:=by rfl) (hw:kT all e o=some true:=by rfl) (hi:L[i]?=some (.sl wr tt v n (l.map enc)):=by rfl) (hc:cl.callee=.builtin .append:=by rfl) (ha:cl.args.toList=[x,y]:=by rfl) (hts:cl.argTypes.toList=[t,u]:=by rfl) (hT:sM C [t,u]=some ti:=by rfl) (hSr:Fx C [t,u]=true:=by rfl) (hn:ti.size=n:=by rfl) (hs:kz e x=v:=by rfl) (hx:rM { H with cT:=ls } (kz e y)=some (ys.map enc):=by rfl) (hok:∀ y,(enc y).all AV.mE=true:=by exact λ_=>rfl) (ht:tt=true\/ys.length=1:=by first | exact .inl rfl | exact .inr rfl) (hm:l.length+ys.length<=tV:=by simp only [tV]; first | omega | (simp<;>omega)) (henc:∀ x,(enc x).length=n:=by exact λ_=>rfl) (hh:h = { H with cT:=ls }:=by rfl):mG C F Pr fa all (o::rest) q e h:=by subst hh; exact kM hw (by rw [ho]; exact lO ys hS hi hc ha hts hT hSr hn hs hx hok ht hm henc) (λv' H' h=>w v' H' h)
end
section
variable {p q:Prop}
def aa (w:q) (h:q->p:=by intro w_;refine qq ?_;refine qg ?_;exact w_):p:=h w
def ab (w:q) (h:q->p:=by intro w_;refine oV ?_;refine oN ?_;exact w_):p:=h w
def ac (w:q) (h:q->p:=by intro w_;refine qT ?_;refine qq ?_;refine qg ?_;refine oV ?_;refine oN ?_;refine qr ?_;exact w_):p:=h w
def ae (w:q) (h:q->p:=by intro w_;refine qq ?_;refine qg ?_;(iterate 2 refine oV ?_);exact w_):p:=h w
def ag (w:q) (h:q->p:=by intro w_;refine oV ?_;refine oN ?_;refine qr ?_;exact w_):p:=h w
def ah (w:q) (h:q->p:=by intro w_;refine oN ?_;refine qs ?_;refine qF ?_;refine qe ?_;exact w_):p:=h w
def ai (w:q) (h:q->p:=by intro w_;refine oN ?_;refine qs ?_;refine qT ?_;refine qk ?_;exact w_):p:=h w
def aj (w:q) (h:q->p:=by intro w_;refine qq ?_;refine qg ?_;refine oV ?_;exact w_):p:=h w
def ak (w:q) (h:q->p:=by intro w_;refine oV ?_;refine oN ?_;refine qs ?_;refine qq ?_;refine qg ?_;refine oV ?_;exact w_):p:=h w
def am (w:q) (h:q->p:=by intro w_;refine qs ?_;refine qq ?_;refine qg ?_;refine oV ?_;exact w_):p:=h w
def ao (w:q) (h:q->p:=by intro w_;(iterate 2 refine oV ?_);exact w_):p:=h w
def ap (w:q) (h:q->p:=by intro w_;refine oV ?_;refine oN ?_;refine qF ?_;refine qk ?_;exact w_):p:=h w
def aq (w:q) (h:q->p:=by intro w_;refine oV ?_;refine oN ?_;refine qT ?_;refine qq ?_;refine qg ?_;refine oV ?_;refine oN ?_;refine qr ?_;exact w_):p:=h w
def au (w:q) (h:q->p:=by intro w_;refine oN ?_;refine qF ?_;refine qk ?_;exact w_):p:=h w
def aw (w:q) (h:q->p:=by intro w_;refine qs ?_;refine qb ?_;exact w_):p:=h w
def ay (w:q) (h:q->p:=by intro w_;refine oN ?_;refine qT ?_;exact w_):p:=h w
def az (w:q) (h:q->p:=by intro w_;(iterate 2 refine oV ?_);(iterate 3 refine oS ?_);(iterate 2 refine oV ?_);(iterate 3 refine oS ?_);exact w_):p:=h w
def aA (w:q) (h:q->p:=by intro w_;(iterate 2 refine oV ?_);(iterate 3 refine oS ?_);(iterate 2 refine oV ?_);(iterate 3 refine oS ?_);(iterate 2 refine oV ?_);exact w_):p:=h w
def aB (w:q) (h:q->p:=by intro w_;(iterate 3 refine oS ?_);(iterate 2 refine oV ?_);(iterate 3 refine oS ?_);(iterate 2 refine oV ?_);(iterate 3 refine oS ?_);exact w_):p:=h w
def aC (w:q) (h:q->p:=by intro w_;refine oV ?_;refine oN ?_;refine qb ?_;exact w_):p:=h w
def aD (w:q) (h:q->p:=by intro w_;(iterate 3 refine oV ?_);exact w_):p:=h w
def aE (w:q) (h:q->p:=by intro w_;refine rR hA ?_;refine qq ?_;refine qg ?_;exact w_):p:=h w
def aF (w:q) (h:q->p:=by intro w_;refine qq ?_;refine qg ?_;(iterate 3 refine oV ?_);refine oN ?_;refine qr ?_;exact w_):p:=h w
def aG (w:q) (h:q->p:=by intro w_;refine oN ?_;refine qT ?_;refine qq ?_;refine qg ?_;(iterate 3 refine oV ?_);refine oN ?_;refine qr ?_;exact w_):p:=h w
def aH (w:q) (h:q->p:=by intro w_;refine oN ?_;refine qT ?_;refine qq ?_;refine qg ?_;(iterate 2 refine oV ?_);refine oN ?_;refine qr ?_;exact w_):p:=h w
def aI (w:q) (h:q->p:=by intro w_;refine qq ?_;refine qg ?_;(iterate 3 refine oV ?_);exact w_):p:=h w
def aJ (w:q) (h:q->p:=by intro w_;refine qg ?_;refine oV ?_;exact w_):p:=h w
def aK (w:q) (h:q->p:=by intro w_;(iterate 2 refine rV ?_);exact w_):p:=h w
def aL (w:q) (h:q->p:=by intro w_;refine oN ?_;refine qF ?_;refine qe ?_;exact w_):p:=h w
def aM (w:q) (h:q->p:=by intro w_;(iterate 4 refine oV ?_);exact w_):p:=h w
def aN (w:q) (h:q->p:=by intro w_;refine oV ?_;refine oN ?_;refine qq ?_;refine qg ?_;refine oV ?_;exact w_):p:=h w
def aO (w:q) (h:q->p:=by intro w_;refine qq ?_;refine qd ?_;exact w_):p:=h w
def aP (w:q) (h:q->p:=by intro w_;refine rV ?_;refine rN ?_;exact w_):p:=h w
def aQ (w:q) (h:q->p:=by intro w_;(iterate 5 refine oV ?_);exact w_):p:=h w
def aR (w:q) (h:q->p:=by intro w_;refine qs ?_;refine qq ?_;refine qg ?_;(iterate 2 refine oV ?_);exact w_):p:=h w
def aS (w:q) (h:q->p:=by intro w_;(iterate 2 refine oV ?_);(iterate 4 refine oS ?_);exact w_):p:=h w
def aU (w:q) (h:q->p:=by intro w_;refine qq ?_;refine qg ?_;refine oV ?_;refine oN ?_;refine qr ?_;exact w_):p:=h w
def aV (w:q) (h:q->p:=by intro w_;refine qq ?_;refine qg ?_;(iterate 2 refine oV ?_);refine oN ?_;exact w_):p:=h w
def aW (w:q) (h:q->p:=by intro w_;(iterate 2 refine oV ?_);refine oN ?_;refine qF ?_;refine qk ?_;refine qq ?_;refine qg ?_;(iterate 8 refine oV ?_);refine oN ?_;refine qs ?_;refine qq ?_;refine qg ?_;refine oV ?_;exact w_):p:=h w
def aX (w:q) (h:q->p:=by intro w_;refine oN ?_;refine qT ?_;refine qg ?_;(iterate 2 refine oV ?_);refine oN ?_;refine qq ?_;refine qg ?_;(iterate 3 refine oV ?_);refine oN ?_;refine qr ?_;exact w_):p:=h w
def aY (w:q) (h:q->p:=by intro w_;refine qq ?_;refine qg ?_;refine oV ?_;refine oN ?_;refine qs ?_;refine qq ?_;refine qg ?_;refine oV ?_;exact w_):p:=h w
def aZ (w:q) (h:q->p:=by intro w_;refine oN ?_;refine qT ?_;refine qq ?_;refine qg ?_;refine oV ?_;refine oN ?_;refine qr ?_;exact w_):p:=h w
def a6 (w:q) (h:q->p:=by intro w_;refine iS rfl (λ_=>ml rfl rfl rfl (uv .i64 a2.left a1)) ?_;refine oV ?_;exact w_):p:=h w
def a8 (w:q) (h:q->p:=by intro w_;refine oN ?_;refine qT ?_;refine qk ?_;refine qs ?_;refine qb ?_;exact w_):p:=h w
def ba (w:q) (h:q->p:=by intro w_;refine oV ?_;refine oN ?_;refine qT ?_;exact w_):p:=h w
def bb (w:q) (h:q->p:=by intro w_;(iterate 2 refine oV ?_);(iterate 2 refine oS ?_);exact w_):p:=h w
def bc (w:q) (h:q->p:=by intro w_;refine oN ?_;refine qs ?_;refine qT ?_;refine qk ?_;refine qs ?_;refine qb ?_;exact w_):p:=h w
def bd (w:q) (h:q->p:=by intro w_;(iterate 2 refine oV ?_);refine oN ?_;refine qr ?_;exact w_):p:=h w
def be (w:q) (h:q->p:=by intro w_;refine oV ?_;refine oN ?_;refine qF ?_;refine qq ?_;refine qg ?_;exact w_):p:=h w
def bf (w:q) (h:q->p:=by intro w_;refine oV ?_;refine oN ?_;refine qF ?_;refine qk ?_;refine wz [.fm (lP pK pK a1) false,.la 2 0,(.hm b1),.la 7 0,lz a0.signals,ck a0.signals.l.length,ck k5] H7 [(2,(bY.af a0)),(7,(lY.af x11))] ?_;exact w_):p:=h w
def bg (w:q) (h:q->p:=by intro w_;refine rR hA ?_;refine qs ?_;refine qq ?_;refine qg ?_;(iterate 3 refine oV ?_);exact w_):p:=h w
def bh (w:q) (h:q->p:=by intro w_;(iterate 2 refine rV ?_);refine rN ?_;refine qr ?_;exact w_):p:=h w
def bi (w:q) (h:q->p:=by intro w_;refine oV ?_;refine oN ?_;refine qq ?_;refine qg ?_;(iterate 2 refine oV ?_);exact w_):p:=h w
def bj (w:q) (h:q->p:=by intro w_;refine oV ?_;(iterate 2 refine oS ?_);exact w_):p:=h w
def bk (w:q) (h:q->p:=by intro w_;refine oV ?_;(iterate 4 refine oS ?_);exact w_):p:=h w
def bo (w:q) (h:q->p:=by intro w_;refine qs ?_;refine qq ?_;refine qg ?_;refine oV ?_;refine oN ?_;refine qb ?_;exact w_):p:=h w
def bp (w:q) (h:q->p:=by intro w_;refine qs ?_;refine qq ?_;refine qg ?_;exact w_):p:=h w
def br (w:q) (h:q->p:=by intro w_;refine iS rfl (λ_=>rl (i:=0) hS rfl rfl) ?_;refine iS rfl (λ_=>qH (i:=0) hS rfl rfl rfl rfl rfl) ?_;exact w_):p:=h w
def bu (w:q) (h:q->p:=by intro w_;refine qg ?_;(iterate 3 refine oV ?_);exact w_):p:=h w
def bv (w:q) (h:q->p:=by intro w_;refine oN ?_;refine qF ?_;refine qk ?_;refine qg ?_;exact w_):p:=h w
def bw (w:q) (h:q->p:=by intro w_;(iterate 2 refine oV ?_);refine oN ?_;refine qT ?_;refine qq ?_;refine qg ?_;refine oV ?_;refine oN ?_;refine qr ?_;exact w_):p:=h w
def bz (w:q) (h:q->p:=by intro w_;refine rV ?_;refine rN ?_;refine qF ?_;refine qk ?_;exact w_):p:=h w
def bA (w:q) (h:q->p:=by intro w_;(iterate 3 refine rV ?_);exact w_):p:=h w
def bB (w:q) (h:q->p:=by intro w_;(iterate 6 refine oV ?_);refine oN ?_;refine qq ?_;refine qg ?_;refine oV ?_;exact w_):p:=h w
def bC (w:q) (h:q->p:=by intro w_;refine qq ?_;refine qg ?_;refine oV ?_;refine oN ?_;exact w_):p:=h w
def bD (w:q) (h:q->p:=by intro w_;refine wz [iv a3,iv a4,.la 5 0,.la 7 0,.la 10 0,.la 25 0,.agg (List.map AV.bool l31),ck k64] H67 [(5,(bY.af a0)),(7,(dO.af a2)),(10,[iN,iv 0]),(25,[v65,iv (-1)])] ?_;refine qg ?_;exact w_):p:=h w
def bE (w:q) (h:q->p:=by intro w_;refine oN ?_;refine qs ?_;refine qF ?_;refine qe ?_;refine qq ?_;refine qg ?_;refine oV ?_;refine oN ?_;refine qr ?_;exact w_):p:=h w
def bF (w:q) (h:q->p:=by intro w_;(iterate 2 refine oV ?_);refine oN ?_;exact w_):p:=h w
def bG (w:q) (h:q->p:=by intro w_;(iterate 6 refine rV ?_);refine rN ?_;exact w_):p:=h w
def bH (w:q) (h:q->p:=by intro w_;(iterate 5 refine rV ?_);exact w_):p:=h w
def bI (w:q) (h:q->p:=by intro w_;refine wz [.fm (lP pK pK a1) false,.la 2 0,(.hm b1),.la 7 0,iv x21,kD a0.lines,ck a0.lines.l.length,ck k5,kU x11.elems,ck x11.elems.l.length,ck k15] H17 [(2,(bY.af a0)),(7,(lq.af x11))] ?_;refine qg ?_;(iterate 2 refine oV ?_);refine kM rfl (oK (i:=0) (ek:=iK) (ev:=bK) (l:=l16) x21 true hS18 rfl rfl rfl rfl rfl rfl pD) ?_;exact w_):p:=h w
def bJ (w:q) (h:q->p:=by intro w_;refine qq ?_;refine qg ?_;(iterate 4 refine oV ?_);exact w_):p:=h w
def bL (w:q) (h:q->p:=by intro w_;(iterate 2 refine oV ?_);(iterate 5 refine oS ?_);exact w_):p:=h w
def bM (w:q) (h:q->p:=by intro w_;(iterate 3 refine oV ?_);refine oN ?_;exact w_):p:=h w
def bN (w:q) (h:q->p:=by intro w_;(iterate 2 refine oV ?_);(iterate 9 refine oS ?_);exact w_):p:=h w
def bO (w:q) (h:q->p:=by intro w_;(iterate 6 refine oV ?_);refine oN ?_;refine qs ?_;refine qq ?_;refine qg ?_;refine oV ?_;exact w_):p:=h w
def bP (w:q) (h:q->p:=by intro w_;(iterate 2 refine oV ?_);(iterate 4 refine oS ?_);refine oV ?_;refine oN ?_;refine qT ?_;refine qq ?_;refine qg ?_;refine oV ?_;refine oN ?_;refine qr ?_;exact w_):p:=h w
def bQ (w:q) (h:q->p:=by intro w_;refine qs ?_;refine qb ?_;refine qq ?_;refine qg ?_;exact w_):p:=h w
def bR (w:q) (h:q->p:=by intro w_;refine qq ?_;refine qg ?_;refine kM (H:=bV.empty) rfl (sa lJ rfl rfl rfl rfl rfl) ?_;exact w_):p:=h w
def bS (w:q) (h:q->p:=by intro w_;refine oN ?_;refine wy [iv a3,iv a4,.la 5 0,.la 7 0,.la 10 0,.la 11 0,.bool b37,kD a0.lines,ck a0.lines.l.length,ck k30,kU x34.elems,ck x34.elems.l.length,ck k47] [(5,(bY.af a0)),(7,(dO.af a2)),(10,[iN,iv 0]),(11,(List.map AV.bool (l48.set ((x51).toNat) true)))] ?_;refine qg ?_;exact w_):p:=h w
def bT (w:q) (h:q->p:=by intro w_;refine qq ?_;refine qg ?_;(iterate 2 refine oV ?_);refine oN ?_;refine qr ?_;exact w_):p:=h w
def bU (w:q) (h:q->p:=by intro w_;(iterate 4 refine oV ?_);refine oN ?_;refine qr ?_;exact w_):p:=h w
def bW (w:q) (h:q->p:=by intro w_;(iterate 2 refine oV ?_);refine oN ?_;refine wy [iv a3,iv a4,.la 5 0,.la 7 0,.la 10 0,.la 11 0,.la 19 0,.bool true,kD a0.lines,ck a0.lines.l.length,ck k30,kU x34.elems,ck x34.elems.l.length,ck k36] [(5,(bY.af a0)),(7,(dO.af a2)),(10,[iN,iv 0]),(11,(List.map AV.bool l31)),(19,(lq.af x34))] ?_;refine qg ?_;exact w_):p:=h w
def bX (w:q) (h:q->p:=by intro w_;refine oV ?_;(iterate 3 refine oS ?_);exact w_):p:=h w
def bZ (w:q) (h:q->p:=by intro w_;refine qq ?_;refine qd ?_;(iterate 2 refine rV ?_);exact w_):p:=h w
def b5 (w:q) (h:q->p:=by intro w_;refine oV ?_;(iterate 5 refine oS ?_);exact w_):p:=h w
def b8 (w:q) (h:q->p:=by intro w_;refine oV ?_;refine oN ?_;refine qF ?_;refine qk ?_;refine wy [kx a1,iv a3,iv a4,.la 5 0,.la 7 0,.la 10 0,.la 11 0] [(5,(bY.af a0)),(7,(dO.af a2)),(10,[iN,iN]),(11,[iN,iN])] ?_;exact w_):p:=h w
def cb (w:q) (h:q->p:=by intro w_;refine oN ?_;refine qT ?_;refine qk ?_;exact w_):p:=h w
def ce (w:q) (h:q->p:=by intro w_;refine rV ?_;refine rN ?_;refine qT ?_;exact w_):p:=h w
def cf (w:q) (h:q->p:=by intro w_;(iterate 2 refine oV ?_);refine oN ?_;refine qF ?_;refine qk ?_;exact w_):p:=h w
def cg (w:q) (h:q->p:=by intro w_;refine oN ?_;refine qT ?_;refine qg ?_;(iterate 2 refine oV ?_);refine iS rfl (λ_=>ml rfl rfl rfl (rW .i64 1 r7.en)) ?_;(iterate 2 refine oV ?_);refine oN ?_;refine wy [.ip (kb.af a0) 0 false,.la 11 0] [(11,[iv r7.elem,iv (IntKind.i64.wrap (1 - r7.en))])] ?_;refine qq ?_;refine qg ?_;(iterate 2 refine oV ?_);refine oC (t181 a0 (⟨r7.elem,(IntKind.i64.wrap (1 - r7.en))⟩:j7)) ?_;exact w_):p:=h w
def ci (w:q) (h:q->p:=by intro w_;refine qg ?_;(iterate 2 refine oV ?_);exact w_):p:=h w
def cm (w:q) (h:q->p:=by intro w_;refine oN ?_;refine qs ?_;refine qT ?_;refine qk ?_;refine qs ?_;refine qb ?_;refine qq ?_;refine qg ?_;exact w_):p:=h w
def co (w:q) (h:q->p:=by intro w_;(iterate 2 refine rV ?_);(iterate 7 refine rS ?_);(iterate 2 refine rV ?_);refine rN ?_;refine qr ?_;exact w_):p:=h w
def cq (w:q) (h:q->p:=by intro w_;refine qs ?_;refine qq ?_;refine qg ?_;(iterate 3 refine oV ?_);exact w_):p:=h w
def cr (w:q) (h:q->p:=by intro w_;(iterate 3 refine oV ?_);refine oN ?_;refine qr ?_;exact w_):p:=h w
def ct (w:q) (h:q->p:=by intro w_;refine wz [.la 10 0,.la 10 0,.la 11 0] H40 [(10,[iN,iN]),(10,[iN,iN]),(11,[iN,v37])] ?_;refine qq ?_;refine qg ?_;refine oV ?_;refine iS rfl (λ_=>pd rfl rfl rfl rfl (j8 rfl (j8 (Sep.cell (i:=0) hS41 rfl) kK)) rfl rfl) ?_;refine oN ?_;refine qr ?_;exact w_):p:=h w
def cu (w:q) (h:q->p:=by intro w_;refine rR hA ?_;refine qs ?_;refine qq ?_;refine qg ?_;(iterate 2 refine oV ?_);exact w_):p:=h w
def cw (w:q) (h:q->p:=by intro w_;refine qs ?_;refine qb ?_;refine qq ?_;refine qg ?_;refine oV ?_;exact w_):p:=h w
def cy (w:q) (h:q->p:=by intro w_;refine qq ?_;refine qg ?_;(iterate 3 refine oV ?_);refine oN ?_;exact w_):p:=h w
def cz (w:q) (h:q->p:=by intro w_;refine oN ?_;refine qF ?_;refine qk ?_;refine qq ?_;refine qg ?_;(iterate 3 refine oV ?_);refine oN ?_;refine qr ?_;exact w_):p:=h w
def cA (w:q) (h:q->p:=by intro w_;refine oV ?_;refine oN ?_;refine qT ?_;refine qq ?_;refine qg ?_;(iterate 2 refine oV ?_);refine oN ?_;refine qr ?_;exact w_):p:=h w
def cB (w:q) (h:q->p:=by intro w_;refine oV ?_;refine oN ?_;refine qT ?_;refine qq ?_;refine qg ?_;(iterate 3 refine oV ?_);refine oN ?_;refine qr ?_;exact w_):p:=h w
def cC (w:q) (h:q->p:=by intro w_;(iterate 2 refine rV ?_);(iterate 3 refine rS ?_);(iterate 2 refine rV ?_);(iterate 11 refine rS ?_);(iterate 2 refine rV ?_);refine rN ?_;refine qr ?_;exact w_):p:=h w
def cD (w:q) (h:q->p:=by intro w_;(iterate 2 refine oV ?_);(iterate 8 refine oS ?_);exact w_):p:=h w
def cE (w:q) (h:q->p:=by intro w_;refine oV ?_;refine oN ?_;refine qF ?_;refine qk ?_;refine qg ?_;exact w_):p:=h w
def cF (w:q) (h:q->p:=by intro w_;refine Hd 4 hS50 ?_;refine pC 4 hS50 ?_;refine nB 4 hS50 v43 ?_;refine iS rfl (λ_=>nO (H:=H49) (i:=1) (l:=l44) (enc:=kL.af) hS50 rfl rfl rfl rfl rfl rfl rfl) ?_;exact w_):p:=h w
def cG (w:q) (h:q->p:=by intro w_;(iterate 4 refine oV ?_);refine oN ?_;exact w_):p:=h w
def cH (w:q) (h:q->p:=by intro w_;(iterate 6 refine rV ?_);exact w_):p:=h w
def cI (w:q) (h:q->p:=by intro w_;refine oV ?_;(iterate 9 refine oS ?_);(iterate 3 refine oV ?_);refine oN ?_;refine qF ?_;refine qq ?_;refine qg ?_;refine oV ?_;exact w_):p:=h w
def cJ (w:q) (h:q->p:=by intro w_;refine iS rfl (λ_=>nA (r:=a0) (enc:=kn.af) rfl rfl rfl rfl rfl rfl) ?_;refine oV ?_;refine oN ?_;refine qb ?_;exact w_):p:=h w
def cL (w:q) (h:q->p:=by intro w_;refine iS rfl (λ_=>nA (r:=l) (enc:=kS.af) rfl rfl rfl rfl rfl rfl) ?_;refine oV ?_;refine oN ?_;refine qb ?_;exact w_):p:=h w
def cM (w:q) (h:q->p:=by intro w_;refine qq ?_;refine qd ?_;refine rV ?_;exact w_):p:=h w
def cN (w:q) (h:q->p:=by intro w_;refine oN ?_;refine qr ?_;exact w_):p:=h w
def cO (w:q) (h:q->p:=by intro w_;refine qq ?_;refine qg ?_;refine oV ?_;refine oN ?_;refine qq ?_;refine qg ?_;(iterate 2 refine oV ?_);exact w_):p:=h w
def cP (w:q) (h:q->p:=by intro w_;(iterate 5 refine oV ?_);refine oN ?_;refine qs ?_;refine qq ?_;refine qg ?_;refine oV ?_;exact w_):p:=h w
def cQ (w:q) (h:q->p:=by intro w_;refine qq ?_;refine qg ?_;(iterate 2 refine nB 4 hS76 v68 ?_);refine iS rfl (λ_=>nO (H:=H75) (i:=3) (l:=l69) (enc:=j7.af) hS76 rfl rfl rfl rfl rfl rfl rfl) ?_;exact w_):p:=h w
def cR (w:q) (h:q->p:=by intro w_;refine qq ?_;refine qd ?_;(iterate 3 refine rV ?_);exact w_):p:=h w
def cU (w:q) (h:q->p:=by intro w_;(iterate 2 refine rV ?_);(iterate 6 refine rS ?_);exact w_):p:=h w
def cV (w:q) (h:q->p:=by intro w_;refine qq ?_;refine qg ?_;refine kM rfl (pX lJ) ?_;exact w_):p:=h w
def cW (w:q) (h:q->p:=by intro w_;(iterate 4 refine rV ?_);exact w_):p:=h w
def cX (w:q) (h:q->p:=by intro w_;(iterate 6 refine oV ?_);refine oN ?_;refine qq ?_;refine qd ?_;exact w_):p:=h w
def cY (w:q) (h:q->p:=by intro w_;refine qq ?_;refine qg ?_;refine iS rfl (λ_=>qH (i:=0) hS rfl rfl rfl rfl rfl) ?_;exact w_):p:=h w
def cZ (w:q) (h:q->p:=by intro w_;refine oV ?_;refine oN ?_;refine qT ?_;refine qe ?_;exact w_):p:=h w
def c3 (w:q) (h:q->p:=by intro w_;refine qq ?_;refine qd ?_;(iterate 6 refine rV ?_);refine rC (t91 a0 a2 a3 a4) ?_;exact w_):p:=h w
def c6 (w:q) (h:q->p:=by intro w_;refine rN ?_;refine qF ?_;refine qk ?_;exact w_):p:=h w
def c7 (w:q) (h:q->p:=by intro w_;(iterate 6 refine oV ?_);exact w_):p:=h w
def c8 (w:q) (h:q->p:=by intro w_;refine oN ?_;refine qs ?_;refine qT ?_;refine qk ?_;refine qs ?_;refine qb ?_;refine qq ?_;refine qg ?_;(iterate 2 refine oV ?_);refine oN ?_;exact w_):p:=h w
def c9 (w:q) (h:q->p:=by intro w_;(iterate 2 refine rV ?_);(iterate 4 refine rS ?_);exact w_):p:=h w
def da (w:q) (h:q->p:=by intro w_;refine oV ?_;refine oN ?_;refine qF ?_;refine qk ?_;refine qg ?_;refine oV ?_;exact w_):p:=h w
def db (w:q) (h:q->p:=by intro w_;refine qq ?_;refine qg ?_;(iterate 5 refine oV ?_);exact w_):p:=h w
def dc (w:q) (h:q->p:=by intro w_;(iterate 3 refine rV ?_);refine rN ?_;refine qr ?_;exact w_):p:=h w
def de (w:q) (h:q->p:=by intro w_;refine oV ?_;(iterate 6 refine oS ?_);exact w_):p:=h w
def dg (w:q) (h:q->p:=by intro w_;(iterate 5 refine oV ?_);refine oN ?_;exact w_):p:=h w
def dh (w:q) (h:q->p:=by intro w_;refine oN ?_;refine qb ?_;refine qq ?_;refine qg ?_;exact w_):p:=h w
def di (w:q) (h:q->p:=by intro w_;refine wz [.la 1 0,(.hm b1),ld a0.elems,ck a0.elems.l.length,ck k31] H7 [(1,(bY.af a0))] ?_;refine qg ?_;exact w_):p:=h w
def dj (w:q) (h:q->p:=by intro w_;(iterate 2 refine oV ?_);(iterate 3 refine oS ?_);exact w_):p:=h w
def dk (w:q) (h:q->p:=by intro w_;refine iS rfl (λ_=>pd rfl rfl rfl rfl (j8 (Sep.cell (i:=0) hS68 rfl) (j8 rfl kK)) rfl rfl) ?_;refine oN ?_;refine qr ?_;exact w_):p:=h w
def dl (w:q) (h:q->p:=by intro w_;refine qq ?_;refine qg ?_;(iterate 2 refine oV ?_);refine oN ?_;refine qq ?_;refine qg ?_;(iterate 2 refine oV ?_);exact w_):p:=h w
def dm (w:q) (h:q->p:=by intro w_;refine lx a1.runs ?_;refine oV ?_;refine oN ?_;refine qb ?_;exact w_):p:=h w
def dn (w:q) (h:q->p:=by intro w_;refine qF ?_;refine qq ?_;refine qg ?_;refine oV ?_;exact w_):p:=h w
def dp (w:q) (h:q->p:=by intro w_;refine qg ?_;(iterate 3 refine oV ?_);refine kM rfl (oK (i:=0) (ek:=pK) (ev:=bK) (l:=l6) x11.at_ true hS8 rfl rfl rfl rfl rfl rfl nk) ?_;exact w_):p:=h w
def dq (w:q) (h:q->p:=by intro w_;(iterate 3 refine oV ?_);refine oN ?_;refine qq ?_;refine qg ?_;(iterate 2 refine oV ?_);exact w_):p:=h w
def dr (w:q) (h:q->p:=by intro w_;(iterate 2 refine oV ?_);(iterate 7 refine oS ?_);exact w_):p:=h w
def dt (w:q) (h:q->p:=by intro w_;refine qg ?_;(iterate 2 refine oV ?_);refine kM rfl (oK (i:=0) (ek:=iK) (ev:=bK) (l:=l26) x32 true hS29 rfl rfl rfl rfl rfl rfl pD) ?_;exact w_):p:=h w
def du (w:q) (h:q->p:=by intro w_;refine qg ?_;(iterate 2 refine oV ?_);refine kM rfl (oK (i:=0) (ek:=iK) (ev:=bK) (l:=l50) x56 true hS53 rfl rfl rfl rfl rfl rfl pD) ?_;exact w_):p:=h w
def dv (w:q) (h:q->p:=by intro w_;refine oN ?_;refine qF ?_;refine qe ?_;refine qq ?_;refine qg ?_;refine oV ?_;refine oN ?_;refine qr ?_;exact w_):p:=h w
def dw (w:q) (h:q->p:=by intro w_;refine qq ?_;refine qg ?_;(iterate 4 refine oV ?_);refine oN ?_;refine qr ?_;exact w_):p:=h w
def dx (w:q) (h:q->p:=by intro w_;refine lx a0.signals ?_;refine oV ?_;refine oN ?_;refine qb ?_;exact w_):p:=h w
def dy (w:q) (h:q->p:=by intro w_;(iterate 2 refine oV ?_);refine oN ?_;refine qT ?_;refine qq ?_;refine qg ?_;(iterate 3 refine oV ?_);refine oN ?_;refine qr ?_;exact w_):p:=h w
def dz (w:q) (h:q->p:=by intro w_;refine qg ?_;(iterate 4 refine oV ?_);exact w_):p:=h w
def dA (w:q) (h:q->p:=by intro w_;refine wz [(.hm b1),ld a0.elems,ck a0.elems.l.length,ck k38] H7 [] ?_;refine qg ?_;exact w_):p:=h w
def dB (w:q) (h:q->p:=by intro w_;refine Hd 4 hS50 ?_;refine pC 4 hS50 ?_;refine nB 4 hS50 v45 ?_;refine oV ?_;exact w_):p:=h w
def dC (w:q) (h:q->p:=by intro w_;refine oN ?_;refine qg ?_;exact w_):p:=h w
def dD (w:q) (h:q->p:=by intro w_;refine rV ?_;(iterate 6 refine rS ?_);exact w_):p:=h w
def dE (w:q) (h:q->p:=by intro w_;refine pC 6 hS114 ?_;refine nB 6 hS114 v62 ?_;exact w_):p:=h w
def dF (w:q) (h:q->p:=by intro w_;refine oV ?_;(iterate 10 refine oS ?_);exact w_):p:=h w
def dG (w:q) (h:q->p:=by intro w_;refine oN ?_;refine qF ?_;refine qk ?_;refine qq ?_;refine qg ?_;(iterate 2 refine oV ?_);exact w_):p:=h w
def dH (w:q) (h:q->p:=by intro w_;refine oV ?_;refine oN ?_;refine qT ?_;refine qq ?_;refine qg ?_;(iterate 3 refine oV ?_);exact w_):p:=h w
def dI (w:q) (h:q->p:=by intro w_;refine rV ?_;refine rN ?_;refine qT ?_;refine qq ?_;refine qg ?_;refine oV ?_;refine oN ?_;refine qr ?_;exact w_):p:=h w
def dJ (w:q) (h:q->p:=by intro w_;(iterate 2 refine rV ?_);(iterate 13 refine rS ?_);refine rV ?_;refine rN ?_;refine qF ?_;refine qk ?_;exact w_):p:=h w
def dK (w:q) (h:q->p:=by intro w_;refine wy [.ip (kb.af a0) 0 false,.la 11 0] [(11,(j7.af r7))] ?_;refine qq ?_;refine qg ?_;(iterate 2 refine oV ?_);refine oC (t181 a0 r7) ?_;exact w_):p:=h w
def dL (w:q) (h:q->p:=by intro w_;refine lx a0 ?_;refine oV ?_;refine oN ?_;refine qb ?_;exact w_):p:=h w
def dM (w:q) (h:q->p:=by intro w_;refine qs ?_;refine qb ?_;refine qd ?_;(iterate 7 refine rV ?_);exact w_):p:=h w
def dN (w:q) (h:q->p:=by intro w_;(iterate 8 refine rV ?_);exact w_):p:=h w
def dP (w:q) (h:q->p:=by intro w_;refine qq ?_;refine qg ?_;refine oV ?_;refine oN ?_;refine qs ?_;refine qq ?_;refine qg ?_;refine oV ?_;refine iS rfl (λ_=>nO (i:=0) hS rfl rfl rfl rfl rfl rfl rfl) ?_;exact w_):p:=h w
def dQ (w:q) (h:q->p:=by intro w_;refine qq ?_;refine qg ?_;refine kM rfl (pX hS) ?_;exact w_):p:=h w
def dR (w:q) (h:q->p:=by intro w_;refine uN 0 hS25 ?_;refine sV 0 hS25 ?_;refine sZ 0 hS25 ((.hm b6)) ?_;exact w_):p:=h w
def dS (h:p:=by first | assumption | omega | (dsimp only [Row.mi]; omega) | (simp<;>omega) | exact hPre (by omega) | exact hPre | (simp_all; done) | (simp_all; omega)):p:=h
theorem dT (h:p:=by assumption):p:=h
def dU (h:p:=by refine ⟨?_,?_⟩; (intro hz; first | (exfalso; omega) | exact ⟨rfl,Lj hK (by omega)⟩); (have hq:=qn.reads a2.at_; grind [sB,Al])):p:=h
def dV (h:p:=by simp only [s9,List.length_append,List.length_cons,List.length_nil,List.length_set,List.length_take,List.length_drop,List.length_replicate]; omega):p:=h
def dW (h:p:=by decide):p:=h
def dX (h:p:=by first | omega | (simp<;>omega) | (simp_all; omega)):p:=h
def dY (h:p:=by first | exact hRo | exact qx (P:=λr:kq=>0<r.steps.l.length/\r.steps.l.length<=12/\r.nq.l.length<=12/\pT r) hRo ⟨by omega,by omega,by omega,by assumption⟩ | exact qx (P:=λr:kq=>0<r.steps.l.length/\r.steps.l.length<=12/\r.nq.l.length<=12/\pT r) (qx (P:=λr:kq=>0<r.steps.l.length/\r.steps.l.length<=12/\r.nq.l.length<=12/\pT r) hRo ⟨by omega,by omega,by omega,by assumption⟩) ⟨by omega,by omega,by omega,by assumption⟩):p:=h
def dZ (h:p:=by simp only [tV]; first | omega | (simp<;>omega)):p:=h
def d3 (h:p:=by first | rfl | exact absurd (by assumption:false=true) dW | exact absurd (hSm hEq) dW | exact absurd (hSc (hCe2.xc hLc)) dW | (exfalso; first | exact absurd (TH hNw hCh dT) dT | exact absurd ((KT hNw hCh (by first | assumption | omega) hLc hSf).2 rfl) (by first | assumption | decide) | exact absurd ((KT hNw hCh (by first | assumption | omega) hLc hSf).1 rfl) dT | (have hdd:=hDn.2 rfl; omega) | (have hdd:=Ub hNw hNdr hN6 (hDn.1 rfl); omega) | omega)):p:=h
theorem d4 (h:p:=by omega):p:=h
def d5 (h:p:=by first | grind [wv] | (have hLa:=vN dT; grind [wv])):p:=h
def d6 (h:p:=by first | exact ⟨λ_=>⟨by assumption,by omega,by omega,by omega,by omega⟩,λh=>absurd h dW⟩ | (refine ⟨λh=>absurd h dW,λ_ hr=>?_⟩; obtain ⟨r1,r2,r3,r4,r5⟩:=hr; first | exact absurd (hNw r1) dW | exact Oj r5 dT hAt (by first | exact .inl (hI.2 rfl) | exact .inr (.inl dT) | exact .inr (.inr (hLea.2 rfl))) | (have:=hI.2 rfl; omega))):p:=h
def d7 (h:p:=by (first | omega | (simp<;>omega))):p:=h
def d8 (h:p:=by intro h; first | (cases h; done) | (simp only [] at *; omega) | (refine ⟨?_,?_,?_,by omega,by omega,by omega,⟨hJvp,hLnp rfl,hKdp rfl⟩⟩<;>first | assumption | (simp_all; done))):p:=h
def d9 (h:p:=by intro h1 h2; first | (exfalso; omega) | exact K9 dT dT (by first | (rw [hA.1 rfl]; rfl) | (rw [hA.2 rfl,hA0 rfl]; rfl)) (by rw [<- hK]; first | rw [if_pos dT] | rw [if_neg dT])):p:=h
def eb (h:p:=by (first | omega | (simp only [List.length_append,List.length_cons,List.length_nil,List.length_take] at *; omega))):p:=h
def ed (h:p:=by first | exact Hc dT hX (Lh dT dT dT d4 hF (by first | assumption | omega) d5 dT hStn (hIn.2 rfl) (vN dT) hFt) | exact sx dT hX (LH hF dT) | exact sx dT hX (KR dT dT d5) | exact sx dT hX (Lg dT) | exact sx dT hX (Mb hStn (hIn.1 rfl)) | exact sx dT hX (L4 dT dT (vN dT) hFt)):p:=h
def ee (h:p:=by refine ⟨λh=>?_,λh=>?_,λh=>?_⟩<;>first | (cases h; done) | omega | (first | (cases h; done) | exact u3 d4 | exact Dy d4 | exact u6 d4 dT dT d4 | (rw [Ec d4 dT dT d4]; first | exact hA.1 rfl | exact hA.2 rfl) | (rw [Gb d4 dT dT d4 d4 dT dT]; first | (rw [AF dT]; first | exact hA.1 rfl | exact hA.2 rfl) | (rw [C7 dT dT]; done) | (rw [Ai dT dT]; simp_all [Lf]; done)))):p:=h
def ef (h:p:=by first | exact M7 dT dT | exact A8 (m6 hSg d4) (AX hEr d4 (AD dT dT dT dT) (hTr d4 d4) hSw dT) dT | exact A8 (m6 hSg d4) (hAtk.KY dT (Bk (hTr d4 d4) hK dT) (hIn.1 rfl) hEr d4 d4) dW | exact sT (m6 hSg d4) (wi hEr d4 hNM d4 d4) dT (Qf dT dT) | exact sT (m6 hSg d4) (wi hEr d4 hNM d4 d4) dT (PY dT dT dT) | exact sT (m6 hSg d4) (wi hEr d4 hNM d4 d4) dT (Qm dT hRe dT d4) | exact Fm (m6 hSg d4) (wi hEr d4 hNM d4 d4) hBd d4):p:=h
def eg (h:p:=by refine ⟨λh=>?_,λh=>?_⟩<;>(first | (cases h; done) | exact u3 d4 | exact Dy d4 | exact u6 d4 dT dT d4 | (rw [Ec d4 dT dT d4]; first | exact hA.1 rfl | exact hA.2 rfl) | (rw [Gb d4 dT dT d4 d4 dT dT]; first | (rw [AF dT]; first | exact hA.1 rfl | exact hA.2 rfl) | (rw [C7 dT dT]; done) | (rw [Ai dT dT]; simp_all [Lf]; done)))):p:=h
def ei (h:p:=by refine ⟨?_,?_⟩; (intro hz; first | (exfalso; omega) | exact ⟨hD d4,_,hNe,hNr,hSs d4⟩); (intro hd; first | exact .inl ⟨hSg.1 rfl,rfl⟩ | exact absurd (hDd hd) dT | exact A8 (hSg.2 rfl) hSt2 dT | exact sT (hSg.2 rfl) (Ab hSt2 dT) dT (Qf dT dT) | exact sT (hSg.2 rfl) (Ab hSt2 dT) dT (PY dT dT dT) | exact sT (hSg.2 rfl) (Ab hSt2 dT) dT (Qm dT hRe dT d4) | exact Fm (hSg.2 rfl) (Ab hSt2 dT) hBd d4)):p:=h
def ej (h:p:=by refine ⟨?_,?_⟩; (intro hz; first | (exfalso; omega) | exact ⟨hSC.trans (congrArg (AV.int .i64) d4),λr hr=>hMy.2 rfl r hr,λi j h hij hj=>hNe i j h hij d4,by omega⟩); (intro hd; first | rfl | (exfalso; first | (have:=hd.runs; omega) | (obtain ⟨x,hx,h3⟩:=hC1.1 rfl; have:=hd.kr x hx; omega) | exact absurd (hSk hd.QP) dT | exact (hI.2 rfl) hd.beg | (obtain ⟨x,hx,h3⟩:=hMy.1 rfl; exact h3 (hd.ok x hx)) | exact RZ dT hd.name (hCt.1 rfl)))):p:=h
def eq (h:p:=by refine Jp ?_; first | exact (rb (K5 (hL.2 rfl))).symm | exact (Du d4 rfl (by rw [<- hLL d4]; omega)).symm | exact (rb (hG.2 rfl)).symm | (rw [CC (hG.1 rfl) (.inl rfl) d4 rfl (by rw [<- hLL d4]; omega) rfl]; simp_all [DV]; done)):p:=h
def eu (h:p:=by intro hz; first | (exfalso; omega) | (have hdv:uG a0 a1:=⟨by omega,m6 hA d4,hSo d4,by omega,m6 hB d4,λi j h hij=>hNe i j h hij d4⟩; exact ⟨hdv.ot,hdv⟩)):p:=h
def ew (h:p:=by refine ⟨λhz=>?_,?_⟩; (first | (exfalso; omega) | exact ⟨by omega,by omega,by omega,RK dT d4⟩); first | exact (rb (hG.2.2 rfl)).symm | exact (Di (hG.2.1 rfl) dT).symm | exact (Du dT dT d4).symm | (rw [CC (hG.2.1 rfl) (.inr dT) dT dT dT dT]; simp_all [DV]; done)):p:=h
def ey (h:p:=by first | exact Hc dT hX (Lh dT dT dT d4 hFr dT hEn dT hStn (hIn.2 rfl) (vN dT) hFt) | exact sx dT hX (LH hFr dT) | exact sx dT hX (KR dT dT hEn) | exact sx dT hX (Lg dT) | exact sx dT hX (Mb hStn (hIn.1 rfl)) | exact sx dT hX (L4 dT dT (vN dT) hFt)):p:=h
def ez (h:p:=by intro hn; first | rfl | (exfalso; first | (have hq0:=hn.1; simp_all; done) | (have hq0:=hn.2.1; omega) | exact Hu dT hn (hLt.2 rfl) (by first | exact .inl rfl | exact .inr (.inl dT) | exact .inr (.inr dT)) | exact Ez dT hn (hLt.2 rfl) (.inl dT) dT | exact Ez dT hn (hLt.2 rfl) (.inr dT) dT)):p:=h
def eA (h:p:=by refine ⟨?_,Row.lk _⟩; refine ⟨λh=>?_,λh=>?_⟩<;>first | (cases h; done) | (refine ⟨by omega,by omega,by omega,λh=>?_,by omega⟩; simp_all; done) | exact .inl d4 | exact .inr (.inl d4) | exact .inr (.inr (.inl d4)) | (refine .inr (.inr (.inr ⟨by assumption,?_⟩)); simp_all; done) | (refine .inr (.inr (.inr ⟨by assumption,?_⟩)); simp_all; omega)):p:=h
def eB (h:p:=by intro h; first | (cases h; done) | (refine ⟨by omega,by omega,by omega,by omega,λx hx=>?_,hJg.1,hJg.2⟩; obtain ⟨i,hi,rfl⟩:=List.mem_iff_getElem.mp hx; exact hI i hi d4)):p:=h
def eC (h:p:=by first | exact ⟨(ka.of_nil dT).symm,λ_=>ka.Ay.mp dT,λ_=>rfl⟩ | exact ⟨by assumption,λh=>absurd (hnn.mp h) (hNN (by simp)),λh=>by have:=ka.Ay.mpr h; simp_all⟩):p:=h
def eD (h:p:=by intro h; first | (cases h; done) | exact ⟨by omega,by omega,λi hi=>hC i hi d4⟩):p:=h
def eE (h:p:=by (intro h; have ha:=congrArg Prod.fst h; have hb:=congrArg Prod.snd h; have hc:=congrArg List.length hb; simp only [xc,List.length_map] at ha hb hc; first | rfl | exact absurd (hSm ha) dW | exact absurd hc d4 | exact (ON hb dT dT dT).elim | exact absurd (hSm (Og hb dT dT)) dW)):p:=h
def eF (h:p:=by first | (exfalso; omega) | exact Dr hWl d4 dT d4 d4 rfl (by first | exact WN (QC q8 hStn) hK dT dT | exact Vw (QC q8 hStn) hK (by first | exact .inl dT | exact .inr dT)) dT):p:=h
def eG (h:p:=by refine ⟨λh=>?_,λh=>?_⟩<;>first | (exfalso; omega) | exact ⟨_,by assumption,hB.1 rfl⟩ | exact m6 hP d4):p:=h
def eH (h:p:=by intro h; first | (cases h; done) | exact XF (m6 hKd d4)):p:=h
def eI (h:p:=by intro hz; first | (exfalso; omega) | (refine ⟨⟨λx hx=>?_,?_⟩,hPl.trans ((congrArg bY.canon hNe.kH).trans (bY.xN _)),_,hNe,hNr⟩; (first | exact hR x (hlq▸hx) | (simp at hx)); (first | (dsimp only; omega) | simp))):p:=h
def eJ (h:p:=by unfold Az; first | exact ⟨λ_=>d4,λh=>absurd h dW⟩ | exact ⟨λh=>absurd h dW,λ_=>(by first | omega | (have:=hI.2 rfl; omega))⟩):p:=h
def eK (h:p:=by refine ⟨λh=>?_,λh=>?_⟩<;>first | (cases h; done) | exact hIx.1 d4 | exact hIx.2 d4):p:=h
def eL (h:p:=by first | exact XO hTk dT dT ⟨λhh=>absurd (hh.trans hStn.symm) dT,λhh=>absurd (hK.trans hh) dT⟩ | exact Kp hTk (λ_ _ hh=>hh.1 (by have:=hStn; unfold oe; omega)) | exact Kp hTk (λ_ _ hh=>hh.2 (by have:=hK; omega)) | exact Kp hTk (λ_ hh=>by simp_all)):p:=h
def eM (h:p:=by intro h; first | omega | (cases h; done)):p:=h
def eN (h:p:=by refine ⟨?_,λh=>by first | (cases h; done) | rfl⟩; refine ⟨λh=>?_,λh=>?_⟩<;>first | (cases h; done) | exact Pl d4 | exact Ry d4 dT dT):p:=h
def eO (h:p:=by refine ⟨λh=>?_,λh=>?_⟩<;>first | (cases h; done) | assumption | omega | (simp_all; done)):p:=h
def eP (h:p:=by have q8:=q9 a2.at_.elem; grind [sB]):p:=h
def eQ (h:p:=by first | exact (Rc (hL.2 rfl)).symm | (rw [T5 hLt.1 d4 hLt.2.2.1 (by rw [<- hLL d4]; exact hLt.2.2.2.2)]; first | (rw [X5 dT]; grind) | (rw [UY dT (hLL d4) dT dT]; grind))):p:=h
def eR (h:p:=by first | omega | (simp; done) | (simp<;>omega)):p:=h
def eS (h:p:=by intro h; first | (cases h; done) | exact ⟨On hV d4,λi h=>hJ i h d4⟩):p:=h
def eT (h:p:=by first | exact (Rl (hL.2 rfl) qi q8).elim | (refine ⟨?_,OJ hWl qi hLL d4 d4 rfl (by first | exact VO (QC q8 hStn) hPla q9 dT | exact Uk (QC q8 hStn) hPla dT) dT⟩; exact And.intro (by first | omega | (simp; done) | (dsimp only; omega) | (simp_all; omega)) (by first | (simp; done) | (simp_all; done)))):p:=h
def eU (h:p:=by unfold Bi; first | exact ⟨λ_=>d4,λh=>absurd h dW⟩ | exact ⟨λh=>absurd h dW,λ_=>d4⟩):p:=h
def eV (h:p:=by first | assumption | exact (ka.of_nil dT).symm | (simp_all; done)):p:=h
def eW (h:p:=by intro h; first | (cases h; done) | exact ⟨hNm,by omega,by omega,by omega,by omega,by omega,by omega,by omega,by omega⟩):p:=h
def eX (h:p:=by (intro i h h2; omega)):p:=h
def eY (h:p:=by intro hk; obtain ⟨k1,k2⟩:=hk; first | rfl | exact hNw k1 | exact absurd (hNw k1) dW | (exfalso; exact hMa.2 rfl d4)):p:=h
def eZ (h:p:=by (first | omega | (simp only [List.length_set]; omega))):p:=h
def e8 (h:p:=by first | exact ⟨by simp,by simp,Cn hFr dT rfl⟩ | exact ⟨by simp,by simp,K3 dT d4⟩ | exact ⟨by omega,by simp_all,Ch hFr d4 (Eq.trans dT hX) d4⟩):p:=h
def e9 (h:p:=by simp only [FZ]):p:=h
def fc (h:p:=by refine ⟨?_,?_⟩; (intro hz; first | (exfalso; omega) | exact ⟨λi hi=>hQ i d4,λi j hij hj=>hB.Ds hz i j hij d4⟩); (first | exact AX hEr d4 (AD dT dT dT dT) (hTr d4 d4) hSw dT | exact GA hEr d4 d4 hB hBm)):p:=h
def fd (h:p:=by (first | omega | exact hPle)):p:=h
def fe (h:p:=by first | exact hC2.put dT dT | exact hC2.KY dT dT (by rw [hLie,(hStt d4).1,hTr d4 d4]; rfl) (by rw [hLie,(hStt d4).1]; exact Nv _ _) dT rfl):p:=h
def ff (h:p:=by first | exact hAtk.Ow dT (Bk (hTr d4 d4) hK dT) hNM (hIn.2 rfl) | exact K8 hNM (Ff hEr d4 (hTr d4 d4) hK dT)):p:=h
def fg (h:p:=by first | omega | (simp; omega)):p:=h
def fh (h:p:=by kernel_rfl):p:=h
def fi (h:p:=by first | decide | (simp; done)):p:=h
def fj (h:p:=by first | exact Ys hKl dT d4 dT dT (by first | exact .inl dT | exact .inr dT) (by first | rfl | assumption) | exact Vt hKl dT dT dT dT (by first | rfl | assumption)):p:=h
def fk (h:p:=by first | exact ⟨λ_=>Gf dT d4,λh=>absurd h dW⟩ | exact ⟨λh=>absurd h dW,λ_=>QS hU d4⟩):p:=h
def fo (h:p:=by first | assumption | omega | (simp_all; done)):p:=h
def fp (h:p:=by first | grind [wC] | (have hMg:=congrArg bY.lN hPl; simp only [bY.canon] at hMg; grind [wC])):p:=h
def fq (h:p:=by intro hz; first | (cases hz; done) | exact ⟨by assumption,(hBd dT).1.2,(hBd dT).2,hBr.trans (congrArg (λz:Int=>AV.kO [_,.int .i64 z]) d4),hFr,(hBd dT).1.1⟩):p:=h
def fu (h:p:=by first | exact ⟨⟨hNd,hRg,by omega⟩,R6 hKs d4 hLine dT dT⟩ | exact ⟨⟨hNd,hRg,by omega⟩,SB hLine (by first | exact .inl dT | exact .inr dT)⟩):p:=h
def fw (h:p:=by first | exact hAtk.snoc (Bk (hTr d4 d4) hK dT) | exact hAtk.same (Ff hEr d4 (hTr d4 d4) hK dT)):p:=h
def fx (h:p:=by first | exact ⟨⟨by omega,λh=>d4,by omega⟩,λj h hj=>hP j h d4⟩ | exact ⟨⟨by omega,λ_=>m6 hP d4,by omega⟩,λj h hj=>absurd hj d4⟩):p:=h
def fy (h:p:=by refine ⟨λh=>?_,λh=>?_⟩<;>first | (cases h; done) | (rw [<- hI]; first | exact Mh dT dT dT | exact LM dT dT dT dT | exact O9 d4)):p:=h
def fz (h:p:=by intro hz; first | (exfalso; omega) | exact ⟨by omega,m6 hU d4,λi j h hij=>hNe i j h hij d4⟩):p:=h
def fA (h:p:=by intro h; first | (cases h; done) | exact λi hi=>hU i hi d4):p:=h
def fC (h:p:=by intro h; first | (cases h; done) | exact hLn.ok d4):p:=h
def fD (h:p:=by first | rfl | exact (ka.of_nil dT).symm | (simp_all; done)):p:=h
def fE (h:p:=by exact Ri dT hC (by unfold C9 Bi; omega)):p:=h
def fG (h:p:=by exact ⟨by first | exact (s8 d4).symm | exact (Bb d4 dT dT).symm,by first | exact (EV d4).symm | exact (G6 d4 dT dT).symm⟩):p:=h
def fJ (h:p:=by first | exact ⟨by omega,λx hx=>.inl hx⟩ | exact ⟨by simp<;>omega,λx hx=>(List.mem_append.mp hx).imp id List.mem_singleton.mp⟩):p:=h
def fK (h:p:=by first | omega | (have hz9:=congrArg List.length (hFn.1 dT).2.1; simp only [List.length_append,List.length_cons,List.length_nil]; omega)):p:=h
def fM (h:p:=by simp [qI,rj,qN,su,Fa]):p:=h
def fP (h:p:=by first | exact hFn.yes dT dT (hIn.2 rfl) dT (hCan.1 rfl) d4 | exact hFn.p9 dT dT (hIn.1 rfl) d4 | exact hFn.no dT dT (hCan.2 rfl)):p:=h
def fQ (h:p:=by simp):p:=h
def fR (h:p:=by intro h; first | rfl | exact absurd (by simpa using congrArg List.length h) d4 | exact absurd (hSc (EY h dT dT)) dW):p:=h
def fS (h:p:=by intro hk; first | rfl | exact absurd (hWr hk.1) dT | (exfalso; obtain ⟨x,hx,h3⟩:=hC1.1 rfl; exact h3 (hk.2 x hx))):p:=h
def fT (h:p:=by first | exact ⟨⟨by omega,by omega⟩,λk h hk=>hP k h d4,λ_=>T7 (P:=qQ nn.p) dT (hGt.1 rfl),λh=>absurd h d4⟩ | exact ⟨⟨by omega,by omega⟩,λk h hk=>absurd hk d4,λh=>absurd h d4,λ_=>m6 hP d4⟩):p:=h
def fU (h:p:=by intro hk; first | (exfalso; have:=hk.1; omega) | exact absurd (hMs (hk.2.1 _ (Gf dT rfl))) dW | exact hE0 hk):p:=h
def fV (h:p:=by intro hz; first | (exfalso; omega) | exact ⟨hPl2 d4,m6 hU d4⟩):p:=h
def fW (h:p:=by first | exact hRi | exact qx hRi d4):p:=h
def fX (h:p:=by intro h; first | (cases h; done) | omega):p:=h
def fY (h:p:=by exact xj hEr (TO (AD dT dT dT dT) (hTr d4 d4) hSw d4)):p:=h
def fZ (h:p:=by (have hg0:=SD hU d4); exact O1 dT hU ⟨by omega,by omega,by omega,by unfold Az; omega⟩):p:=h
def ga (h:p:=by intro h; first | rfl | exact absurd (congrArg List.length h) d4 | exact (L9 h dT dT dT).elim):p:=h
def gb (h:p:=by first | (refine ⟨by simp,?_⟩; simp; done) | exact ⟨by omega,λx hx=>hRo x (by simp_all)⟩):p:=h
def gc (h:p:=by first | exact vJ.KY hB2 dT dT d4 | exact vJ.Ow hB2 dT dT dT):p:=h
def gd (h:p:=by first | exact ⟨(ka.of_nil dT).symm,λ_=>ka.Ay.mp dT,λ_=>rfl⟩ | exact ⟨by first | rfl | (simp; done),λh=>absurd h (hNN fQ),λh=>by have:=ka.Ay.mpr h; simp_all⟩):p:=h
def ge (h:p:=by (simp only [List.length_set]; omega)):p:=h
def gf (h:p:=by exact hTu):p:=h
def gg (h:p:=by first | omega | (refine ⟨?_,?_⟩<;>omega)):p:=h
def gh (h:p:=by first | exact ⟨λ_=>d4,λh=>absurd h dW⟩ | exact ⟨λh=>absurd h dW,λ_=>d4⟩):p:=h
def gi (h:p:=by exact hZr):p:=h
def gj (h:p:=by exact hKu):p:=h
def gk (h:p:=by exact hKd):p:=h
def gl (h:p:=by first | exact ⟨λ_=>(by rw [CL (run:=(i:Int)) dT]; omega),λh=>absurd h dW⟩ | exact ⟨λh=>absurd h dW,λ_=>(by rw [CL (run:=(i:Int)) dT]; omega)⟩):p:=h
def gm (h:p:=by first | exact ⟨by omega,λy hy=>.inl hy⟩ | exact ⟨by simp,λy hy=>(List.mem_append.mp hy).imp id (λhy=>by rw [List.mem_singleton.mp hy]; exact vI dT)⟩):p:=h
def gn (h:p:=by first | exact L1 dT dT | exact hFn.stuck dT hRc d4 d4 | exact Of hRc d4):p:=h
def gp (h:p:=by exact hT):p:=h
def gq (h:p:=by exact sR.put (hC89 d4).2.2.2.2.2.2.ln hLi2 dT dT):p:=h
def gr (h:p:=by first | exact ⟨by assumption,SP (hCK q7d) dT⟩ | exact ⟨by decide,L2 (hCK q7d) dT hrp hCdN hCdS hCpM hClR fg hSafe rfl⟩ | (exfalso; omega)):p:=h
def gt (h:p:=by first | exact IN dT hBi dT dT dT dT | exact Mf dT hBi d4):p:=h
def gu (h:p:=by (intro i h; omega)):p:=h
def gv (h:p:=by simp only [List.length_replicate] at *; omega):p:=h
def gw (h:p:=by refine ⟨λh=>?_,λh=>?_⟩<;>first | (cases h; done) | omega):p:=h
def gx (h:p:=by first | exact ⟨λ_=>RU d4 dT hCa d4,λh=>absurd h dW⟩ | exact ⟨λh=>absurd h dW,λ_=>TF d4 dT dT (hClr.2 rfl)⟩):p:=h
def gy (h:p:=by first | exact (s8 d4).symm | exact (Bb d4 dT dT).symm):p:=h
def gz (h:p:=by first | exact (EV d4).symm | exact (G6 d4 dT dT).symm):p:=h
def gA (h:p:=by first | exact ⟨λ_=>R7 hCl d4,λh=>absurd h dW⟩ | exact ⟨λh=>absurd h dW,λ_=>Rb dT dT dT (hIn.1 rfl)⟩):p:=h
def gB (h:p:=by unfold qQ; first | exact ⟨λ_=>(by simp_all),λh=>absurd h dW⟩ | exact ⟨λh=>absurd h dW,λ_=>(by simp_all)⟩):p:=h
def gC (h:p:=by first | exact LI hRc hC d4 | exact Mi hRc hC d4 hNo d4):p:=h
def gD (h:p:=by first | exact XE hMt dT dT | exact Yq hMt dT dT d4 dT dT):p:=h
def gE (h:p:=by first | (simp; done) | omega):p:=h
def gF (h:p:=by first | exact hNo.XX dT dT dT | exact hNo.Xs dT (λhh=>absurd ((Lu dT hLow dT dT hOt hWn dT).mpr hh) dT)):p:=h
def gG (h:p:=by rw [hLie,(hStt d4).1,hTr d4 d4]; rfl):p:=h
def gH (h:p:=by first | exact λhk=>absurd hk dT | exact λhk=>ng (P:=λx:Int=>x∉a2.l) dT (hCn hk) (hIn.2 rfl)):p:=h
def gI (h:p:=by first | exact ⟨λ_ i hi=>hUp i d4,λh=>absurd h dW⟩ | exact ⟨λh=>absurd h dW,λ_=>by omega⟩):p:=h
def gJ (h:p:=by first | exact ⟨by simp,Cn hF dT rfl⟩ | exact ⟨by omega,Ch hF d4 (Eq.trans dT hX) d4⟩):p:=h
def gK (h:p:=by first | omega | (simp only [List.length_set]; omega)):p:=h
def gL (h:p:=by first | exact ⟨λ_=>hIx.1 d4,λh=>absurd h dW⟩ | exact ⟨λh=>absurd h dW,λ_=>hIx.2 d4⟩):p:=h
def gM (h:p:=by exact ng (P:=λx:Int=>¬ x=a1) dT hU d4):p:=h
def gN (h:p:=by (simp<;>omega)):p:=h
def gO (h:p:=by rw [q8]; exact WL.zero):p:=h
def gP (h:p:=by refine ⟨λh=>?_,λh=>?_⟩<;>first | (cases h; done) | exact hMay.2 rfl | exact hMay.1 rfl):p:=h
def gQ (h:p:=by first | (rw [(by assumption:look _ _=some _)]; rfl) | (rw [(by assumption:look _ _=none)]; rfl)):p:=h
def gR (h:p:=by first | exact hRc.go hNo dT dT dT ((Lu dT hLow dT dT hOt hWn dT).mp d4) | (exfalso; omega)):p:=h
def gS (h:p:=by exact Rv hKc d4 d4 hTk d4 dT (by first | exact XU hStn hK dT | exact Wt hStn hK dT)):p:=h
def gT (h:p:=by intro h; first | assumption | (cases h; done)):p:=h
def gU (h:p:=by first | exact ⟨λ_=>Gf dT d4,λh=>d4⟩ | exact ⟨λh=>d4,λ_=>QS hU d4⟩):p:=h
def gV (h:p:=by exact ng (P:=λe:my=>(1<=e.kind/\e.kind<=4)/\(e.kind=4->e.len=0)) dT hKd d4):p:=h
def gW (h:p:=by exact ng (P:=λx:Bool=>x=true) dT hP (by first | assumption | exact absurd hO1 dW)):p:=h
def gX (h:p:=by first | exact (s8 (by have:=hI.2 rfl; omega)).symm | exact (Bb d4 dT dT).symm):p:=h
def gY (h:p:=by first | assumption | omega | exact Ov dT q1 (hC89 d4) hD hR hN hNg d4 d4 (hLi.ok d4)):p:=h
def gZ (h:p:=by refine ⟨λh=>?_,λh=>?_,λh=>?_⟩<;>first | (cases h; done) | assumption | rfl):p:=h
def g5 (h:p:=by rw [<- hI]; first | (rw [DJ dT dT dT]; rfl) | (rw [DH d4]; rfl)):p:=h
def g6 (h:p:=by first | exact hDe.mj d4 d4 dT (hGt.2 rfl) | exact hDe.skip d4 d4 dT (hGt.1 rfl)):p:=h
def g8 (h:p:=by exact hSg):p:=h
def g9 (h:p:=by first | exact .inl ⟨_,by assumption⟩ | exact .inr ⟨by assumption,rfl⟩):p:=h
def hO (h:p:=by exact xj hQ (stQ (f:=rs 130) hSt (AD dT dT dT dT) (hTr d4 d4) dT)):p:=h
def hZ (h:p:=by exact hWl.P4 d4 (Nu qn (by rw [hPl]) hFr.2.1 hFr.2.2 hStn hPla)):p:=h
def ia (h:p:=by first | (refine ⟨by simp,?_⟩; simp; done) | exact ⟨hR,by omega⟩):p:=h
def ib (h:p:=by exact hRg):p:=h
def ic (h:p:=by exact hNd):p:=h
def ig (h:p:=by first | exact M4 dT dT hI dT dT | exact RF dT dT hI dT dT):p:=h
def ij (h:p:=by first | exact R1 (hG.2.2 rfl) | exact RT (hG.2.1 rfl)):p:=h
def ik (h:p:=by first | exact filter_all (hIx.2.2.2 d4) | exact hDe.done d4 d4):p:=h
def im (h:p:=by first | exact hE0 | exact λhk=>(Np hk dT dT dT).elim):p:=h
def io (h:p:=by first | exact R3 dT hBi hOf dT dT | exact Tq hBi dT):p:=h
def iq (h:p:=by first | omega | (simp; done)):p:=h
def ir (h:p:=by (intro i j h hij h2; omega)):p:=h
def iu (h:p:=by intro j h h2; first | exact hU j h d4 | (exfalso; omega)):p:=h
def iw (h:p:=by exact hLn2.put dT dT (by unfold VE; omega) (by simp_all)):p:=h
def iy (h:p:=by rfl):p:=h
def iz (h:p:=by exact Sl dT):p:=h
def iA (h:p:=by first | exact OC hC dT dT | (exfalso; omega)):p:=h
def iB (h:p:=by first | exact hCs.snoc hCl31 | (exfalso; omega)):p:=h
def iC (h:p:=by exact hWl.P4 d4 hWn):p:=h
def iD (h:p:=by grind [wC]):p:=h
def iE (h:p:=by exact xj hBd (Ui dT dT dT dT hRn d4)):p:=h
def iG (h:p:=by exact sW (P:=λy:Bool=>y=true) hT rfl):p:=h
def iH (h:p:=by exact xG ⟨(⟨0,0⟩:j7),false,eN,rfl⟩):p:=h
def iI (h:p:=by exact xB ⟨(-1),eq,rfl⟩):p:=h
def iJ (h:p:=by exact ⟨by omega,atR⟩):p:=h
def iL (h:p:=by exact xB ⟨false,d5,rfl⟩):p:=h
def iM (h:p:=by exact ⟨.bool true,rfl,true,eK,Sep.cT hS7 _,rfl⟩):p:=h
def iO (h:p:=by exact ⟨.bool false,rfl,false,eK,Sep.cT hS8 _,rfl⟩):p:=h
def iP (h:p:=by exact ⟨.bool true,rfl,true,eO,Sep.cT hS2 _,rfl⟩):p:=h
def iQ (h:p:=by exact xB ⟨false,ez,rfl⟩):p:=h
def iR (h:p:=by exact ⟨_,hc,r0,⟨hp,hr⟩,rfl⟩):p:=h
def iT (h:p:=by exact xG ⟨(⟨0,(mu:Row j7),0,0,0⟩:nh),1,dU,rfl⟩):p:=h
def iU (h:p:=by exact xG ⟨(⟨0,(mu:Row j7),0,0,0⟩:nh),7,dU,rfl⟩):p:=h
def iV (h:p:=by exact xG ⟨(⟨0,(mu:Row j7),0,0,0⟩:nh),9,dU,rfl⟩):p:=h
def iW (h:p:=by exact xG ⟨(⟨1,(⟨[a2.at_],.exact 1,rD,rfl,oq⟩:Row j7),a2.left,0,0⟩:nh),0,dU,rfl⟩):p:=h
def iX (h:p:=by exact xG ⟨(⟨2,(⟨[a2.at_],.exact 1,rD,rfl,oq⟩:Row j7),a2.left,0,0⟩:nh),0,dU,rfl⟩):p:=h
def iY (h:p:=by exact ⟨_,hc,r0,r1,⟨hp,hr⟩,rfl⟩):p:=h
def iZ (h:p:=by exact xB ⟨false,zt⟩):p:=h
def i4 (h:p:=by exact xB ⟨true,zt⟩):p:=h
def i5 (h:p:=by exact ⟨ck k2,rfl,((k2:Int)),eG,Sep.cT hS13 _,rfl⟩):p:=h
def i6 (h:p:=by exact ⟨iv (-1),rfl,(-1),eG,Sep.cT hS14 _,rfl⟩):p:=h
def i7 (h:p:=by exact xB ⟨false,d6,rfl⟩):p:=h
def i9 (h:p:=by exact ⟨.bool false,rfl,false,eO,Sep.cT hS3 _,rfl⟩):p:=h
def ja (h:p:=by exact xB ⟨false,eH,rfl⟩):p:=h
def jb (h:p:=by exact ⟨by omega,((put r21.l true l5)),H22,hS24,atR⟩):p:=h
def jc (h:p:=by exact ⟨.bool true,rfl,true,zT,Sep.cT hS25 _,rfl⟩):p:=h
def jd (h:p:=by exact ⟨by omega,((put r30.l true l5)),H31,hS33,atR⟩):p:=h
def je (h:p:=by exact ⟨.bool false,rfl,false,zT,Sep.cT hS34 _,rfl⟩):p:=h
def jf (h:p:=by exact ⟨.str x2.name.l,rfl,x2.name,zT,Sep.cT hS3 _,rfl⟩):p:=h
def jg (h:p:=by exact xB ⟨false,eS,rfl⟩):p:=h
def jh (h:p:=by exact xB ⟨false,fC,rfl⟩):p:=h
def ji (h:p:=by exact xG ⟨(⟨0,0⟩:j7),false,ee,rfl⟩):p:=h
def jk (h:p:=by exact xB ⟨(⟨(⟨[],by decide⟩:pL),0,0⟩:my),fG,rfl⟩):p:=h
def jl (h:p:=by exact xB ⟨false,eY,rfl⟩):p:=h
def jm (h:p:=by exact xB ⟨false,eU,rfl⟩):p:=h
def jn (h:p:=by exact xB ⟨true,eM,rfl⟩):p:=h
def jo (h:p:=by exact xB ⟨false,eM,rfl⟩):p:=h
def jp (h:p:=by exact xG ⟨(mu:Row Int),false,zt⟩):p:=h
def jq (h:p:=by exact xB ⟨0,zt⟩):p:=h
def jr (h:p:=by exact xB ⟨false,eW,rfl⟩):p:=h
def js (h:p:=by exact xB ⟨false,eJ,rfl⟩):p:=h
def jt (h:p:=by exact ⟨.bool true,rfl,true,zT,Sep.cT hS7 _,rfl⟩):p:=h
def ju (h:p:=by exact ⟨.bool false,rfl,false,zT,Sep.cT hS8 _,rfl⟩):p:=h
def jw (h:p:=by exact ⟨.bool true,rfl,true,zT,Sep.cT hS2 _,rfl⟩):p:=h
def jx (h:p:=by exact ⟨.bool false,rfl,false,zT,Sep.cT hS3 _,rfl⟩):p:=h
def jy (h:p:=by exact xG ⟨(mu:Row lV),fi,rfl⟩):p:=h
def jz (h:p:=by exact xG ⟨(⟨[(⟨0,0⟩:lV)],.exact 1,rD,rfl,oq⟩:Row lV),fi,rfl⟩):p:=h
def jA (h:p:=by exact ⟨ck k2,rfl,((k2:Int)),zT,Sep.cT hS13 _,rfl⟩):p:=h
def jB (h:p:=by exact xB ⟨false,fX,rfl⟩):p:=h
def jC (h:p:=by exact xB ⟨1,eu,rfl⟩):p:=h
def jD (h:p:=by exact xB ⟨false,d3,rfl⟩):p:=h
def jE (h:p:=by exact xB ⟨true,d3,rfl⟩):p:=h
def jF (h:p:=by exact ⟨by omega,(by exact xj hRn (ne_nil hRe dT)),atR⟩):p:=h
def jG (h:p:=by exact xG ⟨(⟨(⟨[],by decide⟩:pL),0,(⟨0,0⟩:j7),0⟩:mA),false,d9,rfl⟩):p:=h
def jH (h:p:=by exact xG ⟨(⟨x5.name,x5.ko,r7,0⟩:mA),true,d9,rfl⟩):p:=h
def jI (h:p:=by exact xG ⟨(⟨x5.name,x5.ko,r7,x5.left⟩:mA),true,d9,rfl⟩):p:=h
def jJ (h:p:=by exact xG ⟨(⟨0,(mu:Row j7),0,0,0⟩:nh),1,eP,rfl⟩):p:=h
def jK (h:p:=by exact xG ⟨(⟨0,(mu:Row j7),0,0,0⟩:nh),7,eP,rfl⟩):p:=h
def jL (h:p:=by exact xG ⟨(⟨1,(⟨[a2.at_],.exact 1,rD,rfl,oq⟩:Row j7),0,0,0⟩:nh),0,eP,rfl⟩):p:=h
def jM (h:p:=by exact xG ⟨(⟨0,(mu:Row j7),0,0,0⟩:nh),9,eP,rfl⟩):p:=h
def jN (h:p:=by exact xG ⟨(⟨2,(⟨[a2.at_],.exact 1,rD,rfl,oq⟩:Row j7),a2.left,0,0⟩:nh),0,eP,rfl⟩):p:=h
def jO (h:p:=by exact ⟨by omega,v11,l12,H13,dX,ed,hS14,(kF hS14 [(13,0)])⟩):p:=h
def jP (h:p:=by exact xG ⟨(⟨(mu:Row Int),(mu:Row lL)⟩:kn),eF,rfl⟩):p:=h
def jQ (h:p:=by exact ⟨by omega,v16,l17,v18,l19,b20,H21,fK,gK,fP,hS22,(kF hS22 [(0,1),(4,0)])⟩):p:=h
def jR (h:p:=by exact xB ⟨false,eE,rfl⟩):p:=h
def jS (h:p:=by exact xG ⟨(mu:Row Int),e8,rfl⟩):p:=h
def jT (h:p:=by exact ⟨by omega,v20,l21,H22,dX,fW,ey,hS23,(kF hS23 [(14,0)])⟩):p:=h
def jU (h:p:=by exact xB ⟨false,eB,rfl⟩):p:=h
def jV (h:p:=by exact ⟨by omega,fE,atR⟩):p:=h
def jW (h:p:=by exact xB ⟨false,eD,rfl⟩):p:=h
def jX (h:p:=by exact xB ⟨false,fA,rfl⟩):p:=h
def jY (h:p:=by exact ⟨by omega,x6.at_,iz,fZ,atR⟩):p:=h
def jZ (h:p:=by exact xB ⟨3,d8,rfl⟩):p:=h
def j1 (h:p:=by exact ⟨by omega,v33,l34,H35,dX,fw,ff,hS36,(kF hS36 [(10,0)])⟩):p:=h
def j3 (h:p:=by exact xB ⟨(-1),ew,rfl⟩):p:=h
def j4 (h:p:=by exact ⟨by omega,((l48.set ((x51).toNat) true)),eZ,fj,atR⟩):p:=h
def j5 (h:p:=by exact ⟨by omega,v65,l66,H67,dX,eL,hS68,atR⟩):p:=h
def j6 (h:p:=by exact xG ⟨(mu:Row lD),false,eA,rfl⟩):p:=h
end
end Go.Sx
