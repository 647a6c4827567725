/- Proves rules for the walks and their soundness. -/
import Derived.Test.YtihofefpkjfmnaaGreatTag
set_option linter.all false
set_option maxRecDepth 100000
namespace Go.Sx
open Go
abbrev oD (k:Int):AV:=.ip [iv k,.fm (lE iK pK []) false,.fm (lE iK pK []) false,.fm (lE iK pK []) false,.fm (lE iK pK []) false] 0 false
abbrev oz (n:iS):AV:=.ip [.ip (iS.ag n) 0 false,.fm (lE pK bK []) false] 0 false
abbrev nT (c:j5) (l:Row lF) (k:Int) (n:iS) (s:Row Int):AV:=.ip [Row.av lV.ag c.dO.elems,Row.av lQ.ag c.dO.kg,Row.av lP.ag c.dO.signals,Row.av lr.ag c.dO.lines,iv c.dO.top,iv c.dO.kU,iv c.dO.kK,iv c.dO.kM,.bool c.dO.lq,Row.av kz.ag c.roads,Row.av lF.ag l,oD k,oz n,Row.av j6 s] 0 false
abbrev nu (w:iS) (c:j5) (l:Row lF) (k:Int) (n:iS) (s:Row Int) (f:AV) (ws:Row j4) (wb:Row kr) (wl:Row Int):AV:=.ip [.ip (iS.ag w) 0 false,nT c l k n s,f,Row.av j4.ag ws,Row.av kr.ag wb,Row.av j6 wl,.sl [] .nil,.sl [] .nil,.sl [] .nil,.sl [] .nil,.bool false,iv 0,.bool false] 0 false
abbrev mE (n:iS) (c:j5) (d:jV) (a b e f:AV):List AV:=[.ip (iS.ag n) 0 false,Row.av lV.ag c.dO.elems,Row.av lQ.ag c.dO.kg,Row.av lP.ag c.dO.signals,Row.av lr.ag c.dO.lines,iv c.dO.top,iv c.dO.kU,iv c.dO.kK,iv c.dO.kM,.bool c.dO.lq,Row.av kz.ag c.roads,iv d.mR,Row.av j4.ag d.j3,Row.av lj.ag d.runs,a,b,e,f]
abbrev lZ {α:Type}:Row α:=⟨[],.nil,Nat.zero_le _,rfl,λ_=>rfl⟩
def zt {α:Sort _} {a:α}:True/\a=a:=⟨trivial,rfl⟩
def zT:True:=trivial
def pR {a b:Nat} (h:Nat.ble a b=true:=by rfl):a<=b:=Nat.le_of_ble_eq_true h
abbrev my {α:Type} (enc:α->List AV) (n:Nat) (v:AV) (l:List α):lC:=.sl true true v n (List.map enc l)
abbrev m6 {α:Type} (enc:α->List AV) (n:Nat) (v:AV) (l:List α):lC:=.sl true false v n (List.map enc l)
abbrev JS {α:Type} (enc:α->List AV) (n:Nat) (v:AV) (l:List α):lC:=.sl false true v n (List.map enc l)
abbrev lG (v:AV) (l:List Int):lC:=.sl true true v 1 (List.map j6 l)
abbrev jQ (b:Nat):AV:=.ptr b 0 0 0
abbrev kO (b:Nat) (c:List AV):lC:=.obj (.ptr b 0 0 0) c
abbrev ng {κ β:Type} (b:Nat) (ek:κ->AV) (ev:β->AV) (l:List (κ×β)):lC:=.map (.hm b) (lE ek ev l)
abbrev bY (n:Nat):AV:=.int .i64 (n:Int)
abbrev kN (r:Row Int):AV:=Row.av j6 r
abbrev ly (r:jS Int):AV:=jS.av j6 r
abbrev kX (r:Row kr):AV:=Row.av kr.ag r
abbrev kS (r:Row kP):AV:=Row.av kP.ag r
abbrev kB (r:Row lV):AV:=Row.av lV.ag r
abbrev kC (r:Row lQ):AV:=Row.av lQ.ag r
abbrev nQ (r:Row lU):AV:=Row.av lU.ag r
abbrev nK (r:Row lF):AV:=Row.av lF.ag r
abbrev j8 (r:Row lr):AV:=Row.av lr.ag r
abbrev lT (r:Row lI):AV:=Row.av lI.ag r
abbrev nV (r:Row jT):AV:=Row.av jT.ag r
abbrev ki (r:Row kz):AV:=Row.av kz.ag r
abbrev mc (r:Row lj):AV:=Row.av lj.ag r
abbrev kF (r:Row lP):AV:=Row.av lP.ag r
abbrev kQ (r:Row kL):AV:=Row.av kL.ag r
abbrev kj (r:Row j4):AV:=Row.av j4.ag r
abbrev oE (r:Row mq):AV:=Row.av mq.ag r
abbrev uI (r:Row lX):AV:=Row.av lX.ag r
section
variable {C:lW} {F:nd} {Pr:mO} {fa:kb} {e:Env} {h:aT} {all rest:List Oper} {o:Oper} {q:Env->aT->Prop} {sch:List (Nat×List Nat)} {i t u el:Nat} {x y:Operand} {k k':IntKind} {cl:Call} {ti te:TI} {α:Type} {enc : α->List AV} {H:aT} {ls:mW} {cs cs' new:List AV} {v:AV} {fs:List (Nat×Nat)} {off ft f j i' n:Nat} {wr tt:Bool} {l:List α}
def nE {p:Prop} {n:Nat} (h:pb.exact n=.nil):p:=by cases h
def kD {a b:Int} (w:mH C F Pr fa all rest q (kJ e o (.int .i64 (a+b))) h) (ho:o.op=.binOp .add t x y u:=by rfl) (hw:kT all e o=some true:=by rfl) (hx:ky e x=.int .i64 a:=by rfl) (hy:ky e y=.int k' b:=by rfl) (hk:pZ .i64 k'=true:=by rfl) (h1 : -9223372036854775808<=a+b:=by first | omega | (simp<;>omega) | (simp_all; omega)) (h2:a+b<=9223372036854775807:=by first | omega | (simp<;>omega) | (simp_all; omega)):mH C F Pr fa all (o::rest) q e h:=jP hw (λ_=>by rw [ho]; exact me hx hy hk (zL a b h1 h2)) w
def Wj {a b:Int} (w:mz C F Pr fa all sch q (kJ e o (.int .i64 (a+b))) h) (hi:all[i]?=some o:=by rfl) (ho:o.op=.binOp .add t x y u:=by rfl) (hw:kT all e o=some true:=by rfl) (hx:ky e x=.int .i64 a:=by rfl) (hy:ky e y=.int k' b:=by rfl) (hk:pZ .i64 k'=true:=by rfl) (h1 : -9223372036854775808<=a+b:=by first | omega | (simp<;>omega) | (simp_all; omega)) (h2:a+b<=9223372036854775807:=by first | omega | (simp<;>omega) | (simp_all; omega)):mz C F Pr fa all ((i,[])::sch) q e h:=kp hi hw (λ_=>by rw [ho]; exact me hx hy hk (zL a b h1 h2)) w
def pL {a b:Int} (w:mH C F Pr fa all rest q (kJ e o (.int .i64 (a - b))) h) (ho:o.op=.binOp .sub t x y u:=by rfl) (hw:kT all e o=some true:=by rfl) (hx:ky e x=.int .i64 a:=by rfl) (hy:ky e y=.int k' b:=by rfl) (hk:pZ .i64 k'=true:=by rfl) (h1 : -9223372036854775808<=a - b:=by first | omega | (simp<;>omega) | (simp_all; omega)) (h2:a - b<=9223372036854775807:=by first | omega | (simp<;>omega) | (simp_all; omega)):mH C F Pr fa all (o::rest) q e h:=jP hw (λ_=>by rw [ho]; exact me hx hy hk (E4 a b h1 h2)) w
def Ru {a b:Int} (w:mz C F Pr fa all sch q (kJ e o (.int .i64 (a - b))) h) (hi:all[i]?=some o:=by rfl) (ho:o.op=.binOp .sub t x y u:=by rfl) (hw:kT all e o=some true:=by rfl) (hx:ky e x=.int .i64 a:=by rfl) (hy:ky e y=.int k' b:=by rfl) (hk:pZ .i64 k'=true:=by rfl) (h1 : -9223372036854775808<=a - b:=by first | omega | (simp<;>omega) | (simp_all; omega)) (h2:a - b<=9223372036854775807:=by first | omega | (simp<;>omega) | (simp_all; omega)):mz C F Pr fa all ((i,[])::sch) q e h:=kp hi hw (λ_=>by rw [ho]; exact me hx hy hk (E4 a b h1 h2)) w
def lu (r:Row α) (w:mH C F Pr fa all rest q (kJ e o (.int .i64 r.l.length)) h) (ho:o.op=.call cl:=by rfl) (hw:kT all e o=some true:=by rfl) (hc:cl.callee=.builtin .len:=by rfl) (ha:cl.args.toList=[x]:=by rfl) (hts:cl.argTypes.toList=[t]:=by rfl) (hT:C.T t=some ti:=by rfl) (hk:ti.kind=.slice el:=by rfl) (hx:ky e x=r.av enc:=by rfl):mH C F Pr fa all (o::rest) q e h:=jP hw (λ_=>by rw [ho]; exact FL hc ha hts hT hk hx) w
def vx (r:Row α) (w:mz C F Pr fa all sch q (kJ e o (.int .i64 r.l.length)) h) (hi:all[i]?=some o:=by rfl) (ho:o.op=.call cl:=by rfl) (hw:kT all e o=some true:=by rfl) (hc:cl.callee=.builtin .len:=by rfl) (ha:cl.args.toList=[x]:=by rfl) (hts:cl.argTypes.toList=[t]:=by rfl) (hT:C.T t=some ti:=by rfl) (hk:ti.kind=.slice el:=by rfl) (hx:ky e x=r.av enc:=by rfl):mz C F Pr fa all ((i,[])::sch) q e h:=kp hi hw (λ_=>by rw [ho]; exact FL hc ha hts hT hk hx) w
def ml (n:Nat) (r:Row α) (hn:n<r.l.length) (w:mH C F Pr fa all rest q (kJ e o (.ip (enc r.l[n]) 0 false)) h) (ho:o.op=.indexAddr t x y:=by rfl) (hw:kT all e o=some true:=by rfl) (hT:C.T t=some ti:=by rfl) (hk:ti.kind=.slice el:=by rfl) (hE:C.T el=some te:=by rfl) (hx:ky e x=r.av enc:=by rfl) (hi:ky e y=.int k (n:Int):=by rfl) (hl:(enc r.l[n]).length=te.size:=by rfl):mH C F Pr fa all (o::rest) q e h:=jP hw (λ_=>by rw [ho]; exact wO hT hk hE hx hi hn hl) w
def ph (n:Nat) (r:Row α) (hn:n<r.l.length) (w:mz C F Pr fa all sch q (kJ e o (.ip (enc r.l[n]) 0 false)) h) (hi':all[i]?=some o:=by rfl) (ho:o.op=.indexAddr t x y:=by rfl) (hw:kT all e o=some true:=by rfl) (hT:C.T t=some ti:=by rfl) (hk:ti.kind=.slice el:=by rfl) (hE:C.T el=some te:=by rfl) (hx:ky e x=r.av enc:=by rfl) (hi:ky e y=.int k (n:Int):=by rfl) (hl:(enc r.l[n]).length=te.size:=by rfl):mz C F Pr fa all ((i,[])::sch) q e h:=kp hi' hw (λ_=>by rw [ho]; exact wO hT hk hE hx hi hn hl) w
def xB {A P:AV->Prop} {B:AV->AV->Prop} {x:AV} (p:P x) (a:A x:=by rfl) (b:B x x:=by rfl):∃ v,A v/\∃ w,B v w/\P w:=⟨x,a,x,b,p⟩
def xG {A P:AV->Prop} {B:AV->AV->Prop} {x:AV} (p:P x) (a:A x:=by rfl) (b:B x x:=by simp only [iF.ag,lV.ag,jT.ag,lQ.ag,lP.ag,lr.ag,j4.ag,lU.ag,lj.ag,jV.ag,kL.ag,lI.ag,kz.ag,kr.ag,lX.ag,jY.ag,iS.ag,pP.ag,j5.ag,lF.ag,mq.ag,kP.ag,FZ]<;>rfl):∃ v,A v/\∃ w,B v w/\P w:=⟨x,a,x,b,p⟩
def od (i:Nat) {L:List lC} (hS:Sep H L) (w:mH C F Pr fa all rest q (kJ e o (pg v (j+off))) h) (ho:o.op=.fieldAddr t x f:=by rfl) (hw:kT all e o=some true:=by rfl) (hi:L[i]?=some (.obj v cs):=by rfl) (hT:C.T t=some ti:=by rfl) (hk:ti.kind=.struct fs:=by rfl) (hf:fs[f]?=some (off,ft):=by rfl) (hx:ky e x=pg v j:=by rfl):mH C F Pr fa all (o::rest) q e h:=jP hw (λ_=>by rw [ho]; exact nw hS hi hT hk hf hx) w
def ni (i:Nat) {L:List lC} (hS:Sep H L) (w:mz C F Pr fa all sch q (kJ e o (pg v (j+off))) h) (hj:all[i']?=some o:=by rfl) (ho:o.op=.fieldAddr t x f:=by rfl) (hw:kT all e o=some true:=by rfl) (hi:L[i]?=some (.obj v cs):=by rfl) (hT:C.T t=some ti:=by rfl) (hk:ti.kind=.struct fs:=by rfl) (hf:fs[f]?=some (off,ft):=by rfl) (hx:ky e x=pg v j:=by rfl):mz C F Pr fa all ((i',[])::sch) q e h:=kp hj hw (λ_=>by rw [ho]; exact nw hS hi hT hk hf hx) w
def uj (i:Nat) {L:List lC} (hS:Sep H L) (w:mH C F Pr fa all rest q (kJ e o (pg v j)) h) (ho:o.op=.nilCheck x:=by rfl) (hw:kT all e o=some true:=by rfl) (hi:L[i]?=some (.obj v cs):=by rfl) (hx:ky e x=pg v j:=by rfl):mH C F Pr fa all (o::rest) q e h:=jP hw (λ_=>by rw [ho]; exact oG hS hi hx) w
def nF (i:Nat) {L:List lC} (hS:Sep H L) (w:mz C F Pr fa all sch q (kJ e o (pg v j)) h) (hj:all[i']?=some o:=by rfl) (ho:o.op=.nilCheck x:=by rfl) (hw:kT all e o=some true:=by rfl) (hi:L[i]?=some (.obj v cs):=by rfl) (hx:ky e x=pg v j:=by rfl):mz C F Pr fa all ((i',[])::sch) q e h:=kp hj hw (λ_=>by rw [ho]; exact oG hS hi hx) w
def m5 (i:Nat) {L:List lC} (hS:Sep H L) (r:AV) (w:mH C F Pr fa all rest q (kJ e o r) h) (ho:o.op=.load t x:=by rfl) (hw:kT all e o=some true:=by rfl) (hi:L[i]?=some (.obj v cs):=by rfl) (hT:C.T t=some ti:=by rfl) (hx:ky e x=pg v j:=by rfl) (hp:part ti cs j=some r:=by rfl) (hh:h = { H with cH:=ls }:=by rfl):mH C F Pr fa all (o::rest) q e h:=by subst hh; exact jP hw (λ_=>by rw [ho]; exact mj hS hi hT hp hx) w
def nX (i:Nat) {L:List lC} (hS:Sep H L) (r:AV) (w:mz C F Pr fa all sch q (kJ e o r) h) (hj:all[i']?=some o:=by rfl) (ho:o.op=.load t x:=by rfl) (hw:kT all e o=some true:=by rfl) (hi:L[i]?=some (.obj v cs):=by rfl) (hT:C.T t=some ti:=by rfl) (hx:ky e x=pg v j:=by rfl) (hp:part ti cs j=some r:=by rfl) (hh:h = { H with cH:=ls }:=by rfl):mz C F Pr fa all ((i',[])::sch) q e h:=by subst hh; exact kp hj hw (λ_=>by rw [ho]; exact mj hS hi hT hp hx) w
def DN (i:Nat) {L:List lC} (hS:Sep H L) (r:AV) (w:∀ H',Sep H' (L.set i (.obj v cs'))->mH C F Pr fa all rest q (kJ e o .undef) { H' with cH:=ls }) (ho:o.op=.store t x y:=by rfl) (hw:kT all e o=some true:=by rfl) (hi:L[i]?=some (.obj v cs):=by rfl) (hT:C.T t=some ti:=by rfl) (hx:ky e x=pg v j:=by rfl) (hy:ky e y=r:=by rfl) (hn:cellsOf ti r=some new:=by rfl) (hok:new.all AV.mC=true:=by rfl) (hsp:pe cs j new=some cs':=by rfl) (hh:h = { H with cH:=ls }:=by rfl):mH C F Pr fa all (o::rest) q e h:=by subst hh; exact kn hw (by rw [ho]; exact lY hS hi hT hx hy hn hok hsp) (λ_ H' h=>by obtain ⟨rfl,h⟩:=h; exact w H' h)
def Wh (i:Nat) {L:List lC} (hS:Sep H L) (r:AV) (w:∀ H',Sep H' (L.set i (.obj v cs'))->mz C F Pr fa all sch q (kJ e o .undef) { H' with cH:=ls }) (hj:all[i']?=some o:=by rfl) (ho:o.op=.store t x y:=by rfl) (hw:kT all e o=some true:=by rfl) (hi:L[i]?=some (.obj v cs):=by rfl) (hT:C.T t=some ti:=by rfl) (hx:ky e x=pg v j:=by rfl) (hy:ky e y=r:=by rfl) (hn:cellsOf ti r=some new:=by rfl) (hok:new.all AV.mC=true:=by rfl) (hsp:pe cs j new=some cs':=by rfl) (hh:h = { H with cH:=ls }:=by rfl):mz C F Pr fa all ((i',[])::sch) q e h:=by subst hh; exact lH hj hw (by rw [ho]; exact lY hS hi hT hx hy hn hok hsp) (λ_ H' h=>by obtain ⟨rfl,h⟩:=h; exact w H' h)
def Oz (i:Nat) (ys:List α) {L:List lC} (hS:Sep H L) (w:∀ v' H',Sep H' (L.set i (.sl wr tt v' n ((l++ys).map enc)))->mH C F Pr fa all rest q (kJ e o v') { H' with cH:=ls }) (ho:o.op=.call cl:=by rfl) (hw:kT all e o=some true:=by rfl) (hi:L[i]?=some (.sl wr tt v n (l.map enc)):=by rfl) (hc:cl.callee=.builtin .append:=by rfl) (ha:cl.args.toList=[x,y]:=by rfl) (hts:cl.argTypes.toList=[t,u]:=by rfl) (hT:rG C [t,u]=some ti:=by rfl) (hSr:BO C [t,u]=true:=by rfl) (hn:ti.size=n:=by rfl) (hs:ky e x=v:=by rfl) (hx:pT { H with cH:=ls } (ky e y)=some (ys.map enc):=by rfl) (hok:∀ y,(enc y).all AV.mC=true:=by exact λ_=>rfl) (ht:tt=true\/ys.length=1:=by first | exact .inl rfl | exact .inr rfl) (hm:l.length+ys.length<=sj:=by simp only [sj]; first | omega | (simp<;>omega)) (henc:∀ x,(enc x).length=n:=by exact λ_=>rfl) (hh:h = { H with cH:=ls }:=by rfl):mH C F Pr fa all (o::rest) q e h:=by subst hh; exact kn hw (by rw [ho]; exact kZ ys hS hi hc ha hts hT hSr hn hs hx hok ht hm henc) (λv' H' h=>w v' H' h)
def Wb (i:Nat) (ys:List α) {L:List lC} (hS:Sep H L) (w:∀ v' H',Sep H' (L.set i (.sl wr tt v' n ((l++ys).map enc)))->mz C F Pr fa all sch q (kJ e o v') { H' with cH:=ls }) (hj:all[i']?=some o:=by rfl) (ho:o.op=.call cl:=by rfl) (hw:kT all e o=some true:=by rfl) (hi:L[i]?=some (.sl wr tt v n (l.map enc)):=by rfl) (hc:cl.callee=.builtin .append:=by rfl) (ha:cl.args.toList=[x,y]:=by rfl) (hts:cl.argTypes.toList=[t,u]:=by rfl) (hT:rG C [t,u]=some ti:=by rfl) (hSr:BO C [t,u]=true:=by rfl) (hn:ti.size=n:=by rfl) (hs:ky e x=v:=by rfl) (hx:pT { H with cH:=ls } (ky e y)=some (ys.map enc):=by rfl) (hok:∀ y,(enc y).all AV.mC=true:=by exact λ_=>rfl) (ht:tt=true\/ys.length=1:=by first | exact .inl rfl | exact .inr rfl) (hm:l.length+ys.length<=sj:=by simp only [sj]; first | omega | (simp<;>omega)) (henc:∀ x,(enc x).length=n:=by exact λ_=>rfl) (hh:h = { H with cH:=ls }:=by rfl):mz C F Pr fa all ((i',[])::sch) q e h:=by subst hh; exact lH hj hw (by rw [ho]; exact kZ ys hS hi hc ha hts hT hSr hn hs hx hok ht hm henc) (λv' H' h=>w v' H' h)
end
section
variable {p q:Prop}
def aa (w:q) (h:q->p:=by intro w_;refine qq ?_;refine qg ?_;exact w_):p:=h w
def ab (w:q) (h:q->p:=by intro w_;refine oV ?_;refine oN ?_;exact w_):p:=h w
def ac (w:q) (h:q->p:=by intro w_;refine qT ?_;refine qq ?_;refine qg ?_;refine oV ?_;refine oN ?_;refine qr ?_;exact w_):p:=h w
def ae (w:q) (h:q->p:=by intro w_;refine qq ?_;refine qg ?_;(iterate 2 refine oV ?_);exact w_):p:=h w
def af (w:q) (h:q->p:=by intro w_;refine oV ?_;refine oN ?_;refine qr ?_;exact w_):p:=h w
def ah (w:q) (h:q->p:=by intro w_;refine oN ?_;refine qF ?_;refine qk ?_;exact w_):p:=h w
def ai (w:q) (h:q->p:=by intro w_;refine qq ?_;refine qg ?_;refine oV ?_;exact w_):p:=h w
def aj (w:q) (h:q->p:=by intro w_;refine oN ?_;refine qs ?_;refine qF ?_;refine qe ?_;exact w_):p:=h w
def ak (w:q) (h:q->p:=by intro w_;refine oN ?_;refine qs ?_;refine qT ?_;refine qk ?_;exact w_):p:=h w
def am (w:q) (h:q->p:=by intro w_;(iterate 2 refine oV ?_);exact w_):p:=h w
def ao (w:q) (h:q->p:=by intro w_;refine oV ?_;refine oN ?_;refine qs ?_;refine qq ?_;refine qg ?_;refine oV ?_;exact w_):p:=h w
def ap (w:q) (h:q->p:=by intro w_;refine oV ?_;refine oN ?_;refine qs ?_;exact w_):p:=h w
def aq (w:q) (h:q->p:=by intro w_;refine qs ?_;refine qq ?_;refine qg ?_;refine oV ?_;exact w_):p:=h w
def au (w:q) (h:q->p:=by intro w_;refine oV ?_;refine oN ?_;refine qT ?_;refine qq ?_;refine qg ?_;refine oV ?_;refine oN ?_;refine qr ?_;exact w_):p:=h w
def aw (w:q) (h:q->p:=by intro w_;refine qs ?_;refine qb ?_;refine qq ?_;refine qg ?_;refine oV ?_;exact w_):p:=h w
def ay (w:q) (h:q->p:=by intro w_;refine qs ?_;refine qb ?_;exact w_):p:=h w
def az (w:q) (h:q->p:=by intro w_;refine oN ?_;refine qT ?_;exact w_):p:=h w
def aA (w:q) (h:q->p:=by intro w_;refine rP hA ?_;refine qq ?_;refine qg ?_;exact w_):p:=h w
def aB (w:q) (h:q->p:=by intro w_;refine qT ?_;refine qq ?_;refine qg ?_;(iterate 3 refine oV ?_);refine oN ?_;refine qr ?_;exact w_):p:=h w
def aC (w:q) (h:q->p:=by intro w_;refine oV ?_;refine oN ?_;refine qb ?_;exact w_):p:=h w
def aD (w:q) (h:q->p:=by intro w_;(iterate 2 refine oV ?_);(iterate 5 refine oS ?_);(iterate 2 refine oV ?_);(iterate 5 refine oS ?_);exact w_):p:=h w
def aE (w:q) (h:q->p:=by intro w_;(iterate 2 refine oV ?_);(iterate 3 refine oS ?_);(iterate 2 refine oV ?_);(iterate 3 refine oS ?_);exact w_):p:=h w
def aF (w:q) (h:q->p:=by intro w_;(iterate 3 refine oV ?_);exact w_):p:=h w
def aG (w:q) (h:q->p:=by intro w_;refine oV ?_;refine oN ?_;refine qq ?_;refine qg ?_;(iterate 2 refine oV ?_);exact w_):p:=h w
def aH (w:q) (h:q->p:=by intro w_;refine oV ?_;refine oN ?_;refine qF ?_;refine qk ?_;exact w_):p:=h w
def aI (w:q) (h:q->p:=by intro w_;(iterate 2 refine rV ?_);exact w_):p:=h w
def aJ (w:q) (h:q->p:=by intro w_;refine oN ?_;refine qT ?_;refine qq ?_;refine qg ?_;(iterate 2 refine oV ?_);refine oN ?_;refine qr ?_;exact w_):p:=h w
def aK (w:q) (h:q->p:=by intro w_;(iterate 4 refine oV ?_);exact w_):p:=h w
def aL (w:q) (h:q->p:=by intro w_;refine qq ?_;refine qd ?_;exact w_):p:=h w
def aM (w:q) (h:q->p:=by intro w_;refine qg ?_;refine oV ?_;exact w_):p:=h w
def aN (w:q) (h:q->p:=by intro w_;refine oN ?_;refine qF ?_;refine qe ?_;exact w_):p:=h w
def aO (w:q) (h:q->p:=by intro w_;refine rV ?_;refine rN ?_;exact w_):p:=h w
def aP (w:q) (h:q->p:=by intro w_;(iterate 5 refine oV ?_);exact w_):p:=h w
def aQ (w:q) (h:q->p:=by intro w_;(iterate 2 refine oV ?_);(iterate 4 refine oS ?_);exact w_):p:=h w
def aR (w:q) (h:q->p:=by intro w_;(iterate 2 refine oV ?_);refine oN ?_;refine qr ?_;exact w_):p:=h w
def aS (w:q) (h:q->p:=by intro w_;refine oN ?_;refine qs ?_;refine qF ?_;refine qe ?_;refine qq ?_;refine qg ?_;refine oV ?_;refine oN ?_;refine qr ?_;exact w_):p:=h w
def aU (w:q) (h:q->p:=by intro w_;refine qq ?_;refine qg ?_;refine oV ?_;refine oN ?_;refine qr ?_;exact w_):p:=h w
def aV (w:q) (h:q->p:=by intro w_;(iterate 2 refine rV ?_);refine rN ?_;refine qr ?_;exact w_):p:=h w
def aW (w:q) (h:q->p:=by intro w_;refine oN ?_;refine qT ?_;refine qq ?_;refine qg ?_;refine oV ?_;refine oN ?_;refine qr ?_;exact w_):p:=h w
def aX (w:q) (h:q->p:=by intro w_;refine qs ?_;refine qq ?_;refine qg ?_;(iterate 2 refine oV ?_);exact w_):p:=h w
def aY (w:q) (h:q->p:=by intro w_;refine qq ?_;refine qg ?_;refine oV ?_;refine oN ?_;refine qs ?_;refine qq ?_;refine qg ?_;refine oV ?_;exact w_):p:=h w
def aZ (w:q) (h:q->p:=by intro w_;refine oV ?_;refine oN ?_;refine qq ?_;refine qg ?_;refine oV ?_;exact w_):p:=h w
def a6 (w:q) (h:q->p:=by intro w_;refine qq ?_;refine qg ?_;(iterate 3 refine oV ?_);exact w_):p:=h w
def a8 (w:q) (h:q->p:=by intro w_;(iterate 2 refine oV ?_);refine oN ?_;refine qF ?_;refine qk ?_;refine qq ?_;refine qg ?_;(iterate 8 refine oV ?_);refine oN ?_;refine qs ?_;refine qq ?_;refine qg ?_;refine oV ?_;exact w_):p:=h w
def ba (w:q) (h:q->p:=by intro w_;refine jP rfl (λ_=>oG (i:=0) hS rfl rfl) ?_;refine jP rfl (λ_=>nw (i:=0) hS rfl rfl rfl rfl rfl) ?_;exact w_):p:=h w
def bc (w:q) (h:q->p:=by intro w_;refine oN ?_;refine qT ?_;refine qg ?_;(iterate 2 refine oV ?_);refine oN ?_;refine qq ?_;refine qg ?_;(iterate 3 refine oV ?_);refine oN ?_;refine qr ?_;exact w_):p:=h w
def bd (w:q) (h:q->p:=by intro w_;refine qs ?_;refine qb ?_;refine qq ?_;refine qg ?_;exact w_):p:=h w
def be (w:q) (h:q->p:=by intro w_;refine oV ?_;refine oN ?_;refine qT ?_;exact w_):p:=h w
def bf (w:q) (h:q->p:=by intro w_;refine jP rfl (λ_=>me rfl rfl rfl (tR .i64 a2.left a1)) ?_;refine oV ?_;exact w_):p:=h w
def bg (w:q) (h:q->p:=by intro w_;refine oN ?_;refine qT ?_;refine qk ?_;refine qs ?_;refine qb ?_;exact w_):p:=h w
def bh (w:q) (h:q->p:=by intro w_;(iterate 2 refine oV ?_);refine oN ?_;exact w_):p:=h w
def bi (w:q) (h:q->p:=by intro w_;(iterate 2 refine oV ?_);(iterate 2 refine oS ?_);exact w_):p:=h w
def bj (w:q) (h:q->p:=by intro w_;(iterate 3 refine rV ?_);exact w_):p:=h w
def bk (w:q) (h:q->p:=by intro w_;refine oV ?_;refine oN ?_;refine qF ?_;refine qk ?_;refine wz [.fm (lE pK pK a1) false,.la 2 0,(.hm b1),.la 7 0,kF a0.signals,bY a0.signals.l.length,bY k5] H7 [(2,(iF.ag a0)),(7,(lP.ag x11))] ?_;exact w_):p:=h w
def bo (w:q) (h:q->p:=by intro w_;refine rP hA ?_;refine qs ?_;refine qq ?_;refine qg ?_;(iterate 3 refine oV ?_);exact w_):p:=h w
def bp (w:q) (h:q->p:=by intro w_;refine oV ?_;(iterate 4 refine oS ?_);exact w_):p:=h w
def br (w:q) (h:q->p:=by intro w_;refine oV ?_;refine oN ?_;refine qF ?_;refine qq ?_;refine qg ?_;exact w_):p:=h w
def bu (w:q) (h:q->p:=by intro w_;(iterate 3 refine oV ?_);refine oN ?_;exact w_):p:=h w
def bv (w:q) (h:q->p:=by intro w_;refine oV ?_;(iterate 2 refine oS ?_);exact w_):p:=h w
def bz (w:q) (h:q->p:=by intro w_;refine qg ?_;(iterate 3 refine oV ?_);exact w_):p:=h w
def bA (w:q) (h:q->p:=by intro w_;refine rV ?_;refine rN ?_;refine qF ?_;refine qk ?_;exact w_):p:=h w
def bB (w:q) (h:q->p:=by intro w_;refine oN ?_;refine qF ?_;refine qk ?_;refine qq ?_;refine qg ?_;(iterate 3 refine oV ?_);refine oN ?_;refine qr ?_;exact w_):p:=h w
def bC (w:q) (h:q->p:=by intro w_;refine oN ?_;refine qs ?_;refine qT ?_;refine qk ?_;refine qs ?_;refine qb ?_;refine qq ?_;refine qg ?_;exact w_):p:=h w
def bD (w:q) (h:q->p:=by intro w_;(iterate 2 refine oV ?_);refine jP rfl (λ_=>nw (i:=0) hS15 rfl rfl rfl rfl rfl) ?_;refine jP rfl (λ_=>mj (i:=0) (o:=1) (r:=iv x10.j3) hS15 rfl rfl rfl rfl) ?_;exact w_):p:=h w
def bE (w:q) (h:q->p:=by intro w_;refine rV ?_;refine kp rfl rfl (λ_=>K0 rfl rfl rfl rfl (Cd rfl)) ?_;refine rN ?_;refine qF ?_;refine qk ?_;refine qg ?_;exact w_):p:=h w
def bF (w:q) (h:q->p:=by intro w_;refine kp rfl rfl (λ_=>oG (i:=0) hS5 rfl rfl) ?_;refine kp rfl rfl (λ_=>nw (i:=0) hS5 rfl rfl rfl rfl rfl) ?_;refine kp rfl rfl (λ_=>mj (i:=0) (o:=15) (r:=v2) hS5 rfl rfl rfl rfl) ?_;refine rV ?_;refine kp rfl rfl (λ_=>oG (i:=0) hS5 rfl rfl) ?_;refine kp rfl rfl (λ_=>nw (i:=0) hS5 rfl rfl rfl rfl rfl) ?_;refine kp rfl rfl (λ_=>mj (i:=0) (o:=17) (r:=vow) hS5 rfl rfl rfl rfl) ?_;refine rV ?_;exact w_):p:=h w
def bG (w:q) (h:q->p:=by intro w_;refine qs ?_;refine qq ?_;refine qg ?_;refine oV ?_;refine oN ?_;refine qb ?_;exact w_):p:=h w
def bH (w:q) (h:q->p:=by intro w_;refine jP rfl (λ_=>m8 (r:=a2) (enc:=jY.ag) rfl rfl rfl rfl rfl rfl) ?_;refine oV ?_;refine oN ?_;refine qb ?_;exact w_):p:=h w
def bI (w:q) (h:q->p:=by intro w_;refine qq ?_;refine qg ?_;refine oV ?_;refine oN ?_;exact w_):p:=h w
def bJ (w:q) (h:q->p:=by intro w_;(iterate 2 refine oV ?_);refine oN ?_;refine qT ?_;refine qq ?_;refine qg ?_;refine oV ?_;refine oN ?_;refine qr ?_;exact w_):p:=h w
def bL (w:q) (h:q->p:=by intro w_;refine qq ?_;refine qg ?_;(iterate 4 refine oV ?_);exact w_):p:=h w
def bM (w:q) (h:q->p:=by intro w_;(iterate 6 refine oV ?_);refine oN ?_;refine qq ?_;refine qg ?_;refine oV ?_;exact w_):p:=h w
def bN (w:q) (h:q->p:=by intro w_;refine rV ?_;refine kp rfl rfl (λ_=>oG (i:=1) hS5 rfl rfl) ?_;refine kp rfl rfl (λ_=>nw (i:=1) hS5 rfl rfl rfl rfl rfl) ?_;exact w_):p:=h w
def bO (w:q) (h:q->p:=by intro w_;(iterate 3 refine oV ?_);refine oN ?_;refine qr ?_;exact w_):p:=h w
def bP (w:q) (h:q->p:=by intro w_;(iterate 6 refine rV ?_);refine rN ?_;exact w_):p:=h w
def bQ (w:q) (h:q->p:=by intro w_;(iterate 5 refine rV ?_);exact w_):p:=h w
def bR (w:q) (h:q->p:=by intro w_;refine qq ?_;refine qg ?_;(iterate 2 refine oV ?_);refine oN ?_;refine qr ?_;exact w_):p:=h w
def bS (w:q) (h:q->p:=by intro w_;refine qq ?_;refine qd ?_;(iterate 2 refine rV ?_);exact w_):p:=h w
def bT (w:q) (h:q->p:=by intro w_;refine qq ?_;refine qg ?_;(iterate 2 refine oV ?_);refine oN ?_;exact w_):p:=h w
def bU (w:q) (h:q->p:=by intro w_;refine oN ?_;refine qF ?_;refine qk ?_;refine qg ?_;exact w_):p:=h w
def bV (w:q) (h:q->p:=by intro w_;(iterate 5 refine oV ?_);refine oN ?_;refine qs ?_;refine qq ?_;refine qg ?_;refine oV ?_;exact w_):p:=h w
def bW (w:q) (h:q->p:=by intro w_;(iterate 2 refine rV ?_);(iterate 3 refine rS ?_);(iterate 2 refine rV ?_);exact w_):p:=h w
def bZ (w:q) (h:q->p:=by intro w_;(iterate 4 refine oV ?_);refine oN ?_;exact w_):p:=h w
def b8 (w:q) (h:q->p:=by intro w_;refine oV ?_;refine oN ?_;refine qF ?_;refine qk ?_;refine wz [.fm (lE pK pK a1) false,.la 2 0,(.hm b1),.la 7 0,iv x21,j8 a0.lines,bY a0.lines.l.length,bY k5,kN x11.elems,bY x11.elems.l.length,bY k15] H17 [(2,(iF.ag a0)),(7,(lr.ag x11))] ?_;refine qg ?_;(iterate 2 refine oV ?_);refine kn rfl (oY (i:=0) (ek:=iK) (ev:=bK) (l:=l16) x21 true hS18 rfl rfl rfl rfl rfl rfl pB) ?_;exact w_):p:=h w
def cb (w:q) (h:q->p:=by intro w_;refine qq ?_;refine qg ?_;refine kn (H:=aT.empty) rfl (mP kV rfl rfl rfl rfl rfl) ?_;exact w_):p:=h w
def ce (w:q) (h:q->p:=by intro w_;(iterate 2 refine oV ?_);(iterate 4 refine oS ?_);refine oV ?_;refine oN ?_;refine qT ?_;refine qq ?_;refine qg ?_;refine oV ?_;refine oN ?_;refine qr ?_;exact w_):p:=h w
def cf (w:q) (h:q->p:=by intro w_;(iterate 4 refine rS ?_);(iterate 2 refine rV ?_);(iterate 4 refine rS ?_);refine rV ?_;refine rN ?_;refine qF ?_;refine qk ?_;exact w_):p:=h w
def cg (w:q) (h:q->p:=by intro w_;(iterate 2 refine oV ?_);(iterate 3 refine oS ?_);exact w_):p:=h w
def ci (w:q) (h:q->p:=by intro w_;(iterate 4 refine oV ?_);refine oN ?_;refine qr ?_;exact w_):p:=h w
def ck (w:q) (h:q->p:=by intro w_;refine oV ?_;(iterate 5 refine oS ?_);exact w_):p:=h w
def cm (w:q) (h:q->p:=by intro w_;refine oV ?_;(iterate 3 refine oS ?_);exact w_):p:=h w
def co (w:q) (h:q->p:=by intro w_;refine qq ?_;refine qg ?_;(iterate 3 refine oV ?_);refine oN ?_;exact w_):p:=h w
def cq (w:q) (h:q->p:=by intro w_;refine oV ?_;refine oN ?_;refine qF ?_;refine qk ?_;refine qg ?_;refine oV ?_;exact w_):p:=h w
def cr (w:q) (h:q->p:=by intro w_;(iterate 6 refine oV ?_);exact w_):p:=h w
def ct (w:q) (h:q->p:=by intro w_;refine oN ?_;refine qT ?_;refine qg ?_;(iterate 2 refine oV ?_);refine jP rfl (λ_=>me rfl rfl rfl (ru .i64 1 r7.en)) ?_;(iterate 2 refine oV ?_);refine oN ?_;refine wy [.ip (iS.ag a0) 0 false,.la 11 0] [(11,[iv r7.elem,iv (IntKind.i64.wrap (1 - r7.en))])] ?_;refine qq ?_;refine qg ?_;(iterate 2 refine oV ?_);refine oC (t181 a0 (⟨r7.elem,(IntKind.i64.wrap (1 - r7.en))⟩:jT)) ?_;exact w_):p:=h w
def cu (w:q) (h:q->p:=by intro w_;refine qg ?_;(iterate 2 refine oV ?_);exact w_):p:=h w
def cw (w:q) (h:q->p:=by intro w_;(iterate 8 refine oS ?_);exact w_):p:=h w
def cy (w:q) (h:q->p:=by intro w_;refine kp rfl rfl (λ_=>EA.yq hea14 rfl rfl rfl ha13) ?_;refine kp rfl rfl (λ_=>mK (H:=H5) (i:=1) (m:=k2) (o:=1) (r:=iv x11.len) (cs:=j4.ag x11) hS6 rfl (lA hx10 hqx11) hea14 rfl rfl rfl) ?_;refine rV ?_;exact w_):p:=h w
def cz (w:q) (h:q->p:=by intro w_;(iterate 2 refine oV ?_);(iterate 5 refine oS ?_);exact w_):p:=h w
def cC (w:q) (h:q->p:=by intro w_;refine rP hA ?_;refine qs ?_;refine qq ?_;refine qg ?_;(iterate 2 refine oV ?_);exact w_):p:=h w
def cD (w:q) (h:q->p:=by intro w_;(iterate 2 refine oV ?_);(iterate 9 refine oS ?_);exact w_):p:=h w
def cE (w:q) (h:q->p:=by intro w_;refine oN ?_;refine qT ?_;refine qk ?_;exact w_):p:=h w
def cF (w:q) (h:q->p:=by intro w_;refine qq ?_;refine qd ?_;refine rV ?_;exact w_):p:=h w
def cG (w:q) (h:q->p:=by intro w_;refine qq ?_;refine qd ?_;refine rV ?_;refine nF 0 hS6 ?_;refine ni 0 hS6 ?_;refine nX 0 hS6 (.ip (iS.ag n) 0 false) ?_;refine rV ?_;refine nF 0 hS6 ?_;refine ni 0 hS6 ?_;refine nX 0 hS6 vs ?_;refine rV ?_;exact w_):p:=h w
def cI (w:q) (h:q->p:=by intro w_;refine oV ?_;refine oN ?_;refine qT ?_;refine qq ?_;refine qg ?_;(iterate 3 refine oV ?_);refine oN ?_;refine qr ?_;exact w_):p:=h w
def cJ (w:q) (h:q->p:=by intro w_;refine oN ?_;refine qT ?_;refine qq ?_;refine qg ?_;(iterate 3 refine oV ?_);refine oN ?_;refine qr ?_;exact w_):p:=h w
def cL (w:q) (h:q->p:=by intro w_;refine oN ?_;refine qs ?_;refine qq ?_;refine qg ?_;refine jP rfl (λ_=>nw (i:=0) hS15 rfl rfl rfl rfl rfl) ?_;refine jP rfl (λ_=>mj (i:=0) (o:=0) (r:=.str x10.name.l) hS15 rfl rfl rfl rfl) ?_;exact w_):p:=h w
def cM (w:q) (h:q->p:=by intro w_;refine oN ?_;refine qF ?_;refine qk ?_;refine wy [kj a1,jS.av jY.ag a2,.la 3 0,nT r2 r3 r4 r5 r6] [(3,(j5.ag a0))] ?_;exact w_):p:=h w
def cN (w:q) (h:q->p:=by intro w_;refine lu a0 ?_;refine oV ?_;refine oN ?_;refine qb ?_;exact w_):p:=h w
def cO (w:q) (h:q->p:=by intro w_;refine oV ?_;refine oN ?_;refine qT ?_;refine qq ?_;refine qg ?_;(iterate 2 refine oV ?_);refine oN ?_;refine qr ?_;exact w_):p:=h w
def cP (w:q) (h:q->p:=by intro w_;refine uj 4 hS50 ?_;refine od 4 hS50 ?_;refine m5 4 hS50 v45 ?_;refine jP rfl (λ_=>nb (H:=H49) (i:=2) (l:=l46) (enc:=kL.ag) hS50 rfl rfl rfl rfl rfl rfl rfl) ?_;exact w_):p:=h w
def cQ (w:q) (h:q->p:=by intro w_;(iterate 6 refine oV ?_);refine oN ?_;refine qs ?_;refine qq ?_;refine qg ?_;refine oV ?_;exact w_):p:=h w
def cR (w:q) (h:q->p:=by intro w_;refine uj 1 hS19 ?_;refine od 1 hS19 ?_;refine m5 1 hS19 vl ?_;refine jP rfl (λ_=>nb (H:=H16) (i:=2) (l:=lg) (enc:=j6) hS19 rfl rfl rfl rfl rfl rfl rfl) ?_;exact w_):p:=h w
def cT (w:q) (h:q->p:=by intro w_;refine oN ?_;refine qs ?_;refine qT ?_;refine qk ?_;refine qs ?_;refine qb ?_;refine qq ?_;refine qg ?_;(iterate 2 refine oV ?_);refine oN ?_;exact w_):p:=h w
def cU (w:q) (h:q->p:=by intro w_;refine oV ?_;refine oN ?_;refine qF ?_;refine qk ?_;refine qg ?_;exact w_):p:=h w
def cV (w:q) (h:q->p:=by intro w_;refine oV ?_;(iterate 9 refine oS ?_);(iterate 3 refine oV ?_);refine oN ?_;refine qF ?_;refine qq ?_;refine qg ?_;refine oV ?_;exact w_):p:=h w
def cW (w:q) (h:q->p:=by intro w_;refine qs ?_;refine qq ?_;refine qg ?_;(iterate 3 refine oV ?_);exact w_):p:=h w
def cX (w:q) (h:q->p:=by intro w_;refine qq ?_;refine qg ?_;refine oV ?_;refine oN ?_;refine qq ?_;refine qg ?_;(iterate 2 refine oV ?_);exact w_):p:=h w
def cY (w:q) (h:q->p:=by intro w_;(iterate 2 refine oV ?_);(iterate 8 refine oS ?_);exact w_):p:=h w
def cZ (w:q) (h:q->p:=by intro w_;(iterate 4 refine rV ?_);exact w_):p:=h w
def c6 (w:q) (h:q->p:=by intro w_;refine jP rfl (λ_=>m8 (r:=l) (enc:=lj.ag) rfl rfl rfl rfl rfl rfl) ?_;refine oV ?_;refine oN ?_;refine qb ?_;exact w_):p:=h w
def c7 (w:q) (h:q->p:=by intro w_;refine rN ?_;refine qF ?_;refine qk ?_;exact w_):p:=h w
def c8 (w:q) (h:q->p:=by intro w_;refine rV ?_;refine rN ?_;refine qT ?_;exact w_):p:=h w
def c9 (w:q) (h:q->p:=by intro w_;refine qq ?_;refine qg ?_;(iterate 2 refine m5 4 hS76 v68 ?_);refine jP rfl (λ_=>nb (H:=H75) (i:=3) (l:=l69) (enc:=jT.ag) hS76 rfl rfl rfl rfl rfl rfl rfl) ?_;exact w_):p:=h w
def da (w:q) (h:q->p:=by intro w_;refine qq ?_;refine qd ?_;(iterate 3 refine rV ?_);exact w_):p:=h w
def db (w:q) (h:q->p:=by intro w_;refine oV ?_;(iterate 6 refine oS ?_);exact w_):p:=h w
def dc (w:q) (h:q->p:=by intro w_;(iterate 2 refine rV ?_);(iterate 6 refine rS ?_);exact w_):p:=h w
def de (w:q) (h:q->p:=by intro w_;refine oV ?_;refine oN ?_;refine qT ?_;refine qe ?_;exact w_):p:=h w
def dg (w:q) (h:q->p:=by intro w_;refine oN ?_;refine qr ?_;exact w_):p:=h w
def dh (w:q) (h:q->p:=by intro w_;refine qq ?_;refine qg ?_;(iterate 3 refine oV ?_);refine oN ?_;refine qr ?_;exact w_):p:=h w
def di (w:q) (h:q->p:=by intro w_;refine qq ?_;refine qg ?_;refine kn rfl (nP kV) ?_;exact w_):p:=h w
def dj (w:q) (h:q->p:=by intro w_;refine qq ?_;refine qd ?_;(iterate 5 refine rV ?_);exact w_):p:=h w
def dk (w:q) (h:q->p:=by intro w_;refine qq ?_;refine qg ?_;refine jP rfl (λ_=>nw (i:=0) hS rfl rfl rfl rfl rfl) ?_;exact w_):p:=h w
def dl (w:q) (h:q->p:=by intro w_;(iterate 6 refine oV ?_);refine oN ?_;exact w_):p:=h w
def dm (w:q) (h:q->p:=by intro w_;refine oN ?_;refine qT ?_;refine qg ?_;exact w_):p:=h w
def dn (w:q) (h:q->p:=by intro w_;(iterate 3 refine oV ?_);refine oN ?_;refine qd ?_;(iterate 2 refine rV ?_);exact w_):p:=h w
def dp (w:q) (h:q->p:=by intro w_;(iterate 6 refine rV ?_);exact w_):p:=h w
def dq (w:q) (h:q->p:=by intro w_;refine qq ?_;refine qg ?_;(iterate 4 refine oV ?_);refine oN ?_;refine qr ?_;exact w_):p:=h w
def dr (w:q) (h:q->p:=by intro w_;refine lu a0 ?_;refine oV ?_;exact w_):p:=h w
def dt (w:q) (h:q->p:=by intro w_;(iterate 2 refine oV ?_);refine oN ?_;refine qF ?_;refine qk ?_;exact w_):p:=h w
def du (w:q) (h:q->p:=by intro w_;refine qq ?_;refine qg ?_;refine jP rfl (λ_=>sf rfl rfl (rY rfl rfl)) ?_;exact w_):p:=h w
def dv (w:q) (h:q->p:=by intro w_;refine oN ?_;refine qb ?_;refine qq ?_;refine qg ?_;exact w_):p:=h w
def dw (w:q) (h:q->p:=by intro w_;refine oV ?_;refine kn rfl (lY (i:=0) (o:=0) (r:=.agg (jY.ag x10)) hS13 rfl rfl rfl rfl rfl rfl rfl) ?_;exact w_):p:=h w
def dx (w:q) (h:q->p:=by intro w_;refine uj 0 hS6 ?_;refine od 0 hS6 ?_;refine m5 0 hS6 (.ip (iS.ag n) 0 false) ?_;refine oC (t122 n) ?_;exact w_):p:=h w
def dy (w:q) (h:q->p:=by intro w_;refine wz [.la 1 0,(.hm b1),kB a0.elems,bY a0.elems.l.length,bY k31] H7 [(1,(iF.ag a0))] ?_;refine qg ?_;exact w_):p:=h w
def dz (w:q) (h:q->p:=by intro w_;refine oN ?_;refine qF ?_;refine qk ?_;refine qq ?_;refine qg ?_;(iterate 2 refine oV ?_);exact w_):p:=h w
def dA (w:q) (h:q->p:=by intro w_;refine qs ?_;refine qb ?_;refine qq ?_;refine qg ?_;(iterate 2 refine oV ?_);refine oN ?_;exact w_):p:=h w
def dB (w:q) (h:q->p:=by intro w_;refine oN ?_;refine qF ?_;refine qe ?_;refine qq ?_;refine qg ?_;refine oV ?_;refine oN ?_;refine qr ?_;exact w_):p:=h w
def dC (w:q) (h:q->p:=by intro w_;refine qd ?_;(iterate 2 refine rV ?_);refine nF 0 hS6 ?_;refine ni 0 hS6 ?_;refine nX 0 hS6 v3 ?_;refine rV ?_;exact w_):p:=h w
def dD (w:q) (h:q->p:=by intro w_;refine qq ?_;refine qg ?_;(iterate 5 refine oV ?_);exact w_):p:=h w
def dE (w:q) (h:q->p:=by intro w_;refine qq ?_;refine qg ?_;(iterate 2 refine oV ?_);refine oN ?_;refine qq ?_;refine qg ?_;(iterate 2 refine oV ?_);exact w_):p:=h w
def dF (w:q) (h:q->p:=by intro w_;refine wz [kj a0,jS.av jY.ag a1,iv n5,bY k4,(jQ b11),jS.av jY.ag a1,bY a1.l.length,bY k4] H14 [] ?_;refine qq ?_;refine qg ?_;(iterate 2 refine oV ?_);exact w_):p:=h w
def dG (w:q) (h:q->p:=by intro w_;refine lu a1.runs ?_;refine oV ?_;refine oN ?_;refine qb ?_;exact w_):p:=h w
def dH (w:q) (h:q->p:=by intro w_;refine qF ?_;refine qq ?_;refine qg ?_;refine oV ?_;exact w_):p:=h w
def dI (w:q) (h:q->p:=by intro w_;refine qg ?_;(iterate 3 refine oV ?_);refine kn rfl (oY (i:=0) (ek:=pK) (ev:=bK) (l:=l6) x11.at_ true hS8 rfl rfl rfl rfl rfl rfl nD) ?_;exact w_):p:=h w
def dJ (w:q) (h:q->p:=by intro w_;refine qq ?_;refine qg ?_;refine oV ?_;refine oN ?_;refine qs ?_;refine qq ?_;refine qg ?_;(iterate 2 refine oV ?_);exact w_):p:=h w
def dK (w:q) (h:q->p:=by intro w_;refine qs ?_;refine qq ?_;refine qg ?_;exact w_):p:=h w
def dL (w:q) (h:q->p:=by intro w_;refine rV ?_;refine rN ?_;refine qr ?_;exact w_):p:=h w
def dM (w:q) (h:q->p:=by intro w_;(iterate 3 refine oV ?_);refine oN ?_;refine qq ?_;refine qg ?_;(iterate 2 refine oV ?_);exact w_):p:=h w
def dN (w:q) (h:q->p:=by intro w_;(iterate 6 refine oV ?_);refine oN ?_;refine qq ?_;refine qg ?_;(iterate 4 refine oV ?_);exact w_):p:=h w
def dP (w:q) (h:q->p:=by intro w_;(iterate 5 refine rS ?_);(iterate 2 refine rV ?_);(iterate 12 refine rS ?_);exact w_):p:=h w
def dQ (w:q) (h:q->p:=by intro w_;refine qg ?_;(iterate 2 refine oV ?_);refine kn rfl (oY (i:=0) (ek:=iK) (ev:=bK) (l:=l26) x32 true hS29 rfl rfl rfl rfl rfl rfl pB) ?_;exact w_):p:=h w
def dR (w:q) (h:q->p:=by intro w_;refine qg ?_;(iterate 2 refine oV ?_);refine kn rfl (oY (i:=0) (ek:=iK) (ev:=bK) (l:=l50) x56 true hS53 rfl rfl rfl rfl rfl rfl pB) ?_;exact w_):p:=h w
def dS (w:q) (h:q->p:=by intro w_;refine oN ?_;refine qF ?_;refine qk ?_;refine qs ?_;refine qq ?_;refine qg ?_;refine oV ?_;exact w_):p:=h w
def dT (w:q) (h:q->p:=by intro w_;refine lu a0.signals ?_;refine oV ?_;refine oN ?_;refine qb ?_;exact w_):p:=h w
def dU (w:q) (h:q->p:=by intro w_;(iterate 2 refine oV ?_);refine oN ?_;refine qT ?_;refine qq ?_;refine qg ?_;(iterate 3 refine oV ?_);refine oN ?_;refine qr ?_;exact w_):p:=h w
def dV (w:q) (h:q->p:=by intro w_;refine wz [(.hm b1),kB a0.elems,bY a0.elems.l.length,bY k38] H7 [] ?_;refine qg ?_;exact w_):p:=h w
def dW (w:q) (h:q->p:=by intro w_;(iterate 4 refine rS ?_);exact w_):p:=h w
def dX (w:q) (h:q->p:=by intro w_;refine uj 4 hS50 ?_;refine od 4 hS50 ?_;refine m5 4 hS50 v47 ?_;refine oV ?_;exact w_):p:=h w
def dY (w:q) (h:q->p:=by intro w_;refine oN ?_;refine qg ?_;exact w_):p:=h w
def dZ (w:q) (h:q->p:=by intro w_;refine rN ?_;refine qT ?_;exact w_):p:=h w
def d5 (w:q) (h:q->p:=by intro w_;refine rV ?_;(iterate 6 refine rS ?_);exact w_):p:=h w
def d6 (w:q) (h:q->p:=by intro w_;refine od 6 hS114 ?_;refine m5 6 hS114 v62 ?_;exact w_):p:=h w
def d7 (w:q) (h:q->p:=by intro w_;refine oN ?_;refine qs ?_;refine qT ?_;refine qk ?_;refine qs ?_;refine qb ?_;refine qq ?_;refine qg ?_;refine oV ?_;exact w_):p:=h w
def d8 (w:q) (h:q->p:=by intro w_;refine oN ?_;refine qs ?_;refine qT ?_;refine qk ?_;refine wz [kj a0,jS.av jY.ag a1,iv n5,jS.av jY.ag a1,bY a1.l.length,bY k4] H6 [] ?_;exact w_):p:=h w
def d9 (w:q) (h:q->p:=by intro w_;refine wy [.ip (iS.ag a0) 0 false,.la 11 0] [(11,(jT.ag r7))] ?_;refine qq ?_;refine qg ?_;(iterate 2 refine oV ?_);refine oC (t181 a0 r7) ?_;exact w_):p:=h w
def eb (w:q) (h:q->p:=by intro w_;refine lu a2.runs ?_;refine oV ?_;refine oN ?_;refine qb ?_;exact w_):p:=h w
def ed (w:q) (h:q->p:=by intro w_;refine jP rfl (λ_=>m8 (r:=a0) (enc:=kP.ag) rfl rfl rfl rfl rfl rfl) ?_;refine oV ?_;refine oN ?_;refine qb ?_;exact w_):p:=h w
def ee (w:q) (h:q->p:=by intro w_;refine jP rfl (λ_=>m8 (r:=a1) (enc:=jY.ag) rfl rfl rfl rfl rfl rfl) ?_;refine oV ?_;refine oN ?_;refine qb ?_;exact w_):p:=h w
def ef (w:q) (h:q->p:=by intro w_;refine jP rfl (λ_=>m8 (r:=tr) (enc:=jY.ag) rfl rfl rfl rfl rfl rfl) ?_;refine oV ?_;refine oN ?_;refine qb ?_;exact w_):p:=h w
def eg (w:q) (h:q->p:=by intro w_;refine wy [kj a1,jS.av jY.ag a2,nT r2 r3 r4 r5 r6,.ip (iS.ag nx) 0 false] [] ?_;refine qq ?_;refine qg ?_;(iterate 3 refine oV ?_);exact w_):p:=h w
def eq (w:q) (h:q->p:=by intro w_;refine qq ?_;refine qg ?_;refine oV ?_;refine oN ?_;refine qs ?_;refine qq ?_;refine qg ?_;refine oV ?_;refine jP rfl (λ_=>nb (i:=0) hS rfl rfl rfl rfl rfl rfl rfl) ?_;exact w_):p:=h w
def eu (w:q) (h:q->p:=by intro w_;refine qq ?_;refine qg ?_;refine kn rfl (nP hS) ?_;exact w_):p:=h w
def ew (w:q) (h:q->p:=by intro w_;refine nF 0 hS25 ?_;refine ni 0 hS25 ?_;refine nX 0 hS25 ((.hm b6)) ?_;exact w_):p:=h w
def ey (h:p:=by first | assumption | omega | (dsimp only [Row.mg]; omega) | (simp<;>omega) | exact hPre (by omega) | exact hPre | (simp_all; done) | (simp_all; omega)):p:=h
theorem ez (h:p:=by assumption):p:=h
def eA (h:p:=by simp only [ry,List.length_append,List.length_cons,List.length_nil,List.length_set,List.length_take,List.length_drop,List.length_replicate]; omega):p:=h
def eB (h:p:=by decide):p:=h
def eC (h:p:=by first | omega | (simp<;>omega) | (simp_all; omega)):p:=h
def eD (h:p:=by intro hz; first | (exfalso; omega) | exact ⟨rfl,Ke hK (by omega)⟩):p:=h
def eE (h:p:=by simp only [sj]; first | omega | (simp<;>omega)):p:=h
def eF (h:p:=by (first | omega | (simp<;>omega))):p:=h
theorem eG (h:p:=by omega):p:=h
def eH (h:p:=by first | rfl | exact absurd (by assumption:true=false) eB | exact absurd (by assumption:false=true) eB | exact absurd (hSm (hRdA.trans ((LY hToA hToB (hTwrA.trans hTwr.symm) hPq.1 hPq.2 (by first | omega | (simp only [List.nil_append]; omega)) hAl hmC).trans hRd.symm))) eB | exact absurd (hSm (hRd.trans (hTo.trans hRdB.symm))) eB | exact absurd (congrArg (λn:Nat=>(n:Int)) (hRdl.trans (hN5.trans hN6))) ez | (exfalso; omega)):p:=h
def eI (h:p:=by first | exact hRo | exact pI (P:=λr:kz=>0<r.steps.l.length/\r.steps.l.length<=12/\r.nm.l.length<=12/\pD r) hRo ⟨by omega,by omega,by omega,by assumption⟩ | exact pI (P:=λr:kz=>0<r.steps.l.length/\r.steps.l.length<=12/\r.nm.l.length<=12/\pD r) (pI (P:=λr:kz=>0<r.steps.l.length/\r.steps.l.length<=12/\r.nm.l.length<=12/\pD r) hRo ⟨by omega,by omega,by omega,by assumption⟩) ⟨by omega,by omega,by omega,by assumption⟩):p:=h
def eJ (h:p:=by first | assumption | exact λh=>absurd h (by simp)):p:=h
def eK (h:p:=by intro h; first | (cases h; done) | (simp only [] at *; omega) | (refine ⟨?_,?_,?_,by omega,by omega,by omega⟩<;>first | assumption | (simp_all; done))):p:=h
def eL (h:p:=by (first | omega | (simp only [List.length_append,List.length_cons,List.length_nil,List.length_take] at *; omega))):p:=h
def eM (h:p:=by first | exact ⟨(jS.of_nil ez).symm,λ_=>jS.zB.mp ez,λ_=>rfl⟩ | exact ⟨by assumption,λh=>absurd (hnn.mp h) (hNN (by simp)),λh=>by have:=jS.zB.mpr h; simp_all⟩):p:=h
def eN (h:p:=by (first | omega | (simp only [List.length_set]; omega))):p:=h
def eO (h:p:=by first | exact hRun.succ (.none hLeg) | exact hRun.succ (.Ma hLeg ez (vn hBd ez) hTu) | exact hRun.succ (.early hLeg ez (vn hBd ez) hTu eG) | exact hRun.succ (.Yc hLeg ez (vn hBd ez) hTu eG hBd hTh) | exact hRun.succ (.QA hLeg ez (vn hBd ez) hTu eG hBd hTh (hVC eG) hGr) | exact hRun.go_ hLeg ez (vn hBd ez) hTu eG hBd hTh (hVC eG) hGr ez hRr hCa hOe eG eG | exact absurd (by assumption:true=false) eB):p:=h
def eP (h:p:=by refine ⟨λh=>?_,λh=>?_,λh=>?_⟩<;>first | (cases h; done) | omega | (first | (cases h; done) | exact uB eG | exact Cf eG | exact ux eG ez ez eG | (rw [DF eG ez ez eG]; first | exact hA.1 rfl | exact hA.2 rfl) | (rw [Es eG ez ez eG eG ez ez]; first | (rw [Fm ez]; first | exact hA.1 rfl | exact hA.2 rfl) | (rw [Fq ez ez]; done) | (rw [Fo ez ez]; simp_all [OQ]; done)))):p:=h
def eQ (h:p:=by refine ⟨λh=>?_,λh=>?_⟩<;>(first | (cases h; done) | exact uB eG | exact Cf eG | exact ux eG ez ez eG | (rw [DF eG ez ez eG]; first | exact hA.1 rfl | exact hA.2 rfl) | (rw [Es eG ez ez eG eG ez ez]; first | (rw [Fm ez]; first | exact hA.1 rfl | exact hA.2 rfl) | (rw [Fq ez ez]; done) | (rw [Fo ez ez]; simp_all [OQ]; done)))):p:=h
def eR (h:p:=by refine Gk ?_; first | exact (sS (KO (hL.2 rfl))).symm | exact (Cg eG rfl (by rw [<- hLL eG]; omega)).symm | exact (sS (hG.2 rfl)).symm | (rw [AO (hG.1 rfl) (.inl rfl) eG rfl (by rw [<- hLL eG]; omega) rfl]; simp_all [Cz]; done)):p:=h
def eS (h:p:=by refine ⟨λhz=>?_,?_⟩; (first | (exfalso; omega) | exact ⟨by omega,by omega,by omega,PN ez eG⟩); first | exact (sS (hG.2.2 rfl)).symm | exact (J9 (hG.2.1 rfl) ez).symm | exact (Cg ez ez eG).symm | (rw [AO (hG.2.1 rfl) (.inr ez) ez ez ez ez]; simp_all [Cz]; done)):p:=h
def eT (h:p:=by refine ⟨?_,Row.lk _⟩; refine ⟨λh=>?_,λh=>?_⟩<;>first | (cases h; done) | (refine ⟨by omega,by omega,by omega,λh=>?_,by omega⟩; simp_all; done) | exact .inl eG | exact .inr (.inl eG) | exact .inr (.inr (.inl eG)) | (refine .inr (.inr (.inr ⟨by assumption,?_⟩)); simp_all; done) | (refine .inr (.inr (.inr ⟨by assumption,?_⟩)); simp_all; omega)):p:=h
def eU (h:p:=by intro h; first | (cases h; done) | (refine ⟨by omega,by omega,by omega,by omega,λx hx=>?_,hJg.1,hJg.2⟩; obtain ⟨i,hi,rfl⟩:=List.mem_iff_getElem.mp hx; exact hI i hi eG)):p:=h
def eV (h:p:=by first | exact ⟨rfl,by simp_all,by simp_all,λx hx=>by simp_all⟩ | exact ⟨rfl,by simp_all,by simp_all; omega,λx hx=>by simp_all⟩):p:=h
def eW (h:p:=by first | omega | exact absurd rfl ez | (simp_all; done)):p:=h
def eX (h:p:=by intro hz; first | (exfalso; omega) | exact ⟨hSC.trans (congrArg (AV.int .i64) eG),λr hr=>Classical.not_not.mp (hMy.2 rfl r hr),λi j h hij hj=>hNe i j h hij eG,by omega⟩):p:=h
def eY (h:p:=by intro hz; first | (exfalso; omega) | (refine ⟨⟨λx hx=>?_,?_⟩,hPl.trans ((congrArg iF.canon hNe.dO).trans (iF.wK _)),_,hNe,hNr⟩; (first | exact hR x (hlq▸hx) | (simp at hx)); (first | (dsimp only; omega) | simp))):p:=h
def eZ (h:p:=by intro h; first | omega | (cases h; done)):p:=h
def e8 (h:p:=by intro h1 h2; first | (exfalso; omega) | exact JC ez ez (by first | (rw [hA.1 rfl]; rfl) | (rw [hA.2 rfl,hA0 rfl]; rfl)) (by rw [<- hK]; first | rw [if_pos ez] | rw [if_neg ez])):p:=h
def e9 (h:p:=by first | assumption | exact (jS.of_nil ez).symm | (simp_all; done)):p:=h
def fc (h:p:=by intro h; first | (cases h; done) | (refine ⟨by assumption,by omega,by omega,by omega,by omega⟩)):p:=h
def fe (h:p:=by first | rfl | exact (jS.of_nil ez).symm | (simp_all; done)):p:=h
def ff (h:p:=by first | omega | (simp; done) | (simp<;>omega)):p:=h
def fg (h:p:=by first | assumption | omega | (simp_all; done)):p:=h
def fh (h:p:=by refine ⟨λh=>?_,λh=>?_⟩<;>first | (exfalso; omega) | trivial | exact ⟨_,by assumption,hB.1 rfl⟩ | exact Am hP eG):p:=h
def fi (h:p:=by intro h; first | (cases h; done) | exact ⟨Ng hV eG,λi h=>hJ i h eG⟩):p:=h
def fj (h:p:=by intro hz; first | (exfalso; omega) | exact Ns eG hA hB eG):p:=h
def fk (h:p:=by simp only [FZ]):p:=h
def fo (h:p:=by first | exact hOw | exact Po hOe hOw eG):p:=h
def fp (h:p:=by refine ⟨λh=>?_,λh=>?_⟩<;>first | (cases h; done) | trivial | exact hIx.1 eG | exact hIx.2 eG):p:=h
def fq (h:p:=by intro hz; first | (exfalso; omega) | exact ⟨hD eG,_,hNe,hNr,hSs eG⟩):p:=h
def fu (h:p:=by (simp<;>omega)):p:=h
def fw (h:p:=by (first | omega | exact hPle)):p:=h
def fx (h:p:=by intro h; first | (cases h; done) | omega):p:=h
def fy (h:p:=by kernel_rfl):p:=h
def fz (h:p:=by first | exact Mh hT ez ez ez ez ez ez | exact MY hT ez | exact MO hT ez ez | exact L9 hT ez ez ez):p:=h
def fA (h:p:=by first | decide | (simp; done)):p:=h
def fC (h:p:=by first | exact (B3 eG).symm | exact (LF eG ez ez).symm):p:=h
def fD (h:p:=by intro hz; first | (cases hz; done) | exact ⟨by assumption,(hBd ez).1.2,(hBd ez).2,hBr.trans (congrArg (λz:Int=>AV.kq [_,.int .i64 z]) eG),hFr,(hBd ez).1.1⟩):p:=h
def fE (h:p:=by refine ⟨?_,λh=>by first | (cases h; done) | rfl⟩; refine ⟨λh=>?_,λh=>?_⟩<;>first | (cases h; done) | exact D8 eG | exact BL eG ez ez):p:=h
def fG (h:p:=by refine ⟨λh=>?_,λh=>?_⟩<;>first | (cases h; done) | (rw [<- hI]; first | exact KX ez ez ez | exact Kv ez ez ez ez | exact Nm eG)):p:=h
def fJ (h:p:=by first | assumption | exact λ_=>rfl):p:=h
def fK (h:p:=by refine ⟨λh=>?_,λh=>?_⟩<;>first | (cases h; done) | assumption | omega | (simp_all; done)):p:=h
def fM (h:p:=by intro hz; first | (exfalso; omega) | exact ⟨Am hU eG,by omega⟩):p:=h
def fP (h:p:=by first | exact ⟨by omega,λx hx=>.inl hx⟩ | exact ⟨by simp<;>omega,λx hx=>(List.mem_append.mp hx).imp id List.mem_singleton.mp⟩):p:=h
def fQ (h:p:=by exact And.intro (by first | omega | (simp; done) | (dsimp only; omega) | (simp_all; omega)) (by first | (simp; done) | (simp_all; done))):p:=h
def fR (h:p:=by simp [pV,pX,pZ,qV,DC]):p:=h
def fS (h:p:=by simp):p:=h
def fT (h:p:=by (intro i h h2; omega)):p:=h
def fU (h:p:=by exact DL (k:=k48) (n:=lg.length) eG eG):p:=h
def fV (h:p:=by first | exact ⟨by omega,λh=>by omega,by omega⟩ | exact ⟨by omega,λ_=>Am hP eG,by omega⟩):p:=h
def fW (h:p:=by first | exact hRi | exact pI hRi eG):p:=h
def fX (h:p:=by first | exact ⟨by simp,by simp⟩ | exact ⟨by omega,by simp_all⟩):p:=h
def fY (h:p:=by refine ⟨λh=>?_,λh=>?_⟩<;>first | (cases h; done) | exact D8 eG | exact BL eG ez ez):p:=h
def fZ (h:p:=by intro hz; first | (exfalso; omega) | exact ⟨λi hi=>hQ i eG,λi j hij hj=>hB.QE hz i j hij eG⟩):p:=h
def f9 (h:p:=by intro h; first | rfl | exact absurd (congrArg List.length h) eG | exact (J7 h ez ez ez).elim):p:=h
def ga (h:p:=by first | assumption | omega):p:=h
def gb (h:p:=by first | (refine ⟨by simp,?_⟩; simp; done) | exact ⟨by omega,λx hx=>hRo x (by simp_all)⟩):p:=h
def gc (h:p:=by first | exact we.hit hB2 ez ez eG | exact we.Y0 hB2 ez ez ez):p:=h
def gd (h:p:=by first | exact ⟨(jS.of_nil ez).symm,λ_=>jS.zB.mp ez,λ_=>rfl⟩ | exact ⟨by first | rfl | (simp; done),λh=>absurd h (hNN fS),λh=>by have:=jS.zB.mpr h; simp_all⟩):p:=h
def gf (h:p:=by (simp only [List.length_set]; omega)):p:=h
def gg (h:p:=by exact hTu):p:=h
def gh (h:p:=by exact hZr):p:=h
def gi (h:p:=by exact hKu):p:=h
def gj (h:p:=by exact hKd):p:=h
def gk (h:p:=by first | exact ⟨by omega,λy hy=>.inl hy⟩ | exact ⟨by simp,λy hy=>(List.mem_append.mp hy).imp id (λhy=>by rw [List.mem_singleton.mp hy]; exact u9 ez)⟩):p:=h
def gl (h:p:=by exact hT):p:=h
def gm (h:p:=by rfl):p:=h
def gn (h:p:=by first | exact ⟨rfl,by omega,JM hT eG⟩ | (exfalso; exact Mt.dead hM2 ez ez hLk (by rw [hLk]; exact PX _ _ _) (λi hi=>q4 i _ hi eG) eG ez ez)):p:=h
def gp (h:p:=by refine ⟨λh=>?_,λh=>?_⟩<;>first | (cases h; done) | omega):p:=h
def gq (h:p:=by first | rfl | (simp_all; done)):p:=h
def gr (h:p:=by exact ⟨hBx.2.1,hBx.2.2.1,hBx.2.2.2,by simp_all,by simp_all⟩):p:=h
def gt (h:p:=by exact JT hAl eG (λh=>by omega)):p:=h
def gu (h:p:=by first | exact hG | exact pI hG eG):p:=h
def gv (h:p:=by show kG (freeze true { H6 with cH:=[] } 8) [.agg (j5.ag a0),kj a2.j3,v4] = _; simp only [FZ,hz21]):p:=h
def gw (h:p:=by first | omega | exact Nat.le_refl _ | (simp only [List.length_take,List.length_append,List.length_replicate]; omega)):p:=h
def gx (h:p:=by refine ⟨λh=>?_,λh=>?_⟩<;>first | (cases h; done) | exact HB eG | exact JY ez ez):p:=h
def gy (h:p:=by first | rfl | assumption | omega):p:=h
def gz (h:p:=by first | (rw [(by assumption:look _ _=some _)]; rfl) | (rw [(by assumption:look _ _=none)]; rfl)):p:=h
def gA (h:p:=by intro h; first | assumption | (cases h; done)):p:=h
def gB (h:p:=by first | omega | (simp; omega)):p:=h
def gC (h:p:=by exact rm (P:=λx:Bool=>x=true) ez hP (by first | assumption | exact absurd hO1 eB)):p:=h
def gD (h:p:=by refine ⟨λh=>?_,λh=>?_,λh=>?_⟩<;>first | (cases h; done) | assumption | rfl):p:=h
def gE (h:p:=by exact ⟨by omega,λx hx=>(hT x hx).1⟩):p:=h
def gF (h:p:=by rw [<- hI]; first | (rw [Cw ez ez ez]; rfl) | (rw [Cp eG]; rfl)):p:=h
def gG (h:p:=by exact rm (P:=λt:jY=>0<=t.j3/\t.j3<(a0.l.length:Int)) ez hU eG):p:=h
def gH (h:p:=by exact hSg):p:=h
def gI (h:p:=by first | assumption | omega | exact LJ ez q1 (hC89 eG) hD hR hN hNg eG eG):p:=h
def gJ (h:p:=by first | assumption | (simp_all; done)):p:=h
def gK (h:p:=by exact wP hE (by show List.length (Row.l _)<=1000; rw [hCb]; assumption)):p:=h
def gL (h:p:=by first | rfl | assumption | (exfalso; exact I5 q2 ez ez (hCt.1 rfl))):p:=h
def gM (h:p:=by exact Pu hQ (stQ (f:=rs 130) hSt (FF ez ez ez ez) (hTr eG eG) ez)):p:=h
def gN (h:p:=by first | (refine ⟨by simp,?_⟩; simp; done) | exact ⟨hR,by omega⟩):p:=h
def gO (h:p:=by first | omega | (simp_all; omega)):p:=h
def gP (h:p:=by exact hRg):p:=h
def gQ (h:p:=by exact hNd):p:=h
def gR (h:p:=by (rw [hOl]; rfl)):p:=h
def gS (h:p:=by first | exact LR ez ez hI ez ez | exact Py ez ez hI ez ez):p:=h
def gT (h:p:=by exact we.done hB2 eG (by rw [hLie,(hStt eG).1,hTr eG eG]; rfl)):p:=h
def gU (h:p:=by exact Nat.zero_le _):p:=h
def gV (h:p:=by first | omega | (simp; done)):p:=h
def gW (h:p:=by exact ⟨hNd,hRg,by omega⟩):p:=h
def gX (h:p:=by intro x hx; obtain ⟨y,_,rfl⟩:=List.mem_map.mp hx; rfl):p:=h
def gY (h:p:=by exact tB.snoc hKd ez ez):p:=h
def gZ (h:p:=by intro h; first | (cases h; done) | exact λhh=>hh ez):p:=h
def g5 (h:p:=by first | exact NO hC ez ez | (exfalso; omega)):p:=h
def g6 (h:p:=by first | omega | (simp; done) | (simp_all; omega)):p:=h
def g8 (h:p:=by (first | exact List.length_replicate | omega)):p:=h
def g9 (h:p:=by exact sw (P:=λy:Bool=>y=true) hT rfl):p:=h
def hZ (h:p:=by exact tB.zero _ _):p:=h
def ia (h:p:=by exact xB ⟨(-1),eR,rfl⟩):p:=h
def ib (h:p:=by exact xG ⟨0,false,zt⟩):p:=h
def ic (h:p:=by exact ⟨by omega,atR⟩):p:=h
def ig (h:p:=by exact ⟨.bool false,rfl,false,zT,Sep.cH hS4 _,rfl⟩):p:=h
def ij (h:p:=by exact ⟨.bool true,rfl,true,zT,Sep.cH hS7 _,rfl⟩):p:=h
def ik (h:p:=by exact ⟨.bool false,rfl,false,zT,Sep.cH hS8 _,rfl⟩):p:=h
def im (h:p:=by exact xB ⟨false,fx,rfl⟩):p:=h
def io (h:p:=by exact xB ⟨true,zt⟩):p:=h
def iq (h:p:=by exact xB ⟨false,zt⟩):p:=h
def ir (h:p:=by exact xB ⟨false,eZ,rfl⟩):p:=h
def iu (h:p:=by exact xB ⟨true,eZ,rfl⟩):p:=h
def iw (h:p:=by exact xB ⟨3,zt⟩):p:=h
def iy (h:p:=by exact ⟨.bool true,rfl,true,zT,Sep.cH hS2 _,rfl⟩):p:=h
def iz (h:p:=by exact ⟨.bool true,rfl,true,zT,Sep.cH hS4 _,rfl⟩):p:=h
def iA (h:p:=by exact ⟨.bool false,rfl,false,zT,Sep.cH hS5 _,rfl⟩):p:=h
def iB (h:p:=by exact ⟨_,hc,r0,⟨hp,hr⟩,rfl⟩):p:=h
def iC (h:p:=by exact ⟨v,hc,hr.symm.trans hV⟩):p:=h
def iD (h:p:=by exact ⟨.bool true,rfl,true,fp,Sep.cH hS7 _,rfl⟩):p:=h
def iE (h:p:=by exact ⟨.bool false,rfl,false,fp,Sep.cH hS8 _,rfl⟩):p:=h
def iG (h:p:=by exact ⟨.bool true,rfl,true,fK,Sep.cH hS2 _,rfl⟩):p:=h
def iH (h:p:=by exact ⟨.bool false,rfl,false,fK,Sep.cH hS3 _,rfl⟩):p:=h
def iI (h:p:=by exact xG ⟨(⟨0,(lZ:Row jT),0,0,0⟩:kr),1,eD,rfl⟩):p:=h
def iJ (h:p:=by exact xG ⟨(⟨0,(lZ:Row jT),0,0,0⟩:kr),7,eD,rfl⟩):p:=h
def iL (h:p:=by exact xG ⟨(⟨0,(lZ:Row jT),0,0,0⟩:kr),9,eD,rfl⟩):p:=h
def iM (h:p:=by exact xG ⟨(⟨1,(⟨[a2.at_],.exact 1,pR,rfl,nE⟩:Row jT),a2.left,0,0⟩:kr),0,eD,rfl⟩):p:=h
def iO (h:p:=by exact xG ⟨(⟨2,(⟨[a2.at_],.exact 1,pR,rfl,nE⟩:Row jT),a2.left,0,0⟩:kr),0,eD,rfl⟩):p:=h
def iP (h:p:=by exact ⟨_,hc,r0,r1,⟨hp,hr⟩,rfl⟩):p:=h
def iQ (h:p:=by exact xB ⟨0,zt⟩):p:=h
def iR (h:p:=by exact ⟨by omega,H9,hS10,atR⟩):p:=h
def iT (h:p:=by exact ⟨bY k2,rfl,((k2:Int)),zT,Sep.cH hS13 _,rfl⟩):p:=h
def iU (h:p:=by exact ⟨iv (-1),rfl,(-1),zT,Sep.cH hS14 _,rfl⟩):p:=h
def iV (h:p:=by exact xB ⟨false,fc,rfl⟩):p:=h
def iW (h:p:=by exact ⟨by omega,((put r21.l true l5)),H22,hS24,atR⟩):p:=h
def iX (h:p:=by exact ⟨.bool true,rfl,true,zT,Sep.cH hS25 _,rfl⟩):p:=h
def iY (h:p:=by exact ⟨by omega,((put r30.l true l5)),H31,hS33,atR⟩):p:=h
def iZ (h:p:=by exact ⟨.bool false,rfl,false,zT,Sep.cH hS34 _,rfl⟩):p:=h
def i9 (h:p:=by exact ⟨.str x2.name.l,rfl,x2.name,zT,Sep.cH hS3 _,rfl⟩):p:=h
def ja (h:p:=by exact xB ⟨false,fi,rfl⟩):p:=h
def jb (h:p:=by exact xG ⟨(⟨0,0⟩:jT),false,eP,rfl⟩):p:=h
def jc (h:p:=by exact xB ⟨(-1),zt⟩):p:=h
def jd (h:p:=by exact xB ⟨(⟨(⟨[],by decide⟩:pv),0,0⟩:lV),fC,rfl⟩):p:=h
def je (h:p:=by exact ⟨by omega,v2,l3,H4,fz,eN,hS5,(kh hS5 [(1,5),(9,3)])⟩):p:=h
def jf (h:p:=by exact ⟨.kq [],rfl,zT,Sep.cH hS7 _,rfl⟩):p:=h
def jg (h:p:=by exact False.elim eW):p:=h
def jh (h:p:=by exact ⟨bY k2,rfl,((k2:Int)),fh,Sep.cH hS13 _,rfl⟩):p:=h
def ji (h:p:=by exact ⟨iv (-1),rfl,(-1),fh,Sep.cH hS14 _,rfl⟩):p:=h
def jk (h:p:=by exact xG ⟨(lZ:Row Int),false,zt⟩):p:=h
def jl (h:p:=by exact ⟨by omega,v49,l50,v51,l52,v53,l54,v55,((l56.set k48 false)),H128,eO,eJ,eJ,eJ,eF,eF,eG,fo,eN,hS129,(kh hS129 [(8,3),(12,2)])⟩):p:=h
def jm (h:p:=by exact ⟨by omega,v49,l50,v51,l52,v53,l54,v55,((l56.set k48 false)),H210,eO,eJ,eJ,eJ,eF,eF,eG,fo,eN,hS211,(kh hS211 [(8,3),(12,2)])⟩):p:=h
def jn (h:p:=by exact ⟨.bool false,rfl,false,zT,Sep.cH hS3 _,rfl⟩):p:=h
def jo (h:p:=by exact xG ⟨(lZ:Row lX),fA,rfl⟩):p:=h
def jp (h:p:=by exact xG ⟨(⟨[(⟨0,0⟩:lX)],.exact 1,pR,rfl,nE⟩:Row lX),fA,rfl⟩):p:=h
def jq (h:p:=by exact xB ⟨1,fj,rfl⟩):p:=h
def jr (h:p:=by exact xG ⟨(⟨(⟨[],by decide⟩:pv),0,(⟨0,0⟩:jT),0⟩:jY),false,zt⟩):p:=h
def js (h:p:=by exact xG ⟨(⟨x5.name,x5.j3,r7,0⟩:jY),true,zt⟩):p:=h
def jt (h:p:=by exact xG ⟨(⟨x5.name,x5.j3,r7,x5.left⟩:jY),true,zt⟩):p:=h
def ju (h:p:=by exact xG ⟨(⟨0,(lZ:Row jT),0,0,0⟩:kr),1,zt⟩):p:=h
def jv (h:p:=by exact xG ⟨(⟨0,(lZ:Row jT),0,0,0⟩:kr),7,zt⟩):p:=h
def jw (h:p:=by exact xG ⟨(⟨1,(⟨[a2.at_],.exact 1,pR,rfl,nE⟩:Row jT),0,0,0⟩:kr),0,zt⟩):p:=h
def jx (h:p:=by exact xG ⟨(⟨0,(lZ:Row jT),0,0,0⟩:kr),9,zt⟩):p:=h
def jy (h:p:=by exact xG ⟨(⟨2,(⟨[a2.at_],.exact 1,pR,rfl,nE⟩:Row jT),a2.left,0,0⟩:kr),0,zt⟩):p:=h
def jz (h:p:=by exact xB ⟨false,eH,rfl⟩):p:=h
def jA (h:p:=by exact xB ⟨true,eH,rfl⟩):p:=h
def jB (h:p:=by exact ⟨by omega,v11,l12,H13,eC,hS14,(kh hS14 [(13,0)])⟩):p:=h
def jC (h:p:=by exact ⟨(Kf hS14 [(13,0)]),rfl⟩):p:=h
def jD (h:p:=by exact xG ⟨(⟨(⟨[],by decide⟩:pv),0,(⟨0,0⟩:jT),0⟩:jY),false,e8,rfl⟩):p:=h
def jE (h:p:=by exact xG ⟨(⟨x5.name,x5.j3,r7,0⟩:jY),true,e8,rfl⟩):p:=h
def jF (h:p:=by exact xG ⟨(⟨x5.name,x5.j3,r7,x5.left⟩:jY),true,e8,rfl⟩):p:=h
def jG (h:p:=by exact ⟨by omega,v8,l9,H10,gu,eF,hS11,(kh hS11 [(7,0)])⟩):p:=h
def jH (h:p:=by exact xG ⟨(lZ:Row Int),fX,rfl⟩):p:=h
def jI (h:p:=by exact ⟨by omega,v20,l21,H22,eC,fW,hS23,(kh hS23 [(14,0)])⟩):p:=h
def jJ (h:p:=by exact xB ⟨false,eU,rfl⟩):p:=h
def jK (h:p:=by exact ⟨by omega,x6.at_,atR⟩):p:=h
def jL (h:p:=by exact xB ⟨3,eK,rfl⟩):p:=h
def jM (h:p:=by exact ⟨by omega,v35,l36,H37,eC,hS38,(kh hS38 [(10,0)])⟩):p:=h
def jN (h:p:=by exact xB ⟨(-1),eS,rfl⟩):p:=h
def jO (h:p:=by exact xG ⟨(lZ:Row lU),false,eT,rfl⟩):p:=h
end
end Go.Sx
