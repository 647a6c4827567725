/- Proves rules for the walks and their soundness. -/
import Derived.Test.YtmajcicmbclkhaaGreatHag
set_option linter.all false
set_option maxRecDepth 100000
namespace Go.Sx
open Go
abbrev kZ {α:Type}:Row α:=⟨[],.nil,Nat.zero_le _,rfl,λ_=>rfl⟩
def zt {α:Sort _} {a:α}:True/\a=a:=⟨trivial,rfl⟩
def zT:True:=trivial
def pd {a b:Nat} (h:Nat.ble a b=true:=by rfl):a<=b:=Nat.le_of_ble_eq_true h
abbrev kh {α:Type} (enc:α->List AV) (n:Nat) (v:AV) (l:List α):gh:=.sl true true v n (List.map enc l)
abbrev gy {α:Type} (enc:α->List AV) (n:Nat) (v:AV) (l:List α):gh:=.sl true false v n (List.map enc l)
abbrev zsP {α:Type} (enc:α->List AV) (n:Nat) (v:AV) (l:List α):gh:=.sl false true v n (List.map enc l)
abbrev kL (v:AV) (l:List Int):gh:=.sl true true v 1 (List.map cI l)
abbrev eX (b:Nat):AV:=.ptr b 0 0 0
abbrev gi (b:Nat) (c:List AV):gh:=.obj (.ptr b 0 0 0) c
abbrev kb {κ β:Type} (b:Nat) (ek:κ->AV) (ev:β->AV) (l:List (κ×β)):gh:=.map (.hm b) (cA ek ev l)
abbrev cr (n:Nat):AV:=.int .i64 (n:Int)
abbrev gk (r:Row Int):AV:=Row.av cI r
abbrev nj (r:ff Int):AV:=ff.av cI r
abbrev fA (r:Row jl):AV:=Row.av jl.ai r
abbrev fJ (r:Row ig):AV:=Row.av ig.ai r
abbrev yD (r:Row fC):AV:=Row.av fC.ai r
abbrev fy (r:Row gp):AV:=Row.av gp.ai r
abbrev fu (r:Row bm):AV:=Row.av bm.ai r
abbrev px (r:Row eU):AV:=Row.av eU.ai r
abbrev gm (r:Row fe):AV:=Row.av fe.ai r
abbrev fP (r:Row iD):AV:=Row.av iD.ai r
abbrev fx (r:Row fi):AV:=Row.av fi.ai r
abbrev ub (r:Row gI):AV:=Row.av gI.ai r
def capXn {p:Prop} {n:Nat} (h:ml.exact n=.nil):p:=by cases h
section
variable {C:gv} {F:gX} {Pr:gQ} {fa:eY} {e:Env} {h:au} {all rest:List Oper} {o:Oper} {q:Env->au->Prop} {sch:List (Nat×List Nat)} {i t u el:Nat} {x y:Operand} {k k':IntKind} {cl:Call} {ti te:TI} {α:Type} {enc : α->List AV} {H:au} {ls:iN} {cs cs' new:List AV} {v:AV} {fs:List (Nat×Nat)} {off ft f j i' n:Nat} {wr tt:Bool} {l:List α}
def gL (r:Row α) (w:ic C F Pr fa all rest q (fp e o (.int .i64 r.l.length)) h) (ho:o.op=.call cl:=by rfl) (hw:fE all e o=some true:=by rfl) (hc:cl.callee=.builtin .len:=by rfl) (ha:cl.args.toList=[x]:=by rfl) (hts:cl.argTypes.toList=[t]:=by rfl) (hT:C.T t=some ti:=by rfl) (hk:ti.kind=.slice el:=by rfl) (hx:fg e x=r.av enc:=by rfl):ic C F Pr fa all (o::rest) q e h:=be hw (λ_=>by rw [ho]; exact AP hc ha hts hT hk hx) w
def rl (r:Row α) (w:gZ C F Pr fa all sch q (fp e o (.int .i64 r.l.length)) h) (hi:all[i]?=some o:=by rfl) (ho:o.op=.call cl:=by rfl) (hw:fE all e o=some true:=by rfl) (hc:cl.callee=.builtin .len:=by rfl) (ha:cl.args.toList=[x]:=by rfl) (hts:cl.argTypes.toList=[t]:=by rfl) (hT:C.T t=some ti:=by rfl) (hk:ti.kind=.slice el:=by rfl) (hx:fg e x=r.av enc:=by rfl):gZ C F Pr fa all ((i,[])::sch) q e h:=fD hi hw (λ_=>by rw [ho]; exact AP hc ha hts hT hk hx) w
def jn (n:Nat) (r:Row α) (hn:n<r.l.length) (w:ic C F Pr fa all rest q (fp e o (.ip (enc r.l[n]) 0 false)) h) (ho:o.op=.indexAddr t x y:=by rfl) (hw:fE all e o=some true:=by rfl) (hT:C.T t=some ti:=by rfl) (hk:ti.kind=.slice el:=by rfl) (hE:C.T el=some te:=by rfl) (hx:fg e x=r.av enc:=by rfl) (hi:fg e y=.int k (n:Int):=by rfl) (hl:(enc r.l[n]).length=te.size:=by rfl):ic C F Pr fa all (o::rest) q e h:=be hw (λ_=>by rw [ho]; exact sJ hT hk hE hx hi hn hl) w
def pa (n:Int) (r:Row α) (hn:n.toNat<r.l.length) (w:ic C F Pr fa all rest q (fp e o (.ip (enc r.l[n.toNat]) 0 false)) h) (ho:o.op=.indexAddr t x y:=by rfl) (hw:fE all e o=some true:=by rfl) (hT:C.T t=some ti:=by rfl) (hk:ti.kind=.slice el:=by rfl) (hE:C.T el=some te:=by rfl) (hx:fg e x=r.av enc:=by rfl) (hi:fg e y=.int k n:=by rfl) (hl:(enc r.l[n.toNat]).length=te.size:=by rfl) (h0:0<=n:=by omega):ic C F Pr fa all (o::rest) q e h:=be hw (λ_=>by rw [ho]; exact Ir hT hk hE hx hi h0 hn hl) w
def ni (n:Nat) (r:Row α) (hn:n<r.l.length) (w:gZ C F Pr fa all sch q (fp e o (.ip (enc r.l[n]) 0 false)) h) (hi':all[i]?=some o:=by rfl) (ho:o.op=.indexAddr t x y:=by rfl) (hw:fE all e o=some true:=by rfl) (hT:C.T t=some ti:=by rfl) (hk:ti.kind=.slice el:=by rfl) (hE:C.T el=some te:=by rfl) (hx:fg e x=r.av enc:=by rfl) (hi:fg e y=.int k (n:Int):=by rfl) (hl:(enc r.l[n]).length=te.size:=by rfl):gZ C F Pr fa all ((i,[])::sch) q e h:=fD hi' hw (λ_=>by rw [ho]; exact sJ hT hk hE hx hi hn hl) w
def Lc (n:Int) (r:Row α) (hn:n.toNat<r.l.length) (w:gZ C F Pr fa all sch q (fp e o (.ip (enc r.l[n.toNat]) 0 false)) h) (hi':all[i]?=some o:=by rfl) (ho:o.op=.indexAddr t x y:=by rfl) (hw:fE all e o=some true:=by rfl) (hT:C.T t=some ti:=by rfl) (hk:ti.kind=.slice el:=by rfl) (hE:C.T el=some te:=by rfl) (hx:fg e x=r.av enc:=by rfl) (hi:fg e y=.int k n:=by rfl) (hl:(enc r.l[n.toNat]).length=te.size:=by rfl) (h0:0<=n:=by omega):gZ C F Pr fa all ((i,[])::sch) q e h:=fD hi' hw (λ_=>by rw [ho]; exact Ir hT hk hE hx hi h0 hn hl) w
def xB {A P:AV->Prop} {B:AV->AV->Prop} {x:AV} (p:P x) (a:A x:=by rfl) (b:B x x:=by rfl):∃ v,A v/\∃ w,B v w/\P w:=⟨x,a,x,b,p⟩
def xG {A P:AV->Prop} {B:AV->AV->Prop} {x:AV} (p:P x) (a:A x:=by rfl) (b:B x x:=by simp only [bY.ai,jl.ai,eU.ai,ig.ai,iD.ai,gp.ai,mu.ai,ny.ai,pk.ai,ib.ai,fi.ai,bm.ai,fe.ai,pT.ai,gI.ai,ow.ai,fw.ai,mO.ai,fz.ai,fC.ai,tU.ai,lM.ai,FZ]<;>rfl):∃ v,A v/\∃ w,B v w/\P w:=⟨x,a,x,b,p⟩
def nO (i:Nat) {L:List gh} (hS:Sep H L) (w:ic C F Pr fa all rest q (fp e o (mL v (j+off))) h) (ho:o.op=.fieldAddr t x f:=by rfl) (hw:fE all e o=some true:=by rfl) (hi:L[i]?=some (.obj v cs):=by rfl) (hT:C.T t=some ti:=by rfl) (hk:ti.kind=.struct fs:=by rfl) (hf:fs[f]?=some (off,ft):=by rfl) (hx:fg e x=mL v j:=by rfl):ic C F Pr fa all (o::rest) q e h:=be hw (λ_=>by rw [ho]; exact oW hS hi hT hk hf hx) w
def mS (i:Nat) {L:List gh} (hS:Sep H L) (w:gZ C F Pr fa all sch q (fp e o (mL v (j+off))) h) (hj:all[i']?=some o:=by rfl) (ho:o.op=.fieldAddr t x f:=by rfl) (hw:fE all e o=some true:=by rfl) (hi:L[i]?=some (.obj v cs):=by rfl) (hT:C.T t=some ti:=by rfl) (hk:ti.kind=.struct fs:=by rfl) (hf:fs[f]?=some (off,ft):=by rfl) (hx:fg e x=mL v j:=by rfl):gZ C F Pr fa all ((i',[])::sch) q e h:=fD hj hw (λ_=>by rw [ho]; exact oW hS hi hT hk hf hx) w
def Ao (i:Nat) {L:List gh} (hS:Sep H L) (w:ic C F Pr fa all rest q (fp e o (mL v j)) h) (ho:o.op=.nilCheck x:=by rfl) (hw:fE all e o=some true:=by rfl) (hi:L[i]?=some (.obj v cs):=by rfl) (hx:fg e x=mL v j:=by rfl):ic C F Pr fa all (o::rest) q e h:=be hw (λ_=>by rw [ho]; exact pI hS hi hx) w
def nW (i:Nat) {L:List gh} (hS:Sep H L) (w:gZ C F Pr fa all sch q (fp e o (mL v j)) h) (hj:all[i']?=some o:=by rfl) (ho:o.op=.nilCheck x:=by rfl) (hw:fE all e o=some true:=by rfl) (hi:L[i]?=some (.obj v cs):=by rfl) (hx:fg e x=mL v j:=by rfl):gZ C F Pr fa all ((i',[])::sch) q e h:=fD hj hw (λ_=>by rw [ho]; exact pI hS hi hx) w
def kW (i:Nat) {L:List gh} (hS:Sep H L) (r:AV) (w:ic C F Pr fa all rest q (fp e o r) h) (ho:o.op=.load t x:=by rfl) (hw:fE all e o=some true:=by rfl) (hi:L[i]?=some (.obj v cs):=by rfl) (hT:C.T t=some ti:=by rfl) (hx:fg e x=mL v j:=by rfl) (hp:part ti cs j=some r:=by rfl) (hh:h = { H with aT:=ls }:=by rfl):ic C F Pr fa all (o::rest) q e h:=by subst hh; exact be hw (λ_=>by rw [ho]; exact iP hS hi hT hp hx) w
def l3 (i:Nat) {L:List gh} (hS:Sep H L) (r:AV) (w:gZ C F Pr fa all sch q (fp e o r) h) (hj:all[i']?=some o:=by rfl) (ho:o.op=.load t x:=by rfl) (hw:fE all e o=some true:=by rfl) (hi:L[i]?=some (.obj v cs):=by rfl) (hT:C.T t=some ti:=by rfl) (hx:fg e x=mL v j:=by rfl) (hp:part ti cs j=some r:=by rfl) (hh:h = { H with aT:=ls }:=by rfl):gZ C F Pr fa all ((i',[])::sch) q e h:=by subst hh; exact fD hj hw (λ_=>by rw [ho]; exact iP hS hi hT hp hx) w
def HJ (i:Nat) {L:List gh} (hS:Sep H L) (r:AV) (w:∀ H',Sep H' (L.set i (.obj v cs'))->ic C F Pr fa all rest q (fp e o .undef) { H' with aT:=ls }) (ho:o.op=.store t x y:=by rfl) (hw:fE all e o=some true:=by rfl) (hi:L[i]?=some (.obj v cs):=by rfl) (hT:C.T t=some ti:=by rfl) (hx:fg e x=mL v j:=by rfl) (hy:fg e y=r:=by rfl) (hn:cellsOf ti r=some new:=by rfl) (hok:new.all AV.gY=true:=by rfl) (hsp:lS cs j new=some cs':=by rfl) (hh:h = { H with aT:=ls }:=by rfl):ic C F Pr fa all (o::rest) q e h:=by subst hh; exact gj hw (by rw [ho]; exact lV hS hi hT hx hy hn hok hsp) (λ_ H' h=>by obtain ⟨rfl,h⟩:=h; exact w H' h)
def Rn (i:Nat) {L:List gh} (hS:Sep H L) (r:AV) (w:∀ H',Sep H' (L.set i (.obj v cs'))->gZ C F Pr fa all sch q (fp e o .undef) { H' with aT:=ls }) (hj:all[i']?=some o:=by rfl) (ho:o.op=.store t x y:=by rfl) (hw:fE all e o=some true:=by rfl) (hi:L[i]?=some (.obj v cs):=by rfl) (hT:C.T t=some ti:=by rfl) (hx:fg e x=mL v j:=by rfl) (hy:fg e y=r:=by rfl) (hn:cellsOf ti r=some new:=by rfl) (hok:new.all AV.gY=true:=by rfl) (hsp:lS cs j new=some cs':=by rfl) (hh:h = { H with aT:=ls }:=by rfl):gZ C F Pr fa all ((i',[])::sch) q e h:=by subst hh; exact iH hj hw (by rw [ho]; exact lV hS hi hT hx hy hn hok hsp) (λ_ H' h=>by obtain ⟨rfl,h⟩:=h; exact w H' h)
def oF (i:Nat) (ys:List α) {L:List gh} (hS:Sep H L) (w:∀ v' H',Sep H' (L.set i (.sl wr tt v' n ((l++ys).map enc)))->ic C F Pr fa all rest q (fp e o v') { H' with aT:=ls }) (ho:o.op=.call cl:=by rfl) (hw:fE all e o=some true:=by rfl) (hi:L[i]?=some (.sl wr tt v n (l.map enc)):=by rfl) (hc:cl.callee=.builtin .append:=by rfl) (ha:cl.args.toList=[x,y]:=by rfl) (hts:cl.argTypes.toList=[t,u]:=by rfl) (hT:pX C [t,u]=some ti:=by rfl) (hSr:Bn C [t,u]=true:=by rfl) (hn:ti.size=n:=by rfl) (hs:fg e x=v:=by rfl) (hx:mF { H with aT:=ls } (fg e y)=some (ys.map enc):=by rfl) (hok:∀ y,(enc y).all AV.gY=true:=by exact λ_=>rfl) (ht:tt=true\/ys.length=1:=by first | exact .inl rfl | exact .inr rfl) (hm:l.length+ys.length<=o5:=by simp only [o5]; first | omega | (simp<;>omega)) (henc:∀ x,(enc x).length=n:=by exact λ_=>rfl) (hh:h = { H with aT:=ls }:=by rfl):ic C F Pr fa all (o::rest) q e h:=by subst hh; exact gj hw (by rw [ho]; exact mY ys hS hi hc ha hts hT hSr hn hs hx hok ht hm henc) (λv' H' h=>w v' H' h)
def A1 (i:Nat) (ys:List α) {L:List gh} (hS:Sep H L) (w:∀ v' H',Sep H' (L.set i (.sl wr tt v' n ((l++ys).map enc)))->gZ C F Pr fa all sch q (fp e o v') { H' with aT:=ls }) (hj:all[i']?=some o:=by rfl) (ho:o.op=.call cl:=by rfl) (hw:fE all e o=some true:=by rfl) (hi:L[i]?=some (.sl wr tt v n (l.map enc)):=by rfl) (hc:cl.callee=.builtin .append:=by rfl) (ha:cl.args.toList=[x,y]:=by rfl) (hts:cl.argTypes.toList=[t,u]:=by rfl) (hT:pX C [t,u]=some ti:=by rfl) (hSr:Bn C [t,u]=true:=by rfl) (hn:ti.size=n:=by rfl) (hs:fg e x=v:=by rfl) (hx:mF { H with aT:=ls } (fg e y)=some (ys.map enc):=by rfl) (hok:∀ y,(enc y).all AV.gY=true:=by exact λ_=>rfl) (ht:tt=true\/ys.length=1:=by first | exact .inl rfl | exact .inr rfl) (hm:l.length+ys.length<=o5:=by simp only [o5]; first | omega | (simp<;>omega)) (henc:∀ x,(enc x).length=n:=by exact λ_=>rfl) (hh:h = { H with aT:=ls }:=by rfl):gZ C F Pr fa all ((i',[])::sch) q e h:=by subst hh; exact iH hj hw (by rw [ho]; exact mY ys hS hi hc ha hts hT hSr hn hs hx hok ht hm henc) (λv' H' h=>w v' H' h)
end
section
variable {p q:Prop}
def aY (h:p:=by first | omega | (simp<;>omega) | (simp_all; done) | (simp_all; omega)):=h
theorem bh (h:p:=by omega):p:=h
def aZ (h:p:=by first | assumption | omega | (dsimp only [Row.ji]; omega) | (simp<;>omega) | exact hPre bh | exact hPre | (simp_all; done) | (simp_all; omega)):=h
theorem a6 (h:p:=by assumption):p:=h
def a8 (h:p:=by simp only [rI,List.length_append,List.length_cons,List.length_nil,List.length_set,List.length_take,List.length_drop,List.length_replicate]; omega):=h
def ba (h:p:=by intro h; first | (cases h; done) | (have hK9:=Bk (P:=λe:jl=>((1<=e.kind/\e.kind<=4)/\(e.kind=4->e.len=0))/\(¬ e.kind=4->1<=e.len/\e.len<=4000)) hKd bh; exact ⟨XL λe he=>(hK9 e he).1,by omega,λe he=>(hK9 e he).2⟩)):=h
def bc (h:p:=by first | exact hRo | exact pL (P:=λr:fe=>0<r.steps.l.length/\r.steps.l.length<=12/\r.fX.l.length<=12/\ns a0.p r) hRo ⟨by omega,by omega,by omega,by assumption⟩ | exact pL (P:=λr:fe=>0<r.steps.l.length/\r.steps.l.length<=12/\r.fX.l.length<=12/\ns a0.p r) (pL (P:=λr:fe=>0<r.steps.l.length/\r.steps.l.length<=12/\r.fX.l.length<=12/\ns a0.p r) hRo ⟨by omega,by omega,by omega,by assumption⟩) ⟨by omega,by omega,by omega,by assumption⟩):=h
def bf (h:p:=by decide):=h
def bg (h:p:=by intro h; first | (cases h; done) | (simp only [] at *; omega) | (refine ⟨?_,?_,?_,by omega,by omega,by omega,⟨hJvp,hLnp rfl,(hKdp rfl).1,(hKdp rfl).2.1,(hKdp rfl).2.2⟩⟩<;>first | assumption | (simp_all; done))):=h
def bj (h:p:=by (first | omega | (simp<;>omega))):=h
def bl (h:p:=by (first | omega | (simp only [List.length_append,List.length_cons,List.length_nil,List.length_take] at *; omega))):=h
def bo (h:p:=by intro hn; first | rfl | (exfalso; first | (have hq0:=hn.1; simp_all; done) | (have hq0:=hn.2.1; omega) | exact HR a6 hn (hLt.2 rfl) (by first | exact .inl rfl | exact .inr (.inl a6) | exact .inr (.inr a6)) | exact Ft a6 hn (hLt.2 rfl) (.inl a6) a6 | exact Ft a6 hn (hLt.2 rfl) (.inr a6) a6)):=h
def ci (h:p:=by simp):=h
def bp (h:p:=by first | exact ⟨(ff.of_nil a6).symm,λ_=>ff.AF.mp a6,λ_=>rfl⟩ | exact ⟨by assumption,λh=>absurd (hnn.mp h) (hNN ci),λh=>by have:=ff.AF.mpr h; simp_all⟩):=h
def br (h:p:=by first | omega | exact absurd rfl a6 | (simp_all; done)):=h
def bu (h:p:=by first | assumption | (simp only [List.length_set]; omega)):=h
def bv (h:p:=by intro hz; first | (exfalso; omega) | (refine ⟨⟨λx hx=>?_,?_⟩,hPl.trans ((congrArg bY.canon hNe.cB).trans (bY.xh _)),_,hNe,hNr⟩; (first | exact hR x (hlq▸hx) | (simp at hx)); (first | (dsimp only; omega) | simp))):=h
def bw (h:p:=by intro h; first | (cases h; done) | (refine ⟨by omega,by omega,by omega,by omega,λx hx=>?_,hJg.1,hJg.2⟩; obtain ⟨i,hi,rfl⟩:=List.mem_iff_getElem.mp hx; exact hI i hi bh)):=h
def bz (h:p:=by intro h; first | (cases h; done) | exact ⟨by omega,by omega,λi hi=>hC i hi bh⟩):=h
def bA (h:p:=by first | exact hGd | exact pL hGd (QY (q6 _ a6) hK bh bh)):=h
def bB (h:p:=by intro hz; first | (cases hz; done) | exact Nv bh hI0 hI1 bh hI2 bh hI3 bh):=h
def bC (h:p:=by refine ⟨by first | decide | (simp; done),?_⟩; unfold nq; (simp<;>omega)):=h
def bD (h:p:=by first | omega | (simp; done) | (simp<;>omega)):=h
def bE (h:p:=by simp only [o5]; first | omega | (simp<;>omega)):=h
def bF (h:p:=by intro hz; first | (exfalso; omega) | exact QX bh a6 (hSm bh) (hMy bh)):=h
def bG (h:p:=by refine ⟨?_,?_⟩<;>intro hz<;>first | (cases hz; done) | exact ⟨by omega,by omega,(tS hLv a6).1 bh⟩ | (rintro ⟨h1,h2⟩; have h3:=xV h2; first | omega | exact absurd ((tS hLv a6).2 h2) bh)):=h
def bH (h:p:=by intro h; first | (cases h; done) | exact ⟨MO hV bh,λi h=>hJ i h bh⟩):=h
def bI (h:p:=by unfold Br; first | exact ⟨λ_=>bh,λh=>absurd h bf⟩ | exact ⟨λh=>absurd h bf,λ_=>bh⟩):=h
def bJ (h:p:=by first | exact GB q0 bh | exact Rp q0 hCh bh a6 hOs bh a6 a6 hLv a6 (by first | exact .inl ⟨by omega,hOl⟩ | exact .inr ⟨by omega,rfl⟩) a6 a6 (by first | assumption | rfl)):=h
def bL (h:p:=by rw [hRq]; first | exact .inl ⟨_,by rw [<- hqp0]; exact List.getElem_mem _,by assumption,rfl,rfl⟩ | exact .inr ⟨by rw [List.take_of_length_le bh] at hU; exact hU,rfl,rfl⟩):=h
def bM (h:p:=by intro hz; first | (exfalso; omega) | exact Q8 (hRr rfl) hJ0 bh hJ2 bh):=h
def bN (h:p:=by first | assumption | omega):=h
def bO (h:p:=by first | assumption | exact (ff.of_nil a6).symm | (simp_all; done)):=h
def bP (h:p:=by (first | omega | exact hPle)):=h
def bQ (h:p:=by refine ⟨?_,?_⟩<;>first | (intro h1 h2; first | rfl | omega) | (simp_all; done) | (simp_all; omega) | omega):=h
def bR (h:p:=by first | rfl | exact (ff.of_nil a6).symm | (simp_all; done)):=h
def cH (h:p:=by first | omega | (refine ⟨?_,?_⟩<;>omega)):=h
def bS (h:p:=by refine ⟨cH,?_⟩; unfold xC; (repeat' split)<;>omega):=h
def bT (h:p:=by first | exact M5 hZs (by rw [<- heqZ]; exact hIn6.1 rfl) | exact Qz hZs (by rw [<- heqZ]; exact hIn6.2 rfl)):=h
def bU (h:p:=by intro h; first | omega | (cases h; done)):=h
def bV (h:p:=by simp only [FZ]):=h
def bW (h:p:=by intro hz; first | (cases hz; done) | exact ⟨by assumption,(hBd a6).1.2,(hBd a6).2,hBr.trans (congrArg (λz:Int=>AV.fG [_,.int .i64 z]) bh),hFr,(hBd a6).1.1⟩):=h
def bX (h:p:=by intro h; first | (cases h; done) | exact ⟨by omega,S7 a6 a6 a6 hEnd a6⟩):=h
def bZ (h:p:=by refine ⟨?_,λh=>by first | (cases h; done) | rfl⟩; refine ⟨λh=>?_,λh=>?_⟩<;>first | (cases h; done) | exact Fs bh | exact Rb bh a6 a6):=h
def b5 (h:p:=by refine ⟨λh=>?_,λh=>?_⟩<;>first | (cases h; done) | (rw [<- hI]; first | exact Ky a6 a6 a6 | exact KX a6 a6 a6 a6 | exact NH bh)):=h
def b8 (h:p:=by intro h; first | (cases h; done) | exact hLn.ok bh):=h
def cb (h:p:=by first | exact ⟨λ_=>hIx.1 bh,λh=>absurd h bf⟩ | exact ⟨λh=>absurd h bf,λ_=>hIx.2 bh⟩):=h
def ce (h:p:=by exact Qw a6 hC (by unfold Dm Br; omega)):=h
def cg (h:p:=by exact ⟨by first | exact (Eg bh).symm | exact (uu bh a6 a6).symm,by first | exact (Fp bh).symm | exact (Iy bh a6 a6).symm⟩):=h
def ck (h:p:=by first | exact ⟨λ_=>LH a6 bh,λh=>bh⟩ | exact ⟨λh=>bh,λ_=>O9 hU bh⟩):=h
def cm (h:p:=by first | exact ⟨by omega,λx hx=>.inl hx⟩ | exact ⟨by simp<;>omega,λx hx=>(List.mem_append.mp hx).imp id List.mem_singleton.mp⟩):=h
def co (h:p:=by exact QH hI4 bh a6 (by intro p hp; first | (simp_all; done) | (simp_all; omega)) bh):=h
def cq (h:p:=by first | exact NB hOs q0.bk hOw bh a6 | exact QM hOs q0.bk hOw bh a6):=h
def ct (h:p:=by (intro i h h2; omega)):=h
def cu (h:p:=by simp [iR,lK,oE,oo,C3]):=h
def cw (h:p:=by first | exact Tm a6 hTk hLf a6 | exact UJ a6 hTk hLf (hCt.1 rfl) | exact TO a6 hTk hLf a6 (hCt.2 rfl) hLd):=h
def cy (h:p:=by first | exact S4 q0 (hId.2 rfl) | exact GB q0 bh | exact Ri q0 qc bh hz3 hr9 hOs hZs bh a6 a6):=h
def cz (h:p:=by first | rfl | (exfalso; simp_all; done)):=h
def cC (h:p:=by kernel_rfl):=h
def cD (h:p:=by intro h; first | rfl | exact absurd (congrArg List.length h) bh | exact (Lb h a6 a6 a6).elim):=h
def cE (h:p:=by first | (refine ⟨by simp,?_⟩; simp; done) | exact ⟨by omega,λx hx=>hRo x (by simp_all)⟩):=h
def cF (h:p:=by first | exact ⟨(ff.of_nil a6).symm,λ_=>ff.AF.mp a6,λ_=>rfl⟩ | exact ⟨by first | rfl | (simp; done),λh=>absurd h (hNN ci),λh=>by have:=ff.AF.mpr h; simp_all⟩):=h
def cG (h:p:=by exact hTu):=h
def cJ (h:p:=by exact hZr):=h
def cK (h:p:=by exact hKu):=h
def cL (h:p:=by exact hKd):=h
def cM (h:p:=by first | exact hA2 | exact ML hA2 bh):=h
def cN (h:p:=by intro hz; first | (cases hz; done) | exact I1 bh | exact LB rfl a6 bh):=h
def cO (h:p:=by first | exact ⟨by omega,λy hy=>.inl hy⟩ | exact ⟨by simp,λy hy=>(List.mem_append.mp hy).imp id (λhy=>by rw [List.mem_singleton.mp hy]; exact xx a6)⟩):=h
def cP (h:p:=by exact hT):=h
def cQ (h:p:=by exact qx.put (hC89 bh).2.2.2.2.2.2.ln hLi2 a6 a6):=h
def cR (h:p:=by exact vy (P:=λe:jl=>((1<=e.kind/\e.kind<=4)/\(e.kind=4->e.len=0))/\(¬ e.kind=4->1<=e.len/\e.len<=4000)) a6 hKd bh):=h
def cS (h:p:=by first | exact (Eg bh).symm | exact (uu bh a6 a6).symm):=h
def cT (h:p:=by first | exact (Fp bh).symm | exact (Iy bh a6 a6).symm):=h
def cU (h:p:=by intro h; first | exact hSm bh | exact Lz (hId rfl) bh):=h
def cV (h:p:=by refine ⟨λh=>?_,λh=>?_⟩<;>first | (exfalso; omega) | exact ⟨_,by assumption,hB.1 rfl⟩ | exact Bk hP bh):=h
def cW (h:p:=by first | exact ⟨λ_=>LH a6 bh,λh=>absurd h bf⟩ | exact ⟨λh=>absurd h bf,λ_=>O9 hU bh⟩):=h
def cX (h:p:=by exact vy (P:=λx:Int=>¬ x=a1) a6 hU bh):=h
def cY (h:p:=by first | exact hNw | exact pL hNw ⟨⟨_,by assumption,rfl⟩,by assumption,by assumption⟩):=h
def cZ (h:p:=by first | (rw [(by assumption:look _ _=some _)]; rfl) | (rw [(by assumption:look _ _=none)]; rfl)):=h
def c3 (h:p:=by first | exact hTi | exact Jw hTi hTk hx0 bh hr9 a6 hMay9 (by have:=hBe.1 bh bh; omega)):=h
def c6 (h:p:=by first | assumption | omega | exact NG a6 q1 (hC89 bh) hD hR hN hNg bh bh (hLi.ok bh) hLe):=h
def c7 (h:p:=by rfl):=h
def c8 (h:p:=by intro h; first | assumption | (cases h; done)):=h
def c9 (h:p:=by (unfold vT; grind)):=h
def da (h:p:=by refine ⟨λh=>?_,λh=>?_⟩<;>first | (cases h; done) | exact hIx.1 bh | exact hIx.2 bh):=h
def db (h:p:=by first | exact ⟨λ_=>a6,λh=>absurd h bf⟩ | exact ⟨λh=>absurd h bf,λ_=>a6⟩):=h
def dc (h:p:=by first | exact Nk hOs q0.bk hOw bh a6 bh a6 | exact QK hOs q0.bk hOw bh a6 bh a6):=h
def de (h:p:=by refine ⟨λh=>?_,λh=>?_,λh=>?_⟩<;>first | (cases h; done) | assumption | rfl):=h
def dg (h:p:=by intro hz; first | (cases hz; done) | omega):=h
def dh (h:p:=by rw [<- hI]; first | (rw [Eo a6 a6 a6]; rfl) | (rw [En bh]; rfl)):=h
def di (h:p:=by exact xF hU bh a6 a6):=h
def dj (h:p:=by first | exact My hBk | exact Mj hBk (hMy bh) q1 q2 hSt bh hZq hNq hGq):=h
def dl (h:p:=by exact hSg):=h
def dm (h:p:=by exact hPs):=h
def dp (h:p:=by exact hLf):=h
def dq (h:p:=by first | exact .inl ⟨_,by assumption⟩ | exact .inr ⟨by assumption,rfl⟩):=h
def dr (h:p:=by first | (refine ⟨by simp,?_⟩; simp; done) | exact ⟨hR,by omega⟩):=h
def dt (h:p:=by first | rfl | (simp_all; done)):=h
def du (h:p:=by exact Qo hLe2):=h
def dv (h:p:=by (first | omega | (simp only [List.length_set]; omega))):=h
def dw (h:p:=by exact hLn2.put a6 a6 (Yd bh a6 bh) (by simp_all)):=h
def dx (h:p:=by rw [hF158]; exact hAtR):=h
def dy (h:p:=by exact Re hJ3 bh a6 (Md qB hHe bh)):=h
def dz (h:p:=by exact qL (P:=λy:Bool=>y=true) hT rfl):=h
def dA (h:p:=by first | exact List.length_replicate | simp):=h
def dB (h:p:=by first | exact hSe | exact uk hSe bh):=h
def dC (h:p:=by exact pL hTu (xx a6)):=h
def dD (h:p:=by (simp<;>omega)):=h
def dE (h:p:=by (intro x; rfl)):=h
def dF (h:p:=by exact KW a6 a6 hD hJ a6):=h
def dG (h:p:=by first | exact hE1 | exact hE2):=h
def dH (h:p:=by exact λy h=>by simp at h):=h
def dI (h:p:=by exact xB ⟨false,zt⟩):=h
def dJ (h:p:=by exact ⟨by omega,atR⟩):=h
def dK (h:p:=by exact xB ⟨true,zt⟩):=h
def dL (h:p:=by exact False.elim br):=h
def dM (h:p:=by exact xB ⟨false,ba,rfl⟩):=h
def dN (h:p:=by exact ⟨by omega,((put r21.l true l5)),H22,hS24,atR⟩):=h
def dP (h:p:=by exact ⟨.bool true,rfl,true,zT,Sep.aT hS25 _,rfl⟩):=h
def dQ (h:p:=by exact ⟨by omega,((put r30.l true l5)),H31,hS33,atR⟩):=h
def dR (h:p:=by exact ⟨.bool false,rfl,false,zT,Sep.aT hS34 _,rfl⟩):=h
def dS (h:p:=by exact ⟨.str x2.name.l,rfl,x2.name,zT,Sep.aT hS3 _,rfl⟩):=h
def dT (h:p:=by exact xB ⟨false,bH,rfl⟩):=h
def dU (h:p:=by exact xB ⟨false,b8,rfl⟩):=h
def dV (h:p:=by exact xB ⟨false,bB,rfl⟩):=h
def dW (h:p:=by exact xG ⟨(⟨0,0⟩:eU),false,bZ,rfl⟩):=h
def dX (h:p:=by exact ⟨by omega,bh,atR⟩):=h
def dY (h:p:=by exact xB ⟨0,zt⟩):=h
def dZ (h:p:=by exact .inr (⟨rfl,rfl⟩)):=h
def d3 (h:p:=by exact ⟨by omega,ce,atR⟩):=h
def d4 (h:p:=by exact xB ⟨false,bz,rfl⟩):=h
def d5 (h:p:=by exact xB ⟨false,bU,rfl⟩):=h
def d6 (h:p:=by exact xG ⟨(kZ:Row Int),false,zt⟩):=h
def d7 (h:p:=by exact ⟨.bool true,rfl,true,zT,Sep.aT hS7 _,rfl⟩):=h
def d8 (h:p:=by exact ⟨.bool false,rfl,false,zT,Sep.aT hS8 _,rfl⟩):=h
def d9 (h:p:=by exact ⟨.bool true,rfl,true,zT,Sep.aT hS2 _,rfl⟩):=h
def ed (h:p:=by exact ⟨.bool false,rfl,false,zT,Sep.aT hS3 _,rfl⟩):=h
def ef (h:p:=by exact xB ⟨(⟨(⟨[],by decide⟩:oq),0,0⟩:jl),cg,rfl⟩):=h
def eg (h:p:=by exact xB ⟨false,bo,rfl⟩):=h
def eu (h:p:=by exact xB ⟨false,bX,rfl⟩):=h
def ew (h:p:=by exact xG ⟨(kZ:Row gI),bC,rfl⟩):=h
def ey (h:p:=by exact xG ⟨(⟨[(⟨0,0⟩:gI)],.exact 1,pd,rfl,capXn⟩:Row gI),bC,rfl⟩):=h
def ez (h:p:=by exact ⟨cr k2,rfl,((k2:Int)),zT,Sep.aT hS13 _,rfl⟩):=h
def eA (h:p:=by exact ⟨iv (-1),rfl,(-1),zT,Sep.aT hS14 _,rfl⟩):=h
def eB (h:p:=by exact xB ⟨true,bI,rfl⟩):=h
def eC (h:p:=by exact xB ⟨false,bI,rfl⟩):=h
def eD (h:p:=by exact ⟨by omega,cU,atR⟩):=h
def eE (h:p:=by exact ⟨by omega,(fV hS44 [(101,0)])⟩):=h
def eF (h:p:=by exact xB ⟨false,cz,rfl⟩):=h
def eG (h:p:=by exact xB ⟨true,cz,rfl⟩):=h
def eH (h:p:=by exact xG ⟨(⟨0,0,false,(kZ:Row Bool)⟩:fC),bQ,rfl⟩):=h
def eI (h:p:=by exact ⟨by omega,v29,l30,H31,bu,hS32,(fV hS32 [(9,0)])⟩):=h
def eJ (h:p:=by exact ⟨by omega,v29,((l30.set jA 1)),H47,bu,hS48,(fV hS48 [(9,0)])⟩):=h
def eK (h:p:=by exact xB ⟨true,bG,rfl⟩):=h
def eL (h:p:=by exact ⟨by omega,cX,atR⟩):=h
def eM (h:p:=by exact xB ⟨false,bw,rfl⟩):=h
def eN (h:p:=by exact xB ⟨3,zt⟩):=h
def eO (h:p:=by exact xB ⟨3,bg,rfl⟩):=h
def eP (h:p:=by exact ⟨ee,rfl,ee,([]:List bm),bR,Sep.aT hS3 _,rfl⟩):=h
def eQ (h:p:=by exact ⟨v5,(ia (vs:=[v5]) rfl (ei (Sep.arg (i:=0) hS7 rfl) fT)),v5,(([]:List bm)++a0.l),bR,Sep.aT hS8 _,rfl⟩):=h
def eR (h:p:=by exact ⟨u,H',hc,u,zT,hS',rfl⟩):=h
def eS (h:p:=by exact xG ⟨(kZ:Row Int),(kZ:Row Int),bJ,rfl⟩):=h
def eT (h:p:=by exact xG ⟨(kZ:Row Int),(kZ:Row Int),cy,rfl⟩):=h
section
variable {C:gv} {F:gX} {Pr:gQ} {fa:eY} {c a b:Code} {an x y:ga} {Q:Ex->Env->au->Prop} {e:Env} {h:au} {i:Nat} {l:List Nat} {os:Array Oper} {t:Operand} {s:List (Nat×List Nat)}
def YE (w:Wp C F Pr fa a x (su (Wp C F Pr fa b y Q) Q) e h) (hc:c=.seq a b:=by exact rfl) (ha:an=.sq x y:=by exact rfl):Wp C F Pr fa c an Q e h:=by subst hc ha; exact qq w
def Y2 (w:Wp C F Pr fa a x (su (λe h=>Wp C F Pr fa b y Q (proj l e) {h with aT:=iu l h.aT}) Q) e h) (hc:c=.seq a b:=by exact rfl) (ha:an=.seq l x y:=by exact rfl):Wp C F Pr fa c an Q e h:=by subst hc ha; exact qs w
def Yu (w:Q .gH e h) (hc:c=.skip:=by exact rfl):Wp C F Pr fa c an Q e h:=by subst hc; exact qk w
def YK (w:Q .gH e h) (hc:c=.label i:=by exact rfl):Wp C F Pr fa c an Q e h:=by subst hc; exact ql w
def YJ (w:Q (.ext i) e h) (hc:c=.exit i:=by exact rfl):Wp C F Pr fa c an Q e h:=by subst hc; exact qe w
def Yv (w:Q .ret e h) (hc:c=.ret:=by exact rfl):Wp C F Pr fa c an Q e h:=by subst hc; exact qr w
def YI (w:Wp C F Pr fa a an (EB i Q) e h) (hc:c=.block i a:=by exact rfl):Wp C F Pr fa c an Q e h:=by subst hc; exact qb w
def YQ (w:ic C F Pr fa os.toList os.toList (Q .gH) e h) (hc:c=.region i os false:=by exact rfl):Wp C F Pr fa c an Q e h:=by subst hc; exact qg w
def Yz (w:gZ C F Pr fa os.toList s (Q .gH) e h) (hc:c=.region i os true:=by exact rfl) (ha:an=.uB s:=by exact rfl):Wp C F Pr fa c an Q e h:=by subst hc ha; exact qd w
def YL (w:Wp C F Pr fa a x Q e h) (hc:c=.cond t a b:=by exact rfl) (ha:an=.two x y:=by exact rfl) (ht:fg e t=.bool true:=by exact rfl):Wp C F Pr fa c an Q e h:=by subst hc ha; exact qT w ht
def YA (w:Wp C F Pr fa b y Q e h) (hc:c=.cond t a b:=by exact rfl) (ha:an=.two x y:=by exact rfl) (ht:fg e t=.bool false:=by exact rfl):Wp C F Pr fa c an Q e h:=by subst hc ha; exact qF w ht
def koV {all l rest:List Oper} {o:Oper} {q:Env->au->Prop} {h1:au} {v:AV} (w:ic C F Pr fa all rest q (fp e o v) h1) (hl:l=o::rest:=by exact rfl) (hw:fE all e o=some true:=by exact rfl) (hop:∀ call,gd o.op ⟨C,fa,call⟩ e h o.dst=some (v,h1):=by exact λ_=>rfl):ic C F Pr fa all l q e h:=by subst hl; exact be hw hop w
def koS {all l rest:List Oper} {o:Oper} {q:Env->au->Prop} (w:ic C F Pr fa all rest q (fp e o (.fG [])) h) (hl:l=o::rest:=by exact rfl) (hw:fE all e o=some false:=by exact rfl):ic C F Pr fa all l q e h:=by subst hl; exact Gz hw w
def koN {all l:List Oper} {q:Env->au->Prop} (w:q e h) (hl:l=[]:=by exact rfl):ic C F Pr fa all l q e h:=by subst hl; exact HK w
def krV {all:List Oper} {o:Oper} {q:Env->au->Prop} {h1:au} {v:AV} {z:List (Nat×List Nat)} (w:gZ C F Pr fa all s q (fp e o v) h1) (hl:z=(i,[])::s:=by exact rfl) (ho:all[i]?=some o:=by exact rfl) (hw:fE all e o=some true:=by exact rfl) (hop:∀ call,gd o.op ⟨C,fa,call⟩ e h o.dst=some (v,h1):=by exact λ_=>rfl):gZ C F Pr fa all z q e h:=by subst hl; exact fD ho hw hop w
def krS {all:List Oper} {o:Oper} {q:Env->au->Prop} {z:List (Nat×List Nat)} (w:gZ C F Pr fa all s q (fp e o (.fG [])) h) (hl:z=(i,[])::s:=by exact rfl) (ho:all[i]?=some o:=by exact rfl) (hw:fE all e o=some false:=by exact rfl):gZ C F Pr fa all z q e h:=by subst hl; exact GG ho hw w
def krN {all:List Oper} {q:Env->au->Prop} {z:List (Nat×List Nat)} (w:q e h) (hl:z=[]:=by exact rfl):gZ C F Pr fa all z q e h:=by subst hl; exact Ih w
end
def mV (w:q) (h:q->p:=by intro w_;(first|refine koV ?_|refine koS ?_|refine YQ ?_|refine YE ?_|refine Y2 ?_|refine Yv ?_|refine YL ?_|refine YA ?_|refine Yu ?_|refine YI ?_|refine YJ ?_|refine Yz ?_|refine YK ?_|refine koN ?_);exact w_):p:=h w
def ra (w:q) (h:q->p:=by intro w_;(first|refine krV ?_|refine krS ?_|refine YQ ?_|refine YE ?_|refine Y2 ?_|refine Yv ?_|refine YL ?_|refine YA ?_|refine Yu ?_|refine YI ?_|refine YJ ?_|refine Yz ?_|refine YK ?_|refine krN ?_);exact w_):p:=h w
def e9 (w:q) (h:q->p:=by intro w_;(iterate 2 refine mV ?_);exact w_):p:=h w
def fo (w:q) (h:q->p:=by intro w_;(iterate 3 refine mV ?_);exact w_):p:=h w
def fk (w:q) (h:q->p:=by intro w_;(iterate 4 refine mV ?_);exact w_):p:=h w
def gq (w:q) (h:q->p:=by intro w_;(iterate 5 refine mV ?_);exact w_):p:=h w
def gS (w:q) (h:q->p:=by intro w_;(iterate 6 refine mV ?_);exact w_):p:=h w
def gz (w:q) (h:q->p:=by intro w_;(iterate 7 refine mV ?_);exact w_):p:=h w
def fS (w:q) (h:q->p:=by intro w_;(iterate 8 refine mV ?_);exact w_):p:=h w
def gl (w:q) (h:q->p:=by intro w_;(iterate 9 refine mV ?_);exact w_):p:=h w
def hZ (w:q) (h:q->p:=by intro w_;(iterate 10 refine mV ?_);exact w_):p:=h w
def kP (w:q) (h:q->p:=by intro w_;(iterate 11 refine mV ?_);exact w_):p:=h w
def j9 (w:q) (h:q->p:=by intro w_;(iterate 12 refine mV ?_);exact w_):p:=h w
def kS (w:q) (h:q->p:=by intro w_;(iterate 13 refine mV ?_);exact w_):p:=h w
def mw (w:q) (h:q->p:=by intro w_;(iterate 14 refine mV ?_);exact w_):p:=h w
def nR (w:q) (h:q->p:=by intro w_;(iterate 15 refine mV ?_);exact w_):p:=h w
def oi (w:q) (h:q->p:=by intro w_;(iterate 16 refine mV ?_);exact w_):p:=h w
def rQ (w:q) (h:q->p:=by intro w_;(iterate 17 refine mV ?_);exact w_):p:=h w
def yj (w:q) (h:q->p:=by intro w_;(iterate 18 refine mV ?_);exact w_):p:=h w
def tc (w:q) (h:q->p:=by intro w_;(iterate 19 refine mV ?_);exact w_):p:=h w
def Bl (w:q) (h:q->p:=by intro w_;(iterate 20 refine mV ?_);exact w_):p:=h w
def Mo (w:q) (h:q->p:=by intro w_;(iterate 21 refine mV ?_);exact w_):p:=h w
def SX (w:q) (h:q->p:=by intro w_;(iterate 22 refine mV ?_);exact w_):p:=h w
def ZK (w:q) (h:q->p:=by intro w_;(iterate 23 refine mV ?_);exact w_):p:=h w
def Si (w:q) (h:q->p:=by intro w_;(iterate 24 refine mV ?_);exact w_):p:=h w
def Bo (w:q) (h:q->p:=by intro w_;(iterate 25 refine mV ?_);exact w_):p:=h w
def FV (w:q) (h:q->p:=by intro w_;(iterate 27 refine mV ?_);exact w_):p:=h w
def TB (w:q) (h:q->p:=by intro w_;(iterate 28 refine mV ?_);exact w_):p:=h w
def DH (w:q) (h:q->p:=by intro w_;(iterate 29 refine mV ?_);exact w_):p:=h w
def GS (w:q) (h:q->p:=by intro w_;(iterate 32 refine mV ?_);exact w_):p:=h w
def Z0 (w:q) (h:q->p:=by intro w_;(iterate 34 refine mV ?_);exact w_):p:=h w
def TJ (w:q) (h:q->p:=by intro w_;(iterate 35 refine mV ?_);exact w_):p:=h w
def Zr (w:q) (h:q->p:=by intro w_;(iterate 39 refine mV ?_);exact w_):p:=h w
def zn (w:q) (h:q->p:=by intro w_;(iterate 40 refine mV ?_);exact w_):p:=h w
def lj (w:q) (h:q->p:=by intro w_;(iterate 2 refine ra ?_);exact w_):p:=h w
def jG (w:q) (h:q->p:=by intro w_;(iterate 3 refine ra ?_);exact w_):p:=h w
def lu (w:q) (h:q->p:=by intro w_;(iterate 4 refine ra ?_);exact w_):p:=h w
def lY (w:q) (h:q->p:=by intro w_;(iterate 5 refine ra ?_);exact w_):p:=h w
def vD (w:q) (h:q->p:=by intro w_;(iterate 6 refine ra ?_);exact w_):p:=h w
def Lt (w:q) (h:q->p:=by intro w_;(iterate 7 refine ra ?_);exact w_):p:=h w
def ze (w:q) (h:q->p:=by intro w_;(iterate 8 refine ra ?_);exact w_):p:=h w
def D3 (w:q) (h:q->p:=by intro w_;(iterate 9 refine ra ?_);exact w_):p:=h w
def aah (w:q) (h:q->p:=by intro w_;(iterate 11 refine ra ?_);exact w_):p:=h w
def ZN (w:q) (h:q->p:=by intro w_;(iterate 12 refine ra ?_);exact w_):p:=h w
def Mc (w:q) (h:q->p:=by intro w_;(iterate 13 refine ra ?_);exact w_):p:=h w
def aaU (w:q) (h:q->p:=by intro w_;(iterate 14 refine ra ?_);exact w_):p:=h w
def NT (w:q) (h:q->p:=by intro w_;(iterate 15 refine ra ?_);exact w_):p:=h w
def L9 (w:q) (h:q->p:=by intro w_;(iterate 17 refine ra ?_);exact w_):p:=h w
def MM (w:q) (h:q->p:=by intro w_;(iterate 20 refine ra ?_);exact w_):p:=h w
def J3 (w:q) (h:q->p:=by intro w_;(iterate 22 refine ra ?_);exact w_):p:=h w
def aa6 (w:q) (h:q->p:=by intro w_;(iterate 25 refine ra ?_);exact w_):p:=h w
def aaj (w:q) (h:q->p:=by intro w_;(iterate 27 refine ra ?_);exact w_):p:=h w
def SQ (w:q) (h:q->p:=by intro w_;(iterate 29 refine ra ?_);exact w_):p:=h w
def aa (w:q) (h:q->p:=by intro w_;refine yQ hA ?_;refine e9 ?_;exact w_):p:=h w
def ab (w:q) (h:q->p:=by intro w_;refine wz [.ip (fq.ai a0) 0 true,(.hm b31),.la 14 0,.sl [[fu a1.fX],[fu a1.guards]] (.exact 2),iv 2,cr qh,fu x41,cr x41.l.length,cr rq] H45 [(14,(bm.ai x49))] ?_;refine gS ?_;refine gj rfl (kI (i:=0) (ek:=iK) (ev:=iK) (l:=l44) x49.elem x49.pos hS46 rfl rfl rfl rfl rfl rfl iF) ?_;exact w_):p:=h w
def ac (w:q) (h:q->p:=by intro w_;refine fD rfl rfl (λ_=>pI (i:=0) hS rfl rfl) ?_;refine fD rfl rfl (λ_=>oW (i:=0) hS rfl rfl rfl rfl rfl) ?_;exact w_):p:=h w
def ae (w:q) (h:q->p:=by intro w_;refine be rfl (λ_=>pI (i:=0) hS rfl rfl) ?_;refine be rfl (λ_=>oW (i:=0) hS rfl rfl rfl rfl rfl) ?_;exact w_):p:=h w
def af (w:q) (h:q->p:=by intro w_;refine fk ?_;refine wz [.fm (cA pK pK a1) false,.la 2 0,(.hm b1),.la 7 0,fP a0.signals,cr a0.signals.l.length,cr k5] H7 [(2,(bY.ai a0)),(7,(iD.ai x11))] ?_;exact w_):p:=h w
def ag (w:q) (h:q->p:=by intro w_;refine yQ hA ?_;refine gS ?_;exact w_):p:=h w
def ah (w:q) (h:q->p:=by intro w_;refine rV ?_;refine fD rfl rfl (λ_=>Mk rfl rfl rfl rfl (D4 rfl)) ?_;refine lu ?_;exact w_):p:=h w
def aj (w:q) (h:q->p:=by intro w_;refine fk ?_;refine wz [.fm (cA pK pK a1) false,.la 2 0,(.hm b1),.la 7 0,iv x21,fy a0.lines,cr a0.lines.l.length,cr k5,gk x11.elems,cr x11.elems.l.length,cr kM] H17 [(2,(bY.ai a0)),(7,(gp.ai x11))] ?_;refine fo ?_;refine gj rfl (kI (i:=0) (ek:=iK) (ev:=bK) (l:=l16) x21 true hS18 rfl rfl rfl rfl rfl rfl iF) ?_;exact w_):p:=h w
def ak (w:q) (h:q->p:=by intro w_;refine wy [ff.av fC.ai a1,.la 2 0,.la 5 0,iv n7] [(2,(fz.ai a0)),(5,(List.map iK l8))] ?_;refine e9 ?_;exact w_):p:=h w
def am (w:q) (h:q->p:=by intro w_;refine nW 1 hS41 ?_;refine mS 1 hS41 ?_;exact w_):p:=h w
def ao (w:q) (h:q->p:=by intro w_;refine jO ?_;refine jz ?_;refine jq ?_;refine jg ?_;(iterate 4 refine jV ?_);refine jR ?_;refine jO ?_;refine jb ?_;exact w_):p:=h w
def aq (w:q) (h:q->p:=by intro w_;refine fk ?_;refine Ao 4 hS50 ?_;refine nO 4 hS50 ?_;refine kW 4 hS50 v41 ?_;refine be rfl (λ_=>jC (H:=H49) (i:=0) (l:=l42) (enc:=fi.ai) hS50 rfl rfl rfl rfl rfl rfl rfl) ?_;exact w_):p:=h w
def aw (w:q) (h:q->p:=by intro w_;refine yQ hA ?_;refine gq ?_;exact w_):p:=h w
def ay (w:q) (h:q->p:=by intro w_;refine e9 ?_;refine gj (H:=au.empty) rfl (o3 gJ rfl rfl rfl rfl rfl) ?_;exact w_):p:=h w
def az (w:q) (h:q->p:=by intro w_;refine gS ?_;refine be rfl (λ_=>oW (i:=0) hS rfl rfl rfl rfl rfl) ?_;exact w_):p:=h w
def aA (w:q) (h:q->p:=by intro w_;(iterate 2 refine kW 4 hS76 v68 ?_);refine be rfl (λ_=>jC (H:=H75) (i:=3) (l:=l69) (enc:=eU.ai) hS76 rfl rfl rfl rfl rfl rfl rfl) ?_;exact w_):p:=h w
def aB (w:q) (h:q->p:=by intro w_;refine fk ?_;refine wz [.ip (fq.ai a0) 0 true,.la 3 0,(.hm b3),gk a1.gB,cr a1.gB.l.length,cr me] H9 [(3,(fe.ai a1))] ?_;exact w_):p:=h w
def aC (w:q) (h:q->p:=by intro w_;refine yQ hA ?_;refine fk ?_;exact w_):p:=h w
def aD (w:q) (h:q->p:=by intro w_;refine lu ?_;refine fo ?_;exact w_):p:=h w
def aE (w:q) (h:q->p:=by intro w_;refine fk ?_;refine gj rfl (kI (i:=0) (ek:=pK) (ev:=bK) (l:=l6) x11.at_ true hS8 rfl rfl rfl rfl rfl rfl jU) ?_;exact w_):p:=h w
def aF (w:q) (h:q->p:=by intro w_;refine gL a0 ?_;refine oV ?_;exact w_):p:=h w
def aG (w:q) (h:q->p:=by intro w_;refine gS ?_;refine rV ?_;exact w_):p:=h w
def aH (w:q) (h:q->p:=by intro w_;refine fk ?_;refine wz [.la 1 0,(.hm b1),fA a0.elems,cr a0.elems.l.length,cr j3] H7 [(1,(bY.ai a0))] ?_;exact w_):p:=h w
def aI (w:q) (h:q->p:=by intro w_;refine wz [.la 1 0,(.hm b1),fA a0.elems,cr a0.elems.l.length,cr j3] H7 [(1,(bY.ai a0))] ?_;refine qg ?_;exact w_):p:=h w
def aJ (w:q) (h:q->p:=by intro w_;refine jq ?_;refine jg ?_;exact w_):p:=h w
def aK (w:q) (h:q->p:=by intro w_;refine gL a0 ?_;refine fo ?_;exact w_):p:=h w
def aL (w:q) (h:q->p:=by intro w_;refine be rfl (λ_=>mj (r:=l) (enc:=fi.ai) rfl rfl rfl rfl rfl rfl) ?_;refine fo ?_;exact w_):p:=h w
def aM (w:q) (h:q->p:=by intro w_;refine fS ?_;refine be rfl (λ_=>ca rfl rfl rfl (CU .i64 n6 n5)) ?_;refine gq ?_;exact w_):p:=h w
def aN (w:q) (h:q->p:=by intro w_;refine kS ?_;refine lj ?_;exact w_):p:=h w
def aO (w:q) (h:q->p:=by intro w_;refine be rfl (λ_=>mj (r:=a0) (enc:=cI) rfl rfl rfl rfl rfl rfl) ?_;refine fo ?_;exact w_):p:=h w
def aP (w:q) (h:q->p:=by intro w_;refine gL a0.signals ?_;refine fo ?_;exact w_):p:=h w
def aQ (w:q) (h:q->p:=by intro w_;refine gS ?_;refine gj rfl (iW hS) ?_;exact w_):p:=h w
def aR (w:q) (h:q->p:=by intro w_;refine wz [(.hm b1),fA a0.elems,cr a0.elems.l.length,cr jQ] H7 [] ?_;refine qg ?_;exact w_):p:=h w
def aS (w:q) (h:q->p:=by intro w_;refine gL a0.elems ?_;refine fo ?_;exact w_):p:=h w
def aU (w:q) (h:q->p:=by intro w_;refine Ao 4 hS50 ?_;refine nO 4 hS50 ?_;refine kW 4 hS50 v47 ?_;refine oV ?_;exact w_):p:=h w
def aV (w:q) (h:q->p:=by intro w_;refine nO 6 hS114 ?_;refine kW 6 hS114 v66 ?_;exact w_):p:=h w
def aW (w:q) (h:q->p:=by intro w_;refine gz ?_;refine lj ?_;exact w_):p:=h w
def aX (w:q) (h:q->p:=by intro w_;refine nW 0 hS25 ?_;refine mS 0 hS25 ?_;refine l3 0 hS25 ((.hm b6)) ?_;exact w_):p:=h w
end
end Go.Sx
