/- Proves rules for the walks and their soundness. -/
import Derived.Test.YtihofefpkjfmnaaGreatTaf
set_option linter.all false
set_option maxHeartbeats 0
namespace Go.Sx
open Go
def jS.take {α:Type} (r:jS α) (k:Nat):jS α:=⟨r.l.take k,r.c,by have:=r.ok; rw [List.length_take]; omega,λh=>by rw [r.nl h]; simp⟩
def B5 {α:Type} {enc : α->List AV} {X:Ctx} {e:Env} {d:Option Nat} {t el n k:Nat} {x y:Operand} {ti te:TI} {h:aT} {r:jS α} {kd:IntKind} (hT:X.C.T t=some ti) (hk:ti.kind=.slice el) (hE:X.C.T el=some te) (hx:ky e x=r.av enc) (hy:ky e y=.int kd (k:Int)) (hn:te.size=n) (hkl:k<=r.l.length) (henc:∀ x,(enc x).length=n) :
  lB (.slice t x none (some y) none) X e h d=some ((r.take k).av enc,h):=by
 have hai:qy (.int kd (k:Int))=some k:=rfl
 have h0:Nat.ble 0 k=true:=Nat.ble_eq.mpr (Nat.zero_le _)
 have h1:Nat.ble k (r.l.map enc).length=true:=Nat.ble_eq.mpr (by simpa using hkl)
 have h2:pE n (r.l.map enc)=true:=by
  cases r.l with
  | nil=>rfl
  | cons a l=>simp only [List.map_cons,pE,henc]; exact Nat.beq_refl n
 have h3:qD 0 r.c=r.c:=by cases r.c<;>rfl
 simp only [lB,qG,qa,hT,hk,hE,hx,hy,jS.av,slice,uq,po,bound,hai,qQ,hn,h1,h2,h0,Bool.true_and,Bool.and_true,List.drop_zero,Nat.sub_zero,qB,h3,mA,jS.take,List.map_take]
structure mq where
 free:Row Int
 end_:Int
def mq.ag (x:mq):List AV:=[x.free.av j6,.int .i64 x.end_]
structure kP where
 at_:Row Int
 kH:Row mq
def kP.ag (x:kP):List AV:=[x.at_.av j6,x.kH.av mq.ag]
def xh (k:IntKind) (n:Int):fI n (pH k)=some (.int k n):=by simp [sB,pH]
def Bx (k:IntKind) (x y:Int):∃ z,m3 .and k x y=some (.int k z):=⟨_,xh k _⟩
def Hh (k:IntKind) (x y:Int):∃ z,m3 .or k x y=some (.int k z):=⟨_,xh k _⟩
def QL {k:IntKind} {x y:Int} (h:0<=y):∃ z,m3 .shl k x y=some (.int k z):=by
 refine ⟨pt k (x*2 ^ (min y.toNat k.bits)),?_⟩
 simp only [m3,HQ,if_neg (Int.not_lt.mpr h)]
 exact xh k _
def Rj {k:IntKind} {x y:Int} (h:0<=y):∃ z,m3 .shr k x y=some (.int k z):=by
 refine ⟨x.fdiv (2 ^ (min y.toNat k.bits)),?_⟩
 simp only [m3,Og,if_neg (Int.not_lt.mpr h)]
 exact xh k _
def Mf (n:Int):IntKind.i64.wrap n<=9223372036854775807:=by
 simp only [IntKind.wrap,IntKind.bits,IntKind.signed]
 grind
def PH {x y:Int} (h:0<=y):∃ z,z<=9223372036854775807/\m3 .shl .i64 x y=some (.int .i64 z):=by
 refine ⟨pt .i64 (x*2 ^ (min y.toNat 64)),?_,?_⟩
 ·rw [qR]; exact Mf _
 ·simp only [m3,HQ,if_neg (Int.not_lt.mpr h)]
  exact xh .i64 _
def DE {e:Env} {h:aT} {t u:Nat} {x y:Operand} {k k':IntKind} {a b:Int} {c:BinOp} {X:Ctx} {d:Option Nat} {v:AV} (hx:ky e x=.int k a) (hy:ky e y=.int k' b) (hk:sX c=true) (hv:m3 c k a b=some v):lB (.binOp c t x y u) X e h d=some (v,h):=by
 simp_all [lB,xK,binOp,AV.int?,AF,mA]
def vJ.erase {es:List (AV×AV×Nat)} {c:Nat} (h:vJ es c) (i:Nat):vJ (es.eraseIdx i) c :=
 ⟨λx hx=>h.1 x ((List.eraseIdx_sublist es i).mem hx),h.2.sublist (List.eraseIdx_sublist es i)⟩
theorem yt {α β:Type} (f : α->β):∀ (l:List α) (j:Nat),(l.eraseIdx j).map f=(l.map f).eraseIdx j
 | [],_=>rfl
 | _::_,0=>rfl
 | _::l,j+1=>congrArg (_::·) (yt f l j)
section
variable {C:lW} {fa:kb} {e:Env} {H:aT} {L:List lC} {ls:mW} {i n:Nat} {v:AV} {w tt:Bool}
def zE {xs:List (List AV)} (hS:Sep H L) (hi:L[i]?=some (.sl w tt v n xs)):pT { H with cH:=ls } v=some xs:=by
 obtain ⟨hxl,⟨h0,rfl⟩ | ⟨_,rfl⟩ | ⟨b,g,j,hb,rfl,hg,htj⟩⟩:=hS.at hi
 ·subst h0; rfl
 ·rfl
 ·have h2:Nat.ble (0+xs.length) (xs++j).length=true:=Nat.ble_eq.mpr (by simp)
  have h3:((xs++j).drop 0).take xs.length=xs:=by rw [List.drop_zero]; simp
  simp only [pT,AV.str?,elems,aT.mU,hg,Nat.beq_refl,h2,Bool.and_self,h3]
def PL {κ β:Type} [DecidableEq κ] {ek : κ->AV} {ev : β->AV} {cl:Call} {t u:Nat} {m k:Operand} {d:Option Nat} {l:List (κ×β)} (key : κ) (hS:Sep H L) (hi:L[i]?=some (.map v (lE ek ev l))) (hc:cl.callee=.builtin .delete) (ha:cl.args.toList=[m,k]) (hts:cl.argTypes.toList=[t,u]) (hm:ky e m=v) (hk:ky e k=ek key) (hK:mapKey C t (ek key)=true) (hke:∀ a b,nG (ek a) (ek b)=some (decide (a=b))) :
  ∃ w H',(∀ call,lB (.call cl) ⟨C,fa,call⟩ e { H with cH:=ls } d=some (w,{ H' with cH:=ls }))/\w=.kq []/\∃ l':List (κ×β),l'.Sublist l/\Sep H' (L.set i (.map v (lE ek ev l'))):=by
 obtain ⟨b,es,c,hb,rfl,hg,he,hst⟩:=hS.at hi
 obtain ⟨f1,f2,f3⟩:=tw (ek:=ek) (ev:=ev) hke key l es he 0
 have fin:∀ es' (l':List (κ×β)),l'.Sublist l->w8 (ek key) es=some es'->pr es'=lE ek ev l'->vJ es' c->∃ w H',(∀ call,lB (.call cl) ⟨C,fa,call⟩ e { H with cH:=ls } d=some (w,{ H' with cH:=ls }))/\w=.kq []/\∃ l':List (κ×β),l'.Sublist l/\Sep H' (L.set i (.map (.hm b) (lE ek ev l'))):=by
  intro es' l' hsub hd hun hst'
  refine ⟨.kq [],H.set b (.map es' c),λcall=>?_,rfl,l',hsub,?_⟩
  ·simp only [lB,qx,pY,hc,ha,hts,oi,Dd,uK,List.map_cons,List.map_nil,hm,hk,wL,hK,aT.mU,aT.qm,hg,hd]
  ·refine hS.oO hi (by simpa using hS.lo) (by simp) ⟨b,es',c,by simp_all,rfl,?_,hun,hst'⟩ ?_ ?_
   ·grind [aT.nI,aT.pz]
   ·intro b' hb' hne
    rw [aT.nI,if_neg (by rintro ⟨rfl,_⟩; exact hne rfl)]
   ·intro b' hb'; exact .inl hb'
 cases hl:look key l with
 | none=>exact fin es l (List.Sublist.refl _) (by simp only [w8,f1 hl]) he hst
 | some x0 =>
   obtain ⟨j,hj,hjl,hjm⟩:=f2 x0 hl
   refine fin (es.eraseIdx j) (l.eraseIdx j) (List.eraseIdx_sublist l j) (by simp only [w8,hj,Nat.zero_add]) ?_ (hst.erase j)
   unfold pr lE at he ⊢
   rw [yt,he,yt]
def Q2 (v:AV) (k m:Nat) (v2:AV):Prop:=∃ b g,v=.hs b g 0 m/\v2=.hs b g k (m - k)
def NQ {t el k:Nat} {x y:Operand} {ti te:TI} {kd:IntKind} {d:Option Nat} {xs:List (List AV)} (hS:Sep H L) (hi:L[i]?=some (.sl true tt v n xs)) (hT:C.T t=some ti) (hk:ti.kind=.slice el) (hE:C.T el=some te) (hn:te.size=n) (hx:ky e x=v) (hy:ky e y=.int kd (k:Int)) (hkl:k<xs.length) :
  ∃ v',(∀ call,lB (.slice t x (some y) none none) ⟨C,fa,call⟩ e { H with cH:=ls } d=some (v',{ H with cH:=ls }))/\Q2 v k xs.length v':=by
 obtain ⟨hxl,⟨h0,rfl⟩ | ⟨h0 | h0,rfl⟩ | ⟨b,g,j,hb,rfl,hg,htj⟩⟩:=hS.at hi
 ·subst h0; simp at hkl
 ·cases h0
 ·subst h0; simp at hkl
 ·have hai:qy (.int kd (k:Int))=some k:=rfl
  have h0:Nat.ble k xs.length=true:=Nat.ble_eq.mpr (by omega)
  have h1:Nat.ble xs.length (xs++j).length=true:=Nat.ble_eq.mpr (by simp)
  have h2:Nat.ble 0 (xs++j).length=true:=Nat.ble_eq.mpr (by simp)
  refine ⟨.hs b g k (xs.length - k),λcall=>?_,b,g,rfl,rfl⟩
  simp only [lB,qG,qa,hT,hk,hE,hx,hy,slice,BF,aT.mU,hg,hn,Nat.beq_refl,Bool.and_self,po,bound,hai,qQ,Option.getD_none,h0,h1,h2,Bool.and_true,Bool.true_and,AU,pk,mA,Nat.zero_add]
def Pg {α:Type} {enc : α->List AV} {cl:Call} {t k:Nat} {y:Operand} {ti:TI} {d:Option Nat} {l:List α} {z : α} {v':AV} (hS:Sep H L) (hi:L[i]?=some (.sl true tt v n (l.map enc))) (ht:Q2 v k (l.map enc).length v') (hc:cl.callee=.builtin .clear) (ha:cl.args.toList=[y]) (hts:cl.argTypes.toList=[t]) (hT:rG C [t]=some ti) (hn:ti.size=n) (hy:ky e y=v') (hz:enc z=ti.zero) (hzl:(enc z).length=n) (hkl:k<l.length) :
  ∃ w H',(∀ call,lB (.call cl) ⟨C,fa,call⟩ e { H with cH:=ls } d=some (w,{ H' with cH:=ls }))/\w=.kq []/\Sep H' (L.set i (.sl true tt v n ((l.take k++List.replicate (l.length - k) z).map enc))):=by
 obtain ⟨b0,g0,rfl,rfl⟩:=ht
 obtain ⟨hxl,⟨h0,h9⟩ | ⟨h0,h9⟩ | ⟨b,g,j,hb,h9,hg,htj⟩⟩:=hS.at hi
 ·cases h9
 ·cases h9
 ·cases h9
  simp only [List.length_map] at hy ⊢
  have hlen:k+(l.length - k)=l.length:=by omega
  have h1:Nat.ble (k+(l.length - k)) (l.map enc++j).length=true:=Nat.ble_eq.mpr (by simp; omega)
  have ho:overwrite (l.map enc++j) k (List.replicate (l.length - k) (enc z))=(l.take k++List.replicate (l.length - k) z).map enc++j:=by
   unfold overwrite
   rw [List.length_replicate,hlen,List.take_append_of_le_length (by simp; omega),List.map_append,List.map_take,List.map_replicate]
   congr 1
   rw [List.drop_append_of_le_length (by simp),List.drop_of_length_le (by simp),List.nil_append]
  refine ⟨.kq [],H.set b0 (.lN g0 n ((l.take k++List.replicate (l.length - k) z).map enc++j)),λcall=>?_,rfl,?_⟩
  ·simp only [lB,qx,pY,hc,ha,hts,oi,Fp,xi,List.map_cons,List.map_nil,hT,hn,hy,C3,aT.mU,hg,Nat.beq_refl,h1,Bool.and_self,<- hz,ho,aT.qm]
  ·refine hS.oO hi (by simpa using hS.lo) (by simp) ⟨?_,.inr (.inr ⟨b0,g0,j,by simp_all,by simp; omega,?_,htj⟩)⟩ ?_ ?_
   ·intro x hx
    obtain ⟨y',hy',rfl⟩:=List.mem_map.mp hx
    rcases List.mem_append.mp hy' with h | h
    ·exact hxl _ (List.mem_map_of_mem (List.mem_of_mem_take h))
    ·rw [(List.mem_replicate.mp h).2]; exact hzl
   ·grind [aT.nI,aT.pz]
   ·intro b' hb' hne
    rw [aT.nI,if_neg (by rintro ⟨rfl,_⟩; exact hne rfl)]
   ·intro b' hb'; exact .inl hb'
end
section
variable {H:aT} {L:List lC} {i:Nat} {v:AV} {tt:Bool} {n:Nat} {α:Type} {enc : α->List AV} {l:List α}
def Pz {xs:List (List AV)} {sn:Bool} (hS:Sep H L) (hi:L[i]?=some (.sl true tt v n xs)):∃ c,(qW c=true->sn=true)/\(c=.nil->xs=[])/\(xs≠[]->c=xD sn)/\(v=.sl [] .nil->c=.nil)/\∀ ls m,(∀ x∈xs,kG (freeze sn { H with cH:=ls } m) x=some x)->freeze sn { H with cH:=ls } (m+1) v=some (.sl xs c):=by
 obtain ⟨hxl,⟨h0,rfl⟩ | ⟨h0 | h0,rfl⟩ | ⟨b,g,j,hb,rfl,hg,htj⟩⟩:=hS.at hi
 ·subst h0; exact ⟨.nil,λh=>(by cases h),λ_=>rfl,λh=>(h rfl).elim,λ_=>rfl,λ_ _ _=>rfl⟩
 ·cases h0
 ·subst h0; exact ⟨.exact 0,λh=>(by cases h),λh=>(by cases h),λh=>(h rfl).elim,λh=>(by cases h),λ_ _ _=>rfl⟩
 ·refine ⟨xD sn,?_,?_,λ_=>rfl,(λh=>by cases h),λls m hm=>?_⟩
  ·cases sn
   ·intro h; cases h
   simp
  ·cases sn<;>exact λh=>by cases h
  ·have h2:Nat.ble (0+xs.length) (xs++j).length=true:=Nat.ble_eq.mpr (by simp)
   have h3:((xs++j).drop 0).take xs.length=xs:=by simp
   have h5:∀ ys:List (List AV),(∀ x∈ys,kG (freeze sn { H with cH:=ls } m) x=some x)->oX (freeze sn { H with cH:=ls } m) ys=some ys:=by
    intro ys
    induction ys<;>grind [oX]
   simp only [freeze,aT.mU,hg,Nat.beq_refl,h2,Bool.and_self,h3,h5 xs hm]
def NH (hS:Sep H L) (hi:L[i]?=some (.sl true tt v n (l.map enc))) (hl:l.length<=ry):∃ r:jS α,r.l=l/\((l≠[]->r.c=.qM)/\(v=.sl [] .nil->r.c=.nil))/\∀ ls m,(∀ x,kG (freeze true { H with cH:=ls } m) (enc x)=some (enc x))->freeze true { H with cH:=ls } (m+1) v=some (r.av enc):=by
 obtain ⟨c,h1,h2,h4,h5,h3⟩:=Pz (sn:=true) hS hi
 refine ⟨⟨l,c,hl,λh=>List.map_eq_nil_iff.mp (h2 h)⟩,rfl,⟨λh=>h4 (by simpa using h),h5⟩,λls m hm=>h3 ls m ?_⟩
 grind
end
def lM (l:List Int):AV:=match l with
 | []=>.sl [] .nil
 | l=>.sl (l.map j6) .qM
theorem oI {x:jS Int} {l:List Int} {v:AV} (hx:x.l=l) (h:(l≠[]->x.c=.qM)/\(v=.sl [] .nil->x.c=.nil)) (hv:l=[]->v=.sl [] .nil):jS.av j6 x=lM l:=by
 subst hx
 unfold jS.av lM
 cases hl:x.l with
 | nil=>rw [h.2 (hv hl)]; rfl
 | cons a t=>rw [h.1 (by rw [hl]; simp)]
theorem DL {α:Type} {l:List α} {k n:Nat} (hk:k<n) (hl:l.length=n) {p:Prop}:l=[]->p:=by
 rintro rfl; simp at hl; omega
def D3:∀ {l:List (Int×Bool)},(∀ x∈l,m4 x.1)->tD (lE iK bK l)=some (l.map Prod.fst)
 | [],_=>rfl
 | x::l,h=>by
   have h1:=h x (by simp)
   have h2:=D3 (l:=l) λy hy=>h y (List.mem_cons_of_mem _ hy)
   simp only [m4] at h1
   simp only [lE,List.map_cons,tD,Jo,iK,h1,and_self,if_true] at h2 ⊢
   rw [h2]
theorem E2:∀ {l:List Int},l.Nodup->xI l=true
 | [],_=>rfl
 | x::l,h=>by
   rw [List.nodup_cons] at h
   simp [xI,h.1,E2 h.2]
def Lq {C:lW} {F0:nd} {Pr:mO} {f:Nat} (hp:Pr f=some pC) {H:aT} {bm:Nat} {l:List (Int×Bool)} {F:List lC} (hS:Sep H (.map (.hm bm) (lE iK bK l)::F)) (q1:oc l) (q2:l.length<=1000000) (q3:∀ x∈l,m4 x.1) :
  ∃ v H',ka C F0 Pr true f [.hm bm] { H with cH:=[] } v H'/\∃ lo:List Int,lo.length=l.length/\Sep H' (.sl true true v 1 (lo.map j6)::.map (.hm bm) (lE iK bK l)::F):=by
 obtain ⟨b,es,c,hb,hv,hg,he,hst⟩:=hS.at (i:=0) rfl
 cases hv
 have hk:tD (es.map Hc)=some (l.map Prod.fst):=by
  have:es.map Hc=pr es:=rfl
  rw [this,he]; exact D3 q3
 have hn:(xI (l.map Prod.fst)&&Nat.ble (l.map Prod.fst).length 1000000)=true:=by
  rw [E2 q1,Bool.true_and,Nat.ble_eq]; simpa using q2
 have hlen:(mS (l.map Prod.fst)).length=l.length:=by rw [(tG _).length_eq,List.length_map]
 have hr:pC true [.hm bm] { H with cH:=[] }=some (tF true (mS (l.map Prod.fst)) { H with cH:=[] }):=by
  simp only [pC,aT.mU,hg,q9,hk,hn]
 have hlo:=hS.lo
 have hcall:∀ (v:AV) (H':aT),tF true (mS (l.map Prod.fst)) { H with cH:=[] }=(v,{ H' with cH:=[] })->ka C F0 Pr true f [.hm bm] { H with cH:=[] } v { H' with cH:=[] }:=by
  intro v H' h
  refine ⟨1,λk hk=>?_⟩
  cases k with
  | zero=>omega
  | succ k=>simp only [nM,hp]; rw [hr,h]
 cases hq:mS (l.map Prod.fst) with
 | nil =>
   rw [hq] at hlen
   refine ⟨.sl [] .nil,{ H with cH:=[] },hcall _ H (by rw [hq]; rfl),[],hlen,?_⟩
   exact (hS.mf 1).cH _
 | cons x t =>
   rw [hq] at hlen
   refine ⟨.hs H.size 0 0 (t.length+1),{ H.push (.lN 0 1 ((x::t).map j6)) with cH:=[] },hcall _ _ (by rw [hq]; simp only [tF,aT.tP]; rfl),x::t,hlen,Sep.cH ?_ _⟩
   refine hS.new (by simp; omega) (by simp) ⟨by intro y hy; obtain ⟨z,_,rfl⟩:=List.mem_map.mp hy; rfl,.inr (.inr ⟨H.size,0,[],by simp,by simp,?_,λ_=>rfl⟩)⟩ ?_ ?_
   ·rw [aT.pG _ _ _ hlo]; simp
   ·intro b hb; rw [aT.pG _ _ _ hlo,if_neg (by omega)]
   ·intro b hb; simp [nq,lC.v] at hb; omega
def Ph {l:List Bool} {i k:Nat} (h:l.count true=k) {hi:i<l.length} (hq:l[i]=false):(l.set i true).count true=k+1:=by
 subst h
 rw [List.count_set (h:=hi)]
 simp [hq]
def Rf {l:List Bool} {r:Int} {k:Nat} (h:r<0->∀ x∈l,x=true) (hc:l.count true=k) (hk:k<l.length):0<=r:=by
 by_cases hr:r<0
 ·have:=List.count_eq_length.mpr λx hx=>(h hr x hx).symm
  omega
 ·omega
end Go.Sx
namespace Go.Sx
open Go
def NO {l:List Bool} {i k:Nat} {x:Bool} (h:l.count true=k) {hi:i<l.length} (hq:l[i]=x) (hx:x=false):(l.set i true).count true=k+1:=Ph h (hq.trans hx)
def J0 {κ β:Type} [DecidableEq κ] {k : κ} {x : β} {l:List (κ×β)} (h:oc l):oc (put k x l):=by
 cases hl:look k l with
 | none=>exact Dy h hl
 | some y =>
   have:(put k x l).map Prod.fst=l.map Prod.fst:=by
    clear h
    induction l with
    | nil=>simp [look] at hl
    | cons p l ih =>
      unfold look at hl
      unfold put
      split at hl
      ·rename_i hp; rw [if_pos hp]; simp [hp]
      ·rename_i hp; rw [if_neg hp]; simp [ih hl]
   unfold oc; rw [this]; exact h
def BP {κ β:Type} [DecidableEq κ] {k : κ} {x : β}:∀ {l:List (κ×β)},(put k x l).length<=l.length+1
 | []=>by simp [put]
 | p::l=>by
   unfold put
   split
   ·simp
   ·have:=BP (k:=k) (x:=x) (l:=l); simp; omega
def Fi {β:Type} {k:Int} {x : β} {l:List (Int×β)} (h:∀ y∈l,m4 y.1) (hk:m4 k):∀ y∈put k x l,m4 y.1:=by
 intro y hy
 rcases BK hy with rfl | hy
 ·exact hk
 ·exact h y hy
def Qu {κ β:Type} {l l':List (κ×β)} (h:l'.Sublist l) (hn:oc l):oc l':=hn.sublist (h.map _)
def Pf {β:Type} {l l':List (Int×β)} (h:l'.Sublist l) (hr:∀ y∈l,m4 y.1):∀ y∈l',m4 y.1:=λy hy=>hr y (h.mem hy)
def LG (y:lr):Prop:=y.elems.l.length<=60/\∀ z∈y.elems.l,m4 z
def mB.lg {p:iF} (h:mB p):∀ y∈p.lines.l,LG y:=λy hy=>⟨h.line y hy,h.U4 y hy⟩
def Di {p q:iF} (hq:q=p.canon) (h:mB p):∀ y∈q.lines.l,LG y:=by
 subst hq
 intro x hx
 simp only [iF.canon,Row.canon,Row.xP,List.mem_map] at hx
 obtain ⟨y,hy,rfl⟩:=hx
 exact h.lg y hy
def rb (r:kz):Prop:=0<r.steps.l.length/\r.steps.l.length<=12/\r.nm.l.length<=12/\pD r
def s8 (c:kP):Prop:=c.kH.l.length<=12/\∀ w∈c.kH.l,w.free.l.length<=1000000
def Lg {r a:kz} (h:rb a) (h1:r.steps.l=a.steps.l) (h2:r.nm.l=a.nm.l) (h3:r.guards.l=a.guards.l) (h4:r.nr.l=a.nr.l) (h5:r.holds.l=a.holds.l):rb r:=by
 unfold rb pD at h ⊢
 rw [h1,h2,h3,h4,h5]; exact h
def Po {l OW:List Int} {k:Nat} {x n:Int} (h:l=OW++List.replicate k x) (hO:∀ y∈OW,0<=y/\y<n) (hx:0<=x/\x<n):∀ y∈l,0<=y/\y<n:=by
 subst h
 intro y hy
 rcases List.mem_append.mp hy with hy | hy
 ·exact hO y hy
 ·rw [(List.mem_replicate.mp hy).2]; exact hx
def Ke {p:iF} {k e:Int} (h:k=qh p e) (hk:k=4\/k=1):0<=e/\e<(p.elems.l.length:Int):=by
 by_cases h1:e<0\/e>=p.elems.l.length
 ·rw [B3 h1] at h; omega
 ·omega
def Lr {b:kr} {a:jT} {m:Int} (h:b.lJ.l=[a]/\0<=a.elem/\a.elem<m):b.lJ.l.length<=1/\∀ h∈b.lJ.l,0<=h.elem/\h.elem<m:=by
 rw [h.1]; simpa using h.2
def My {p:iF} {t:List jT} {r:List Int} {m:Int} (h:r=oM p t) (hg:∀ h∈t,0<=h.elem/\h.elem<m):∀ x∈r,0<=x/\x<m:=by
 subst h
 intro x hx
 obtain ⟨y,hy,rfl⟩:=List.mem_map.mp hx
 exact hg y (List.mem_filter.mp hy).1
def JT {l:List Int} {k:Nat} {x cut:Int} (h:∀ i:Nat,l[i]?=some 0->(i:Int)<cut) (hl:l.length=k) (hx:x=0->(k:Int)<cut):∀ i:Nat,(l++[x])[i]?=some 0->(i:Int)<cut:=by
 subst hl
 intro i hi
 by_cases h1:i<l.length
 ·rw [List.getElem?_append_left h1] at hi; exact h i hi
 ·rw [List.getElem?_append_right (by omega)] at hi
  by_cases h2:i=l.length
  ·subst h2
   simp at hi
   exact hx hi
  ·rw [List.getElem?_eq_none (by simp; omega)] at hi; cases hi
def J7 {l m:List Int} {k:Nat} {x y:Int} (h:l=m) {hk:k<l.length} (hq:l[k]=x) {hk2:k<m.length} (hq2:m[k]=y) (hn:x≠y):False:=by
 subst h; exact hn (hq.symm.trans hq2)
def Kh {X:Ctx} {e:Env} {h:aT} {d:Option Nat} {s t:Nat} {x:Operand} {ti ti2:TI} {k:IntKind} {n:Int} (hx:ky e x=.int k n) (hS:X.C.T s=some ti) (hT:X.C.T t=some ti2) (hk:ti2.kind=.int .i64):lB (.convert s t x) X e h d=some (.int .i64 (pt .i64 n),h):=by
 simp_all [lB,vm,sY,AV.int?,sB,pH,mA]
theorem ym {α:Type} {f : α->α->Bool}:∀ {l:List α},(∀ x∈l,f x x=true)->pX f l l=true
 | [],_=>rfl
 | x::l,h=>by rw [pX,h x List.mem_cons_self,ym λy hy=>h y (List.mem_cons_of_mem _ hy)]; rfl
def LL {r:Row Int}:pV 8 (r.av j6) (r.av j6)=true:=by
 have hc:zK r.c r.c=true:=by cases r.c<;>simp [zK]
 show (pX (pX (pV 7)) (r.l.map j6) (r.l.map j6)&&zK r.c r.c)=true
 rw [hc,ym]; rfl
 intro x hx
 obtain ⟨n,_,rfl⟩:=List.mem_map.mp hx
 refine ym λy hy=>?_
 simp only [j6,List.mem_singleton] at hy
 subst hy
 simp [pV,pZ,qV]
section
variable {C:lW} {F:nd} {Pr:mO} {fa:kb} {e:Env} {h:aT} {all rest:List Oper} {o:Oper} {q:Env->aT->Prop} {H:aT} {ls:mW}
def Ae {j:Nat} {chk:List Nat} {sch:List (Nat×List Nat)} {f:Nat} {g:Operand} {c:Call} {args p r:List AV} {R:AV->aT->Prop} (hj:all[j]?=some o) (ho:o.op=.call c) (hw:kT all e o=some true) (hf:c.callee=.value g) (hg:ky e g=.kY f p r) (ha:c.args.toList.map (ky e)=args) (hok:(p++args++r).all AV.pq=true) (hs:fa.lh.elem f=true)
  (w:∃ v H',ka C F Pr true f (p++args++r) { H with cH:=[] } v H'/\R v H') (next:∀ v H',R v H'->(∀ call,∀ j∈chk,again ⟨C,fa,call⟩ all (kJ e o v) { H' with cH:=ls } j=true)/\mz C F Pr fa all sch q (kJ e o v) { H' with cH:=ls }):mz C F Pr fa all ((j,chk)::sch) q e { H with cH:=ls }:=by
 obtain ⟨v,H',hc,hR⟩:=w
 refine Ak hj hw ?_ (next v H' hR).1 (next v H' hR).2
 rw [ho]
 exact Ax hf hg ha hok hs hc
end
def Bh (m x y:Int):Prop:=m=x\/m=y
def PW {x y:Int} (hx:0<=x) (hy:0<=y):0<=(if y<x then y else x)/\Bh (if y<x then y else x) x y:=by
 unfold Bh; split<;>omega
def AK (t:Nat):List (Nat×Nat)->Option Nat
 | []=>none
 | p::l=>match Nat.beq p.1 t with
   | true=>some p.2
   | false=>AK t l
def B1 (L:List lC) (i:Nat):AV:=match L[i]? with
 | some r=>r.v
 | none=>.undef
def yT (k:Bool) (L:List lC) (ix:List (Nat×Nat)):Env->Env
 | []=>[]
 | p::E=>(p.1,match AK p.1 ix with
   | some i=>(match k with
     | true=>mw p.1 (B1 L i)
     | false=>B1 L i)
   | none=>p.2)::yT k L ix E
theorem Fb {H:aT} {L:List lC} (hS:Sep H L) (ix:List (Nat×Nat)):∀ E,yT true L ix E=yT false L ix E
 | []=>rfl
 | p::E=>by
   simp only [yT]
   rw [Fb hS ix E]
   cases AK p.1 ix with
   | none=>rfl
   | some i =>
     simp only [B1]
     cases hi:L[i]? with
     | none=>simp only [mw]; split<;>rfl
     | some r=>rw [hS.I2 hi p.1]
def Kf {H:aT} {L:List lC} {e E:Env} (hS:Sep H L) (ix:List (Nat×Nat)) (h1:e=yT true L ix E:=by rfl) (h2:yT false L ix E=E:=by rfl):e=E :=
 h1.trans ((Fb hS ix E).trans h2)
def xx:List Nat->List AV->Env
 | t::ts,v::vs=>(t,v)::xx ts vs
 | _,_=>[]
def At (live:List Nat) (vs:List AV) (H:aT) (L:mW) (e:Env) (h:aT):Prop:=proj live e=xx live vs/\{ h with cH:=nv live h.cH } = { H with cH:=L }
def atR {live:List Nat} {vs:List AV} {H:aT} {L:mW} {e:Env} {h:aT} (h1:proj live e=xx live vs:=by rfl) (h2:{ h with cH:=nv live h.cH } = { H with cH:=L }:=by rfl):At live vs H L e h:=⟨h1,h2⟩
def kh {live:List Nat} {vs:List AV} {H:aT} {L:mW} {e:Env} {h:aT} {H0:aT} {R:List lC} (hS:Sep H0 R) (ix:List (Nat×Nat)) (h1:proj live e=yT true R ix (xx live vs):=by rfl) (h3:yT false R ix (xx live vs)=xx live vs:=by rfl) (h2:{ h with cH:=nv live h.cH } = { H with cH:=L }:=by rfl):At live vs H L e h:=⟨Kf hS ix h1 h3,h2⟩
section
variable {C:lW} {F:nd} {Pr:mO} {fa:kb} {c:Code} {an:ou} {Q:Ex->Env->aT->Prop} {live:List Nat} {e:Env} {h:aT}
def rP {vs:List AV} {H:aT} {L:mW} (hA:At live vs H L e h) (w:Wp C F Pr fa c an Q (xx live vs) { H with cH:=L }):Wp C F Pr fa c an Q (proj live e) { h with cH:=nv live h.cH }:=FX hA.1 hA.2 w
def wz (vs:List AV) (H:aT) (L:mW) (w:Wp C F Pr fa c an Q (xx live vs) { H with cH:=L }) (hA:At live vs H L e h:=by exact atR):Wp C F Pr fa c an Q (proj live e) { h with cH:=nv live h.cH }:=rP hA w
def wy (vs:List AV) (L:mW) (w:Wp C F Pr fa c an Q (xx live vs) { aT.empty with cH:=L }) (hA:At live vs aT.empty L e h:=by exact atR):Wp C F Pr fa c an Q (proj live e) { h with cH:=nv live h.cH }:=rP hA w
end
section
variable {Q:Prop} {H:aT} {L:List lC} {α:Type} {enc : α->List AV} {w tt:Bool} {v:AV} {n:Nat} {l:List α}
def nU (hS:Sep H L) (i:Nat) (K:∀ r:jS α,r.l=l->r.l.length=l.length->(∀ m,freeze true { H with cH:=[] } (m+2) v=some (r.av enc))->Q) (hi:L[i]?=some (.sl w tt v n (l.map enc)):=by rfl) (he:∀ m x,kG (freeze true { H with cH:=[] } (m+1)) (enc x)=some (enc x):=by first | exact λ_ _=>rfl | (intro _ _; simp only [iF.ag,lV.ag,jT.ag,lQ.ag,lP.ag,lr.ag,j4.ag,lU.ag,lj.ag,jV.ag,kL.ag,lI.ag,kz.ag,kr.ag,lX.ag,jY.ag,lF.ag,mq.ag,kP.ag,nZ,kG,m0,nf,np,mY,nj])) (hl:l.length<=ry:=by simp only [ry]; first | omega | (simp<;>omega)):Q:=by
 obtain ⟨r,h1,h2⟩:=PD hS hi hl
 exact K r h1 (congrArg _ h1) λm=>h2 [] _ (he m)
def rD (hS:Sep H L) (i:Nat) (K:∀ r:jS α,r.l=l->((l≠[]->r.c=.qM)/\(v=.sl [] .nil->r.c=.nil))->r.l.length=l.length->(∀ m,freeze true { H with cH:=[] } (m+2) v=some (r.av enc))->Q) (hi:L[i]?=some (.sl true tt v n (l.map enc)):=by rfl) (he:∀ m x,kG (freeze true { H with cH:=[] } (m+1)) (enc x)=some (enc x):=by first | exact λ_ _=>rfl | (intro _ _; simp only [iF.ag,lV.ag,jT.ag,lQ.ag,lP.ag,lr.ag,j4.ag,lU.ag,lj.ag,jV.ag,kL.ag,lI.ag,kz.ag,kr.ag,lX.ag,jY.ag,lF.ag,mq.ag,kP.ag,nZ,kG,m0,nf,np,mY,nj])) (hl:l.length<=ry:=by simp only [ry]; first | omega | (simp<;>omega)):Q:=by
 obtain ⟨r,h1,h3,h2⟩:=NH hS hi hl
 exact K r h1 h3 (congrArg _ h1) λm=>h2 [] _ (he m)
end
def N4 (k:Bool) (R:List lC) (ix:List (Nat×Nat)) (live:List Nat) (e:Env):Env:=live.map λt=>(t,match AK t ix with
 | some i=>(match k with
   | true=>mw t (B1 R i)
   | false=>B1 R i)
 | none=>mw t (nJ e t))
theorem QB {H:aT} {L:List lC} (hS:Sep H L) (ix:List (Nat×Nat)) (live:List Nat) (e:Env):N4 true L ix live e=N4 false L ix live e:=by
 refine List.map_congr_left λt _=>?_
 cases AK t ix with
 | none=>rfl
 | some i =>
   simp only [B1]
   cases hi:L[i]? with
   | none=>simp only [mw]; split<;>rfl
   | some r=>rw [hS.I2 hi t]
def wk {C:lW} {F:nd} {Pr:mO} {fa:kb} {c:Code} {an:ou} {Q:Ex->Env->aT->Prop} {live:List Nat} {e:Env} {h H0:aT} {R:List lC} (hS:Sep H0 R) (ix:List (Nat×Nat)) (w:Wp C F Pr fa c an Q (N4 false R ix live e) { h with cH:=nv live h.cH }) (he:proj live e=N4 true R ix live e:=by rfl):Wp C F Pr fa c an Q (proj live e) { h with cH:=nv live h.cH }:=by
 rw [he,QB hS]; exact w
def wrap_u8 {n:Int} (h:0<=n/\n<=255):pt .i64 n=n:=by
 rw [qR]
 show (if (true&&decide (n % (2 ^ 64:Int)>=(2 ^ 63:Int)))=true then n % (2 ^ 64:Int) - (2 ^ 64:Int) else n % (2 ^ 64:Int))=n
 grind
end Go.Sx
