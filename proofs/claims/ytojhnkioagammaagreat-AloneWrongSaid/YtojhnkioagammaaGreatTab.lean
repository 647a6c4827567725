/- Proves rules for the walks and their soundness. -/
import Derived.Lib.Strings
import Derived.Laws.MakeOwn
import Derived.Deep.AppendSrc
import Derived.Test.YtojhnkioagammaaGreatTaa
set_option linter.all false
namespace Go.Sx
open Go
section
variable {P:Program} {C:gP} {G:Ga} {t:Nat} {ti:TI}
theorem yN (hC:g5 P C) {s d:Nat} {x:AV} {x':Value} {r:AV×ah} (hx:VR G x x') (h:qR C G.h s d x=some r):kb P G (Go.convert s d x') r:=by
 unfold qR at h
 split at h
 ·rename_i ts td hs hd
  obtain ⟨us,hus,_⟩:=(hC.ty s ts hs).desc
  obtain ⟨ud,hud,_,hk⟩:=(hC.ty d td hd).desc
  split at h
  ·rename_i k hki
   rw [hki] at hk
   have hk:ud=.int k:=hk
   subst hk
   split at h
   ·rename_i k' n hn
    have:=int?_eq hn; subst this
    rw [hx.of_int]
    obtain ⟨v,hv,rfl⟩:=jN h
    simp only [qi,lH,nW,Option.some.injEq] at hv
    subst hv
    refine ⟨rfl,_,?_,VR.int _ _⟩
    unfold Go.convert
    rw [Sem.run_bind,run_underlying hus]
    simp only [Result.andThen_ok]
    rw [Sem.run_bind,run_underlying hud]
    rfl
   ·cases h
  ·rename_i hki
   rw [hki] at hk
   have hk:ud=.string:=hk
   subst hk
   split at h
   ·rename_i b hb
    cases h
    have:=str?_eq hb; subst this
    obtain ⟨bs,rfl,hbs⟩:=hx.pq
    refine ⟨rfl,.string bs,?_,VR.str hbs⟩
    simp_all [Go.convert,Sem.run_bind,run_underlying,Result.andThen_ok]
   ·cases h
  ·cases h
 ·cases h
theorem xQ {fn:Fn} {a c:List AV} {a' c':Array Value} {r:AV×ah} (hal:a.length=a'.size) (hcl:c.length=c'.size)
  (ha:∀ (i:Nat) (x:AV) (y:Value),a[i]?=some x→a'[i]?=some y→VR G x y) (hc:∀ (i:Nat) (x:AV) (y:Value),c[i]?=some x→c'[i]?=some y→VR G x y)
  (h:pt G.h fn a c=some r):kb P G (Instr.makeFunc fn a' c') r:=by
 unfold pt at h
 split at h
 ·split at h
  ·rename_i hok
   simp only [Bool.and_eq_true,List.all_eq_true] at hok
   cases h
   have hnl:∀ x:AV,x.hZ=true→x.kh=true:=by intro x hx; cases x<;>simp_all [AV.hZ,AV.kh]
   exact ⟨rfl,_,rfl,.gL _ _ _ _ _ hal hcl (fun x hx=>hnl x (hok.1 x hx)) (fun x hx=>hnl x (hok.2 x hx)) ha hc⟩
  ·cases h
 ·cases h
theorem A2 {x:AV} {x':Value} {n:Nat} (hx:VR G x x') (h:rb x=some n):∃ a c,x'=.slice a n c:=by
 unfold rb at h
 split at h
 ·cases h
  cases hx with
  | gF _ h=>cases h<;>exact ⟨_,_,rfl⟩
 ·cases h
  cases hx<;>grind [AV.ir]
 ·cases h
theorem xa {w:World} {r:Nat} {ents:Array MapEntry} {c:Nat} (h:w.heap[r]?=some (.map ents c)):(getObj r).run P w=.ok (.map ents c) w:=by
 simp [getObj,Sem.run,h]
theorem EZ (hW:WR G) (hC:g5 P C) {ats:Array Nat} {x:AV} {x':Value} {ty:Nat} {r:AV×ah} (hx:VR G x x') (h:qN C ats.toList [x] G.h=some r) :
  kb P G (Builtin.len_ ats ty #[x']) r:=by
 unfold qN at h
 split at h
 ·rename_i t rest y hats hy
  simp only [List.cons.injEq,and_true] at hy
  subst hy
  have h0:ats[0]?=some t:=by rw [← Array.getElem?_toList,hats]; rfl
  split at h
  ·rename_i ti hti
   obtain ⟨d,hd,_,hk⟩:=(hC.ty t ti hti).desc
   unfold mI at h
   split at h
   ·rename_i n hn
    cases h
    unfold rX at hn
    split at hn
    ·rename_i m e hki
     cases hn
     rw [hki] at hk
     have hk:d=.array _ _:=hk
     subst hk
     exact ⟨rfl,_,by simp [Builtin.len_,h0,run_underlying hd,goInt],VR.int _ _⟩
    ·rename_i hki
     rw [hki] at hk
     have hk:d=.string:=hk
     subst hk
     unfold Fy at hn
     split at hn
     ·rename_i s hs
      cases hn
      have:=str?_eq hs; subst this
      obtain ⟨b,rfl,hb⟩:=hx.pq
      refine ⟨rfl,.int .i64 b.size,by simp [Builtin.len_,h0,run_underlying hd,goInt],?_⟩
      grind [qK,VR.int]
     grind
    ·rename_i e hki
     rw [hki] at hk
     have hk:d=.slice _:=hk
     subst hk
     obtain ⟨a,c,rfl⟩:=A2 hx hn
     exact ⟨rfl,_,by simp [Builtin.len_,h0,run_underlying hd,goInt],VR.int _ _⟩
    ·rename_i kt et hki
     rw [hki] at hk
     have hk:d=.map _ _:=hk
     subst hk
     unfold zK at hn
     split at hn
     ·cases hn
      cases hx with
      | gF _ h=>cases h; exact ⟨rfl,.int .i64 0,by simp [Builtin.len_,h0,run_underlying hd,goInt],VR.int _ _⟩
     ·cases hn
      cases hx with
      | gF _ h=>cases h with
        | fm _ _ _ r ents clk hm hB hI hl hy hko hk hv =>
          refine ⟨rfl,.int .i64 ents.size,by simp [Builtin.len_,h0,run_underlying hd,goInt,xa hB],?_⟩
          grind [VR.int]
     ·split at hn
      ·rename_i b es c hget
       cases hn
       cases hx with
       | gF hp _=>simp [AV.ir] at hp
       | hm _ r hb hl =>
         obtain ⟨l,hpi,rfl⟩:=hl _ _ hget
         obtain ⟨ents,hB,hlen,_⟩:=hW.map _ _ _ _ hpi hget
         refine ⟨rfl,.int .i64 ents.size,by simp [Builtin.len_,h0,run_underlying hd,goInt,xa hB],?_⟩
         grind [VR.int]
      grind
     grind
    grind
   ·cases h
  ·cases h
 ·cases h
theorem E9 {C:gP} {t:Nat} {ti:TI} (h:nH C t=some ti):∃ tt el,C.T t=some tt∧tt.kind=.slice el∧C.T el=some ti:=by
 grind [nH]
theorem nG (hC:g5 P C) {t:Nat} {ti:TI} (h:nH C t=some ti):∃ el,P.underlying t=some (.slice el)∧C.T el=some ti∧kD P el ti:=by
 obtain ⟨tt,el,h1,h2,h3⟩:=E9 h
 obtain ⟨d,hd,_,hk⟩:=(hC.ty t tt h1).desc
 rw [h2] at hk
 have hk:d=.slice el:=hk
 subst hk
 exact ⟨el,hd,h3,hC.ty el ti h3⟩
theorem EX (hC:g5 P C) {ats:Array Nat} {x:AV} {x':Value} {ty:Nat} {r:AV×ah} (hx:VR G x x') (h:yg C ats.toList [x] G.h=some r) :
  kb P G (Builtin.cap_ ats ty #[x']) r:=by
 unfold yg at h
 split at h
 ·rename_i ti y hh hy
  simp only [List.cons.injEq,and_true] at hy
  subst hy
  unfold nQ at hh
  split at hh
  ·rename_i t rest hats
   have h0:ats[0]?=some t:=by rw [← Array.getElem?_toList,hats]; rfl
   obtain ⟨el,hd,_,_⟩:=nG hC hh
   unfold mI at h
   split at h
   ·rename_i n hn
    cases h
    unfold Jz at hn
    split at hn
    ·cases hn
     cases hx with
     | gF _ h=>cases h with
       | slnil=>exact ⟨rfl,.int .i64 0,by simp [Builtin.cap_,h0,run_underlying hd,goInt],VR.int _ _⟩
       | kG _ _ _ _ _ hc=>cases hc
       | sl _ _ _ _ _ _ _ _ _ _ _ _ _ _ hc=>cases hc
    ·cases hn
     cases hx with
     | gF _ h=>cases h with
       | kG _ _ _ c _ hc =>
         have hc:c = _:=hc
         subst hc
         exact ⟨rfl,_,by simp [Builtin.cap_,h0,run_underlying hd,goInt],VR.int _ _⟩
       | sl _ _ _ _ _ _ _ _ c _ _ _ _ _ hc =>
         have hc:c = _:=hc
         subst hc
         exact ⟨rfl,_,by simp [Builtin.cap_,h0,run_underlying hd,goInt],VR.int _ _⟩
    grind
   ·cases h
  grind
 ·cases h
theorem og (k:IntKind) (n:Int) (w:World):(asIntOf (.int k n)).run P w=.ok (k,n) w:=rfl
theorem wQ (hW:WR G) (hC:g5 P C) {x i:AV} {x' i':Value} {r:AV×ah} (hx:VR G x x') (hi:VR G i i') (h:lN C G.h t x i=some r) :
  kb P G (Instr.indexAt t x' i') r:=by
 unfold lN at h
 split at h
 ·cases h
 ·rename_i ti hti
  obtain ⟨d,hd,_,hk⟩:=(hC.ty t ti hti).desc
  split at h
  ·cases h
  ·rename_i n hn
   obtain ⟨k,rfl⟩:=s7 hn
   rw [hi.of_int]
   split at h
   ·rename_i el hki
    rw [hki] at hk
    have hk:d=.slice el:=hk
    subst hk
    split at h
    ·rename_i te hte
     have hTe:=hC.ty el te hte
     unfold nC at h
     split at h
     ·rename_i xs c
      split at h
      ·rename_i cs hcs
       split at h
       ·rename_i hlen
        have hlen:=Nat.eq_of_beq_eq_true hlen
        cases h
        have hlt:n<xs.length:=(List.getElem?_eq_some_iff.1 hcs).1
        cases hx with
        | gF _ h =>
          cases h with
          | slnil=>grind
          | kG=>grind
          | sl _ _ _ B base cc e fr cap' esz f hm hB hI hcap hle hz hc h1 hr =>
            have hz':=hz n cs hcs
            refine ⟨rfl,.pointer (some ⟨B,base+n*te.size,none⟩),?_,?_⟩
            ·have hcond:(0:Int)≤(n:Int)∧(n:Int)<(xs.length:Int):=by omega
             simp [Instr.indexAt,og,run_underlying hd,hTe.sizeOf,mz,hlt]
            ·have e1:esz=te.size:=by omega
             subst e1
             refine .gF rfl (.ip _ cs 0 (m5 c) B (base+n*te.size) cc e fr (f n) (fun _=>rfl) hB ?_ (fun j x hj=>hc n cs j x hcs hj) (fun j x hj=>h1 n cs j x hcs hj) ?_)
             ·cases c<;>exact hI
             ·intro j x hj
              have:=hr n cs j x hcs hj
              cases c<;>exact this
       ·cases h
      ·cases h
     ·rename_i b g off len
      split at h
      ·rename_i g' z xs hget
       split at h
       ·rename_i hb
        simp only [Bool.and_eq_true,Nat.beq_eq,Nat.blt_eq] at hb
        obtain ⟨hlt,hz⟩:=hb
        simp only [kN,Option.some.injEq] at h
        subst h
        cases hx with
        | gF hp _=>simp [AV.ir] at hp
        | hs _ _ _ _ a cap' hb hg hle hl =>
          refine ⟨rfl,.pointer (some (a.add (n*te.size))),?_,?_⟩
          ·simp [Instr.indexAt,og,run_underlying hd,hTe.sizeOf,hlt]
          ·refine .ptr b g (off+n) 0 _ hb hg ?_
           grind [mz]
       ·cases h
      ·cases h
     ·cases h
    ·cases h
   ·rename_i m el hki
    rw [hki] at hk
    have hk:d=.array m el:=hk
    subst hk
    split at h
    ·rename_i te hte
     have hTe:=hC.ty el te hte
     split at h
     ·rename_i hlt
      simp only [Nat.blt_eq] at hlt
      obtain ⟨v,hv,rfl⟩:=jN h
      obtain ⟨a,rfl,ha⟩:=wO hx hv
      refine ⟨rfl,.pointer (some (a.add (n*te.size))),?_,ha⟩
      simp [Instr.indexAt,og,run_underlying hd,hTe.sizeOf,Instr.sureAddr,hlt]
     ·cases h
    ·cases h
   ·cases h
theorem A6 (hC:g5 P C) {x i:AV} {x' i':Value} {r:AV×ah} (hx:VR G x x') (hi:VR G i i') (h:uR C G.h t x i=some r) :
  kb P G (Instr.index t x' i') r:=by
 unfold uR at h
 split at h
 ·cases h
 ·rename_i ti hti
  obtain ⟨d,hd,_,hk⟩:=(hC.ty t ti hti).desc
  split at h
  ·cases h
  ·rename_i n hn
   obtain ⟨k,rfl⟩:=s7 hn
   rw [hi.of_int]
   split at h
   ·rename_i hki
    rw [hki] at hk
    have hk:d=.string:=hk
    subst hk
    split at h
    ·rename_i s hs
     have:=str?_eq hs; subst this
     obtain ⟨b,rfl,hb⟩:=hx.pq
     split at h
     ·rename_i c hc
      cases h
      refine ⟨rfl,.int .u8 c.toNat,?_,VR.int _ _⟩
      have hbc:b[n]?=some c:=by
       subst hb
       rw [Array.getElem?_toList] at hc
       obtain ⟨hlt,he⟩:=Array.getElem?_eq_some_iff.1 hc
       rw [getElem?_pos b n hlt]
       exact congrArg some he
      simp [Instr.index,og,run_underlying hd,hbc]
     ·cases h
    ·cases h
   ·rename_i m el hki
    rw [hki] at hk
    have hk:d=.array m el:=hk
    subst hk
    split at h
    ·rename_i te hte
     have hTe:=hC.ty el te hte
     split at h
     ·rename_i cs hcs
      split at h
      ·rename_i hlt
       simp only [Nat.blt_eq] at hlt
       obtain ⟨v,hv,rfl⟩:=jN h
       have:=agg?_eq hcs; subst this
       obtain ⟨vs,rfl,hl,h1,hr⟩:=hx.qU
       obtain ⟨u,hu,hvu⟩:=wR hTe hl h1 hr hv
       refine ⟨rfl,u,?_,hvu⟩
       simp [Instr.index,og,run_underlying hd,hTe.sizeOf,hlt,hu]
      ·cases h
     ·cases h
    ·cases h
   ·cases h
end
end Go.Sx
namespace Go.Sx
open Go
section
variable {P:Program} {C:gP} {G:Ga} {t:Nat} {ti:TI}
inductive OR (G:Ga):Option AV→Option Value→Prop
 | none:OR G none none
 | some {v:AV} {u:Value} (h:VR G v u):OR G (some v) (some u)
theorem oE {o:Option AV} {o':Option Value} {d n:Nat} (h:OR G o o') (hb:bound o d=some n) :
  (o=none∧o'=none∧n=d)∨(∃ v k,o=some v∧o'=some (.int k (n:Int))):=by
 cases h with
 | none=>grind [bound]
 | some h =>
   simp only [bound] at hb
   obtain ⟨k,rfl⟩:=s7 hb
   exact .inr ⟨_,k,rfl,by rw [h.of_int]⟩
theorem pr (k:IntKind) (n y:Nat) (code:BoundsCode) (w:World) (h:n≤y):(Instr.sliceBound (.int k (n:Int)) y code).run P w=.ok n w:=by
 grind [run_sliceBound]
theorem lf {lo hi mx:Option AV} {lo' hi' mx':Option Value} {len cap l r:Nat} {m:Option Nat} (hl:OR G lo lo') (hh:OR G hi hi') (hm:OR G mx mx')
  (h1:bound lo 0=some l) (h2:bound hi len=some r) (h3:mR hi mx=some m) (hlr:l≤r) (hrm:r≤m.getD cap) (hmc:m.getD cap≤cap) (w:World) (b:Bool) :
  (Instr.sliceBounds b len cap lo' hi' mx').run P w=.ok (l,r,m.getD cap) w:=by
 unfold Instr.sliceBounds
 cases hm with
 | none =>
   simp only [mR,Option.some.injEq] at h3
   subst h3
   simp only [Option.getD_none] at hrm hmc ⊢
   rcases oE hh h2 with ⟨rfl,rfl,rfl⟩ | ⟨v,k,rfl,rfl⟩
   ·rcases oE hl h1 with ⟨rfl,rfl,rfl⟩ | ⟨v',k',rfl,rfl⟩
    ·simp
    simp_all [pr]
   ·rcases oE hl h1 with ⟨rfl,rfl,rfl⟩ | ⟨v',k',rfl,rfl⟩
    ·simp_all [pr]
    simp_all [pr]
 | some hm =>
   simp only [mR] at h3
   split at h3
   ·rename_i v mm hm'
    cases h3
    obtain ⟨km,rfl⟩:=s7 hm'
    rw [hm.of_int]
    simp only [Option.getD_some] at hrm hmc ⊢
    rcases oE hh h2 with ⟨h0,_,_⟩ | ⟨v2,k,_,rfl⟩
    ·cases h0
    ·rcases oE hl h1 with ⟨rfl,rfl,rfl⟩ | ⟨v',k',rfl,rfl⟩
     ·simp_all [pr]
     simp_all [pr]
   grind
theorem ll {el:Nat} (hd:P.underlying t=some (.slice el)) (hTe:kD P el ti) {a:Option Addr} {len cap l r m:Nat} {lo hi mx:Option Value} {w:World}
  (hb:(Instr.sliceBounds true len cap lo hi mx).run P w=.ok (l,r,m) w) :
  (Instr.sliceAt t (.slice a len cap) lo hi mx).run P w=.ok (.slice (if m=l then a else a.map (·.add (l*ti.size))) (r - l) (m - l)) w:=by
 unfold Instr.sliceAt
 simp only [Sem.run_bind,run_underlying hd,Result.andThen_ok]
 unfold Instr.slice
 simp [run_underlying hd,hb,hTe.sizeOf]
theorem tK {α:Type} (xs:List α) (l k i:Nat) (x : α) (h:((xs.drop l).take k)[i]?=some x):xs[l+i]?=some x∧i<k:=by
 grind
theorem PR.piece {w:World} {T:Bool→Nat→Prop} {m:Bool} {xs:List (List AV)} {cap cap2:kq} {B base:Nat} {len cap' n:Nat} {l r:Nat}
  (h:PR w T m (.sl xs cap) (.slice (some ⟨B,base,none⟩) len cap')) (hne:xs≠[]) (hh:kP n xs=true) (hlr:l<r) (hr:r≤xs.length) (hs:mP cap2=mP cap)
  {k:Nat} (hcap:lK cap2 (r - l) k) (hle:r - l≤k) :
  PR w T m (.sl ((xs.drop l).take (r - l)) cap2) (.slice (some ⟨B,base+l*n,none⟩) (r - l) k):=by
 have hlen:((xs.drop l).take (r - l)).length=r - l:=by grind
 cases h with
 | kG=>grind
 | sl _ _ _ _ _ c e fr _ esz f hm hB hI hc1 hle1 hz hc h1 hr1 =>
   have hn:esz=n:=by
    cases xs with
    | nil=>grind
    | cons x xs =>
      have:=hz 0 x rfl
      simp_all [kP]
   subst hn
   have key:=PR.sl (w:=w) (T:=T) m ((xs.drop l).take (r - l)) cap2 B (base+l*esz) c e fr k esz (fun i j=>f (l+i) j) (by grind) hB (by grind)
    (by grind) (by omega)
    (fun i cs h=>hz _ cs (tK _ _ _ _ _ h).1)
    (fun i cs j x h hj=>by
      grind)
    (fun i cs j x h hj=>h1 (l+i) cs j x (tK _ _ _ _ _ h).1 hj)
    (fun i cs j x h hj=>by grind)
   grind
theorem ub {cap:kq} {len c l r:Nat} (h:lK cap len c) (hl:l≤r) (hr:r≤len) (hlc:len≤c):lK (mi l cap) (r - l) (c - l):=by
 cases cap<;>simp only [lK,mi] at *<;>omega
theorem IY (l:Nat) (cap:kq):mP (mi l cap)=mP cap:=by cases cap<;>rfl
theorem oq {xs:List (List AV)} {cap:kq} {u:Value} (h:VR G (.sl xs cap) u):PR G.w G.T true (.sl xs cap) u:=by
 cases h<;>grind
theorem Bl (hW:WR G) (hC:g5 P C) {el:Nat} (hd:P.underlying t=some (.slice el)) (hTe:kD P el ti) {x v:AV} {x':Value} {lo hi mx:Option AV} {lo' hi' mx':Option Value}
  (hx:VR G x x') (hl:OR G lo lo') (hh:OR G hi hi') (hm:OR G mx mx') (h:slice ti.size G.h x lo hi mx=some v) :
  ∃ u,(Instr.sliceAt t x' lo' hi' mx').run P G.w=.ok u G.w∧VR G v u:=by
 unfold slice at h
 split at h
 ·
  rename_i xs cap
  have hp:=oq hx
  unfold p9 at h
  split at h
  ·rename_i l r e1 e2 e3
   split at h
   ·rename_i hb
    simp only [Bool.and_eq_true,Nat.ble_eq] at hb
    obtain ⟨⟨hlr,hrn⟩,hhead⟩:=hb
    simp only [mb,Option.some.injEq] at h
    subst h
    cases hp with
    | slnil =>
      have hr0:r=0:=by grind
      have hl0:l=0:=by omega
      subst hr0; subst hl0
      exact ⟨_,ll hd hTe (lf (cap:=0) hl hh hm e1 (by omega) e3 hlr (by simp) (by simp) G.w true),.gF rfl (.slnil _)⟩
    | kG _ _ a c hmk hc =>
      have hr0:r=0:=by grind
      have hl0:l=0:=by omega
      subst hr0; subst hl0
      refine ⟨_,ll hd hTe (lf (cap:=c) hl hh hm e1 (by omega) e3 hlr (by simp) (by simp) G.w true),?_⟩
      have hcc:lK (mi 0 cap) 0 c:=by simpa using ub (l:=0) (r:=0) hc (Nat.le_refl 0) (Nat.le_refl 0) (Nat.zero_le c)
      simp only [Option.getD_none,Nat.sub_zero,Option.map_some,List.drop_nil,List.take_nil]
      split
      ·exact .gF rfl (.kG _ _ _ _ (fun _=>rfl) hcc)
      ·exact .gF rfl (.kG _ _ _ _ (fun _=>rfl) hcc)
    | sl _ _ _ B base c e fr cap' esz f hmk hB hI hcap hle hz hc h1 hr1 =>
      refine ⟨_,ll hd hTe (lf (cap:=cap') hl hh hm e1 e2 e3 hlr (by grind) (by simp) G.w true),?_⟩
      simp only [Option.getD_none,Option.map_some]
      by_cases hlt:l<r
      ·rw [if_neg (by omega),mz]
       refine .gF rfl ?_
       exact PR.piece (.sl _ xs cap B base c e fr cap' esz f hmk hB hI hcap hle hz hc h1 hr1) (by grind) hhead hlt hrn (IY l cap) (ub hcap hlr hrn hle) (by omega)
      ·have hlr':r=l:=by omega
       subst hlr'
       have hcc:lK (mi r cap) 0 (cap' - r):=by simpa using ub (l:=r) (r:=r) hcap (Nat.le_refl _) hrn hle
       simp only [Nat.sub_self,List.take_zero]
       split<;>exact .gF rfl (.kG _ _ _ _ (fun _=>rfl) hcc)
   ·cases h
  ·rename_i l r m e1 e2 e3
   split at h
   ·rename_i hb
    simp only [Bool.and_eq_true,Nat.ble_eq] at hb
    obtain ⟨⟨⟨hlr,hrm⟩,hmn⟩,hhead⟩:=hb
    simp only [mb] at h
    have hp':=hp
    cases hp with
    | slnil =>
      have hm0:m=0:=by grind
      subst hm0
      have hr0:r=0:=by omega
      have hl0:l=0:=by omega
      subst hr0; subst hl0
      simp only [List.drop_nil,List.take_nil,w8,uJ,pC,Option.some.injEq] at h
      subst h
      exact ⟨_,ll hd hTe (lf (cap:=0) hl hh hm e1 (by omega) e3 hlr (by simp) (by simp) G.w true),.gF rfl (.slnil _)⟩
    | kG _ _ a c hmk hc =>
      have hm0:m=0:=by grind
      subst hm0
      have hr0:r=0:=by omega
      have hl0:l=0:=by omega
      subst hr0; subst hl0
      simp only [List.drop_nil,List.take_nil,w8,Option.some.injEq] at h
      subst h
      refine ⟨_,ll hd hTe (lf (cap:=c) hl hh hm e1 (by omega) e3 hlr (by simp) (by simp) G.w true),?_⟩
      simp only [Option.getD_some,Nat.sub_self,if_true]
      refine .gF rfl (.kG _ _ _ _ (fun _=>rfl) ?_)
      cases cap<;>simp [uJ,pC,lK] at hc ⊢
    | sl _ _ _ B base c e fr cap' esz f hmk hB hI hcap hle hz hc h1 hr1 =>
      refine ⟨_,ll hd hTe (lf (cap:=cap') hl hh hm e1 e2 e3 hlr (by grind) (by grind) G.w true),?_⟩
      simp only [Option.getD_some,Option.map_some]
      by_cases hlt:l<r
      ·rw [if_neg (by omega),mz]
       have hne:(xs.drop l).take (r - l)≠[]:=by
        intro h0
        have:=congrArg List.length h0
        grind
       have hv:v=.sl ((xs.drop l).take (r - l)) (pC (m - l) cap):=by
        cases hq:(xs.drop l).take (r - l)<;>grind [w8]
       subst hv
       refine .gF rfl ?_
       refine PR.piece hp' (by grind) hhead hlt (by omega) ?_ ?_ (by omega)
       ·cases cap<;>rfl
       ·cases cap<;>simp only [lK,pC] at hcap ⊢<;>omega
      ·have hlr':r=l:=by omega
       subst hlr'
       simp only [Nat.sub_self,List.take_zero,w8,Option.some.injEq] at h
       subst h
       simp only [Nat.sub_self]
       have hcc:lK (pC (m - r) (uJ cap)) 0 (m - r):=by cases cap<;>simp [uJ,pC,lK] at hcap ⊢
       split<;>exact .gF rfl (.kG _ _ _ _ (fun _=>rfl) hcc)
   ·cases h
  ·cases h
 ·
  rename_i b g off len
  unfold AP at h
  split at h
  ·rename_i g' z xs hget
   split at h
   ·cases h
   ·rename_i hgz
    simp only [Bool.and_eq_true,Nat.beq_eq] at hgz
    obtain ⟨rfl,rfl⟩:=hgz
    split at h
    ·rename_i l r m e1 e2 e3
     split at h
     ·rename_i hb
      simp only [Bool.and_eq_true,Nat.ble_eq] at hb
      obtain ⟨⟨hlr,hrn⟩,hmn⟩:=hb
      cases hx with
      | gF hp _=>simp [AV.ir] at hp
      | hs _ _ _ _ a cap' hbs hg hle hl' =>
        obtain ⟨lc,hpi,hcap,ha⟩:=hl' _ _ hget
        obtain ⟨c,e,hB,hxc,_⟩:=hW.fW _ _ _ _ _ hpi hget
        unfold za at h
        split at h
        ·simp only [kN,Option.some.injEq] at h
         subst h
         refine ⟨_,ll hd hTe (lf (cap:=cap') hl hh hm e1 e2 e3 hlr (by grind) (by simp) G.w true),?_⟩
         simp only [Option.getD_none,Option.map_some]
         have hcond:∀ q:Addr,(0<cap' - l→q=⟨lc.B,lc.base+(off+l)*ti.size,none⟩)→VR G (.hs b g (off+l) (r - l)) (.slice (some q) (r - l) (cap' - l)):=by
          intro q hq
          refine .hs b g (off+l) (r - l) q (cap' - l) hbs hg (by omega) ?_
          grind
         grind [mz]
        ·rename_i mm
         simp only [Option.getD_some] at hmn
         split at h
         ·rename_i hrm
          have hrm:=Nat.le_of_ble_eq_true hrm
          have hrun:=ll (a:=some a) (len:=len) hd hTe (lf (P:=P) (len:=len) (cap:=cap') hl hh hm e1 e2 e3 hlr (by grind) (by grind) G.w true)
          split at h
          ·rename_i hlm
           have hlm:=Nat.eq_of_beq_eq_true hlm
           subst hlm
           cases h
           refine ⟨_,hrun,?_⟩
           have:r=l:=by omega
           subst this
           simp only [Option.getD_some,if_true,Nat.sub_self]
           exact .gF rfl (.kG _ _ _ _ (fun _=>rfl) rfl)
          ·cases h
           exact ⟨_,hrun,.undef _⟩
         ·cases h
     ·cases h
    ·cases h
  ·cases h
 ·cases h
theorem Bp (hd:P.underlying t=some .string) {s:List UInt8} {b:ByteArray} {v:AV} {lo hi mx:Option AV} {lo' hi' mx':Option Value} (hs:b.data.toList=s)
  (hl:OR G lo lo') (hh:OR G hi hi') (hm:OR G mx mx') (h:Dq s lo hi mx=some v) :
  ∃ u,(Instr.sliceAt t (.string b) lo' hi' mx').run P G.w=.ok u G.w∧VR G v u:=by
 unfold Dq at h
 split at h
 ·rename_i l r e1 e2
  split at h
  ·rename_i hb
   simp only [Bool.and_eq_true,Nat.ble_eq] at hb
   simp only [mb,Option.some.injEq] at h
   subst h
   cases hm
   have hsz:=qK hs
   have hbd:=lf (P:=P) (len:=s.length) (cap:=s.length) hl hh OR.none e1 e2 (m:=none) rfl hb.1 (by grind) (by simp) G.w false
   refine ⟨.string (b.extract l r),?_,VR.str (by simp_all)⟩
   unfold Instr.sliceAt
   simp only [Sem.run_bind,run_underlying hd,Result.andThen_ok]
   simp_all [Instr.slice,run_underlying]
  ·cases h
 ·cases h
theorem zP (hW:WR G) (hC:g5 P C) {x:AV} {x':Value} {lo hi mx:Option AV} {lo' hi' mx':Option Value} {r:AV×ah}
  (hx:VR G x x') (hl:OR G lo lo') (hh:OR G hi hi') (hm:OR G mx mx') (h:ml C G.h t x lo hi mx=some r):kb P G (Instr.sliceAt t x' lo' hi' mx') r:=by
 unfold ml at h
 split at h
 ·cases h
 ·rename_i ti hti
  obtain ⟨d,hd,_,hk⟩:=(hC.ty t ti hti).desc
  split at h
  ·rename_i el hki
   rw [hki] at hk
   have hk:d=.slice el:=hk
   subst hk
   split at h
   ·rename_i te hte
    obtain ⟨v,hv,rfl⟩:=jN h
    obtain ⟨u,hu,hvu⟩:=Bl hW hC hd (hC.ty el te hte) hx hl hh hm hv
    exact ⟨rfl,u,hu,hvu⟩
   ·cases h
  ·rename_i hki
   rw [hki] at hk
   have hk:d=.string:=hk
   subst hk
   split at h
   ·rename_i s hs
    obtain ⟨v,hv,rfl⟩:=jN h
    have:=str?_eq hs; subst this
    obtain ⟨b,rfl,hb⟩:=hx.pq
    obtain ⟨u,hu,hvu⟩:=Bp hd hb hl hh hm hv
    exact ⟨rfl,u,hu,hvu⟩
   ·cases h
  ·cases h
end
end Go.Sx
namespace Go.Sx
open Go
structure CR (G:Ga) (l:List AV) (vs:Array Value):Prop where
 len:l.length=vs.size
 one:∀ (i:Nat) (y:Value),vs[i]?=some y→y.oneCell'=true
 rel:∀ (i:Nat) (x:AV) (y:Value),l[i]?=some x→vs[i]?=some y→VC G x y
section
variable {P:Program} {C:gP} {G:Ga} {t:Nat} {ti:TI}
theorem PR.one {w:World} {T:Bool→Nat→Prop} {m:Bool} {v:AV} {u:Value} (h:PR w T m v u) (hv:v.hZ=true):u.oneCell'=true:=by
 cases h<;>first
  | rfl
  | assumption
  | (simp [AV.hZ] at hv)
theorem VR.one {v:AV} {u:Value} (h:VR G v u) (hv:v.hZ=true):u.oneCell'=true:=by
 cases h with
 | gF _ h=>exact h.one hv
 | undef=>simp [AV.hZ] at hv
 | la=>rfl
 | ptr=>rfl
 | hs=>rfl
 | hm=>rfl
 | gL=>rfl
 | agg=>simp [AV.hZ] at hv
 | fz=>simp [AV.hZ] at hv
theorem yI {u:Value} (h:u.oneCell'=true):u.cells = #[u]:=by
 cases u<;>simp_all [Value.oneCell',Value.cells]
theorem CR.mono {G':Ga} (E:Ext G G') {l:List AV} {vs:Array Value} (h:CR G l vs):CR G' l vs:=⟨h.len,h.one,fun i x y hx hy=>(h.rel i x y hx hy).mono E⟩
theorem CR.agg {l:List AV} {vs:Array Value} (h:CR G l vs):VR G (.agg l) (.agg vs):=VR.yW (R:=VC G) (fun _ _ h=>h) h.len h.one h.rel
theorem Fj {x:AV} (hx:x.hZ=true):x.kh=true:=by cases x<;>simp_all [AV.hZ,AV.kh]
theorem nL {v:AV} {v':Value} {new:List AV} (hv:VR G v v') (h:cellsOf ti v=some new):CR G new v'.cells∧new.length=ti.size:=by
 unfold cellsOf at h
 split at h
 ·split at h
  ·rename_i l hl
   split at h
   ·rename_i hlen
    cases h
    have:=agg?_eq hl; subst this
    obtain ⟨vs,rfl,a,b,c⟩:=hv.qU
    exact ⟨⟨a,b,c⟩,Nat.eq_of_beq_eq_true hlen⟩
   ·cases h
  ·cases h
 ·split at h
  ·rename_i hb
   simp only [Bool.and_eq_true,Nat.beq_eq] at hb
   cases h
   have h1:=hv.one hb.1
   refine ⟨?_,by grind⟩
   rw [yI h1]
   refine ⟨by simp,?_,?_⟩
   ·grind
   ·intro i x y hx hy
    rw [Array.getElem?_eq_some_iff] at hy
    obtain ⟨hi,rfl⟩:=hy
    simp at hi
    subst hi
    simp at hx
    subst hx
    exact ⟨hv,Fj hb.1⟩
  ·cases h
theorem ue:∀ (vs:List Value) (n off:Nat) (cells:Array Value) (k:Nat),
  ((vs.zipIdx n).foldl (fun cs (x:Value×Nat)=>cs.setIfInBounds (off+x.2) x.1) cells)[k]?=if off+n≤k∧k<off+n+vs.length∧k<cells.size then vs[k - (off+n)]? else cells[k]?
 | [],n,off,cells,k=>by simp; omega
 | v::vs,n,off,cells,k=>by
   simp only [List.zipIdx_cons,List.foldl_cons]
   rw [ue vs (n+1) off _ k]
   simp only [Array.size_setIfInBounds,Array.getElem?_setIfInBounds,List.length_cons]
   by_cases h1:k=off+n
   ·subst h1
    rw [if_neg (by omega)]
    by_cases h2:off+n<cells.size
    ·simp [h2]
    ·simp [h2]
   ·by_cases h2:off+(n+1)≤k∧k<off+(n+1)+vs.length∧k<cells.size
    ·rw [if_pos h2,if_pos (by omega)]
     rw [show k - (off+n)=(k - (off+(n+1)))+1 by omega]
     simp
    ·rw [if_neg h2,if_neg (by omega),if_neg (by omega)]
theorem tj {cs new r:List AV} {o:Nat} (h:kp cs o new=some r):o+new.length≤cs.length∧r.length=cs.length∧∀ k,r[k]?=if o≤k∧k<o+new.length then new[k - o]? else cs[k]?:=by
 unfold kp at h
 split at h
 ·rename_i hb
  have hb:=Nat.le_of_ble_eq_true hb
  simp only [mb,Option.some.injEq] at h
  subst h
  refine ⟨hb,by grind,fun k=>?_⟩
  rw [List.append_assoc,List.getElem?_append]
  grind
 ·cases h
theorem CR.kp {cs new r:List AV} {o:Nat} {c vs:Array Value} (hc:CR G cs c) (hn:CR G new vs) (h:Sx.kp cs o new=some r) :
  ¬ (o+vs.size > c.size)∧CR G r (vs.zipIdx.foldl (fun (cs:Array Value) (x:Value×Nat)=>cs.setIfInBounds (o+x.2) x.1) c):=by
 obtain ⟨h1,h2,h3⟩:=tj h
 have hl:=hn.len
 have hcl:=hc.len
 refine ⟨by omega,?_⟩
 have key:∀ k,(vs.zipIdx.foldl (fun (cs:Array Value) (x:Value×Nat)=>cs.setIfInBounds (o+x.2) x.1) c)[k]?=if o≤k∧k<o+vs.size∧k<c.size then vs[k - o]? else c[k]?:=by
  intro k
  have:=ue vs.toList 0 o c k
  simp only [Nat.add_zero,Array.length_toList,Array.getElem?_toList] at this
  rw [← this,← Array.foldl_toList,Array.toList_zipIdx]
 have hsz:(vs.zipIdx.foldl (fun (cs:Array Value) (x:Value×Nat)=>cs.setIfInBounds (o+x.2) x.1) c).size=c.size:=by
  have h0:∀ (l:List (Value×Nat)) (a:Array Value),(l.foldl (fun (cs:Array Value) (x:Value×Nat)=>cs.setIfInBounds (o+x.2) x.1) a).size=a.size:=by
   intro l
   induction l<;>grind
  rw [← Array.foldl_toList]
  grind
 refine ⟨by omega,?_,?_⟩
 ·intro i y hy
  rw [key] at hy
  split at hy
  ·exact hn.one _ y hy
  ·exact hc.one _ y hy
 ·intro i x y hx hy
  rw [key] at hy
  rw [h3] at hx
  split at hy
  ·rw [if_pos (by omega)] at hx
   exact hn.rel _ x y hx hy
  ·rename_i hne
   split at hx
   ·omega
   ·exact hc.rel _ x y hx hy
theorem sR {place:Nat→Option (Nat×Nat)} (hC:g5 P C)
  (hplace:∀ i off ft,(match ti.kind with
    | .struct fs=>fs[i]?
    | .array n el=>match C.T el with
      | some t=>if i<n then some (i*t.size,el) else none
      | none=>none
    | _=>none)=some (off,ft)→∀ tf,C.T ft=some tf→place i=some (off,tf.size)) :
  ∀ {ps:List (Nat×AV)} {ps':List (Nat×Value)} {cs r:List AV} {c:Array Value},ps.length=ps'.length→(∀ (i:Nat) p q,ps[i]?=some p→ps'[i]?=some q→p.1=q.1∧VR G p.2 q.2)→CR G cs c →
    wS C ti ps cs=some r→∃ rc,Instr.fill place c ps'=some rc∧CR G r rc
 | [],[],cs,r,c,_,_,hc,h=>by
   simp only [wS,Option.some.injEq] at h
   subst h
   exact ⟨c,rfl,hc⟩
 | [],_::_,_,_,_,hl,_,_,_=>by simp at hl
 | _::_,[],_,_,_,hl,_,_,_=>by simp at hl
 | (i,v)::ps,(i',v')::ps',cs,r,c,hl,hr,hc,h=>by
   obtain ⟨e,hv⟩:=hr 0 (i,v) (i',v') rfl rfl
   simp only at e hv
   subst e
   simp only [wS] at h
   split at h
   ·cases h
   ·rename_i off ft hp
    split at h
    ·cases h
    ·rename_i tf htf
     split at h
     ·cases h
     ·rename_i new hnew
      split at h
      ·split at h
       ·cases h
       ·rename_i cs2 hs
        have hpl:=hplace i off ft hp tf htf
        obtain ⟨hcr,hlen⟩:=nL hv hnew
        obtain ⟨hgt,hc2⟩:=hc.kp hcr hs
        obtain ⟨rc,hrc,hrr⟩:=sR hC hplace (by grind) (fun j p q hp hq=>hr (j+1) p q hp hq) hc2 h
        refine ⟨rc,?_,hrr⟩
        simp only [Instr.fill,hpl]
        rw [if_neg]
        ·exact hrc
        ·have hsz:v'.cells.size=tf.size:=by rw [← hcr.len,hlen]
         grind
      ·cases h
theorem kD.qw (hT:kD P t ti):∃ i z,P.info? t=some i∧i.zero=some z∧CR G ti.zero z.cells∧z.cells.size=ti.size∧(ti.agg=true→∃ cs,z=.agg cs)∧(ti.agg=false→z.oneCell'=true):=by
 obtain ⟨i,z,h1,h2,h3,h4,h5,h6,h7,h8,h9⟩:=hT.info
 refine ⟨i,z,h1,h4,⟨by grind,?_,?_⟩,h6,h8,h9⟩
 ·grind
 ·intro i x y hx hy
  rw [h5,List.getElem?_map,Array.getElem?_toList,hy] at hx
  simp only [Option.map_some,Option.some.injEq] at hx
  subst hx
  have h1c:=h7 y (Array.mem_toList_iff.2 (Array.mem_of_getElem? hy))
  unfold zN
  split<;>refine ⟨?_,rfl⟩<;>first
   | exact VR.bool _
   | exact VR.int _ _
   | exact VR.str rfl
   | exact .gF rfl (.ia _)
   | exact .gF rfl (.slnil _)
   | exact .gF rfl (.g8 _)
   | exact .gF rfl (.jk _)
   | exact .undef _
theorem Bj (hC:g5 P C) {ps:List (Nat×AV)} {ps':Array (Nat×Value)} {r:AV×ah} (hl:ps.length=ps'.size)
  (hr:∀ (i:Nat) p q,ps[i]?=some p→ps'[i]?=some q→p.1=q.1∧VR G p.2 q.2) (h:wL C G.h t ps=some r):kb P G (Instr.build t ps') r:=by
 unfold wL at h
 split at h
 ·rename_i ti hti
  split at h
  case h_2=>cases h
  rename_i hbl
  split at h
  ·rename_i cs hcs
   cases h
   have hT:=hC.ty t ti hti
   obtain ⟨i,z,hi,hz,hcr,hsz,_,_⟩:=hT.qw (G:=G)
   obtain ⟨d,hd,_,hk⟩:=hT.desc
   have main:∃ rc,P.built t ps'.toList=some rc∧CR G cs rc:=by
    cases hki:ti.kind with
    | struct fs =>
      rw [hki] at hk
      obtain ⟨F,rfl,hfs,hsz⟩:=hk
      have hplaces:∃ places:List (Nat×Nat),F.toList.mapM (fun f=>(P.info? f.type).map fun i=>(f.offset,i.size))=some places∧∀ (j:Nat) (f:Field),F.toList[j]?=some f→∃ i,P.info? f.type=some i∧places[j]?=some (f.offset,i.size):=by
       clear hfs hd
       generalize F.toList=fl at hsz
       induction fl with
       | nil=>simp
       | cons f fl ih =>
         obtain ⟨pl,h1,h2⟩:=ih (fun g hg=>hsz g (by simp [hg]))
         obtain ⟨i,hi,hne⟩:=hsz f (by simp)
         refine ⟨(f.offset,i.size)::pl,by grind,?_⟩
         grind
      obtain ⟨places,hpl,hpg⟩:=hplaces
      obtain ⟨rc,h1,h2⟩:=sR (place:=fun k=>places.toArray[k]?) (ti:=ti) hC (by
       intro k off ft hk2 tf htf
       rw [hki] at hk2
       simp only [hfs,List.getElem?_map,Option.map_eq_some_iff,Prod.mk.injEq] at hk2
       obtain ⟨f,hf,rfl,rfl⟩:=hk2
       obtain ⟨i2,hi2,hp2⟩:=hpg k f hf
       have:=(hC.ty _ tf htf).F8
       grind) (ps':=ps'.toList) (by omega) (fun j p q hp hq=>hr j p q hp (by grind)) hcr hcs
      grind [Program.built]
    | array n el =>
      rw [hki] at hk
      have hk:d=.array n el:=hk
      subst hk
      cases hte:C.T el with
      | none =>
        grind [buildable]
      | some te =>
        have hTe:=hC.ty el te hte
        obtain ⟨ie,_,hie,hisz,_⟩:=hTe.info
        obtain ⟨rc,h1,h2⟩:=sR (place:=fun k=>some (k*ie.size,ie.size)) (ti:=ti) hC (by
         grind) (ps':=ps'.toList) (by omega) (fun j p q hp hq=>hr j p q hp (by grind)) hcr hcs
        grind [Program.built]
    | _=>rw [hki] at hbl; simp [buildable] at hbl
   obtain ⟨rc,h1,h2⟩:=main
   exact ⟨rfl,.agg rc,run_build G.w t ps' rc h1,h2.agg⟩
  ·cases h
 ·cases h
end
end Go.Sx
namespace Go.Sx
open Go
namespace Tr
variable {α β:Type}
theorem mU (x : α):∀ (f n:Nat) (t:Tr α) {γ:Type} (k:Tr α→γ),ins x f n t k=k (ins x f n t id)
 | 0,_,_,_,_=>by rfl
 | f+1,n,.leaf,_,k=>by
   cases n with
   | zero=>simp [ins]
   | succ m =>
     simp only [ins]
     split
     ·rw [mU x f (m / 2) .leaf,mU x f (m / 2) .leaf (fun l=>id (Tr.node l none .leaf))]; rfl
     ·rw [mU x f (m / 2) .leaf,mU x f (m / 2) .leaf (fun r=>id (Tr.node .leaf none r))]; rfl
 | f+1,n,.node l v r,_,k=>by
   cases n with
   | zero=>simp [ins]
   | succ m =>
     simp only [ins]
     split
     ·rw [mU x f (m / 2) l,mU x f (m / 2) l (fun l=>id (Tr.node l v r))]; rfl
     ·rw [mU x f (m / 2) r,mU x f (m / 2) r (fun q=>id (Tr.node l v q))]; rfl
theorem Av (n:Nat):(Tr.leaf:Tr α).get n=none:=by rfl
theorem qn (x : α):∀ (f n:Nat) (t:Tr α) (m:Nat),n<f→(ins x f n t id).get m=if m=n then some x else t.get m
 | 0,_,_,_,h=>by omega
 | f+1,n,.leaf,m,h=>by
   cases n with
   | zero =>
     simp only [ins,id]
     cases m with
     | zero=>simp [get]
     | succ m=>simp only [get]; split<;>simp [get]
   | succ n =>
     simp only [ins]
     have hf:n / 2<f:=by omega
     split
     ·rename_i hn
      rw [mU]
      simp only [id]
      cases m with
      | zero=>simp [get]
      | succ m =>
        simp only [get]
        split
        ·rename_i hm
         rw [qn x f (n / 2) .leaf (m / 2) hf]
         simp only [Nat.beq_eq] at hn hm
         by_cases e:m=n
         ·subst e; simp
         ·rw [if_neg (by omega),if_neg (by omega)]; simp [Av]
        ·rename_i hm
         have:¬ (m+1=n+1):=by
          intro e; have:m=n:=by omega
          subst this; rw [hn] at hm; cases hm
         rw [if_neg this]
     ·rename_i hn
      rw [mU]
      simp only [id]
      cases m with
      | zero=>simp [get]
      | succ m =>
        simp only [get]
        split
        ·rename_i hm
         have:¬ (m+1=n+1):=by
          intro e; have:m=n:=by omega
          subst this; rw [hn] at hm; cases hm
         rw [if_neg this]
        ·rename_i hm
         rw [qn x f (n / 2) .leaf (m / 2) hf]
         have hn':n % 2≠0:=by intro h0; rw [h0] at hn; cases hn
         have hm':m % 2≠0:=by intro h0; rw [h0] at hm; cases hm
         by_cases e:m=n
         ·subst e; simp
         ·rw [if_neg (by omega),if_neg (by omega)]; simp [Av]
 | f+1,n,.node l v r,m,h=>by
   cases n with
   | zero =>
     simp only [ins,id]
     cases m with
     | zero=>simp [get]
     | succ m=>simp [get]
   | succ n =>
     simp only [ins]
     have hf:n / 2<f:=by omega
     split
     ·rename_i hn
      rw [mU]
      simp only [id]
      cases m with
      | zero=>simp [get]
      | succ m =>
        simp only [get]
        split
        ·rename_i hm
         rw [qn x f (n / 2) l (m / 2) hf]
         simp only [Nat.beq_eq] at hn hm
         by_cases e:m=n
         ·subst e; simp
         ·rw [if_neg (by omega),if_neg (by omega)]
        ·rename_i hm
         have:¬ (m+1=n+1):=by
          intro e; have:m=n:=by omega
          subst this; rw [hn] at hm; cases hm
         rw [if_neg this]
     ·rename_i hn
      rw [mU]
      simp only [id]
      cases m with
      | zero=>simp [get]
      | succ m =>
        simp only [get]
        split
        ·rename_i hm
         have:¬ (m+1=n+1):=by
          intro e; have:m=n:=by omega
          subst this; rw [hn] at hm; cases hm
         rw [if_neg this]
        ·rename_i hm
         rw [qn x f (n / 2) r (m / 2) hf]
         have hn':n % 2≠0:=by intro h0; rw [h0] at hn; cases hn
         have hm':m % 2≠0:=by intro h0; rw [h0] at hm; cases hm
         by_cases e:m=n
         ·subst e; simp
         ·rw [if_neg (by omega),if_neg (by omega)]
end Tr
theorem ah.ug (h:ah) (b:Nat) (o:jd):h.set b o=⟨h.tr.ins o (b+1) b id,h.size,h.lo,h.aq⟩:=by
 grind [ah.set,Kc,Tr.mU]
theorem ah.sd (h:ah) (o:jd):h.push o=⟨h.tr.ins o (h.size+1) h.size id,h.size+1,h.lo,h.aq⟩:=by
 grind [ah.push,Kc,kN,Tr.mU]
theorem ah.jV (h:ah) (b b':Nat) (o:jd):(h.set b o).get b'=if b'=b∧h.lo≤b then some o else h.get b':=by
 rw [ah.ug]
 simp only [ah.get]
 by_cases hl:h.lo≤b'
 ·rw [Nat.ble_eq_true_of_le hl]
  grind [Tr.qn]
 ·have:Nat.ble h.lo b'=false:=by
   cases hq:Nat.ble h.lo b' with
   | false=>rfl
   | true=>exact absurd (Nat.le_of_ble_eq_true hq) hl
  grind
theorem ah.ky (h:ah) (b':Nat) (o:jd) (hlo:h.lo≤h.size):(h.push o).get b'=if b'=h.size then some o else h.get b':=by
 rw [ah.sd]
 simp only [ah.get]
 by_cases hl:h.lo≤b'
 ·rw [Nat.ble_eq_true_of_le hl]
  grind [Tr.qn]
 ·have:Nat.ble h.lo b'=false:=by
   cases hq:Nat.ble h.lo b' with
   | false=>rfl
   | true=>exact absurd (Nat.le_of_ble_eq_true hq) hl
  grind
@[simp] theorem ah.size_push (h:ah) (o:jd):(h.push o).size=h.size+1:=by rw [ah.sd]
@[simp] theorem ah.LW (h:ah) (o:jd):(h.push o).lo=h.lo:=by rw [ah.sd]
@[simp] theorem ah.Yp (h:ah) (o:jd):(h.push o).aq=h.aq:=by rw [ah.sd]
@[simp] theorem ah.size_set (h:ah) (b:Nat) (o:jd):(h.set b o).size=h.size:=by rw [ah.ug]
@[simp] theorem ah.acZ (h:ah) (b:Nat) (o:jd):(h.set b o).lo=h.lo:=by rw [ah.ug]
@[simp] theorem ah.acI (h:ah) (b:Nat) (o:jd):(h.set b o).aq=h.aq:=by rw [ah.ug]
theorem ah.lM {h:ah} {b:Nat} {o:jd} (e:h.get b=some o):h.lo≤b:=by
 unfold ah.get at e
 split at e<;>simp_all
structure Step (G G':Ga):Prop where
 ext:Ext G G'
 os:G'.w.os=G.w.os
 output:G'.w.output=G.w.output
 tape:G'.w.tape=G.w.tape
 iX:G.w.heap.size≤G'.w.heap.size
 frame:∀ B,B<G.w.heap.size→(∀ b l,G.pi b=some l→l.B≠B)→(∀ d B',G.L d=some B'→B'≠B)→G'.w.heap[B]?=G.w.heap[B]?
 kn:∀ b l',G'.pi b=some l'→(∃ l,G.pi b=some l∧l.B=l'.B)∨G.w.heap.size≤l'.B
 kZ:∀ b l',G'.pi b=some l'→(G.pi b).isSome=true∨G.h.size≤b
 oI:∀ s B,G'.T s B→G.T s B∨G.w.heap.size≤B
 lo:G'.h.lo=G.h.lo
 out:∀ b,b<G.h.size→G.pi b=none→G'.h.get b=G.h.get b
 nz:∀ d B,G'.L d=some B→G.L d=some B∨G.w.heap.size≤B
 ou:∀ d B,G'.L d=some B→(G.L d).isSome=true∨gR G.h.aq d=none
 oW:∀ d c,G.L d=none→gR G.h.aq d=some c→gR G'.h.aq d=some c
theorem Step.refl (G:Ga):Step G G where
 ext:=.refl G
 os:=rfl
 output:=rfl
 tape:=rfl
 iX:=Nat.le_refl _
 frame:=fun _ _ _ _=>rfl
 kn:=fun _ l h=>.inl ⟨l,h,rfl⟩
 kZ:=fun _ _ h=>.inl (by simp [h])
 oI:=fun _ _ h=>.inl h
 lo:=rfl
 out:=fun _ _ _=>rfl
 nz:=fun _ _ h=>.inl h
 ou:=fun _ _ h=>.inl (by simp [h])
 oW:=fun _ _ _ h=>h
theorem Step.trans {A B C:Ga} (h:Step A B) (k:Step B C):Step A C where
 ext:=h.ext.trans k.ext
 os:=k.os.trans h.os
 output:=k.output.trans h.output
 tape:=k.tape.trans h.tape
 iX:=Nat.le_trans h.iX k.iX
 frame:=by
  intro X hX hp hL
  rw [k.frame X (Nat.lt_of_lt_of_le hX h.iX),h.frame X hX hp hL]
  ·intro b l hl
   rcases h.kn b l hl with ⟨l0,h0,e⟩ | hge<;>grind
  ·intro d B' hd
   rcases h.nz d B' hd with h0 | hge<;>grind
 kn:=by
  intro b l hl
  rcases k.kn b l hl with ⟨l0,h0,e⟩ | hge
  ·rcases h.kn b l0 h0 with ⟨l1,h1,e1⟩ | hge<;>grind
  ·exact .inr (Nat.le_trans h.iX hge)
 kZ:=by
  intro b l hl
  rcases k.kZ b l hl with h0 | hge
  ·obtain ⟨l0,h0⟩:=Option.isSome_iff_exists.1 h0
   exact h.kZ b l0 h0
  ·exact .inr (Nat.le_trans h.ext.size hge)
 oI:=by
  intro s X hX
  rcases k.oI s X hX with h0 | hge
  ·exact h.oI s X h0
  ·exact .inr (Nat.le_trans h.iX hge)
 lo:=k.lo.trans h.lo
 out:=by
  intro b hb hn
  have hB:B.pi b=none:=by
   cases hq:B.pi b with
   | none=>rfl
   | some l =>
     rcases h.kZ b l hq with h0 | hge<;>grind
  rw [k.out b (Nat.lt_of_lt_of_le hb h.ext.size) hB,h.out b hb hn]
 nz:=by
  intro d X hd
  rcases k.nz d X hd with h0 | hge
  ·exact h.nz d X h0
  ·exact .inr (Nat.le_trans h.iX hge)
 ou:=by
  intro d X hd
  rcases k.ou d X hd with h0 | h0
  ·obtain ⟨Y,hY⟩:=Option.isSome_iff_exists.1 h0
   exact h.ou d Y hY
  ·cases hq:gR A.h.aq d with
   | none=>simp
   | some c =>
     cases hl:A.L d with
     | some Y=>simp
     | none=>rw [h.oW d c hl hq] at h0; cases h0
 oW:=by
  intro d c hn hd
  have hB:B.L d=none:=by
   cases hq:B.L d with
   | none=>rfl
   | some Y =>
     rcases h.ou d Y hq with h0 | h0<;>grind
  exact k.oW d c hB (h.oW d c hn hd)
theorem lI.mono {G G':Ga} {l:Loc} {z:Nat} {xs:List (List AV)} (h:lI G l z xs) (E:Ext G G') (hw:G'.w.heap[l.B]?=G.w.heap[l.B]?):lI G' l z xs:=by
 obtain ⟨c,e,hB,h1,h2,h3,h4,h5⟩:=h
 refine ⟨c,e,by grind,h1,h2,h3,?_,h5⟩
 intro i cs j x hi hj
 obtain ⟨v,a,b,d⟩:=h4 i cs j x hi hj
 exact ⟨v,a,b,d.mono E⟩
theorem oA.mono {G G':Ga} {r:Nat} {es:List (AV×AV×Nat)} {c:Nat} (h:oA G r es c) (E:Ext G G') (hw:G'.w.heap[r]?=G.w.heap[r]?):oA G' r es c:=by
 obtain ⟨ents,hB,hl,hy,hr⟩:=h
 refine ⟨ents,by grind,hl,hy,?_⟩
 intro i p e hi he
 obtain ⟨a,b,c,d⟩:=hr i p e hi he
 exact ⟨a,b.mono E.T E.fi,c.mono E,d⟩
theorem rK.mono {G G':Ga} {B:Nat} {cs:List AV} (h:rK G B cs) (E:Ext G G') (hw:G'.w.heap[B]?=G.w.heap[B]?):rK G' B cs:=by
 obtain ⟨c,e,hB,h1,h2,h3⟩:=h
 exact ⟨c,e,by rw [hw]; exact hB,h1,fun i x v hx hv=>(h2 i x v hx hv).mono E,h3⟩
end Go.Sx
namespace Go.Sx
open Go
structure iQ (w w':World) (o:Obj):Prop where
 heap:w'.heap=w.heap.push o
 os:w'.os=w.os
 output:w'.output=w.output
 tape:w'.tape=w.tape
section
variable {P:Program} {C:gP} {G:Ga} {w':World} {o:Obj}
theorem iQ.alloc (w:World) (o:Obj):iQ w (w.alloc o) o:=⟨rfl,rfl,rfl,rfl⟩
theorem iQ.drew (w:World) (o:Obj):iQ w (w.drew.alloc o) o:=⟨rfl,rfl,rfl,rfl⟩
theorem iQ.size (h:iQ G.w w' o):w'.heap.size=G.w.heap.size+1:=by rw [h.heap]; simp
theorem iQ.oP (h:iQ G.w w' o) {B:Nat} (hB:B<G.w.heap.size):w'.heap[B]?=G.w.heap[B]?:=by
 rw [h.heap,Array.getElem?_push,if_neg (by omega)]
theorem iQ.new (h:iQ G.w w' o):w'.heap[G.w.heap.size]?=some o:=by
 rw [h.heap,Array.getElem?_push,if_pos rfl]
def lh {α:Type} (f:Nat→α) (n:Nat) (v : α):Nat→α:=fun m=>if m=n then v else f m
theorem jy {α:Type} (f:Nat→α) (n:Nat) (v : α):lh f n v n=v:=by simp [lh]
theorem kV {α:Type} {f:Nat→α} {n m:Nat} {v : α} (h:m≠n):lh f n v m=f m:=by simp [lh,h]
theorem WR.fi (hW:WR G) {G':Ga} (E:Ext G G') (hold:∀ B,B<G.w.heap.size→G'.w.heap[B]?=G.w.heap[B]?) :
  (∀ b l g z xs,G.pi b=some l→G.h.get b=some (.fW g z xs)→lI G' l z xs)∧(∀ b l es c,G.pi b=some l→G.h.get b=some (.map es c)→oA G' l.B es c) ∧
  (∀ d B cs,G.L d=some B→gR G.h.aq d=some cs→rK G' B cs) :=
 ⟨fun b l _ _ _ hp hg=>(hW.fW b l _ _ _ hp hg).mono E (hold _ (hW.iV b l hp).1),fun b l _ _ hp hg=>(hW.map b l _ _ hp hg).mono E (hold _ (hW.iV b l hp).1),
   fun d B cs hL hd=>(hW.loc d B cs hL hd).mono E (hold _ (hW.j4 d B hL).1)⟩
theorem Ad (hW:WR G) {b:Nat} (h:G.h.size≤b):G.pi b=none:=by
 cases hq:G.pi b with
 | none=>rfl
 | some l=>have:=(hW.iV b l hq).2; omega
structure qM (G G':Ga) (bs ds:Nat→Prop):Prop where
 ext:Ext G G'
 os:G'.w.os=G.w.os
 output:G'.w.output=G.w.output
 tape:G'.w.tape=G.w.tape
 iX:G.w.heap.size≤G'.w.heap.size
 frame:∀ B,B<G.w.heap.size→G'.w.heap[B]?=G.w.heap[B]?
 kn:∀ b l',G'.pi b=some l'→G.pi b=some l'∨G.w.heap.size≤l'.B
 kZ:∀ b l',G'.pi b=some l'→(G.pi b).isSome=true∨bs b
 T:G'.T=G.T
 h:G'.h=G.h
 nz:∀ d B,G'.L d=some B→G.L d=some B∨G.w.heap.size≤B
 ou:∀ d B,G'.L d=some B→(G.L d).isSome=true∨ds d
theorem Step.fill {A B D:Ga} {bs ds:Nat→Prop} (h:Step A B) (k:qM B D bs ds) (hb:∀ b,bs b→A.h.size≤b) (hd:∀ d,ds d→gR A.h.aq d=none):Step A D where
 ext:=h.ext.trans k.ext
 os:=k.os.trans h.os
 output:=k.output.trans h.output
 tape:=k.tape.trans h.tape
 iX:=Nat.le_trans h.iX k.iX
 frame:=by
  intro X hX hp hL
  rw [k.frame X (Nat.lt_of_lt_of_le hX h.iX),h.frame X hX hp hL]
 kn:=by
  intro b l hl
  rcases k.kn b l hl with h0 | hge
  ·exact h.kn b l h0
  ·exact .inr (Nat.le_trans h.iX hge)
 kZ:=by
  intro b l hl
  rcases k.kZ b l hl with h0 | h0
  ·obtain ⟨l0,h0⟩:=Option.isSome_iff_exists.1 h0
   exact h.kZ b l0 h0
  grind
 oI:=by
  intro s X hX
  rw [k.T] at hX
  exact h.oI s X hX
 lo:=by rw [k.h]; exact h.lo
 out:=by
  intro b hb2 hn
  rw [k.h]
  exact h.out b hb2 hn
 nz:=by
  intro d X hX
  rcases k.nz d X hX with h0 | hge
  ·exact h.nz d X h0
  ·exact .inr (Nat.le_trans h.iX hge)
 ou:=by
  intro d X hX
  rcases k.ou d X hX with h0 | h0
  ·obtain ⟨Y,hY⟩:=Option.isSome_iff_exists.1 h0
   exact h.ou d Y hY
  grind
 oW:=by
  intro d c hn hdc
  rw [k.h]
  exact h.oW d c hn hdc
theorem DB (hW:WR G) (ob:jd):Step G ⟨G.w,G.T,G.h.push ob,G.pi,G.L⟩∧WR ⟨G.w,G.T,G.h.push ob,G.pi,G.L⟩:=by
 have hg:∀ b,(G.h.push ob).get b=if b=G.h.size then some ob else G.h.get b:=fun b=>ah.ky _ _ _ hW.lo
 have hne:∀ b l,G.pi b=some l→b≠G.h.size:=by
  intro b l hp
  have:=(hW.iV b l hp).2
  omega
 have E:Ext G ⟨G.w,G.T,G.h.push ob,G.pi,G.L⟩:=by
  refine ⟨fun _ _ h=>h,fun _ _ _=>rfl,by simp,?_,?_,fun _ _ h=>h⟩<;>grind
 refine ⟨⟨E,rfl,rfl,rfl,Nat.le_refl _,fun _ _ _ _=>rfl,fun b l h=>.inl ⟨l,h,rfl⟩,fun b l h=>.inl (Option.isSome_iff_exists.2 ⟨l,h⟩),fun _ _ h=>.inl h,by simp,?_,fun _ _ h=>.inl h,fun _ _ h=>.inl (Option.isSome_iff_exists.2 ⟨_,h⟩),?_⟩,?_⟩
 ·grind
 ·simp
 ·constructor
  ·intro b l g z xs hp h
   simp only [hg] at h
   rw [if_neg (hne b l hp)] at h
   exact (hW.fW b l g z xs hp h).mono E rfl
  ·intro b l es c hp h
   simp only [hg] at h
   rw [if_neg (hne b l hp)] at h
   exact (hW.map b l es c hp h).mono E rfl
  ·intro d B cs hL hd
   exact (hW.loc d B cs hL (by simp_all)).mono E rfl
  ·intro b l hp
   have:=hW.iV b l hp
   exact ⟨this.1,by simp; omega⟩
  ·exact hW.kC
  ·exact hW.nX
  ·exact hW.mv
  ·exact hW.LT
  ·exact hW.mY
  ·intro d B hL
   have:=hW.j4 d B hL
   simp_all
  ·exact hW.lu
  ·simp only [ah.LW,ah.size_push]
   have:=hW.lo
   omega
  ·intro b ob' h
   simp only [hg] at h
   simp only [ah.size_push]
   by_cases e:b=G.h.size
   ·omega
   ·rw [if_neg e] at h
    have:=hW.lt b ob' h
    omega
theorem N2 (hW:WR G) {d:Nat} (cs:List AV) (hd:gR G.h.aq d=none):Step G ⟨G.w,G.T,{ G.h with aq:=(d,cs)::G.h.aq },G.pi,G.L⟩∧WR ⟨G.w,G.T,{ G.h with aq:=(d,cs)::G.h.aq },G.pi,G.L⟩:=by
 have hl:∀ x,gR ((d,cs)::G.h.aq) x=if x=d then some cs else gR G.h.aq x:=by
  intro x
  simp only [gR]
  cases hq:Nat.beq x d with
  | true=>simp_all
  | false=>rw [if_neg (Nat.ne_of_beq_eq_false hq)]
 have hne:∀ x B,G.L x=some B→x≠d:=by
  rintro x B hx rfl
  have:=(hW.j4 x B hx).2
  grind
 have E:Ext G ⟨G.w,G.T,{ G.h with aq:=(d,cs)::G.h.aq },G.pi,G.L⟩ :=
  ⟨fun _ _ h=>h,fun _ _ _=>rfl,Nat.le_refl _,fun _ _ g z xs h=>⟨g,z,xs,h,Nat.le_refl _,fun _=>⟨rfl,fun _ h=>h⟩⟩,fun _ _ es c h=>⟨es,c,h,fun _ h=>h⟩,fun _ _ h=>h⟩
 refine ⟨⟨E,rfl,rfl,rfl,Nat.le_refl _,fun _ _ _ _=>rfl,fun b l h=>.inl ⟨l,h,rfl⟩,fun b l h=>.inl (Option.isSome_iff_exists.2 ⟨l,h⟩),fun _ _ h=>.inl h,rfl,fun _ _ _=>rfl,fun _ _ h=>.inl h,fun _ _ h=>.inl (Option.isSome_iff_exists.2 ⟨_,h⟩),?_⟩,?_⟩
 ·grind
 ·constructor
  ·exact fun b l g z xs hp h=>(hW.fW b l g z xs hp h).mono E rfl
  ·exact fun b l es c hp h=>(hW.map b l es c hp h).mono E rfl
  ·intro x B cx hL hx
   simp only [hl] at hx
   rw [if_neg (hne x B hL)] at hx
   exact (hW.loc x B cx hL hx).mono E rfl
  ·exact hW.iV
  ·exact hW.kC
  ·exact hW.nX
  ·exact hW.mv
  ·exact hW.LT
  ·exact hW.mY
  ·intro x B hL
   refine ⟨(hW.j4 x B hL).1,?_⟩
   simp only [hl]
   rw [if_neg (hne x B hL)]
   exact (hW.j4 x B hL).2
  ·exact hW.lu
  ·exact hW.lo
  ·exact hW.lt
theorem qx (hW:WR G) {b0:Nat} {ob:jd} {cap:Nat} (hA:iQ G.w w' o) (hget:G.h.get b0=some ob) (hn:G.pi b0=none)
  (hblk:∀ g z xs,ob=.fW g z xs→∀ G',Ext G G'→G'.w.heap[G.w.heap.size]?=some o→lI G' ⟨G.w.heap.size,0,cap⟩ z xs)
  (hmap:∀ es c,ob=.map es c→∀ G',Ext G G'→G'.w.heap[G.w.heap.size]?=some o→oA G' G.w.heap.size es c) :
  qM G ⟨w',G.T,G.h,lh G.pi b0 (some ⟨G.w.heap.size,0,cap⟩),G.L⟩ (·=b0) (fun _=>False)∧WR ⟨w',G.T,G.h,lh G.pi b0 (some ⟨G.w.heap.size,0,cap⟩),G.L⟩:=by
 have hne:∀ b l,G.pi b=some l→b≠b0:=by
  grind
 have hup:∀ b l,G.pi b=some l→lh G.pi b0 (some ⟨G.w.heap.size,0,cap⟩) b=some l:=by
  grind [kV]
 have E:Ext G ⟨w',G.T,G.h,lh G.pi b0 (some ⟨G.w.heap.size,0,cap⟩),G.L⟩ :=
  ⟨fun _ _ h=>h,fun s B hB=>hA.oP (hW.lu s B hB),Nat.le_refl _,fun b _ g z xs h=>⟨g,z,xs,h,Nat.le_refl _,fun _=>⟨rfl,hup b⟩⟩,fun b _ es c h=>⟨es,c,h,hup b⟩,fun _ _ h=>h⟩
 obtain ⟨k1,k2,k3⟩:=hW.fi E (fun B hB=>hA.oP hB)
 have hdom:∀ b l,lh G.pi b0 (some ⟨G.w.heap.size,0,cap⟩) b=some l→(b=b0∧l=⟨G.w.heap.size,0,cap⟩)∨(b≠b0∧G.pi b=some l):=by
  grind [jy,kV]
 refine ⟨⟨E,hA.os,hA.output,hA.tape,by rw [hA.size]; omega,fun B hB=>hA.oP hB,?_,?_,rfl,rfl,fun _ _ h=>.inl h,fun _ _ h=>.inl (Option.isSome_iff_exists.2 ⟨_,h⟩)⟩,?_⟩
 ·grind
 ·grind
 ·have hnew:w'.heap[G.w.heap.size]?=some o:=hA.new
  constructor
  ·grind
  ·grind
  ·exact k3
  ·intro b l hp
   rcases hdom b l hp with ⟨rfl,rfl⟩ | ⟨_,hp⟩
   ·exact ⟨by grind,hW.lt _ _ hget⟩
   ·have:=hW.iV b l hp
    grind
  ·intro b b' l l' hp hp' he
   rcases hdom b l hp with ⟨rfl,rfl⟩ | ⟨_,hq⟩
   ·rcases hdom b' l' hp' with ⟨rfl,rfl⟩ | ⟨_,hq'⟩
    ·rfl
    ·have:=(hW.iV b' l' hq').1
     grind
   ·rcases hdom b' l' hp' with ⟨rfl,rfl⟩ | ⟨_,hq'⟩
    ·have:=(hW.iV b l hq).1
     grind
    ·exact hW.kC b b' l l' hq hq' he
  ·intro s b l hp hT
   rcases hdom b l hp with ⟨rfl,rfl⟩ | ⟨_,hp⟩
   ·have:=hW.lu s _ hT
    grind
   ·exact hW.nX s b l hp hT
  ·exact hW.mv
  ·exact hW.LT
  ·intro d B b l hd hp
   rcases hdom b l hp with ⟨rfl,rfl⟩ | ⟨_,hp⟩
   ·have:=(hW.j4 d B hd).1
    grind
   ·exact hW.mY d B b l hd hp
  ·intro d B hd
   have:=hW.j4 d B hd
   grind
  ·intro s B hB
   have:=hW.lu s B hB
   grind
  ·exact hW.lo
  ·exact hW.lt
theorem HK (hW:WR G) {d:Nat} {cs:List AV} {c:Array Value} {e:TypeId} (hA:iQ G.w w' (.cells c e)) (hget:gR G.h.aq d=some cs) (hn:G.L d=none) (hc:CR G cs c) :
  qM G ⟨w',G.T,G.h,G.pi,lh G.L d (some G.w.heap.size)⟩ (fun _=>False) (·=d)∧WR ⟨w',G.T,G.h,G.pi,lh G.L d (some G.w.heap.size)⟩:=by
 have hup:∀ x B,G.L x=some B→lh G.L d (some G.w.heap.size) x=some B:=by
  grind [kV]
 have E:Ext G ⟨w',G.T,G.h,G.pi,lh G.L d (some G.w.heap.size)⟩ :=
  ⟨fun _ _ h=>h,fun s B hB=>hA.oP (hW.lu s B hB),Nat.le_refl _,fun b _ g z xs h=>⟨g,z,xs,h,Nat.le_refl _,fun _=>⟨rfl,fun _ h=>h⟩⟩,fun b _ es c h=>⟨es,c,h,fun _ h=>h⟩,hup⟩
 obtain ⟨k1,k2,k3⟩:=hW.fi E (fun B hB=>hA.oP hB)
 have hdom:∀ x B,lh G.L d (some G.w.heap.size) x=some B→(x=d∧B=G.w.heap.size)∨(x≠d∧G.L x=some B):=by
  grind [jy,kV]
 refine ⟨⟨E,hA.os,hA.output,hA.tape,by rw [hA.size]; omega,fun B hB=>hA.oP hB,fun _ _ h=>.inl h,fun _ _ h=>.inl (Option.isSome_iff_exists.2 ⟨_,h⟩),rfl,rfl,?_,?_⟩,?_⟩
 ·grind
 ·grind
 ·have hs:∀ n,n<G.w.heap.size→n<w'.heap.size:=fun n hn=>by rw [hA.size]; omega
  constructor
  ·exact k1
  ·exact k2
  ·intro x B cx hx hl
   rcases hdom x B hx with ⟨rfl,rfl⟩ | ⟨_,hx⟩
   ·have hl:gR G.h.aq x=some cx:=hl
    rw [hget] at hl
    cases hl
    exact ⟨c,_,hA.new,hc.len.symm,fun i a v h1 h2=>(hc.rel i a v h1 h2).mono E,hc.one⟩
   grind
  ·intro b l h
   exact ⟨hs _ (hW.iV b l h).1,(hW.iV b l h).2⟩
  ·exact hW.kC
  ·exact hW.nX
  ·intro x y B hx hy
   rcases hdom x B hx with ⟨rfl,rfl⟩ | ⟨_,hq⟩
   ·rcases hdom y _ hy with ⟨rfl,_⟩ | ⟨_,hq'⟩
    ·rfl
    ·have:=(hW.j4 y _ hq').1
     omega
   ·rcases hdom y B hy with ⟨rfl,rfl⟩ | ⟨_,hq'⟩
    ·have:=(hW.j4 x _ hq).1
     omega
    ·exact hW.mv x y B hq hq'
  ·intro s x B hx hT
   rcases hdom x B hx with ⟨rfl,rfl⟩ | ⟨_,hx⟩
   ·have:=hW.lu s _ hT
    omega
   ·exact hW.LT s x B hx hT
  ·intro x B b l hx hp
   rcases hdom x B hx with ⟨rfl,rfl⟩ | ⟨_,hx⟩
   ·have:=(hW.iV b l hp).1
    omega
   ·exact hW.mY x B b l hx hp
  ·intro x B hx
   rcases hdom x B hx with ⟨rfl,rfl⟩ | ⟨_,hx⟩
   ·exact ⟨by rw [hA.size]; simp,by grind⟩
   ·exact ⟨hs _ (hW.j4 x B hx).1,(hW.j4 x B hx).2⟩
  ·intro s B hB
   exact hs _ (hW.lu s B hB)
  ·exact hW.lo
  ·exact hW.lt
theorem zO (hW:WR G) {ob:jd} {cap:Nat} (hA:iQ G.w w' o)
  (hblk:∀ g z xs,ob=.fW g z xs→∀ G',Ext G G'→G'.w.heap[G.w.heap.size]?=some o→lI G' ⟨G.w.heap.size,0,cap⟩ z xs)
  (hmap:∀ es c,ob=.map es c→∀ G',Ext G G'→G'.w.heap[G.w.heap.size]?=some o→oA G' G.w.heap.size es c) :
  Step G ⟨w',G.T,G.h.push ob,lh G.pi G.h.size (some ⟨G.w.heap.size,0,cap⟩),G.L⟩∧WR ⟨w',G.T,G.h.push ob,lh G.pi G.h.size (some ⟨G.w.heap.size,0,cap⟩),G.L⟩:=by
 obtain ⟨s1,w1⟩:=DB hW ob
 obtain ⟨f,w2⟩:=qx (cap:=cap) (b0:=G.h.size) (ob:=ob) w1 hA (by simp only; rw [ah.ky _ _ _ hW.lo,if_pos rfl]) (Ad hW (Nat.le_refl _))
  (fun g z xs e G' E hn=>hblk g z xs e G' (s1.ext.trans E) hn) (fun es c e G' E hn=>hmap es c e G' (s1.ext.trans E) hn)
 exact ⟨s1.fill f (by omega) (fun _ h=>h.elim),w2⟩
theorem Gw (hW:WR G) (hA:iQ G.w w' o) :
  Step G ⟨w',fun s B=>G.T s B∨B=G.w.heap.size,G.h,G.pi,G.L⟩∧WR ⟨w',fun s B=>G.T s B∨B=G.w.heap.size,G.h,G.pi,G.L⟩:=by
 have E:Ext G ⟨w',fun s B=>G.T s B∨B=G.w.heap.size,G.h,G.pi,G.L⟩:=by
  refine ⟨fun _ _ h=>.inl h,fun s B hB=>hA.oP (hW.lu s B hB),Nat.le_refl _,?_,?_,?_⟩<;>grind
 obtain ⟨k1,k2,k3⟩:=hW.fi E (fun B hB=>hA.oP hB)
 refine ⟨⟨E,hA.os,hA.output,hA.tape,by rw [hA.size]; omega,fun B hB _ _=>hA.oP hB,fun b l h=>.inl ⟨l,h,rfl⟩,fun _ l h=>.inl (Option.isSome_iff_exists.2 ⟨l,h⟩),?_,rfl,fun _ _ _=>rfl,fun _ _ h=>.inl h,fun _ _ h=>.inl (Option.isSome_iff_exists.2 ⟨_,h⟩),fun _ _ _ h=>h⟩,?_⟩
 ·grind
 ·have hs:∀ n,n<G.w.heap.size→n<w'.heap.size:=fun n hn=>by rw [hA.size]; omega
  exact ⟨k1,k2,k3,fun b l h=>⟨hs _ (hW.iV b l h).1,(hW.iV b l h).2⟩,hW.kC,
   fun s b l h=>by
    rintro (hT | he)
    ·exact hW.nX s b l h hT
    ·have:=(hW.iV b l h).1; omega,
   hW.mv,
   fun s d B h=>by
    rintro (hT | he)
    ·exact hW.LT s d B h hT
    ·have:=(hW.j4 d B h).1; omega,
   hW.mY,fun d B h=>⟨hs _ (hW.j4 d B h).1,(hW.j4 d B h).2⟩,
   fun s B=>by
    rintro (hT | rfl)
    ·exact hs _ (hW.lu s B hT)
    ·simp only; rw [hA.size]; omega,
   hW.lo,hW.lt⟩
end
end Go.Sx
namespace Go.Sx
open Go
def nr (P:Program) (G:Ga) (s:Sem Value) (r:AV×ah):Prop :=
 ∃ u G',s.run P G.w=.ok u G'.w∧G'.h=r.2∧Step G G'∧WR G'∧VR G' r.1 u
section
variable {P:Program} {C:gP} {G:Ga} {t:Nat} {ti:TI}
theorem kb.makes (hW:WR G) {s:Sem Value} {r:AV×ah} (h:kb P G s r):nr P G s r:=by
 obtain ⟨h1,u,h2,h3⟩:=h
 exact ⟨u,G,h2,h1.symm,.refl G,hW,h3⟩
inductive mT where
 | obj (ob:jd)
 | loc (d:Nat) (cs:List AV)
 | none
def mT.on (h:ah):mT→ah
 | .obj ob=>h.push ob
 | .loc d cs=>{ h with aq:=(d,cs)::h.aq }
 | .none=>h
def nO (P:Program) (s:Sem Value) (G:Ga) (n:Nat) (v:AV):mT→Prop
 | .obj ob=>G.h.get n=some ob→G.pi n=none→∃ u G',s.run P G.w=.ok u G'.w∧qM G G' (·=n) (fun _=>False)∧WR G'∧VR G' v u
 | .loc d cs=>gR G.h.aq d=some cs→G.L d=none→∃ u G',s.run P G.w=.ok u G'.w∧qM G G' (fun _=>False) (·=d)∧WR G'∧VR G' v u
 | .none=>∃ u G',s.run P G.w=.ok u G'.w∧Step G G'∧G'.h=G.h∧WR G'∧VR G' v u
theorem nO.makes (hW:WR G) {s:Sem Value} {v:AV} {E:mT} (hl:∀ d cs,E=.loc d cs→gR G.h.aq d=none) (H:∀ V,Ext G V→V.w=G.w→WR V→nO P s V G.h.size v E):nr P G s (v,E.on G.h):=by
 cases E with
 | obj ob =>
   obtain ⟨s1,w1⟩:=DB hW ob
   obtain ⟨u,G',k1,k2,k3,k4⟩:=H _ s1.ext rfl w1 (by simp only; rw [ah.ky _ _ _ hW.lo,if_pos rfl]) (Ad hW (Nat.le_refl _))
   exact ⟨u,G',k1,k2.h,s1.fill k2 (by omega) (fun _ h=>h.elim),k3,k4⟩
 | loc d cs =>
   have hd:=hl d cs rfl
   obtain ⟨s1,w1⟩:=N2 hW cs hd
   have hL:G.L d=none:=by
    cases hq:G.L d with
    | none=>rfl
    | some B=>have:=(hW.j4 d B hq).2; grind
   obtain ⟨u,G',k1,k2,k3,k4⟩:=H _ s1.ext rfl w1 (by simp [gR]) hL
   exact ⟨u,G',k1,k2.h,s1.fill k2 (fun _ h=>h.elim) (by grind),k3,k4⟩
 | none =>
   obtain ⟨u,G',k1,k2,k3,k4,k5⟩:=H G (.refl G) rfl hW
   exact ⟨u,G',k1,k3,k2,k4,k5⟩
theorem vW {fa:fA} {d:Nat} {h0:ah} {cs:List AV} {r:AV×ah} (h:Sx.newVar fa d h0 cs=some r) :
  ∃ E:mT,r.2=E.on h0∧(∀ d cs,E=.loc d cs→gR h0.aq d=none)∧∀ G (v':Value) (el:Nat),WR G→CR G cs v'.cells→nO P (do pure (.pointer (some (← Go.newVar el v')))) G h0.size r.1 E:=by
 have hrun:∀ (v':Value) (el:Nat) (w:World),(do pure (Value.pointer (some (← Go.newVar el v'))):Sem Value).run P w=.ok (.pointer (some ⟨w.heap.size,0,none⟩)) (w.alloc (.cells v'.cells el)):=by
  simp_all [Go.newVar,newRow]
 unfold Sx.newVar at h
 split at h
 ·split at h
  ·rename_i hn
   cases h
   refine ⟨.loc d cs,rfl,by grind,?_⟩
   intro G v' el hW hc hget hL
   obtain ⟨hF,hW'⟩:=HK hW (iQ.alloc G.w (.cells v'.cells el)) hget hL hc
   exact ⟨_,_,hrun v' el G.w,hF,hW',.la d 0 _ (jy _ _ _)⟩
  ·cases h
 ·cases h
  refine ⟨.obj (.fW 0 cs.length [cs]),rfl,by simp,?_⟩
  intro G v' el hW hc hget hpi
  obtain ⟨hF,hW'⟩:=qx (cap:=1) hW (iQ.alloc G.w (.cells v'.cells el)) hget hpi (by
   intro g z xs e G' E hnew
   cases e
   refine ⟨v'.cells,el,hnew,by simp,by simp [hc.len],?_,?_,hc.one⟩
   ·grind
   ·intro i c j x hi hj
    cases i with
    | zero =>
      simp at hi
      subst hi
      have hlt:j<v'.cells.size:=by rw [← hc.len]; grind
      have hg:v'.cells[j]?=some v'.cells[j]:=by simp
      exact ⟨v'.cells[j],by simp,hc.one j _ hg,(hc.rel j x _ hj hg).mono E⟩
    | succ i=>simp at hi) (by simp)
  refine ⟨_,_,hrun v' el G.w,hF,hW',?_⟩
  refine .ptr _ 0 0 0 _ (hW.lt _ _ hget) (fun g0 z xs _=>Nat.zero_le _) ?_
  grind [jy]
theorem xr (hC:g5 P C) {fa:fA} {dst:Option Nat} {h0:ah} {r:AV×ah} (h:wP C fa dst h0 t=some r) :
  ∃ E:mT,r.2=E.on h0∧(∀ d cs,E=.loc d cs→gR h0.aq d=none)∧∀ G,WR G→nO P (Instr.alloc t true (.tuple #[])) G h0.size r.1 E:=by
 unfold wP at h
 split at h
 ·rename_i ti hti
  split at h
  ·rename_i d
   obtain ⟨E,h1,h2,h3⟩:=vW (P:=P) h
   refine ⟨E,h1,h2,?_⟩
   intro G hW
   obtain ⟨i,z,hi,hz,hcr,_⟩:=(hC.ty t ti hti).qw (G:=G)
   have hrun:(Instr.alloc t true (.tuple #[])).run P G.w=(do pure (Value.pointer (some (← Go.newVar t z))):Sem Value).run P G.w:=by
    simp [Instr.alloc,zeroValue,typeInfo,hi,hz]
   have:=h3 G z t hW hcr
   cases E with
   | obj ob=>exact fun a b=>by rw [hrun]; exact this a b
   | loc d cs=>exact fun a b=>by rw [hrun]; exact this a b
   | none =>
     unfold nO at this ⊢
     grind
  ·cases h
 ·cases h
theorem AR {fa:fA} {dst:Option Nat} {h0:ah} {x:AV} {r:AV×ah} (h:DO C fa dst h0 t x=some r) :
  ∃ E:mT,r.2=E.on h0∧(∀ d cs,E=.loc d cs→gR h0.aq d=none)∧∀ G x',WR G→VR G x x'→nO P (Instr.box t x') G h0.size r.1 E:=by
 unfold DO at h
 split at h
 ·split at h
  ·split at h
   ·rename_i cs hcs
    split at h
    ·obtain ⟨E,h1,h2,h3⟩:=vW (P:=P) h
     exact ⟨E,h1,h2,fun G x' hW hx=>h3 G x' t hW (nL hx hcs).1⟩
    ·cases h
   ·cases h
  ·cases h
 ·cases h
theorem DV (hW:WR G) (hC:g5 P C) {av:AV} {a:Value} {r:AV×ah} (ha:VR G av a) (h:tC C G.h t av=some r):nr P G (Instr.loadAt t a) r:=by
 unfold tC at h
 split at h
 ·rename_i ti hti
  obtain ⟨v,hv,rfl⟩:=jN h
  obtain ⟨u,hu,hvu,_⟩:=xc hW (hC.ty t ti hti) ha hv
  exact ⟨u,G,hu,rfl,.refl G,hW,hvu⟩
 ·cases h
theorem uk (h0:ah) (hint:Option Value) (hh:hint=none):∃ E:mT,h0.push (.map [] 0)=E.on h0∧(∀ d cs,E=.loc d cs→gR h0.aq d=none)∧∀ G,WR G→nO P (Instr.makeMap t hint) G h0.size (.hm h0.size) E:=by
 subst hh
 refine ⟨.obj (.map [] 0),rfl,by simp,?_⟩
 intro G hW hget hpi
 obtain ⟨hF,hW'⟩:=qx (cap:=0) hW (iQ.alloc G.w (.map #[] 0)) hget hpi (by simp) (by
  intro es c e G' E hnew
  cases e
  exact ⟨#[],hnew,rfl,(by intro p hp; cases hp),by simp⟩)
 refine ⟨.map (some G.w.heap.size),_,?_,hF,hW',?_⟩
 ·rfl
 ·exact .hm _ _ (hW.lt _ _ hget) (fun es c _=>⟨_,jy _ _ _,rfl⟩)
theorem rz (z:Array Value) (n m k:Nat) (hz:z.size=m) (hk:k<n*m):(((Array.range (n*m)).map fun i=>z[i % z.size]!)[k]?)=z[k % m]?:=by
 have hm:0<m:=by
  grind
 have hlt:k % m<z.size:=by rw [hz]; exact Nat.mod_lt _ hm
 grind
theorem sk (hC:g5 P C) {h0:ah} {l c:AV} {r:AV×ah} (h:qa C h0 t l c=some r) :
  ∃ E:mT,r.2=E.on h0∧(∀ d cs,E=.loc d cs→gR h0.aq d=none)∧∀ G l' c',WR G→VR G l l'→VR G c c'→nO P (Instr.makeSlice t l' c') G h0.size r.1 E:=by
 unfold qa at h
 split at h
 ·rename_i ti kl ln kc cn hel hl2 hc2
  split at h
  ·rename_i hb
   simp only [Bool.and_eq_true,pE,decide_eq_true_eq,Nat.ble_eq] at hb
   obtain ⟨⟨⟨h0,hlc⟩,hcm⟩,hby⟩:=hb
   cases h
   have:=int?_eq hl2; subst this
   have:=int?_eq hc2; subst this
   refine ⟨.obj (.fW 0 ti.size (List.replicate cn.toNat ti.zero)),rfl,by simp,?_⟩
   intro G l' c' hW hl hc
   rw [hl.of_int,hc.of_int]
   obtain ⟨el,hd,hte,hTe⟩:=nG hC hel
   obtain ⟨i,z,hi,hz,hcr,hzs,hza,hzo⟩:=hTe.qw (G:=G)
   obtain ⟨n,rfl⟩:=Int.eq_ofNat_of_zero_le h0
   obtain ⟨m,rfl⟩:=Int.eq_ofNat_of_zero_le (Int.le_trans h0 hlc)
   simp only [Int.toNat_natCast] at hby
   obtain ⟨ii,_,hii,his,hib,_⟩:=hTe.info
   have hi':ii=i:=by grind
   subst hi'
   have hb1:(ii.bytes:Int)*(m:Int)≤281474976710656:=by
    grind
   have hrun:=run_make (P:=P) G.w t el ii z hd hi hz kl kc n m h0 hlc hb1 (by omega)
   simp only [Int.toNat_natCast,madeCells] at hrun
   intro hget hpi
   obtain ⟨hS,hW'⟩:=qx (ob:=.fW 0 ti.size (List.replicate m ti.zero)) (cap:=m) hW (iQ.alloc G.w (.cells ((Array.range (m*ii.size)).map fun j=>z.cells[j % z.cells.size]!) el)) hget hpi (by
    intro g zz xs e G' E hnew
    cases e
    refine ⟨_,el,hnew,by simp,by simp [his],?_,?_,?_⟩
    ·grind
    ·intro i cs j x hcs hj
     rw [List.getElem?_replicate] at hcs
     split at hcs
     ·rename_i him
      cases hcs
      have hjs:j<ti.size:=by
       grind
      have hk:i*ti.size+j<m*ti.size:=by
       have:(i+1)*ti.size≤m*ti.size:=Nat.mul_le_mul_right _ him
       grind
      rw [Nat.zero_add]
      have hg:=rz z.cells m ti.size (i*ti.size+j) hzs hk
      rw [his,hg]
      have hmod:(i*ti.size+j) % ti.size=j:=by rw [Nat.mul_comm,Nat.mul_add_mod]; exact Nat.mod_eq_of_lt hjs
      rw [hmod]
      have hjz:j<z.cells.size:=by omega
      have hgj:z.cells[j]?=some z.cells[j]:=by simp
      exact ⟨z.cells[j],hgj,hcr.one j _ hgj,(hcr.rel j x _ hj hgj).mono E⟩
     grind
    ·intro k v hv
     have hk:k<m*ii.size:=by
      grind
     rw [his] at hv hk
     rw [rz z.cells m ti.size k hzs hk] at hv
     grind) (by simp)
   refine ⟨_,_,hrun,hS,hW',?_⟩
   refine .hs _ 0 0 _ _ _ (hW.lt _ _ hget) (fun g0 z xs _=>Nat.zero_le _) (by omega) ?_
   grind [jy]
  ·cases h
 ·cases h
end
end Go.Sx
namespace Go.Sx
open Go
structure oJ (w w':World) (B:Nat) (o:Obj):Prop where
 at_:w'.heap[B]?=some o
 other:∀ k,k≠B→w'.heap[k]?=w.heap[k]?
 size:w'.heap.size=w.heap.size
 os:w'.os=w.os
 output:w'.output=w.output
 tape:w'.tape=w.tape
theorem oJ.row {w:World} {B:Nat} {c c':Array Value} {e:TypeId} (h:w.heap[B]?=some (.cells c e (0,0))):oJ w (w.setRow B c') B (.cells c' e (0,0)) :=
 ⟨setRow_heap w B c c' e (0,0) h,fun k hk=>setRow_other w B k c' hk,setRow_size w B c',rfl,rfl,rfl⟩
section
variable {P:Program} {C:gP} {G:Ga} {w':World} {o:Obj}
theorem sC (hW:WR G) {b:Nat} {l:Loc} {ob:jd} (hp:G.pi b=some l) (hP:oJ G.w w' l.B o)
  (hk:(∃ g z xs xs',G.h.get b=some (.fW g z xs)∧ob=.fW g z xs')∨(∃ es c es' c',G.h.get b=some (.map es c)∧ob=.map es' c'))
  (hblk:∀ g z xs,ob=.fW g z xs→∀ G',Ext G G'→G'.w.heap[l.B]?=some o→lI G' l z xs)
  (hmap:∀ es c,ob=.map es c→∀ G',Ext G G'→G'.w.heap[l.B]?=some o→oA G' l.B es c) :
  Step G ⟨w',G.T,G.h.set b ob,G.pi,G.L⟩∧WR ⟨w',G.T,G.h.set b ob,G.pi,G.L⟩:=by
 have hlo:G.h.lo≤b:=by
  rcases hk with ⟨g,z,xs,_,h,_⟩ | ⟨es,c,_,_,h,_⟩<;>exact ah.lM h
 have hg:∀ b',(G.h.set b ob).get b'=if b'=b then some ob else G.h.get b':=by
  grind [ah.jV]
 have hT:∀ s B,G.T s B→B≠l.B:=by
  rintro s B hB rfl
  exact hW.nX s b l hp hB
 have E:Ext G ⟨w',G.T,G.h.set b ob,G.pi,G.L⟩:=by
  refine ⟨fun _ _ h=>h,fun s B hB=>hP.other B (hT s B hB),by simp,?_,?_,fun _ _ h=>h⟩<;>grind
 refine ⟨⟨E,hP.os,hP.output,hP.tape,by rw [hP.size]; omega,fun B _ hpB _=>hP.other B (fun e=>hpB b l hp e.symm),fun b' l' h=>.inl ⟨l',h,rfl⟩,fun b' l' h=>.inl (Option.isSome_iff_exists.2 ⟨l',h⟩),fun s B h=>.inl h,by simp,?_,fun _ _ h=>.inl h,fun _ _ h=>.inl (Option.isSome_iff_exists.2 ⟨_,h⟩),fun d c _ h=>by simpa using h⟩,?_⟩
 ·grind
 ·constructor
  ·intro b' l' g z xs hp' h
   simp only [hg] at h
   by_cases e:b'=b
   ·rw [if_pos e] at h
    subst e
    have e2:l'=l:=by
     grind
    subst e2
    cases h
    exact hblk g z xs rfl _ E hP.at_
   ·rw [if_neg e] at h
    have hne:l'.B≠l.B:=fun he=>e (hW.kC b' b l' l hp' hp he)
    exact (hW.fW b' l' g z xs hp' h).mono E (hP.other _ hne)
  ·intro b' l' es c hp' h
   simp only [hg] at h
   by_cases e:b'=b
   ·rw [if_pos e] at h
    subst e
    have e2:l'=l:=by
     grind
    subst e2
    cases h
    exact hmap es c rfl _ E hP.at_
   ·rw [if_neg e] at h
    have hne:l'.B≠l.B:=fun he=>e (hW.kC b' b l' l hp' hp he)
    exact (hW.map b' l' es c hp' h).mono E (hP.other _ hne)
  ·intro d B cs hL hd
   have hd:gR G.h.aq d=some cs:=by simp_all
   exact (hW.loc d B cs hL hd).mono E (hP.other _ (hW.mY d B b l hL hp))
  ·intro b' l' h
   have:=hW.iV b' l' h
   exact ⟨by rw [hP.size]; omega,by simp_all⟩
  ·exact hW.kC
  ·exact hW.nX
  ·exact hW.mv
  ·exact hW.LT
  ·exact hW.mY
  ·intro d B hL
   have:=hW.j4 d B hL
   exact ⟨by rw [hP.size]; omega,by simp_all⟩
  ·intro s B hB
   have:=hW.lu s B hB
   rw [hP.size]; exact this
  ·simpa using hW.lo
  ·intro b' ob' h
   simp only [hg] at h
   simp only [ah.size_set]
   by_cases e:b'=b
   ·subst e; exact (hW.iV b' l hp).2
   ·rw [if_neg e] at h
    exact hW.lt b' ob' h
theorem FH (m:iT) (d x:Nat) (v:List AV):gR (qy m d v) x=if x=d then (gR m d).map (fun _=>v) else gR m x:=by
 induction m with
 | nil=>simp [qy,gR]
 | cons p m ih =>
   simp only [qy]
   cases hq:Nat.beq d p.1 with
   | true =>
     have hd:=Nat.eq_of_beq_eq_true hq
     simp only [gR]
     by_cases e:x=d
     ·grind
     ·have h1:Nat.beq x d=false:=by cases hh:Nat.beq x d<;>simp_all
      grind
   | false =>
     grind [gR]
theorem Mv (hW:WR G) {d Bd:Nat} {cs cs':List AV} {c:Array Value} {e:TypeId} (hLd:G.L d=some Bd) (hd:gR G.h.aq d=some cs) (hP:oJ G.w w' Bd (.cells c e (0,0))) (hc:CR G cs' c) :
  Step G ⟨w',G.T,{ G.h with aq:=qy G.h.aq d cs' },G.pi,G.L⟩∧WR ⟨w',G.T,{ G.h with aq:=qy G.h.aq d cs' },G.pi,G.L⟩:=by
 have hl:∀ x,gR (qy G.h.aq d cs') x=if x=d then some cs' else gR G.h.aq x:=by
  grind [FH]
 have hs:∀ x,(gR (qy G.h.aq d cs') x).isSome=(gR G.h.aq x).isSome:=by
  grind
 have hT:∀ s B,G.T s B→B≠Bd:=by
  rintro s B hB rfl
  exact hW.LT s d _ hLd hB
 have E:Ext G ⟨w',G.T,{ G.h with aq:=qy G.h.aq d cs' },G.pi,G.L⟩:=by
  refine ⟨fun _ _ h=>h,fun s B hB=>hP.other B (hT s B hB),Nat.le_refl _,?_,?_,fun _ _ h=>h⟩
  ·intro b hb g' z' xs' h
   exact ⟨g',z',xs',h,Nat.le_refl _,fun _=>⟨rfl,fun _ h=>h⟩⟩
  ·intro b hb es c h
   exact ⟨es,c,h,fun _ h=>h⟩
 refine ⟨⟨E,hP.os,hP.output,hP.tape,by rw [hP.size]; omega,fun B _ _ hL=>hP.other B (fun e=>hL d Bd hLd e.symm),fun b' l' h=>.inl ⟨l',h,rfl⟩,fun b' l' h=>.inl (Option.isSome_iff_exists.2 ⟨l',h⟩),fun s B h=>.inl h,rfl,fun _ _ _=>rfl,
  fun _ _ h=>.inl h,fun _ _ h=>.inl (Option.isSome_iff_exists.2 ⟨_,h⟩),?_⟩,?_⟩
 ·grind
 ·constructor
  ·intro b l g z xs hp h
   exact (hW.fW b l g z xs hp h).mono E (hP.other _ (fun he=>hW.mY d Bd b l hLd hp he.symm))
  ·intro b l es c hp h
   exact (hW.map b l es c hp h).mono E (hP.other _ (fun he=>hW.mY d Bd b l hLd hp he.symm))
  ·intro x B cx hx hcx
   simp only [hl] at hcx
   by_cases e:x=d
   ·rw [if_pos e] at hcx
    subst e
    cases hcx
    have hx:G.L x=some B:=hx
    rw [hLd] at hx
    cases hx
    exact ⟨c,_,hP.at_,hc.len.symm,fun i a v h1 h2=>(hc.rel i a v h1 h2).mono E,hc.one⟩
   ·rw [if_neg e] at hcx
    refine (hW.loc x B cx hx hcx).mono E (hP.other _ (fun he=>e ?_))
    subst he
    exact hW.mv x d _ hx hLd
  ·intro b l h
   have:=hW.iV b l h
   exact ⟨by rw [hP.size]; omega,this.2⟩
  ·exact hW.kC
  ·exact hW.nX
  ·exact hW.mv
  ·exact hW.LT
  ·exact hW.mY
  ·intro x B hx
   have:=hW.j4 x B hx
   refine ⟨by rw [hP.size]; omega,?_⟩
   grind
  ·intro s B hB
   have:=hW.lu s B hB
   rw [hP.size]; exact this
  ·exact hW.lo
  ·exact hW.lt
theorem CR.qz {cs:List AV} {c:Array Value} (hl:c.size=cs.length) (hr:∀ (i:Nat) (x:AV) (v:Value),cs[i]?=some x→c[i]?=some v→VC G x v) (h1:∀ (i:Nat) (v:Value),c[i]?=some v→v.oneCell'=true):CR G cs c :=
 ⟨hl.symm,h1,hr⟩
theorem mL {c vs:Array Value} {o:Nat} (ho:o+vs.size≤c.size) (k:Nat):((c.toList.take o++vs.toList++c.toList.drop (o+vs.toList.length)).toArray)[k]?=if o≤k∧k<o+vs.size then vs[k - o]? else c[k]?:=by
 simp only [List.getElem?_toArray,Array.length_toList]
 rw [List.append_assoc,List.getElem?_append]
 grind
theorem Gg {c vs:Array Value} {o:Nat} (ho:o+vs.size≤c.size):((c.toList.take o++vs.toList++c.toList.drop (o+vs.toList.length)).toArray).size=c.size:=by
 grind
theorem rm {t:Nat} {ti:TI} (hT:kD P t ti) {w:World} {B o:Nat} {c:Array Value} {e:TypeId} {v:Value} (hB:w.heap[B]?=some (.cells c e (0,0))) (hs:v.cells.size=ti.size) (h1:∀ (i:Nat) (y:Value),v.cells[i]?=some y→y.oneCell'=true)
  (ho:o+v.cells.size≤c.size) :
  (Instr.storeAt t (.pointer (some ⟨B,o,none⟩)) v).run P w=.ok () (w.setRow B (c.toList.take o++v.cells.toList++c.toList.drop (o+v.cells.toList.length)).toArray):=by
 unfold Instr.storeAt
 simp only [Instr.sureAddr,Sem.run_bind,Sem.run_pure,Result.andThen_ok]
 unfold storeVar
 simp only [Sem.run_bind,hT.sizeOf,Result.andThen_ok]
 rw [if_neg (by simp [hs])]
 have:=run_storeCells_at (P:=P) B o e v.cells.toList 0 c w hB (by omega) (fun x hx=>by
  obtain ⟨i,hi⟩:=List.getElem?_of_mem hx
  grind)
 omega
def xB (P:Program) (G:Ga) (s:Sem Unit) (h:ah):Prop :=
 ∃ G',s.run P G.w=.ok () G'.w∧G'.h=h∧Step G G'∧WR G'
theorem Bg (hW:WR G) {t:Nat} {ti:TI} (hT:kD P t ti) {av v:AV} {a v':Value} {h':ah} (ha:VR G av a) (hv:VR G v v') (h:sm G.h ti av v=some h') :
  xB P G (Instr.storeAt t a v') h':=by
 unfold sm at h
 split at h
 ·cases h
 ·rename_i new hnew
  obtain ⟨hcr,hlen⟩:=nL hv hnew
  have hsz:v'.cells.size=ti.size:=by rw [← hcr.len,hlen]
  split at h
  ·unfold uf at h
   split at h
   ·
    rename_i d o
    unfold Gy at h
    split at h
    ·rename_i cs hcs
     split at h
     ·rename_i cs' hs
      cases h
      cases ha with
      | gF hp _=>simp [AV.ir] at hp
      | la _ _ Bd hd =>
        obtain ⟨c,e,hB,hs1,hr,h1⟩:=hW.loc d Bd cs hd hcs
        obtain ⟨hle,hl2,hg2⟩:=tj hs
        have hoc:o+v'.cells.size≤c.size:=by omega
        have hrun:=rm (P:=P) hT hB hsz hcr.one hoc
        have hc2:CR G cs' ((c.toList.take o++v'.cells.toList++c.toList.drop (o+v'.cells.toList.length)).toArray):=by
         refine ⟨by grind,?_,?_⟩
         ·intro i y hy
          rw [mL hoc] at hy
          split at hy
          ·exact hcr.one _ y hy
          grind
         ·intro i x y hx hy
          rw [mL hoc] at hy
          rw [hg2] at hx
          rw [hcr.len] at hx
          split at hy
          ·rw [if_pos (by assumption)] at hx
           exact hcr.rel _ x y hx hy
          grind
        obtain ⟨hS,hW'⟩:=Mv hW hd hcs (oJ.row hB) hc2
        exact ⟨_,hrun,rfl,hS,hW'⟩
     ·cases h
    ·cases h
   ·
    rename_i b g i o
    unfold yX at h
    split at h
    ·rename_i g' z xs hget
     split at h
     ·rename_i hgg
      have hgg:=Nat.eq_of_beq_eq_true hgg
      subst hgg
      split at h
      ·rename_i cs hcs
       split at h
       ·rename_i cs' hs
        cases h
        cases ha with
        | gF hp _=>simp [AV.ir] at hp
        | ptr _ _ _ _ a hb hg hl =>
          obtain ⟨l,hpi,rfl⟩:=hl z xs hget
          obtain ⟨c,e,hB,hcap,hbase,hz,hr,h1⟩:=hW.fW b l g z xs hpi hget
          obtain ⟨hle,hl2,hg2⟩:=tj hs
          have hix:i<xs.length:=(List.getElem?_eq_some_iff.1 hcs).1
          have hzc:=hz i cs hcs
          have hiz:i*z+z≤l.cap*z:=by
           have:(i+1)*z≤l.cap*z:=Nat.mul_le_mul_right _ (by omega)
           grind
          have hnl:=hcr.len
          have hoc:l.base+i*z+o+v'.cells.size≤c.size:=by omega
          have hrun:=rm (P:=P) hT hB hsz hcr.one hoc
          obtain ⟨hS,hW'⟩:=sC (ob:=.fW g z (xs.set i cs')) hW hpi (oJ.row (c':=(c.toList.take (l.base+i*z+o)++v'.cells.toList++c.toList.drop (l.base+i*z+o+v'.cells.toList.length)).toArray) hB)
           (.inl ⟨g,z,xs,_,hget,rfl⟩) (by
             intro g2 z2 xs2 e2 G' E hnew
             cases e2
             refine ⟨_,e,hnew,by grind,by grind,?_,?_,?_⟩
             ·grind
             ·intro j cj k x hj hk
              rw [List.getElem?_set] at hj
              by_cases hij:i=j
              ·subst hij
               rw [if_pos rfl,if_pos hix] at hj
               cases hj
               rw [hg2] at hk
               rw [mL hoc]
               by_cases hko:o≤k∧k<o+new.length
               ·rw [if_pos hko] at hk
                rw [if_pos (by omega)]
                have hkl:k - o<v'.cells.size:=by omega
                have hgk:v'.cells[k - o]?=some v'.cells[k - o]:=by simp
                refine ⟨v'.cells[k - o],?_,hcr.one _ _ hgk,(hcr.rel _ x _ hk hgk).mono E⟩
                grind
               ·rw [if_neg hko] at hk
                rw [if_neg (by omega)]
                obtain ⟨v,a1,a2,a3⟩:=hr i cs k x hcs hk
                exact ⟨v,a1,a2,a3.mono E⟩
              ·rw [if_neg hij] at hj
               obtain ⟨v,a1,a2,a3⟩:=hr j cj k x hj hk
               refine ⟨v,?_,a2,a3.mono E⟩
               rw [mL hoc,if_neg ?_]
               ·exact a1
               ·have hk':k<z:=by grind
                rcases Nat.lt_or_gt_of_ne hij with hlt | hgt
                ·have:(i+1)*z≤j*z:=Nat.mul_le_mul_right _ hlt
                 grind
                ·have:(j+1)*z≤i*z:=Nat.mul_le_mul_right _ hgt
                 grind
             ·intro k v hv
              rw [mL hoc] at hv
              split at hv
              ·exact hcr.one _ v hv
              grind) (by simp)
          exact ⟨_,hrun,rfl,hS,hW'⟩
       ·cases h
      ·cases h
     ·cases h
    ·cases h
   ·cases h
  ·cases h
end
end Go.Sx
namespace Go.Sx
open Go
theorem PR.down {w:World} {T:Bool→Nat→Prop} {m:Bool} {v:AV} {u:Value} (h:PR w T m v u) (hp:v.js=true):PR w T false v u:=by
 cases h with
 | undef=>simp [AV.js] at hp
 | bool m b=>exact .bool _ b
 | int m k n=>exact .int _ k n
 | str m s b h=>exact .str _ s b h
 | ia m=>exact .ia _
 | ip m cells off sn B base c e fr f hm hB hI hc h1 hr =>
   cases sn with
   | false=>exact .ip _ cells off false B base c e fr f (fun h=>h) hB hI hc h1 hr
   | true=>simp [AV.js] at hp
 | slnil m=>exact .slnil _
 | kG m cap a c hm h =>
   cases cap with
   | nU=>simp [AV.js] at hp
   | nil=>cases h
   | exact n=>exact .kG _ _ a c (fun h=>by cases h) h
   | iy=>exact .kG _ _ a c (fun h=>by cases h) h
 | sl m xs cap B base c e fr cap' esz f hm hB hI hcap hle hz hc h1 hr =>
   cases cap with
   | nU=>simp [AV.js] at hp
   | nil=>cases hcap
   | exact n=>exact .sl _ xs _ B base c e fr cap' esz f (fun h=>by cases h) hB hI hcap hle hz hc h1 hr
   | iy=>exact .sl _ xs _ B base c e fr cap' esz f (fun h=>by cases h) hB hI hcap hle hz hc h1 hr
 | g8 m=>exact .g8 _
 | fm m es sn r ents clk hm hB hI hl hy hko hk hv =>
   cases sn with
   | false=>exact .fm _ es false r ents clk (fun h=>h) hB hI hl hy hko hk hv
   | true=>simp [AV.js] at hp
 | jk m=>exact .jk _
 | gL=>simp [AV.js] at hp
 | agg=>simp [AV.js] at hp
theorem VR.vf {G:Ga} {v:AV} {u:Value} (h:VR G v u) (hp:v.js=true):PR G.w G.T false v u:=by
 cases h with
 | gF _ h=>exact h.down hp
 | undef=>simp [AV.js] at hp
 | ptr=>simp [AV.js] at hp
 | hs=>simp [AV.js] at hp
 | hm=>simp [AV.js] at hp
 | la=>simp [AV.js] at hp
 | gL=>simp [AV.js] at hp
 | agg=>simp [AV.js] at hp
 | fz=>simp [AV.js] at hp
theorem VR.Xp {G:Ga} {v:AV} {u:Value} (h:VR G v u) (hp:v.u1=true):PR G.w G.T false v u:=by
 cases v with
 | gL g a c =>
   simp only [AV.u1,Bool.and_eq_true,List.all_eq_true] at hp
   cases h with
   | gF hp2 _=>grind [AV.ir]
   | gL _ _ _ a' c' ha hc _ _ hra hrc =>
     exact .gL _ g a c a' c' ha hc (fun i x y hx hy=>(hra i x y hx hy).vf (hp.1 x (List.mem_of_getElem? hx))) (fun i x y hx hy=>(hrc i x y hx hy).vf (hp.2 x (List.mem_of_getElem? hx)))
 | _=>exact h.vf hp
structure iE (R:AV→Value→Prop) (z base:Nat) (xs:List (List AV)) (c:Array Value):Prop where
 len:∀ (i:Nat) (cs:List AV),xs[i]?=some cs→cs.length=z
 rel:∀ (i:Nat) (cs:List AV) (j:Nat) (x:AV),xs[i]?=some cs→cs[j]?=some x→∃ v,c[base+i*z+j]?=some v∧v.oneCell'=true∧R x v
theorem iE.mono {R S:AV→Value→Prop} {z base:Nat} {xs:List (List AV)} {c:Array Value} (h:iE R z base xs c) (hRS:∀ x v,R x v→S x v):iE S z base xs c :=
 ⟨h.len,fun i cs j x hi hj=>let ⟨v,a,b,d⟩:=h.rel i cs j x hi hj; ⟨v,a,b,hRS _ _ d⟩⟩
section
variable {P:Program} {C:gP} {G:Ga} {t:Nat} {ti:TI}
theorem Bb {xs:List (List AV)} (h:np xs=true) {i j:Nat} {cs:List AV} {x:AV} (hi:xs[i]?=some cs) (hj:cs[j]?=some x):x.u1=true:=by
 simp only [np,List.all_eq_true] at h
 exact h cs (List.mem_of_getElem? hi) x (List.mem_of_getElem? hj)
theorem Bk {ps:List (Nat×AV)} {ps':List (Nat×Value)} {xs r:List (List AV)} {c:Array Value} (hl:ps.length=ps'.length)
  (hr:∀ (i:Nat) p q,ps[i]?=some p→ps'[i]?=some q→p.1=q.1∧VR G p.2 q.2) (hx:iE (VC G) ti.size 0 xs c) (hs:c.size=xs.length*ti.size)
  (h1:∀ (i:Nat) (v:Value),c[i]?=some v→v.oneCell'=true) (h:ng ti ps xs=some r) :
  ∃ rc,Instr.fill (fun i=>some (i*ti.size,ti.size)) c ps'=some rc∧iE (VC G) ti.size 0 r rc∧rc.size=r.length*ti.size∧(∀ (i:Nat) (v:Value),rc[i]?=some v→v.oneCell'=true)∧r.length=xs.length:=by
 induction ps generalizing ps' xs c with
 | nil =>
   cases ps' with
   | nil =>
     simp only [ng,Option.some.injEq] at h
     subst h
     exact ⟨c,rfl,hx,hs,h1,rfl⟩
   | cons _ _=>simp at hl
 | cons p ps ih =>
   cases ps' with
   | nil=>simp at hl
   | cons q ps' =>
     obtain ⟨i,v⟩:=p
     obtain ⟨i',v'⟩:=q
     obtain ⟨e,hv⟩:=hr 0 (i,v) (i',v') rfl rfl
     simp only at e hv
     subst e
     simp only [ng] at h
     split at h
     ·cases h
     ·rename_i new hnew
      split at h
      ·rename_i hb
       simp only [Bool.and_eq_true,Nat.blt_eq] at hb
       obtain ⟨hcr,hlen⟩:=nL hv hnew
       have hvs:v'.cells.size=ti.size:=by rw [← hcr.len,hlen]
       have hfit:i*ti.size+ti.size≤c.size:=by
        rw [hs]
        have:(i+1)*ti.size≤xs.length*ti.size:=Nat.mul_le_mul_right _ hb.2
        grind
       have key:∀ k,(v'.cells.zipIdx.foldl (fun (cs:Array Value) (x:Value×Nat)=>cs.setIfInBounds (i*ti.size+x.2) x.1) c)[k]?=if i*ti.size≤k∧k<i*ti.size+ti.size then v'.cells[k - i*ti.size]? else c[k]?:=by
        intro k
        have:=ue v'.cells.toList 0 (i*ti.size) c k
        simp only [Nat.add_zero,Array.length_toList,Array.getElem?_toList,hvs] at this
        rw [← Array.foldl_toList,Array.toList_zipIdx,this]
        grind
       have hsz:(v'.cells.zipIdx.foldl (fun (cs:Array Value) (x:Value×Nat)=>cs.setIfInBounds (i*ti.size+x.2) x.1) c).size=c.size:=by
        have h0:∀ (l:List (Value×Nat)) (a:Array Value),(l.foldl (fun (cs:Array Value) (x:Value×Nat)=>cs.setIfInBounds (i*ti.size+x.2) x.1) a).size=a.size:=by
         intro l
         induction l with
         | nil=>simp
         | cons x l ih=>grind
        rw [← Array.foldl_toList]
        grind
       obtain ⟨rc,a1,a2,a3,a4,a5⟩:=ih (ps':=ps') (xs:=xs.set i new) (c:=v'.cells.zipIdx.foldl (fun (cs:Array Value) (x:Value×Nat)=>cs.setIfInBounds (i*ti.size+x.2) x.1) c)
        (by grind) (fun j p q hp hq=>hr (j+1) p q hp hq) (by
          constructor
          ·intro j cj hj
           rw [List.getElem?_set] at hj
           by_cases hij:i=j
           ·grind
           ·rw [if_neg hij] at hj
            exact hx.len j cj hj
          ·intro j cj k x hj hk
           rw [Nat.zero_add]
           rw [List.getElem?_set] at hj
           by_cases hij:i=j
           ·subst hij
            rw [if_pos rfl,if_pos hb.2] at hj
            cases hj
            have hkl:k<new.length:=(List.getElem?_eq_some_iff.1 hk).1
            rw [key,if_pos (by omega)]
            have hg:v'.cells[k]?=some v'.cells[k]:=by simp
            refine ⟨v'.cells[k],?_,hcr.one k _ hg,hcr.rel k x _ hk hg⟩
            simp
           ·rw [if_neg hij] at hj
            have hkl:k<ti.size:=by rw [← hx.len j cj hj]; grind
            obtain ⟨v,b1,b2,b3⟩:=hx.rel j cj k x hj hk
            rw [Nat.zero_add] at b1
            rw [key,if_neg]
            ·grind
            ·rcases Nat.lt_or_gt_of_ne hij with hlt | hgt
             ·have:(i+1)*ti.size≤j*ti.size:=Nat.mul_le_mul_right _ hlt
              grind
             ·have:(j+1)*ti.size≤i*ti.size:=Nat.mul_le_mul_right _ hgt
              grind) (by grind) (by
          intro k v hk
          rw [key] at hk
          split at hk
          ·exact hcr.one _ v hk
          grind) h
       grind [Instr.fill]
      ·cases h
theorem tP {z:Value} {n:Nat} (hcr:CR G ti.zero z.cells) (hzs:z.cells.size=ti.size) :
  iE (VC G) ti.size 0 (List.replicate n ti.zero) ((Array.range (n*ti.size)).map fun j=>z.cells[j % z.cells.size]!) ∧
   (∀ (i:Nat) (v:Value),((Array.range (n*ti.size)).map fun j=>z.cells[j % z.cells.size]!)[i]?=some v→v.oneCell'=true):=by
 constructor
 ·constructor
  ·intro i cs hcs
   rw [List.getElem?_replicate] at hcs
   split at hcs
   ·cases hcs; rw [hcr.len,hzs]
   grind
  ·intro i cs j x hcs hj
   rw [List.getElem?_replicate] at hcs
   split at hcs
   ·rename_i him
    cases hcs
    have hjs:j<ti.size:=by
     have:=(List.getElem?_eq_some_iff.1 hj).1
     rw [hcr.len,hzs] at this
     exact this
    have hk:i*ti.size+j<n*ti.size:=by
     have:(i+1)*ti.size≤n*ti.size:=Nat.mul_le_mul_right _ him
     grind
    rw [Nat.zero_add]
    have hg:=rz z.cells n ti.size (i*ti.size+j) hzs hk
    rw [hg]
    have hmod:(i*ti.size+j) % ti.size=j:=by rw [Nat.mul_comm,Nat.mul_add_mod]; exact Nat.mod_eq_of_lt hjs
    rw [hmod]
    have hjz:j<z.cells.size:=by omega
    have hgj:z.cells[j]?=some z.cells[j]:=by simp
    exact ⟨z.cells[j],hgj,hcr.one j _ hgj,hcr.rel j x _ hj hgj⟩
   grind
 ·intro k v hv
  have hk:k<n*ti.size:=by
   grind
  rw [rz z.cells n ti.size k hzs hk] at hv
  exact hcr.one _ v hv
theorem yv {ti:TI}:∀ {ps:List (Nat×AV)} {xs r:List (List AV)},ng ti ps xs=some r→r.length=xs.length
 | [],xs,r,h=>by grind [ng]
 | p::ps,xs,r,h=>by
   simp only [ng] at h
   split at h
   ·cases h
   ·split at h
    ·have:=yv h
     simpa using this
    ·cases h
theorem re (hC:g5 P C) {fa:fA} {dst:Option Nat} {n:Nat} {h0:ah} {ps:List (Nat×AV)} {r:AV×ah} (h:lU C fa dst h0 t n ps=some r) :
  ∃ E:mT,r.2=E.on h0∧(∀ d cs,E=.loc d cs→gR h0.aq d=none)∧∀ G (ps':Array (Nat×Value)),WR G→ps.length=ps'.size→(∀ (i:Nat) p q,ps[i]?=some p→ps'[i]?=some q→p.1=q.1∧VR G p.2 q.2)→nO P (Instr.buildSlice t n ps') G h0.size r.1 E:=by
 unfold lU at h
 split at h
 ·rename_i ti hel
  split at h
  ·rename_i hbd
   have hbd:=Nat.le_of_ble_eq_true hbd
   split at h
   ·rename_i xs hxs
    have hlx:xs.length=n:=by rw [yv hxs]; simp
    have main:∀ G (ps':Array (Nat×Value)),WR G→ps.length=ps'.size→(∀ (i:Nat) p q,ps[i]?=some p→ps'[i]?=some q→p.1=q.1∧VR G p.2 q.2) →
      ∃ rc el,(Instr.buildSlice t n ps').run P G.w=.ok (.slice (some ⟨G.w.heap.size,0,none⟩) n n) (G.w.alloc (.cells rc el))∧iE (VC G) ti.size 0 xs rc∧rc.size=xs.length*ti.size∧(∀ (i:Nat) (v:Value),rc[i]?=some v→v.oneCell'=true):=by
     intro G ps' hW hl hr
     obtain ⟨el,hd,hte,hTe⟩:=nG hC hel
     obtain ⟨i,z,hi,hz,hcr,hzs,hza,hzo⟩:=hTe.qw (G:=G)
     have his:i.size=ti.size:=by
      obtain ⟨ii,_,hii,his,_⟩:=hTe.info
      grind
     obtain ⟨hrow,hone⟩:=tP (n:=n) hcr hzs
     obtain ⟨rc,f1,f2,f3,f4,f5⟩:=Bk (ps':=ps'.toList) (by omega) (fun j p q hp hq=>hr j p q hp (by grind)) hrow (by simp) hone hxs
     have hrun:(Instr.buildSlice t n ps').run P G.w=.ok (.slice (some ⟨G.w.heap.size,0,none⟩) n n) (G.w.alloc (.cells rc el)):=by
      unfold Instr.buildSlice
      by_cases e:n*ti.size=0
      ·have f1':=f1
       rw [e] at f1'
       have h0:∀ f:Nat→Value,(Array.range 0).map f = #[]:=by simp
       rw [h0] at f1'
       simp only [Sem.run_bind,run_underlying hd,Result.andThen_ok,sizeOf,typeInfo,run_program,hi,Sem.run_pure,his,e]
       rw [if_neg (by omega),if_pos trivial]
       simp only [Sem.run_pure,Result.andThen_ok,Sem.run_bind]
       rw [h0,f1']
       rfl
      ·have hgt:¬ (16777216<n*ti.size):=by omega
       simp only [Sem.run_bind,run_underlying hd,Result.andThen_ok,sizeOf,typeInfo,run_program,hi,Sem.run_pure,his]
       simp [e,hgt,zeroValue,typeInfo,hi,hz,his,f1,newRow]
     grind
    unfold o0 at h
    split at h
    ·cases h
    ·split at h
     ·cases h
      refine ⟨.obj (.fW 0 ti.size xs),rfl,by simp,?_⟩
      intro G ps' hW hl hr hget hpi
      obtain ⟨rc,el,hrun,f2,f3,f4⟩:=main G ps' hW hl hr
      obtain ⟨hS,hW'⟩:=qx (ob:=.fW 0 ti.size xs) (cap:=n) hW (iQ.alloc G.w (.cells rc el)) hget hpi (by
       intro g zz ys e G' E hnew
       cases e
       refine ⟨rc,el,hnew,by grind,by grind,f2.len,?_,f4⟩
       intro i cs j x hi hj
       obtain ⟨v,b1,b2,b3⟩:=f2.rel i cs j x hi hj
       exact ⟨v,b1,b2,b3.mono E⟩) (by simp)
      refine ⟨_,_,hrun,hS,hW',?_⟩
      rw [hlx]
      refine .hs _ 0 0 _ _ _ (hW.lt _ _ hget) (fun g0 z xs _=>Nat.zero_le _) (Nat.le_refl _) ?_
      grind [jy]
     ·rename_i hpu
      cases h
      simp only [Bool.or_eq_false_iff,Bool.not_eq_false'] at hpu
      refine ⟨.none,rfl,by simp,?_⟩
      intro G ps' hW hl hr
      obtain ⟨rc,el,hrun,f2,f3,f4⟩:=main G ps' hW hl hr
      obtain ⟨hS,hW'⟩:=Gw hW (iQ.alloc G.w (.cells rc el))
      refine ⟨_,⟨G.w.alloc (.cells rc el),fun s B=>G.T s B∨B=G.w.heap.size,G.h,G.pi,G.L⟩,hrun,hS,rfl,hW',?_⟩
      have hpr:PR (G.w.alloc (.cells rc el)) (fun s B=>G.T s B∨B=G.w.heap.size) true (.sl xs (.exact xs.length)) (.slice (some ⟨G.w.heap.size,0,none⟩) xs.length n):=by
       refine .sl true xs (.exact xs.length) G.w.heap.size 0 rc el (0,0) n ti.size (fun i j=>(rc[0+i*ti.size+j]?).getD undef) (fun h=>by cases h) ((iQ.alloc G.w _).new) (.inr rfl) hlx.symm (by omega) f2.len ?_ ?_ ?_
       ·intro i cs j x hi hj
        obtain ⟨v,b1,b2,b3⟩:=f2.rel i cs j x hi hj
        grind
       ·intro i cs j x hi hj
        obtain ⟨v,b1,b2,b3⟩:=f2.rel i cs j x hi hj
        grind
       ·intro i cs j x hi hj
        obtain ⟨v,b1,b2,b3⟩:=f2.rel i cs j x hi hj
        rw [b1]
        exact (b3.vr.Xp (Bb hpu.2 hi hj)).mono (fun _ _ h=>.inl h) (fun s B hB=>(iQ.alloc G.w _).oP (hW.lu s B hB))
      rw [hlx] at hpr ⊢
      exact .gF rfl hpr
   ·cases h
  ·cases h
 ·cases h
end
end Go.Sx
namespace Go.Sx
open Go
section
variable {P:Program} {C:gP} {G:Ga} {t:Nat} {ti:TI} {w':World}
theorem K6 (hW:WR G) {b:Nat} {l l':Loc} {g z:Nat} {xs xs':List (List AV)} (hp:G.pi b=some l) (hget:G.h.get b=some (.fW g z xs))
  (hB:l'.B=l.B∨l'.B=G.w.heap.size) (hsz:G.w.heap.size≤w'.heap.size) (hlt:l'.B<w'.heap.size) (hother:∀ k,k<G.w.heap.size→k≠l.B→w'.heap[k]?=G.w.heap[k]?)
  (hos:w'.os=G.w.os) (hout:w'.output=G.w.output) (htape:w'.tape=G.w.tape)
  (hlies:∀ G',Ext G G'→G'.w=w'→lI G' l' z xs') :
  Step G ⟨w',G.T,G.h.set b (.fW (g+1) z xs'),lh G.pi b (some l'),G.L⟩∧WR ⟨w',G.T,G.h.set b (.fW (g+1) z xs'),lh G.pi b (some l'),G.L⟩:=by
 have hlo:G.h.lo≤b:=ah.lM hget
 have hg:∀ b',(G.h.set b (.fW (g+1) z xs')).get b'=if b'=b then some (.fW (g+1) z xs') else G.h.get b':=by
  grind [ah.jV]
 have hT:∀ s B,G.T s B→B≠l.B:=by
  rintro s B hB rfl
  exact hW.nX s b l hp hB
 have hne:∀ b' l2,b'≠b→G.pi b'=some l2→l2.B≠l.B:=fun b' l2 e h he=>e (hW.kC b' b l2 l h hp he)
 have hne':∀ b' l2,b'≠b→G.pi b'=some l2→l2.B≠l'.B:=by
  intro b' l2 e h
  rcases hB with h1 | h1
  ·grind
  ·rw [h1]; have:=(hW.iV b' l2 h).1; omega
 have E:Ext G ⟨w',G.T,G.h.set b (.fW (g+1) z xs'),lh G.pi b (some l'),G.L⟩:=by
  refine ⟨fun _ _ h=>h,fun s B hB=>hother B (hW.lu s B hB) (hT s B hB),by simp,?_,?_,fun _ _ h=>h⟩<;>grind [kV]
 refine ⟨⟨E,hos,hout,htape,hsz,fun B hBl hpB _=>hother B hBl (fun e=>hpB b l hp e.symm),?_,?_,fun s B h=>.inl h,by simp,?_,fun _ _ h=>.inl h,fun _ _ h=>.inl (Option.isSome_iff_exists.2 ⟨_,h⟩),fun d c _ h=>by simpa using h⟩,?_⟩
 ·grind [jy,kV]
 ·grind [kV]
 ·grind
 ·constructor
  ·intro b' l2 g2 z2 x2 hp' h
   simp only [hg] at h
   by_cases e:b'=b
   ·grind [jy]
   ·rw [if_neg e] at h
    simp only [kV e] at hp'
    exact (hW.fW b' l2 g2 z2 x2 hp' h).mono E (hother _ (hW.iV b' l2 hp').1 (hne b' l2 e hp'))
  ·intro b' l2 es c hp' h
   simp only [hg] at h
   by_cases e:b'=b
   ·grind
   ·rw [if_neg e] at h
    simp only [kV e] at hp'
    exact (hW.map b' l2 es c hp' h).mono E (hother _ (hW.iV b' l2 hp').1 (hne b' l2 e hp'))
  ·intro d B cs hL hd
   have hd:gR G.h.aq d=some cs:=by simp_all
   exact (hW.loc d B cs hL hd).mono E (hother _ (hW.j4 d B hL).1 (hW.mY d B b l hL hp))
  ·intro b' l2 h
   by_cases e:b'=b
   ·subst e
    simp only [jy,Option.some.injEq] at h
    subst h
    exact ⟨hlt,by simpa using (hW.iV b' l hp).2⟩
   ·simp only [kV e] at h
    have:=hW.iV b' l2 h
    exact ⟨Nat.lt_of_lt_of_le this.1 hsz,by simp_all⟩
  ·intro b1 b2 l1 l2 h1 h2 he
   by_cases e1:b1=b
   ·grind [jy,kV]
   ·by_cases e2:b2=b
    ·grind [jy,kV]
    ·simp only [kV e1] at h1
     simp only [kV e2] at h2
     exact hW.kC b1 b2 l1 l2 h1 h2 he
  ·intro s b' l2 h hT2
   by_cases e:b'=b
   ·subst e
    simp only [jy,Option.some.injEq] at h
    subst h
    rcases hB with h1 | h1
    ·grind
    ·rw [h1] at hT2; have:=hW.lu s _ hT2; omega
   ·simp only [kV e] at h
    exact hW.nX s b' l2 h hT2
  ·exact hW.mv
  ·exact hW.LT
  ·intro d B b' l2 hd h
   by_cases e:b'=b
   ·subst e
    simp only [jy,Option.some.injEq] at h
    subst h
    rcases hB with h1 | h1
    ·rw [h1]; exact hW.mY d B b' l hd hp
    ·rw [h1]; have:=(hW.j4 d B hd).1; omega
   ·simp only [kV e] at h
    exact hW.mY d B b' l2 hd h
  ·intro d B hd
   have:=hW.j4 d B hd
   exact ⟨Nat.lt_of_lt_of_le this.1 hsz,by simp_all⟩
  ·intro s B hB2
   exact Nat.lt_of_lt_of_le (hW.lu s B hB2) hsz
  ·simpa using hW.lo
  ·intro b' ob' h
   simp only [hg] at h
   simp only [ah.size_set]
   by_cases e:b'=b
   ·subst e; exact (hW.iV b' l hp).2
   ·rw [if_neg e] at h
    exact hW.lt b' ob' h
theorem iE.extract {R:AV→Value→Prop} {z base:Nat} {xs:List (List AV)} {c:Array Value} {m:Nat} (h:iE R z base xs c) (hm:m=xs.length*z) :
  iE R z 0 xs (c.extract base (base+m))∧(∀ (i:Nat) (v:Value),(∀ (j:Nat) (u:Value),c[j]?=some u→u.oneCell'=true)→(c.extract base (base+m))[i]?=some v→v.oneCell'=true)∧(base+m≤c.size∨m=0):=by
 subst hm
 have hb:base+xs.length*z≤c.size∨xs.length*z=0:=by
  by_cases h0:xs.length*z=0
  ·omega
  ·left
   have hx:0<xs.length:=by grind
   have hz:0<z:=by grind
   have hi:xs[xs.length - 1]?=some xs[xs.length - 1]:=by simp
   have hl:=h.len _ _ hi
   have hj:(xs[xs.length - 1])[z - 1]?=some (xs[xs.length - 1])[z - 1]:=by simp
   obtain ⟨v,hv,_⟩:=h.rel _ _ _ _ hi hj
   have:=(Array.getElem?_eq_some_iff.1 hv).1
   have e1:(xs.length - 1)*z+z=xs.length*z:=by
    rw [← Nat.succ_mul]; grind
   omega
 refine ⟨⟨h.len,?_⟩,?_,hb⟩
 ·intro i cs j x hi hj
  obtain ⟨v,h1,h2,h3⟩:=h.rel i cs j x hi hj
  refine ⟨v,?_,h2,h3⟩
  rw [Array.getElem?_extract,Nat.zero_add]
  have hil:i<xs.length:=(List.getElem?_eq_some_iff.1 hi).1
  have hjl:j<z:=by rw [← h.len i cs hi]; grind
  have hk:i*z+j<xs.length*z:=by
   have:(i+1)*z≤xs.length*z:=Nat.mul_le_mul_right _ hil
   grind
  grind
 ·intro i v hone hi
  rw [Array.getElem?_extract] at hi
  grind
end
end Go.Sx
namespace Go.Sx
open Go
section rows
variable {R:AV→Value→Prop} {z base:Nat} {xs ys:List (List AV)} {c vs:Array Value}
theorem iE.append (h:iE R z base xs c) (k:iE R z (base+xs.length*z) ys c):iE R z base (xs++ys) c:=by
 constructor
 ·intro i cs hi
  rw [List.getElem?_append] at hi
  split at hi
  ·exact h.len i cs hi
  ·exact k.len _ cs hi
 ·intro i cs j x hi hj
  rw [List.getElem?_append] at hi
  split at hi
  ·exact h.rel i cs j x hi hj
  ·rename_i hn
   obtain ⟨v,a,b,d⟩:=k.rel _ cs j x hi hj
   refine ⟨v,?_,b,d⟩
   rw [← a]
   congr 1
   have:xs.length*z+(i - xs.length)*z=i*z:=by rw [← Nat.add_mul]; grind
   omega
theorem iE.drop (h:iE R z base xs c) (n:Nat):iE R z (base+n*z) (xs.drop n) c:=by
 constructor
 ·intro i cs hi
  rw [List.getElem?_drop] at hi
  exact h.len _ cs hi
 ·intro i cs j x hi hj
  rw [List.getElem?_drop] at hi
  obtain ⟨v,a,b,d⟩:=h.rel _ cs j x hi hj
  grind
theorem iE.take (h:iE R z base xs c) (n:Nat):iE R z base (xs.take n) c:=by
 constructor
 ·intro i cs hi
  rw [List.getElem?_take] at hi
  split at hi
  ·exact h.len _ cs hi
  grind
 ·intro i cs j x hi hj
  rw [List.getElem?_take] at hi
  split at hi
  ·exact h.rel _ cs j x hi hj
  grind
theorem iE.same {c':Array Value} {base':Nat} (h:iE R z base xs c) (he:∀ k,k<xs.length*z→c'[base'+k]?=c[base+k]?):iE R z base' xs c':=by
 refine ⟨h.len,?_⟩
 intro i cs j x hi hj
 obtain ⟨v,a,b,d⟩:=h.rel i cs j x hi hj
 refine ⟨v,?_,b,d⟩
 have hil:i<xs.length:=(List.getElem?_eq_some_iff.1 hi).1
 have hjl:j<z:=by rw [← h.len i cs hi]; grind
 have hk:i*z+j<xs.length*z:=by
  have:(i+1)*z≤xs.length*z:=Nat.mul_le_mul_right _ hil
  grind
 grind
theorem iE.rT (h:iE R z base xs c) (k:iE R z 0 ys vs) (hv:vs.size=ys.length*z) {n o:Nat} (ho:o=base+n*z) (hc:o+vs.size≤c.size) (hn:n≤xs.length) :
  iE R z base (xs.take n++ys++xs.drop (n+ys.length)) ((c.toList.take o++vs.toList++c.toList.drop (o+vs.toList.length)).toArray):=by
 subst ho
 have hlt:(xs.take n).length=n:=by grind
 refine iE.append (iE.append ((h.take n).same ?_) (k.same ?_)) ((h.drop (n+ys.length)).same ?_)
 ·intro q hq
  rw [hlt] at hq
  grind
 ·intro q hq
  rw [hlt,mL hc,if_pos (by omega),Nat.zero_add]
  simp
 ·intro q hq
  rw [mL hc,if_neg]
  ·grind
  ·rw [List.length_append,hlt,Nat.add_mul]
   omega
end rows
section
variable {P:Program} {C:gP} {G:Ga} {t:Nat} {ti:TI}
theorem lI.row {l:Loc} {z:Nat} {xs:List (List AV)} (h:lI G l z xs):∃ c e,G.w.heap[l.B]?=some (.cells c e (0,0))∧xs.length≤l.cap∧l.base+l.cap*z≤c.size∧iE (VC G) z l.base xs c∧(∀ (i:Nat) (v:Value),c[i]?=some v→v.oneCell'=true):=by
 obtain ⟨c,e,hB,h1,h2,h3,h4,h5⟩:=h
 exact ⟨c,e,hB,h1,h2,⟨h3,h4⟩,h5⟩
theorem lI.qz {l:Loc} {z:Nat} {xs:List (List AV)} {c:Array Value} {e:TypeId} (hB:G.w.heap[l.B]?=some (.cells c e (0,0))) (h1:xs.length≤l.cap) (h2:l.base+l.cap*z≤c.size)
  (h:iE (VC G) z l.base xs c) (h5:∀ (i:Nat) (v:Value),c[i]?=some v→v.oneCell'=true):lI G l z xs:=⟨c,e,hB,h1,h2,h.len,h.rel,h5⟩
theorem oD {n:Nat} {ys:List (List AV)} (h:ly n ys=true) {i:Nat} {cs:List AV} (hi:ys[i]?=some cs):cs.length=n:=by
 simp only [ly,List.all_eq_true,Nat.beq_eq] at h
 grind
theorem iE.one {R:AV→Value→Prop} {n base:Nat} {ys:List (List AV)} {c:Array Value} (h:iE R n base ys c) (k:Nat) (hk:k<ys.length*n):∃ v,c[base+k]?=some v∧v.oneCell'=true:=by
 have hn:0<n:=by
  grind
 have hi:k / n<ys.length:=(Nat.div_lt_iff_lt_mul hn).2 hk
 have hg:ys[k / n]?=some ys[k / n]:=by simp
 have hm:k % n<n:=Nat.mod_lt _ hn
 have hj:k % n<(ys[k / n]).length:=by rw [h.len _ _ hg]; exact hm
 have hgj:(ys[k / n])[k % n]?=some (ys[k / n])[k % n]:=by simp
 obtain ⟨v,a,b,_⟩:=h.rel _ _ _ _ hg hgj
 refine ⟨v,?_,b⟩
 rw [← a]
 congr 1
 have:=Nat.div_add_mod k n
 grind
theorem sX {B base:Nat} {c:Array Value} {e:TypeId} {fr:Nat×Nat} {R:AV→Value→Prop} {n:Nat} {ys:List (List AV)} (hB:G.w.heap[B]?=some (.cells c e fr)) (h:iE R n base ys c) :
  ∃ news:Array Value,(∀ w',w'.heap=G.w.heap→(loadCells ⟨B,base,none⟩ (ys.length*n)).run P w'=.ok news w')∧iE R n 0 ys news∧news.size=ys.length*n∧(∀ (i:Nat) (v:Value),news[i]?=some v→v.oneCell'=true):=by
 obtain ⟨h1,_,h3⟩:=h.extract (m:=ys.length*n) rfl
 have hsz:(c.extract base (base+ys.length*n)).size=ys.length*n:=by
  grind
 refine ⟨c.extract base (base+ys.length*n),?_,h1,hsz,?_⟩
 ·intro w' hw
  rcases h3 with h3 | h3
  ·grind [yx]
  ·rw [h3]
   simp [loadCells,loadCellsFrom]
   omega
 ·intro i v hi
  have hlt:i<ys.length*n:=by grind
  obtain ⟨u,hu,h1'⟩:=h1.one i hlt
  grind
theorem xI (hW:WR G) {x:AV} {x':Value} {ys:List (List AV)} {n:Nat} (hx:VR G x x') (h:elems G.h x=some ys) (hn:ly n ys=true) (hpos:0<ys.length) :
  ∃ (a:Addr) (cap':Nat) (news:Array Value),x'=.slice (some a) ys.length cap'∧(∀ w',w'.heap=G.w.heap→(loadCells a (ys.length*n)).run P w'=.ok news w')∧iE (VC G) n 0 ys news∧news.size=ys.length*n ∧
    (∀ (i:Nat) (v:Value),news[i]?=some v→v.oneCell'=true):=by
 cases x with
 | sl xs cap =>
   simp only [elems,Option.some.injEq] at h
   subst h
   cases oq hx with
   | slnil=>grind
   | kG=>grind
   | sl _ _ _ B base c e fr cap' esz f hm hB hI hcap hle hz hc h1 hr =>
     have hi0:xs[0]?=some xs[0]:=by simp
     have he:esz=n:=by grind [oD]
     subst he
     have hrow:iE (VC G) esz base xs c:=⟨hz,fun i cs j x hi hj=>⟨f i j,hc i cs j x hi hj,h1 i cs j x hi hj,(hr i cs j x hi hj).uB⟩⟩
     obtain ⟨news,k1,k2⟩:=sX (P:=P) hB hrow
     grind
 | hs b g off len =>
   simp only [elems] at h
   split at h
   ·rename_i g' z xs hget
    split at h
    ·rename_i hb
     simp only [Bool.and_eq_true,Nat.beq_eq,Nat.ble_eq] at hb
     obtain ⟨rfl,hle⟩:=hb
     cases h
     have hlen:((xs.drop off).take len).length=len:=by grind
     cases hx with
     | gF hp _=>simp [AV.ir] at hp
     | hs _ _ _ _ a cap' hb hg hlc hl =>
       obtain ⟨l,hpi,hcap,ha⟩:=hl z xs hget
       have hpos':=hpos
       rw [hlen] at hpos'
       have ha:=ha (by omega)
       subst ha
       obtain ⟨c,e,hB,k1,k2,k3,k4⟩:=(hW.fW b l g z xs hpi hget).row
       have hi0:((xs.drop off).take len)[0]?=some ((xs.drop off).take len)[0]:=by grind
       have hr:=(k3.drop off).take len
       have he:z=n:=by rw [← hr.len 0 _ hi0]; exact oD hn hi0
       subst he
       obtain ⟨news,m1,m2⟩:=sX (P:=P) hB hr
       exact ⟨_,cap',news,by rw [hlen],m1,m2⟩
    ·cases h
   ·cases h
 | _=>cases h
theorem E6 (hW:WR G) (hC:g5 P C) {tx:Nat} {tti:TI} (ht:C.T tx=some tti) (hk:vj tti.kind=true) {x:AV} {x':Value} {ys:List (List AV)} {n:Nat} (hx:VR G x x') (h:lx G.h x=some ys) (hn:ly n ys=true)
  (hpos:0<ys.length):∃ news:Array Value,Src P n tx x' ys.length news.toList G.w∧iE (VC G) n 0 ys news∧news.size=ys.length*n∧(∀ (i:Nat) (v:Value),news[i]?=some v→v.oneCell'=true):=by
 obtain ⟨d,hd,_,hkd⟩:=(hC.ty tx tti ht).desc
 have hkind:(∃ e',P.underlying tx=some (.slice e'))∨P.underlying tx=some .string:=by
  unfold vj at hk
  split at hk
  ·rename_i e he
   rw [he] at hkd
   have hkd:d=.slice _:=hkd
   grind
  ·rename_i he
   rw [he] at hkd
   have hkd:d=.string:=hkd
   grind
  grind
 unfold lx at h
 split at h
 ·rename_i s hs
  cases h
  have:=str?_eq hs; subst this
  obtain ⟨b,rfl,hb⟩:=hx.pq
  have hn1:n=1:=by
   have hp':0<s.length:=by grind
   have hi0:(s.map fun c=>[AV.int .u8 c.toNat])[0]?=some [AV.int .u8 (s[0]).toNat]:=by simp [hp']
   have:=oD hn hi0
   grind
  subst hn1
  have hsz:b.size=s.length:=qK hb
  refine ⟨(byteCells b).toArray,?_,?_,?_,?_⟩
  ·have hS:=firstCells_string (P:=P) b
   rw [List.length_map]
   refine ⟨hkind,fun w'=>by rw [← hsz]; rfl,?_,?_,?_,?_⟩
   ·grind
   ·grind
   ·simp [byteCells,hb]
   ·intro u hu
    simp only [byteCells,List.mem_map] at hu
    obtain ⟨_,_,rfl⟩:=hu
    rfl
  ·constructor
   ·simp
   ·intro i cs j x hi hj
    rw [List.getElem?_map] at hi
    cases hq:s[i]? with
    | none=>grind
    | some q =>
      rw [hq] at hi
      cases hi
      cases j with
      | zero =>
        cases hj
        refine ⟨.int .u8 q.toNat,?_,rfl,VR.int _ _,rfl⟩
        grind [byteCells]
      | succ j=>cases hj
  ·simp [byteCells,hb]
  ·intro i v hi
   simp only [byteCells,List.getElem?_toArray,List.getElem?_map] at hi
   cases hq:b.data.toList[i]? with
   | none=>grind
   | some q=>rw [hq] at hi; cases hi; rfl
 ·obtain ⟨a,cap',news,rfl,k1,k2,k3,k4⟩:=xI (P:=P) hW hx h hn hpos
  refine ⟨news,⟨hkind,fun _=>rfl,?_,?_,by omega,?_⟩,k2,k3,k4⟩
  ·simp_all [Builtin.firstCells]
  ·simp only [Builtin.firstCells]
   rw [k1 G.w.drew rfl]
  ·intro u hu
   obtain ⟨i,hi⟩:=List.getElem?_of_mem hu
   grind
theorem vL (t tx ty e:TypeId) (i:TypeInfo) (d:TypeDesc) (ht:P.underlying t=some (.slice e)) (hi:P.info? e=some i) (hx:P.underlying tx=some d) (hd:(∃ e',d=.slice e')∨d=.string)
  (base:Option Addr) (sLen sCap:Nat) (x:Value) (w:World) (hle:sLen≤sCap) (hl:(Builtin.lenOf x).run P w=.ok 0 w) (hc:(Builtin.firstCells i.size 0 x).run P w=.ok #[] w) :
  (Builtin.append_ #[t,tx] ty #[.slice base sLen sCap,x]).run P w=.ok (.slice base sLen sCap) w:=by
 rcases hd with ⟨e',rfl⟩ | rfl<;>cases base<;>simp [Builtin.append_,run_underlying ht,run_underlying hx,sizeOf,typeInfo,hi,hl,hle,hc,storeCells]
theorem A3 (t tx ty e:TypeId) (i:TypeInfo) (ht:P.underlying t=some (.slice e)) (hi:P.info? e=some i) (w:World) (b off sLen sCap:Nat) (x:Value) (n:Nat) (news:List Value) (hs:Src P i.size tx x n news w)
  (hroom:sLen+n≤sCap) {c:Array Value} {te:TypeId} (hB:w.heap[b]?=some (.cells c te (0,0))) (hfit:off+sLen*i.size+news.length≤c.size) :
  (Builtin.append_ #[t,tx] ty #[.slice (some ⟨b,off,none⟩) sLen sCap,x]).run P w =
    .ok (.slice (some ⟨b,off,none⟩) (sLen+n) sCap) (w.setRow b (c.toList.take (off+sLen*i.size)++news++c.toList.drop (off+sLen*i.size+news.length)).toArray):=by
 have hst:=run_storeCells_at (P:=P) b (off+sLen*i.size) te news 0 c w hB (by omega) hs.one
 simp only [Nat.add_zero] at hst
 rcases hs.kind with ⟨e',hk⟩ | hk<;>simp [Builtin.append_,run_underlying ht,run_underlying hk,sizeOf,typeInfo,hi,hs.len,hroom,hs.cells,Addr.add_lit,hst]
end
end Go.Sx
