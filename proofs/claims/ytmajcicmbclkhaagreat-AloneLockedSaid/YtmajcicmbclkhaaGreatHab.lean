/- Proves rules for the walks and their soundness. -/
import Derived.Lib.Strings
import Derived.Laws.MakeOwn
import Derived.Deep.AppendSrc
import Derived.Test.YtmajcicmbclkhaaGreatHaa
set_option linter.all false
namespace Go.Sx
open Go
section
variable {P:Program} {C:gv} {G:Ga} {t:Nat} {ti:TI}
def Et (hC:gR P C) {s d:Nat} {x:AV} {x':Value} {r:AV×au} (hx:VR G x x') (h:yF C G.h s d x=some r):lO P G (Go.convert s d x') r:=by
 unfold yF at h
 split at h
 ·rename_i ts td hs hd
  obtain ⟨us,hus,_⟩:=(hC.ty s ts hs).desc
  obtain ⟨ud,hud,_,hk⟩:=(hC.ty d td hd).desc
  split at h
  ·rename_i k hki
   rw [hki] at hk
   have hk:ud=.int k:=hk
   subst hk
   split at h
   ·rename_i k' n hn
    have:=int?_eq hn; subst this
    rw [hx.of_int]
    obtain ⟨v,hv,rfl⟩:=kR h
    simp only [vM,nS,sp,Option.some.injEq] at hv
    subst hv
    refine ⟨rfl,_,?_,VR.int _ _⟩
    unfold Go.convert
    rw [Sem.run_bind,run_underlying hus]
    simp only [Result.andThen_ok]
    rw [Sem.run_bind,run_underlying hud]
    rfl
   ·cases h
  ·rename_i hki
   rw [hki] at hk
   have hk:ud=.string:=hk
   subst hk
   split at h
   ·rename_i b hb
    cases h
    have:=str?_eq hb; subst this
    obtain ⟨bs,rfl,hbs⟩:=hx.s8
    refine ⟨rfl,.string bs,?_,VR.str hbs⟩
    simp_all [Go.convert,Sem.run_bind,run_underlying,Result.andThen_ok]
   ·cases h
  ·cases h
 ·cases h
def DA {fn:Fn} {a c:List AV} {a' c':Array Value} {r:AV×au} (hal:a.length=a'.size) (hcl:c.length=c'.size)
  (ha:∀ (i:Nat) (x:AV) (y:Value),a[i]?=some x->a'[i]?=some y->VR G x y) (hc:∀ (i:Nat) (x:AV) (y:Value),c[i]?=some x->c'[i]?=some y->VR G x y)
  (h:sT G.h fn a c=some r):lO P G (Instr.makeFunc fn a' c') r:=by
 unfold sT at h
 split at h
 ·split at h
  ·rename_i hok
   simp only [Bool.and_eq_true,List.all_eq_true] at hok
   cases h
   have hnl:∀ x:AV,x.gY=true->x.lR=true:=by intro x hx; cases x<;>simp_all [AV.gY,AV.lR]
   exact ⟨rfl,_,rfl,.gx _ _ _ _ _ hal hcl (λx hx=>hnl x (hok.1 x hx)) (λx hx=>hnl x (hok.2 x hx)) ha hc⟩
  ·cases h
 ·cases h
def Hw {x:AV} {x':Value} {n:Nat} (hx:VR G x x') (h:vv x=some n):∃ a c,x'=.slice a n c:=by
 unfold vv at h
 split at h
 ·cases h
  cases hx with
  | gf _ h=>cases h<;>exact ⟨_,_,rfl⟩
 ·cases h
  cases hx<;>grind [AV.iA]
 ·cases h
theorem Cw {w:World} {r:Nat} {ents:Array MapEntry} {c:Nat} (h:w.heap[r]?=some (.map ents c)):(getObj r).run P w=.ok (.map ents c) w:=by
 simp [getObj,Sem.run,h]
def LA (hW:WR G) (hC:gR P C) {ats:Array Nat} {x:AV} {x':Value} {ty:Nat} {r:AV×au} (hx:VR G x x') (h:uC C ats.toList [x] G.h=some r) :
  lO P G (Builtin.len_ ats ty #[x']) r:=by
 unfold uC at h
 split at h
 ·rename_i t rest y hats hy
  simp only [List.cons.injEq,and_true] at hy
  subst hy
  have h0:ats[0]?=some t:=by rw [<- Array.getElem?_toList,hats]; rfl
  split at h
  ·rename_i ti hti
   obtain ⟨d,hd,_,hk⟩:=(hC.ty t ti hti).desc
   unfold oR at h
   split at h
   ·rename_i n hn
    cases h
    unfold wD at hn
    split at hn
    ·rename_i m e hki
     cases hn
     rw [hki] at hk
     have hk:d=.array _ _:=hk
     subst hk
     exact ⟨rfl,_,by simp [Builtin.len_,h0,run_underlying hd,goInt],VR.int _ _⟩
    ·rename_i hki
     rw [hki] at hk
     have hk:d=.string:=hk
     subst hk
     unfold LU at hn
     split at hn
     ·rename_i s hs
      cases hn
      have:=str?_eq hs; subst this
      obtain ⟨b,rfl,hb⟩:=hx.s8
      refine ⟨rfl,.int .i64 b.size,by simp [Builtin.len_,h0,run_underlying hd,goInt],?_⟩
      grind [uO,VR.int]
     grind
    ·rename_i e hki
     rw [hki] at hk
     have hk:d=.slice _:=hk
     subst hk
     obtain ⟨a,c,rfl⟩:=Hw hx hn
     exact ⟨rfl,_,by simp [Builtin.len_,h0,run_underlying hd,goInt],VR.int _ _⟩
    ·rename_i kt et hki
     rw [hki] at hk
     have hk:d=.map _ _:=hk
     subst hk
     unfold Gi at hn
     split at hn
     ·cases hn
      cases hx with
      | gf _ h=>cases h; exact ⟨rfl,.int .i64 0,by simp [Builtin.len_,h0,run_underlying hd,goInt],VR.int _ _⟩
     ·cases hn
      cases hx with
      | gf _ h=>cases h with
        | fm _ _ _ r ents clk hm hB hI hl hy hko hk hv =>
          refine ⟨rfl,.int .i64 ents.size,by simp [Builtin.len_,h0,run_underlying hd,goInt,Cw hB],?_⟩
          grind [VR.int]
     ·split at hn
      ·rename_i b es c hget
       cases hn
       cases hx with
       | gf hp _=>simp [AV.iA] at hp
       | hm _ r hb hl =>
         obtain ⟨l,hpi,rfl⟩:=hl _ _ hget
         obtain ⟨ents,hB,hlen,_⟩:=hW.map _ _ _ _ hpi hget
         refine ⟨rfl,.int .i64 ents.size,by simp [Builtin.len_,h0,run_underlying hd,goInt,Cw hB],?_⟩
         grind [VR.int]
      grind
     grind
    grind
   ·cases h
  ·cases h
 ·cases h
def KG {C:gv} {t:Nat} {ti:TI} (h:sV C t=some ti):∃ tt el,C.T t=some tt/\tt.kind=.slice el/\C.T el=some ti:=by
 grind [sV]
def p7 (hC:gR P C) {t:Nat} {ti:TI} (h:sV C t=some ti):∃ el,P.underlying t=some (.slice el)/\C.T el=some ti/\mz P el ti:=by
 obtain ⟨tt,el,h1,h2,h3⟩:=KG h
 obtain ⟨d,hd,_,hk⟩:=(hC.ty t tt h1).desc
 rw [h2] at hk
 have hk:d=.slice el:=hk
 subst hk
 exact ⟨el,hd,h3,hC.ty el ti h3⟩
def Ki (hC:gR P C) {ats:Array Nat} {x:AV} {x':Value} {ty:Nat} {r:AV×au} (hx:VR G x x') (h:Dn C ats.toList [x] G.h=some r) :
  lO P G (Builtin.cap_ ats ty #[x']) r:=by
 unfold Dn at h
 split at h
 ·rename_i ti y hh hy
  simp only [List.cons.injEq,and_true] at hy
  subst hy
  unfold pX at hh
  split at hh
  ·rename_i t rest hats
   have h0:ats[0]?=some t:=by rw [<- Array.getElem?_toList,hats]; rfl
   obtain ⟨el,hd,_,_⟩:=p7 hC hh
   unfold oR at h
   split at h
   ·rename_i n hn
    cases h
    unfold O7 at hn
    split at hn
    ·cases hn
     cases hx with
     | gf _ h=>cases h with
       | slnil=>exact ⟨rfl,.int .i64 0,by simp [Builtin.cap_,h0,run_underlying hd,goInt],VR.int _ _⟩
       | my _ _ _ _ _ hc=>cases hc
       | sl _ _ _ _ _ _ _ _ _ _ _ _ _ _ hc=>cases hc
    ·cases hn
     cases hx with
     | gf _ h=>cases h with
       | my _ _ _ c _ hc =>
         have hc:c = _:=hc
         subst hc
         exact ⟨rfl,_,by simp [Builtin.cap_,h0,run_underlying hd,goInt],VR.int _ _⟩
       | sl _ _ _ _ _ _ _ _ c _ _ _ _ _ hc =>
         have hc:c = _:=hc
         subst hc
         exact ⟨rfl,_,by simp [Builtin.cap_,h0,run_underlying hd,goInt],VR.int _ _⟩
    grind
   ·cases h
  grind
 ·cases h
theorem qV (k:IntKind) (n:Int) (w:World):(asIntOf (.int k n)).run P w=.ok (k,n) w:=rfl
def C7 (hW:WR G) (hC:gR P C) {x i:AV} {x' i':Value} {r:AV×au} (hx:VR G x x') (hi:VR G i i') (h:nE C G.h t x i=some r) :
  lO P G (Instr.indexAt t x' i') r:=by
 unfold nE at h
 split at h
 ·cases h
 ·rename_i ti hti
  obtain ⟨d,hd,_,hk⟩:=(hC.ty t ti hti).desc
  split at h
  ·cases h
  ·rename_i n hn
   obtain ⟨k,rfl⟩:=xW hn
   rw [hi.of_int]
   split at h
   ·rename_i el hki
    rw [hki] at hk
    have hk:d=.slice el:=hk
    subst hk
    split at h
    ·rename_i te hte
     have hTe:=hC.ty el te hte
     unfold p8 at h
     split at h
     ·rename_i xs c
      split at h
      ·rename_i cs hcs
       split at h
       ·rename_i hlen
        have hlen:=Nat.eq_of_beq_eq_true hlen
        cases h
        have hlt:n<xs.length:=(List.getElem?_eq_some_iff.1 hcs).1
        cases hx with
        | gf _ h =>
          cases h with
          | slnil=>grind
          | my=>grind
          | sl _ _ _ B base cc e fr cap' esz f hm hB hI hcap hle hz hc h1 hr =>
            have hz':=hz n cs hcs
            refine ⟨rfl,.pointer (some ⟨B,base+n*te.size,none⟩),?_,?_⟩
            ·have hcond:(0:Int)<=(n:Int)/\(n:Int)<(xs.length:Int):=by omega
             simp [Instr.indexAt,qV,run_underlying hd,hTe.sizeOf,oO,hlt]
            ·have e1:esz=te.size:=by omega
             subst e1
             refine .gf rfl (.ip _ cs 0 (oU c) B (base+n*te.size) cc e fr (f n) (λ_=>rfl) hB ?_ (λj x hj=>hc n cs j x hcs hj) (λj x hj=>h1 n cs j x hcs hj) ?_)
             ·cases c<;>exact hI
             ·intro j x hj
              have:=hr n cs j x hcs hj
              cases c<;>exact this
       ·cases h
      ·cases h
     ·rename_i b g off len
      split at h
      ·rename_i g' z xs hget
       split at h
       ·rename_i hb
        simp only [Bool.and_eq_true,Nat.beq_eq,Nat.blt_eq] at hb
        obtain ⟨hlt,hz⟩:=hb
        simp only [mA,Option.some.injEq] at h
        subst h
        cases hx with
        | gf hp _=>simp [AV.iA] at hp
        | hs _ _ _ _ a cap' hb hg hle hl =>
          refine ⟨rfl,.pointer (some (a.add (n*te.size))),?_,?_⟩
          ·simp [Instr.indexAt,qV,run_underlying hd,hTe.sizeOf,hlt]
          ·refine .ptr b g (off+n) 0 _ hb hg ?_
           grind [oO]
       ·cases h
      ·cases h
     ·cases h
    ·cases h
   ·rename_i m el hki
    rw [hki] at hk
    have hk:d=.array m el:=hk
    subst hk
    split at h
    ·rename_i te hte
     have hTe:=hC.ty el te hte
     split at h
     ·rename_i hlt
      simp only [Nat.blt_eq] at hlt
      obtain ⟨v,hv,rfl⟩:=kR h
      obtain ⟨a,rfl,ha⟩:=CQ hx hv
      refine ⟨rfl,.pointer (some (a.add (n*te.size))),?_,ha⟩
      simp [Instr.indexAt,qV,run_underlying hd,hTe.sizeOf,Instr.sureAddr,hlt]
     ·cases h
    ·cases h
   ·cases h
def Hk (hC:gR P C) {x i:AV} {x' i':Value} {r:AV×au} (hx:VR G x x') (hi:VR G i i') (h:zE C G.h t x i=some r) :
  lO P G (Instr.index t x' i') r:=by
 unfold zE at h
 split at h
 ·cases h
 ·rename_i ti hti
  obtain ⟨d,hd,_,hk⟩:=(hC.ty t ti hti).desc
  split at h
  ·cases h
  ·rename_i n hn
   obtain ⟨k,rfl⟩:=xW hn
   rw [hi.of_int]
   split at h
   ·rename_i hki
    rw [hki] at hk
    have hk:d=.string:=hk
    subst hk
    split at h
    ·rename_i s hs
     have:=str?_eq hs; subst this
     obtain ⟨b,rfl,hb⟩:=hx.s8
     split at h
     ·rename_i c hc
      cases h
      refine ⟨rfl,.int .u8 c.toNat,?_,VR.int _ _⟩
      have hbc:b[n]?=some c:=by
       subst hb
       rw [Array.getElem?_toList] at hc
       obtain ⟨hlt,he⟩:=Array.getElem?_eq_some_iff.1 hc
       rw [getElem?_pos b n hlt]
       exact congrArg some he
      simp [Instr.index,qV,run_underlying hd,hbc]
     ·cases h
    ·cases h
   ·rename_i m el hki
    rw [hki] at hk
    have hk:d=.array m el:=hk
    subst hk
    split at h
    ·rename_i te hte
     have hTe:=hC.ty el te hte
     split at h
     ·rename_i cs hcs
      split at h
      ·rename_i hlt
       simp only [Nat.blt_eq] at hlt
       obtain ⟨v,hv,rfl⟩:=kR h
       have:=agg?_eq hcs; subst this
       obtain ⟨vs,rfl,hl,h1,hr⟩:=hx.uX
       obtain ⟨u,hu,hvu⟩:=CW hTe hl h1 hr hv
       refine ⟨rfl,u,?_,hvu⟩
       simp [Instr.index,qV,run_underlying hd,hTe.sizeOf,hlt,hu]
      ·cases h
     ·cases h
    ·cases h
   ·cases h
end
section
variable {P:Program} {C:gv} {G:Ga} {t:Nat} {ti:TI}
inductive OR (G:Ga):Option AV->Option Value->Prop
 | none:OR G none none
 | some {v:AV} {u:Value} (h:VR G v u):OR G (some v) (some u)
def rp {o:Option AV} {o':Option Value} {d n:Nat} (h:OR G o o') (hb:bound o d=some n) :
  (o=none/\o'=none/\n=d)\/(∃ v k,o=some v/\o'=some (.int k (n:Int))):=by
 cases h with
 | none=>grind [bound]
 | some h =>
   simp only [bound] at hb
   obtain ⟨k,rfl⟩:=xW hb
   exact .inr ⟨_,k,rfl,by rw [h.of_int]⟩
theorem sS (k:IntKind) (n y:Nat) (code:BoundsCode) (w:World) (h:n<=y):(Instr.sliceBound (.int k (n:Int)) y code).run P w=.ok n w:=by
 grind [run_sliceBound]
def mP {lo hi mx:Option AV} {lo' hi' mx':Option Value} {len cap l r:Nat} {m:Option Nat} (hl:OR G lo lo') (hh:OR G hi hi') (hm:OR G mx mx')
  (h1:bound lo 0=some l) (h2:bound hi len=some r) (h3:qm hi mx=some m) (hlr:l<=r) (hrm:r<=m.getD cap) (hmc:m.getD cap<=cap) (w:World) (b:Bool) :
  (Instr.sliceBounds b len cap lo' hi' mx').run P w=.ok (l,r,m.getD cap) w:=by
 unfold Instr.sliceBounds
 cases hm with
 | none =>
   simp only [qm,Option.some.injEq] at h3
   subst h3
   simp only [Option.getD_none] at hrm hmc ⊢
   rcases rp hh h2 with ⟨rfl,rfl,rfl⟩ | ⟨v,k,rfl,rfl⟩
   ·rcases rp hl h1 with ⟨rfl,rfl,rfl⟩ | ⟨v',k',rfl,rfl⟩
    ·simp
    simp_all [sS]
   ·rcases rp hl h1 with ⟨rfl,rfl,rfl⟩ | ⟨v',k',rfl,rfl⟩
    ·simp_all [sS]
    simp_all [sS]
 | some hm =>
   simp only [qm] at h3
   split at h3
   ·rename_i v mm hm'
    cases h3
    obtain ⟨km,rfl⟩:=xW hm'
    rw [hm.of_int]
    simp only [Option.getD_some] at hrm hmc ⊢
    rcases rp hh h2 with ⟨h0,_,_⟩ | ⟨v2,k,_,rfl⟩
    ·cases h0
    ·rcases rp hl h1 with ⟨rfl,rfl,rfl⟩ | ⟨v',k',rfl,rfl⟩
     ·simp_all [sS]
     simp_all [sS]
   grind
def mW {el:Nat} (hd:P.underlying t=some (.slice el)) (hTe:mz P el ti) {a:Option Addr} {len cap l r m:Nat} {lo hi mx:Option Value} {w:World}
  (hb:(Instr.sliceBounds true len cap lo hi mx).run P w=.ok (l,r,m) w) :
  (Instr.sliceAt t (.slice a len cap) lo hi mx).run P w=.ok (.slice (if m=l then a else a.map (·.add (l*ti.size))) (r - l) (m - l)) w:=by
 unfold Instr.sliceAt
 simp only [Sem.run_bind,run_underlying hd,Result.andThen_ok]
 unfold Instr.slice
 simp [run_underlying hd,hb,hTe.sizeOf]
def yP {α:Type} (xs:List α) (l k i:Nat) (x : α) (h:((xs.drop l).take k)[i]?=some x):xs[l+i]?=some x/\i<k:=by
 grind
def PR.piece {w:World} {T:Bool->Nat->Prop} {m:Bool} {xs:List (List AV)} {cap cap2:ml} {B base:Nat} {len cap' n:Nat} {l r:Nat}
  (h:PR w T m (.sl xs cap) (.slice (some ⟨B,base,none⟩) len cap')) (hne:xs≠[]) (hh:o1 n xs=true) (hlr:l<r) (hr:r<=xs.length) (hs:o6 cap2=o6 cap)
  {k:Nat} (hcap:nJ cap2 (r - l) k) (hle:r - l<=k) :
  PR w T m (.sl ((xs.drop l).take (r - l)) cap2) (.slice (some ⟨B,base+l*n,none⟩) (r - l) k):=by
 have hlen:((xs.drop l).take (r - l)).length=r - l:=by grind
 cases h with
 | my=>grind
 | sl _ _ _ _ _ c e fr _ esz f hm hB hI hc1 hle1 hz hc h1 hr1 =>
   have hn:esz=n:=by
    cases xs with
    | nil=>grind
    | cons x xs =>
      have:=hz 0 x rfl
      simp_all [o1]
   subst hn
   have key:=PR.sl (w:=w) (T:=T) m ((xs.drop l).take (r - l)) cap2 B (base+l*esz) c e fr k esz (λi j=>f (l+i) j) (by grind) hB (by grind)
    (by grind) (by omega)
    (λi cs h=>hz _ cs (yP _ _ _ _ _ h).1)
    (λi cs j x h hj=>by
      grind)
    (λi cs j x h hj=>h1 (l+i) cs j x (yP _ _ _ _ _ h).1 hj)
    (λi cs j x h hj=>by grind)
   grind
def y8 {cap:ml} {len c l r:Nat} (h:nJ cap len c) (hl:l<=r) (hr:r<=len) (hlc:len<=c):nJ (pA l cap) (r - l) (c - l):=by
 cases cap<;>simp only [nJ,pA] at *<;>omega
def Nq (l:Nat) (cap:ml):o6 (pA l cap)=o6 cap:=by cases cap<;>rfl
def rv {xs:List (List AV)} {cap:ml} {u:Value} (h:VR G (.sl xs cap) u):PR G.w G.T true (.sl xs cap) u:=by
 cases h<;>grind
def Hl (hW:WR G) (hC:gR P C) {el:Nat} (hd:P.underlying t=some (.slice el)) (hTe:mz P el ti) {x v:AV} {x':Value} {lo hi mx:Option AV} {lo' hi' mx':Option Value}
  (hx:VR G x x') (hl:OR G lo lo') (hh:OR G hi hi') (hm:OR G mx mx') (h:slice ti.size G.h x lo hi mx=some v) :
  ∃ u,(Instr.sliceAt t x' lo' hi' mx').run P G.w=.ok u G.w/\VR G v u:=by
 unfold slice at h
 split at h
 ·
  rename_i xs cap
  have hp:=rv hx
  unfold xN at h
  split at h
  ·rename_i l r e1 e2 e3
   split at h
   ·rename_i hb
    simp only [Bool.and_eq_true,Nat.ble_eq] at hb
    obtain ⟨⟨hlr,hrn⟩,hhead⟩:=hb
    simp only [pv,Option.some.injEq] at h
    subst h
    cases hp with
    | slnil =>
      have hr0:r=0:=by grind
      have hl0:l=0:=by omega
      subst hr0; subst hl0
      exact ⟨_,mW hd hTe (mP (cap:=0) hl hh hm e1 (by omega) e3 hlr (by simp) (by simp) G.w true),.gf rfl (.slnil _)⟩
    | my _ _ a c hmk hc =>
      have hr0:r=0:=by grind
      have hl0:l=0:=by omega
      subst hr0; subst hl0
      refine ⟨_,mW hd hTe (mP (cap:=c) hl hh hm e1 (by omega) e3 hlr (by simp) (by simp) G.w true),?_⟩
      have hcc:nJ (pA 0 cap) 0 c:=by simpa using y8 (l:=0) (r:=0) hc (Nat.le_refl 0) (Nat.le_refl 0) (Nat.zero_le c)
      simp only [Option.getD_none,Nat.sub_zero,Option.map_some,List.drop_nil,List.take_nil]
      split
      ·exact .gf rfl (.my _ _ _ _ (λ_=>rfl) hcc)
      ·exact .gf rfl (.my _ _ _ _ (λ_=>rfl) hcc)
    | sl _ _ _ B base c e fr cap' esz f hmk hB hI hcap hle hz hc h1 hr1 =>
      refine ⟨_,mW hd hTe (mP (cap:=cap') hl hh hm e1 e2 e3 hlr (by grind) (by simp) G.w true),?_⟩
      simp only [Option.getD_none,Option.map_some]
      by_cases hlt:l<r
      ·rw [if_neg (by omega),oO]
       refine .gf rfl ?_
       exact PR.piece (.sl _ xs cap B base c e fr cap' esz f hmk hB hI hcap hle hz hc h1 hr1) (by grind) hhead hlt hrn (Nq l cap) (y8 hcap hlr hrn hle) (by omega)
      ·have hlr':r=l:=by omega
       subst hlr'
       have hcc:nJ (pA r cap) 0 (cap' - r):=by simpa using y8 (l:=r) (r:=r) hcap (Nat.le_refl _) hrn hle
       simp only [Nat.sub_self,List.take_zero]
       split<;>exact .gf rfl (.my _ _ _ _ (λ_=>rfl) hcc)
   ·cases h
  ·rename_i l r m e1 e2 e3
   split at h
   ·rename_i hb
    simp only [Bool.and_eq_true,Nat.ble_eq] at hb
    obtain ⟨⟨⟨hlr,hrm⟩,hmn⟩,hhead⟩:=hb
    simp only [pv] at h
    have hp':=hp
    cases hp with
    | slnil =>
      have hm0:m=0:=by grind
      subst hm0
      have hr0:r=0:=by omega
      have hl0:l=0:=by omega
      subst hr0; subst hl0
      simp only [List.drop_nil,List.take_nil,BW,zi,sQ,Option.some.injEq] at h
      subst h
      exact ⟨_,mW hd hTe (mP (cap:=0) hl hh hm e1 (by omega) e3 hlr (by simp) (by simp) G.w true),.gf rfl (.slnil _)⟩
    | my _ _ a c hmk hc =>
      have hm0:m=0:=by grind
      subst hm0
      have hr0:r=0:=by omega
      have hl0:l=0:=by omega
      subst hr0; subst hl0
      simp only [List.drop_nil,List.take_nil,BW,Option.some.injEq] at h
      subst h
      refine ⟨_,mW hd hTe (mP (cap:=c) hl hh hm e1 (by omega) e3 hlr (by simp) (by simp) G.w true),?_⟩
      simp only [Option.getD_some,Nat.sub_self,if_true]
      refine .gf rfl (.my _ _ _ _ (λ_=>rfl) ?_)
      cases cap<;>simp [zi,sQ,nJ] at hc ⊢
    | sl _ _ _ B base c e fr cap' esz f hmk hB hI hcap hle hz hc h1 hr1 =>
      refine ⟨_,mW hd hTe (mP (cap:=cap') hl hh hm e1 e2 e3 hlr (by grind) (by grind) G.w true),?_⟩
      simp only [Option.getD_some,Option.map_some]
      by_cases hlt:l<r
      ·rw [if_neg (by omega),oO]
       have hne:(xs.drop l).take (r - l)≠[]:=by
        intro h0
        have:=congrArg List.length h0
        grind
       have hv:v=.sl ((xs.drop l).take (r - l)) (sQ (m - l) cap):=by
        cases hq:(xs.drop l).take (r - l)<;>grind [BW]
       subst hv
       refine .gf rfl ?_
       refine PR.piece hp' (by grind) hhead hlt (by omega) ?_ ?_ (by omega)
       ·cases cap<;>rfl
       ·cases cap<;>simp only [nJ,sQ] at hcap ⊢<;>omega
      ·have hlr':r=l:=by omega
       subst hlr'
       simp only [Nat.sub_self,List.take_zero,BW,Option.some.injEq] at h
       subst h
       simp only [Nat.sub_self]
       have hcc:nJ (sQ (m - r) (zi cap)) 0 (m - r):=by cases cap<;>simp [zi,sQ,nJ] at hcap ⊢
       split<;>exact .gf rfl (.my _ _ _ _ (λ_=>rfl) hcc)
   ·cases h
  ·cases h
 ·
  rename_i b g off len
  unfold FA at h
  split at h
  ·rename_i g' z xs hget
   split at h
   ·cases h
   ·rename_i hgz
    simp only [Bool.and_eq_true,Nat.beq_eq] at hgz
    obtain ⟨rfl,rfl⟩:=hgz
    split at h
    ·rename_i l r m e1 e2 e3
     split at h
     ·rename_i hb
      simp only [Bool.and_eq_true,Nat.ble_eq] at hb
      obtain ⟨⟨hlr,hrn⟩,hmn⟩:=hb
      cases hx with
      | gf hp _=>simp [AV.iA] at hp
      | hs _ _ _ _ a cap' hbs hg hle hl' =>
        obtain ⟨lc,hpi,hcap,ha⟩:=hl' _ _ hget
        obtain ⟨c,e,hB,hxc,_⟩:=hW.fc _ _ _ _ _ hpi hget
        unfold EK at h
        split at h
        ·simp only [mA,Option.some.injEq] at h
         subst h
         refine ⟨_,mW hd hTe (mP (cap:=cap') hl hh hm e1 e2 e3 hlr (by grind) (by simp) G.w true),?_⟩
         simp only [Option.getD_none,Option.map_some]
         have hcond:∀ q:Addr,(0<cap' - l->q=⟨lc.B,lc.base+(off+l)*ti.size,none⟩)->VR G (.hs b g (off+l) (r - l)) (.slice (some q) (r - l) (cap' - l)):=by
          intro q hq
          refine .hs b g (off+l) (r - l) q (cap' - l) hbs hg (by omega) ?_
          grind
         grind [oO]
        ·rename_i mm
         simp only [Option.getD_some] at hmn
         split at h
         ·rename_i hrm
          have hrm:=Nat.le_of_ble_eq_true hrm
          have hrun:=mW (a:=some a) (len:=len) hd hTe (mP (P:=P) (len:=len) (cap:=cap') hl hh hm e1 e2 e3 hlr (by grind) (by grind) G.w true)
          split at h
          ·rename_i hlm
           have hlm:=Nat.eq_of_beq_eq_true hlm
           subst hlm
           cases h
           refine ⟨_,hrun,?_⟩
           have:r=l:=by omega
           subst this
           simp only [Option.getD_some,if_true,Nat.sub_self]
           exact .gf rfl (.my _ _ _ _ (λ_=>rfl) rfl)
          ·cases h
           exact ⟨_,hrun,.undef _⟩
         ·cases h
     ·cases h
    ·cases h
  ·cases h
 ·cases h
def Hz (hd:P.underlying t=some .string) {s:List UInt8} {b:ByteArray} {v:AV} {lo hi mx:Option AV} {lo' hi' mx':Option Value} (hs:b.data.toList=s)
  (hl:OR G lo lo') (hh:OR G hi hi') (hm:OR G mx mx') (h:J4 s lo hi mx=some v) :
  ∃ u,(Instr.sliceAt t (.string b) lo' hi' mx').run P G.w=.ok u G.w/\VR G v u:=by
 unfold J4 at h
 split at h
 ·rename_i l r e1 e2
  split at h
  ·rename_i hb
   simp only [Bool.and_eq_true,Nat.ble_eq] at hb
   simp only [pv,Option.some.injEq] at h
   subst h
   cases hm
   have hsz:=uO hs
   have hbd:=mP (P:=P) (len:=s.length) (cap:=s.length) hl hh OR.none e1 e2 (m:=none) rfl hb.1 (by grind) (by simp) G.w false
   refine ⟨.string (b.extract l r),?_,VR.str (by simp_all)⟩
   unfold Instr.sliceAt
   simp only [Sem.run_bind,run_underlying hd,Result.andThen_ok]
   simp_all [Instr.slice,run_underlying]
  ·cases h
 ·cases h
def G3 (hW:WR G) (hC:gR P C) {x:AV} {x':Value} {lo hi mx:Option AV} {lo' hi' mx':Option Value} {r:AV×au}
  (hx:VR G x x') (hl:OR G lo lo') (hh:OR G hi hi') (hm:OR G mx mx') (h:pF C G.h t x lo hi mx=some r):lO P G (Instr.sliceAt t x' lo' hi' mx') r:=by
 unfold pF at h
 split at h
 ·cases h
 ·rename_i ti hti
  obtain ⟨d,hd,_,hk⟩:=(hC.ty t ti hti).desc
  split at h
  ·rename_i el hki
   rw [hki] at hk
   have hk:d=.slice el:=hk
   subst hk
   split at h
   ·rename_i te hte
    obtain ⟨v,hv,rfl⟩:=kR h
    obtain ⟨u,hu,hvu⟩:=Hl hW hC hd (hC.ty el te hte) hx hl hh hm hv
    exact ⟨rfl,u,hu,hvu⟩
   ·cases h
  ·rename_i hki
   rw [hki] at hk
   have hk:d=.string:=hk
   subst hk
   split at h
   ·rename_i s hs
    obtain ⟨v,hv,rfl⟩:=kR h
    have:=str?_eq hs; subst this
    obtain ⟨b,rfl,hb⟩:=hx.s8
    obtain ⟨u,hu,hvu⟩:=Hz hd hb hl hh hm hv
    exact ⟨rfl,u,hu,hvu⟩
   ·cases h
  ·cases h
end
structure CR (G:Ga) (l:List AV) (vs:Array Value):Prop where
 len:l.length=vs.size
 one:∀ (i:Nat) (y:Value),vs[i]?=some y->y.oneCell'=true
 rel:∀ (i:Nat) (x:AV) (y:Value),l[i]?=some x->vs[i]?=some y->VC G x y
section
variable {P:Program} {C:gv} {G:Ga} {t:Nat} {ti:TI}
def PR.one {w:World} {T:Bool->Nat->Prop} {m:Bool} {v:AV} {u:Value} (h:PR w T m v u) (hv:v.gY=true):u.oneCell'=true:=by
 cases h<;>first
  | rfl
  | assumption
  | (simp [AV.gY] at hv)
def VR.one {v:AV} {u:Value} (h:VR G v u) (hv:v.gY=true):u.oneCell'=true:=by
 cases h with
 | gf _ h=>exact h.one hv
 | undef=>simp [AV.gY] at hv
 | la=>rfl
 | ptr=>rfl
 | hs=>rfl
 | hm=>rfl
 | gx=>rfl
 | agg=>simp [AV.gY] at hv
 | fG=>simp [AV.gY] at hv
theorem cells_one {u:Value} (h:u.oneCell'=true):u.cells = #[u]:=by
 cases u<;>simp_all [Value.oneCell',Value.cells]
def CR.mono {G':Ga} (E:Ext G G') {l:List AV} {vs:Array Value} (h:CR G l vs):CR G' l vs:=⟨h.len,h.one,λi x y hx hy=>(h.rel i x y hx hy).mono E⟩
def CR.agg {l:List AV} {vs:Array Value} (h:CR G l vs):VR G (.agg l) (.agg vs):=VR.EN (R:=VC G) (λ_ _ h=>h) h.len h.one h.rel
def Ko {x:AV} (hx:x.gY=true):x.lR=true:=by cases x<;>simp_all [AV.gY,AV.lR]
def qt {v:AV} {v':Value} {new:List AV} (hv:VR G v v') (h:cellsOf ti v=some new):CR G new v'.cells/\new.length=ti.size:=by
 unfold cellsOf at h
 split at h
 ·split at h
  ·rename_i l hl
   split at h
   ·rename_i hlen
    cases h
    have:=agg?_eq hl; subst this
    obtain ⟨vs,rfl,a,b,c⟩:=hv.uX
    exact ⟨⟨a,b,c⟩,Nat.eq_of_beq_eq_true hlen⟩
   ·cases h
  ·cases h
 ·split at h
  ·rename_i hb
   simp only [Bool.and_eq_true,Nat.beq_eq] at hb
   cases h
   have h1:=hv.one hb.1
   refine ⟨?_,by grind⟩
   rw [cells_one h1]
   refine ⟨by simp,?_,?_⟩
   ·grind
   ·intro i x y hx hy
    rw [Array.getElem?_eq_some_iff] at hy
    obtain ⟨hi,rfl⟩:=hy
    simp at hi
    subst hi
    simp at hx
    subst hx
    exact ⟨hv,Ko hb.1⟩
  ·cases h
theorem Ai:∀ (vs:List Value) (n off:Nat) (cells:Array Value) (k:Nat),
  ((vs.zipIdx n).foldl (λcs (x:Value×Nat)=>cs.setIfInBounds (off+x.2) x.1) cells)[k]?=if off+n<=k/\k<off+n+vs.length/\k<cells.size then vs[k - (off+n)]? else cells[k]?
 | [],n,off,cells,k=>by simp; omega
 | v::vs,n,off,cells,k=>by
   simp only [List.zipIdx_cons,List.foldl_cons]
   rw [Ai vs (n+1) off _ k]
   simp only [Array.size_setIfInBounds,Array.getElem?_setIfInBounds,List.length_cons]
   by_cases h1:k=off+n
   ·subst h1
    rw [if_neg (by omega)]
    by_cases h2:off+n<cells.size
    ·simp [h2]
    ·simp [h2]
   ·by_cases h2:off+(n+1)<=k/\k<off+(n+1)+vs.length/\k<cells.size
    ·rw [if_pos h2,if_pos (by omega)]
     rw [show k - (off+n)=(k - (off+(n+1)))+1 by omega]
     simp
    ·rw [if_neg h2,if_neg (by omega),if_neg (by omega)]
def xO {cs new r:List AV} {o:Nat} (h:lS cs o new=some r):o+new.length<=cs.length/\r.length=cs.length/\∀ k,r[k]?=if o<=k/\k<o+new.length then new[k - o]? else cs[k]?:=by
 unfold lS at h
 split at h
 ·rename_i hb
  have hb:=Nat.le_of_ble_eq_true hb
  simp only [pv,Option.some.injEq] at h
  subst h
  refine ⟨hb,by grind,λk=>?_⟩
  rw [List.append_assoc,List.getElem?_append]
  grind
 ·cases h
theorem CR.lS {cs new r:List AV} {o:Nat} {c vs:Array Value} (hc:CR G cs c) (hn:CR G new vs) (h:Sx.lS cs o new=some r) :
  ¬ (o+vs.size > c.size)/\CR G r (vs.zipIdx.foldl (λ(cs:Array Value) (x:Value×Nat)=>cs.setIfInBounds (o+x.2) x.1) c):=by
 obtain ⟨h1,h2,h3⟩:=xO h
 have hl:=hn.len
 have hcl:=hc.len
 refine ⟨by omega,?_⟩
 have key:∀ k,(vs.zipIdx.foldl (λ(cs:Array Value) (x:Value×Nat)=>cs.setIfInBounds (o+x.2) x.1) c)[k]?=if o<=k/\k<o+vs.size/\k<c.size then vs[k - o]? else c[k]?:=by
  intro k
  have:=Ai vs.toList 0 o c k
  simp only [Nat.add_zero,Array.length_toList,Array.getElem?_toList] at this
  rw [<- this,<- Array.foldl_toList,Array.toList_zipIdx]
 have hsz:(vs.zipIdx.foldl (λ(cs:Array Value) (x:Value×Nat)=>cs.setIfInBounds (o+x.2) x.1) c).size=c.size:=by
  have h0:∀ (l:List (Value×Nat)) (a:Array Value),(l.foldl (λ(cs:Array Value) (x:Value×Nat)=>cs.setIfInBounds (o+x.2) x.1) a).size=a.size:=by
   intro l
   induction l<;>grind
  rw [<- Array.foldl_toList]
  grind
 refine ⟨by omega,?_,?_⟩
 ·intro i y hy
  rw [key] at hy
  split at hy
  ·exact hn.one _ y hy
  ·exact hc.one _ y hy
 ·intro i x y hx hy
  rw [key] at hy
  rw [h3] at hx
  split at hy
  ·rw [if_pos (by omega)] at hx
   exact hn.rel _ x y hx hy
  ·rename_i hne
   split at hx
   ·omega
   ·exact hc.rel _ x y hx hy
def yk {place:Nat->Option (Nat×Nat)} (hC:gR P C)
  (hplace:∀ i off ft,(match ti.kind with
    | .struct fs=>fs[i]?
    | .array n el=>match C.T el with
      | some t=>if i<n then some (i*t.size,el) else none
      | none=>none
    | _=>none)=some (off,ft)->∀ tf,C.T ft=some tf->place i=some (off,tf.size)) :
  ∀ {ps:List (Nat×AV)} {ps':List (Nat×Value)} {cs r:List AV} {c:Array Value},ps.length=ps'.length->(∀ (i:Nat) p q,ps[i]?=some p->ps'[i]?=some q->p.1=q.1/\VR G p.2 q.2)->CR G cs c ->
    sG C ti ps cs=some r->∃ rc,Instr.fill place c ps'=some rc/\CR G r rc
 | [],[],cs,r,c,_,_,hc,h=>by
   simp only [sG,Option.some.injEq] at h
   subst h
   exact ⟨c,rfl,hc⟩
 | [],_::_,_,_,_,hl,_,_,_=>by simp at hl
 | _::_,[],_,_,_,hl,_,_,_=>by simp at hl
 | (i,v)::ps,(i',v')::ps',cs,r,c,hl,hr,hc,h=>by
   obtain ⟨e,hv⟩:=hr 0 (i,v) (i',v') rfl rfl
   simp only at e hv
   subst e
   simp only [sG] at h
   split at h
   ·cases h
   ·rename_i off ft hp
    split at h
    ·cases h
    ·rename_i tf htf
     split at h
     ·cases h
     ·rename_i new hnew
      split at h
      ·split at h
       ·cases h
       ·rename_i cs2 hs
        have hpl:=hplace i off ft hp tf htf
        obtain ⟨hcr,hlen⟩:=qt hv hnew
        obtain ⟨hgt,hc2⟩:=hc.lS hcr hs
        obtain ⟨rc,hrc,hrr⟩:=yk hC hplace (by grind) (λj p q hp hq=>hr (j+1) p q hp hq) hc2 h
        refine ⟨rc,?_,hrr⟩
        simp only [Instr.fill,hpl]
        rw [if_neg]
        ·exact hrc
        ·have hsz:v'.cells.size=tf.size:=by rw [<- hcr.len,hlen]
         grind
      ·cases h
def mz.uE (hT:mz P t ti):∃ i z,P.info? t=some i/\i.zero=some z/\CR G ti.zero z.cells/\z.cells.size=ti.size/\(ti.agg=true->∃ cs,z=.agg cs)/\(ti.agg=false->z.oneCell'=true):=by
 obtain ⟨i,z,h1,h2,h3,h4,h5,h6,h7,h8,h9⟩:=hT.info
 refine ⟨i,z,h1,h4,⟨by grind,?_,?_⟩,h6,h8,h9⟩
 ·grind
 ·intro i x y hx hy
  rw [h5,List.getElem?_map,Array.getElem?_toList,hy] at hx
  simp only [Option.map_some,Option.some.injEq] at hx
  subst hx
  have h1c:=h7 y (Array.mem_toList_iff.2 (Array.mem_of_getElem? hy))
  unfold GY
  split<;>refine ⟨?_,rfl⟩<;>first
   | exact VR.bool _
   | exact VR.int _ _
   | exact VR.str rfl
   | exact .gf rfl (.iL _)
   | exact .gf rfl (.slnil _)
   | exact .gf rfl (.iw _)
   | exact .gf rfl (.j7 _)
   | exact .undef _
def Hm (hC:gR P C) {ps:List (Nat×AV)} {ps':Array (Nat×Value)} {r:AV×au} (hl:ps.length=ps'.size)
  (hr:∀ (i:Nat) p q,ps[i]?=some p->ps'[i]?=some q->p.1=q.1/\VR G p.2 q.2) (h:zH C G.h t ps=some r):lO P G (Instr.build t ps') r:=by
 unfold zH at h
 split at h
 ·rename_i ti hti
  split at h
  case h_2=>cases h
  rename_i hbl
  split at h
  ·rename_i cs hcs
   cases h
   have hT:=hC.ty t ti hti
   obtain ⟨i,z,hi,hz,hcr,hsz,_,_⟩:=hT.uE (G:=G)
   obtain ⟨d,hd,_,hk⟩:=hT.desc
   have main:∃ rc,P.built t ps'.toList=some rc/\CR G cs rc:=by
    cases hki:ti.kind with
    | struct fs =>
      rw [hki] at hk
      obtain ⟨F,rfl,hfs,hsz⟩:=hk
      have hplaces:∃ places:List (Nat×Nat),F.toList.mapM (λf=>(P.info? f.type).map λi=>(f.offset,i.size))=some places/\∀ (j:Nat) (f:Field),F.toList[j]?=some f->∃ i,P.info? f.type=some i/\places[j]?=some (f.offset,i.size):=by
       clear hfs hd
       generalize F.toList=fl at hsz
       induction fl with
       | nil=>simp
       | cons f fl ih =>
         obtain ⟨pl,h1,h2⟩:=ih (λg hg=>hsz g (by simp [hg]))
         obtain ⟨i,hi,hne⟩:=hsz f (by simp)
         refine ⟨(f.offset,i.size)::pl,by grind,?_⟩
         grind
      obtain ⟨places,hpl,hpg⟩:=hplaces
      obtain ⟨rc,h1,h2⟩:=yk (place:=λk=>places.toArray[k]?) (ti:=ti) hC (by
       intro k off ft hk2 tf htf
       rw [hki] at hk2
       simp only [hfs,List.getElem?_map,Option.map_eq_some_iff,Prod.mk.injEq] at hk2
       obtain ⟨f,hf,rfl,rfl⟩:=hk2
       obtain ⟨i2,hi2,hp2⟩:=hpg k f hf
       have:=(hC.ty _ tf htf).Ns
       grind) (ps':=ps'.toList) (by omega) (λj p q hp hq=>hr j p q hp (by grind)) hcr hcs
      grind [Program.built]
    | array n el =>
      rw [hki] at hk
      have hk:d=.array n el:=hk
      subst hk
      cases hte:C.T el with
      | none =>
        grind [buildable]
      | some te =>
        have hTe:=hC.ty el te hte
        obtain ⟨ie,_,hie,hisz,_⟩:=hTe.info
        obtain ⟨rc,h1,h2⟩:=yk (place:=λk=>some (k*ie.size,ie.size)) (ti:=ti) hC (by
         grind) (ps':=ps'.toList) (by omega) (λj p q hp hq=>hr j p q hp (by grind)) hcr hcs
        grind [Program.built]
    | _=>rw [hki] at hbl; simp [buildable] at hbl
   obtain ⟨rc,h1,h2⟩:=main
   exact ⟨rfl,.agg rc,run_build G.w t ps' rc h1,h2.agg⟩
  ·cases h
 ·cases h
end
namespace Tr
variable {α β:Type}
theorem pj (x : α):∀ (f n:Nat) (t:Tr α) {γ:Type} (k:Tr α->γ),ins x f n t k=k (ins x f n t id)
 | 0,_,_,_,_=>by rfl
 | f+1,n,.leaf,_,k=>by
   cases n with
   | zero=>simp [ins]
   | succ m =>
     simp only [ins]
     split
     ·rw [pj x f (m / 2) .leaf,pj x f (m / 2) .leaf (λl=>id (Tr.node l none .leaf))]; rfl
     ·rw [pj x f (m / 2) .leaf,pj x f (m / 2) .leaf (λr=>id (Tr.node .leaf none r))]; rfl
 | f+1,n,.node l v r,_,k=>by
   cases n with
   | zero=>simp [ins]
   | succ m =>
     simp only [ins]
     split
     ·rw [pj x f (m / 2) l,pj x f (m / 2) l (λl=>id (Tr.node l v r))]; rfl
     ·rw [pj x f (m / 2) r,pj x f (m / 2) r (λq=>id (Tr.node l v q))]; rfl
theorem FX (n:Nat):(Tr.leaf:Tr α).get n=none:=by rfl
theorem uo (x : α):∀ (f n:Nat) (t:Tr α) (m:Nat),n<f->(ins x f n t id).get m=if m=n then some x else t.get m
 | 0,_,_,_,h=>by omega
 | f+1,n,.leaf,m,h=>by
   cases n with
   | zero =>
     simp only [ins,id]
     cases m with
     | zero=>simp [get]
     | succ m=>simp only [get]; split<;>simp [get]
   | succ n =>
     simp only [ins]
     have hf:n / 2<f:=by omega
     split
     ·rename_i hn
      rw [pj]
      simp only [id]
      cases m with
      | zero=>simp [get]
      | succ m =>
        simp only [get]
        split
        ·rename_i hm
         rw [uo x f (n / 2) .leaf (m / 2) hf]
         simp only [Nat.beq_eq] at hn hm
         by_cases e:m=n
         ·subst e; simp
         ·rw [if_neg (by omega),if_neg (by omega)]; simp [FX]
        ·rename_i hm
         have:¬ (m+1=n+1):=by
          intro e; have:m=n:=by omega
          subst this; rw [hn] at hm; cases hm
         rw [if_neg this]
     ·rename_i hn
      rw [pj]
      simp only [id]
      cases m with
      | zero=>simp [get]
      | succ m =>
        simp only [get]
        split
        ·rename_i hm
         have:¬ (m+1=n+1):=by
          intro e; have:m=n:=by omega
          subst this; rw [hn] at hm; cases hm
         rw [if_neg this]
        ·rename_i hm
         rw [uo x f (n / 2) .leaf (m / 2) hf]
         have hn':n % 2≠0:=by intro h0; rw [h0] at hn; cases hn
         have hm':m % 2≠0:=by intro h0; rw [h0] at hm; cases hm
         by_cases e:m=n
         ·subst e; simp
         ·rw [if_neg (by omega),if_neg (by omega)]; simp [FX]
 | f+1,n,.node l v r,m,h=>by
   cases n with
   | zero =>
     simp only [ins,id]
     cases m with
     | zero=>simp [get]
     | succ m=>simp [get]
   | succ n =>
     simp only [ins]
     have hf:n / 2<f:=by omega
     split
     ·rename_i hn
      rw [pj]
      simp only [id]
      cases m with
      | zero=>simp [get]
      | succ m =>
        simp only [get]
        split
        ·rename_i hm
         rw [uo x f (n / 2) l (m / 2) hf]
         simp only [Nat.beq_eq] at hn hm
         by_cases e:m=n
         ·subst e; simp
         ·rw [if_neg (by omega),if_neg (by omega)]
        ·rename_i hm
         have:¬ (m+1=n+1):=by
          intro e; have:m=n:=by omega
          subst this; rw [hn] at hm; cases hm
         rw [if_neg this]
     ·rename_i hn
      rw [pj]
      simp only [id]
      cases m with
      | zero=>simp [get]
      | succ m =>
        simp only [get]
        split
        ·rename_i hm
         have:¬ (m+1=n+1):=by
          intro e; have:m=n:=by omega
          subst this; rw [hn] at hm; cases hm
         rw [if_neg this]
        ·rename_i hm
         rw [uo x f (n / 2) r (m / 2) hf]
         have hn':n % 2≠0:=by intro h0; rw [h0] at hn; cases hn
         have hm':m % 2≠0:=by intro h0; rw [h0] at hm; cases hm
         by_cases e:m=n
         ·subst e; simp
         ·rw [if_neg (by omega),if_neg (by omega)]
end Tr
theorem au.zJ (h:au) (b:Nat) (o:jM):h.set b o=⟨h.tr.ins o (b+1) b id,h.size,h.lo,h.aT⟩:=by
 grind [au.set,Pg,Tr.pj]
theorem au.xc (h:au) (o:jM):h.push o=⟨h.tr.ins o (h.size+1) h.size id,h.size+1,h.lo,h.aT⟩:=by
 grind [au.push,Pg,mA,Tr.pj]
theorem au.ja (h:au) (b b':Nat) (o:jM):(h.set b o).get b'=if b'=b/\h.lo<=b then some o else h.get b':=by
 rw [au.zJ]
 simp only [au.get]
 by_cases hl:h.lo<=b'
 ·rw [Nat.ble_eq_true_of_le hl]
  grind [Tr.uo]
 ·have:Nat.ble h.lo b'=false:=by
   cases hq:Nat.ble h.lo b' with
   | false=>rfl
   | true=>exact absurd (Nat.le_of_ble_eq_true hq) hl
  grind
theorem au.nU (h:au) (b':Nat) (o:jM) (hlo:h.lo<=h.size):(h.push o).get b'=if b'=h.size then some o else h.get b':=by
 rw [au.xc]
 simp only [au.get]
 by_cases hl:h.lo<=b'
 ·rw [Nat.ble_eq_true_of_le hl]
  grind [Tr.uo]
 ·have:Nat.ble h.lo b'=false:=by
   cases hq:Nat.ble h.lo b' with
   | false=>rfl
   | true=>exact absurd (Nat.le_of_ble_eq_true hq) hl
  grind
@[simp] theorem au.size_push (h:au) (o:jM):(h.push o).size=h.size+1:=by rw [au.xc]
@[simp] theorem au.QL (h:au) (o:jM):(h.push o).lo=h.lo:=by rw [au.xc]
@[simp] theorem au.YZ (h:au) (o:jM):(h.push o).aT=h.aT:=by rw [au.xc]
@[simp] theorem au.size_set (h:au) (b:Nat) (o:jM):(h.set b o).size=h.size:=by rw [au.zJ]
@[simp] theorem au.abi (h:au) (b:Nat) (o:jM):(h.set b o).lo=h.lo:=by rw [au.zJ]
@[simp] theorem au.aa0 (h:au) (b:Nat) (o:jM):(h.set b o).aT=h.aT:=by rw [au.zJ]
theorem au.kV {h:au} {b:Nat} {o:jM} (e:h.get b=some o):h.lo<=b:=by
 unfold au.get at e
 split at e<;>simp_all
class DD where
 d:Prop
instance d0:DD:=⟨False⟩
variable [DD]
def qY (w w':World):Prop:=w'.tape=w.tape/\(DD.d->w.drawn<=w'.drawn)
theorem qY.rfl (w:World):qY w w:=⟨Eq.refl _,λ_=>Nat.le_refl _⟩
theorem qY.trans {u v w:World} (k:qY v w) (h:qY u v):qY u w:=⟨k.1.trans h.1,λd=>Nat.le_trans (h.2 d) (k.2 d)⟩
structure Step (G G':Ga):Prop where
 ext:Ext G G'
 os:G'.w.os=G.w.os
 output:G'.w.output=G.w.output
 tape:qY G.w G'.w
 jd:G.w.heap.size<=G'.w.heap.size
 frame:∀ B,B<G.w.heap.size->(∀ b l,G.pi b=some l->l.B≠B)->(∀ d B',G.L d=some B'->B'≠B)->G'.w.heap[B]?=G.w.heap[B]?
 lI:∀ b l',G'.pi b=some l'->(∃ l,G.pi b=some l/\l.B=l'.B)\/G.w.heap.size<=l'.B
 mQ:∀ b l',G'.pi b=some l'->(G.pi b).isSome=true\/G.h.size<=b
 qG:∀ s B,G'.T s B->G.T s B\/G.w.heap.size<=B
 lo:G'.h.lo=G.h.lo
 out:∀ b,b<G.h.size->G.pi b=none->G'.h.get b=G.h.get b
 o7:∀ d B,G'.L d=some B->G.L d=some B\/G.w.heap.size<=B
 rk:∀ d B,G'.L d=some B->(G.L d).isSome=true\/gM G.h.aT d=none
 rX:∀ d c,G.L d=none->gM G.h.aT d=some c->gM G'.h.aT d=some c
def Step.refl (G:Ga):Step G G where
 ext:=.refl G
 os:=rfl
 output:=rfl
 tape:=.rfl _
 jd:=Nat.le_refl _
 frame:=λ_ _ _ _=>rfl
 lI:=λ_ l h=>.inl ⟨l,h,rfl⟩
 mQ:=λ_ _ h=>.inl (by simp [h])
 qG:=λ_ _ h=>.inl h
 lo:=rfl
 out:=λ_ _ _=>rfl
 o7:=λ_ _ h=>.inl h
 rk:=λ_ _ h=>.inl (by simp [h])
 rX:=λ_ _ _ h=>h
theorem Step.trans {A B C:Ga} (h:Step A B) (k:Step B C):Step A C where
 ext:=h.ext.trans k.ext
 os:=k.os.trans h.os
 output:=k.output.trans h.output
 tape:=k.tape.trans h.tape
 jd:=Nat.le_trans h.jd k.jd
 frame:=by
  intro X hX hp hL
  rw [k.frame X (Nat.lt_of_lt_of_le hX h.jd),h.frame X hX hp hL]
  ·intro b l hl
   rcases h.lI b l hl with ⟨l0,h0,e⟩ | hge<;>grind
  ·intro d B' hd
   rcases h.o7 d B' hd with h0 | hge<;>grind
 lI:=by
  intro b l hl
  rcases k.lI b l hl with ⟨l0,h0,e⟩ | hge
  ·rcases h.lI b l0 h0 with ⟨l1,h1,e1⟩ | hge<;>grind
  ·exact .inr (Nat.le_trans h.jd hge)
 mQ:=by
  intro b l hl
  rcases k.mQ b l hl with h0 | hge
  ·obtain ⟨l0,h0⟩:=Option.isSome_iff_exists.1 h0
   exact h.mQ b l0 h0
  ·exact .inr (Nat.le_trans h.ext.size hge)
 qG:=by
  intro s X hX
  rcases k.qG s X hX with h0 | hge
  ·exact h.qG s X h0
  ·exact .inr (Nat.le_trans h.jd hge)
 lo:=k.lo.trans h.lo
 out:=by
  intro b hb hn
  have hB:B.pi b=none:=by
   cases hq:B.pi b with
   | none=>rfl
   | some l =>
     rcases h.mQ b l hq with h0 | hge<;>grind
  rw [k.out b (Nat.lt_of_lt_of_le hb h.ext.size) hB,h.out b hb hn]
 o7:=by
  intro d X hd
  rcases k.o7 d X hd with h0 | hge
  ·exact h.o7 d X h0
  ·exact .inr (Nat.le_trans h.jd hge)
 rk:=by
  intro d X hd
  rcases k.rk d X hd with h0 | h0
  ·obtain ⟨Y,hY⟩:=Option.isSome_iff_exists.1 h0
   exact h.rk d Y hY
  ·cases hq:gM A.h.aT d with
   | none=>simp
   | some c =>
     cases hl:A.L d with
     | some Y=>simp
     | none=>rw [h.rX d c hl hq] at h0; cases h0
 rX:=by
  intro d c hn hd
  have hB:B.L d=none:=by
   cases hq:B.L d with
   | none=>rfl
   | some Y =>
     rcases h.rk d Y hq with h0 | h0<;>grind
  exact k.rX d c hB (h.rX d c hn hd)
def ng.mono {G G':Ga} {l:Loc} {z:Nat} {xs:List (List AV)} (h:ng G l z xs) (E:Ext G G') (hw:G'.w.heap[l.B]?=G.w.heap[l.B]?):ng G' l z xs:=by
 obtain ⟨c,e,hB,h1,h2,h3,h4⟩:=h
 refine ⟨c,e,by grind,h1,h2,h3,?_⟩
 intro i cs j x hi hj
 obtain ⟨v,a,b,d⟩:=h4 i cs j x hi hj
 exact ⟨v,a,b,d.mono E⟩
def rh.mono {G G':Ga} {r:Nat} {es:List (AV×AV×Nat)} {c:Nat} (h:rh G r es c) (E:Ext G G') (hw:G'.w.heap[r]?=G.w.heap[r]?):rh G' r es c:=by
 obtain ⟨ents,hB,hl,hy,hr⟩:=h
 refine ⟨ents,by grind,hl,hy,?_⟩
 intro i p e hi he
 obtain ⟨a,b,c,d⟩:=hr i p e hi he
 exact ⟨a,b.mono E.T E.keep,c.mono E,d⟩
def vF.mono {G G':Ga} {B:Nat} {cs:List AV} (h:vF G B cs) (E:Ext G G') (hw:G'.w.heap[B]?=G.w.heap[B]?):vF G' B cs:=by
 obtain ⟨c,e,hB,h1,h2,h3⟩:=h
 exact ⟨c,e,by rw [hw]; exact hB,h1,λi x v hx hv=>(h2 i x v hx hv).mono E,h3⟩
end Go.Sx
namespace Go.Sx
open Go
variable [DD]
structure iX (w w':World) (o:Obj):Prop where
 heap:w'.heap=w.heap.push o
 os:w'.os=w.os
 output:w'.output=w.output
 tape:qY w w'
section
variable {P:Program} {C:gv} {G:Ga} {w':World} {o:Obj}
theorem iX.alloc (w:World) (o:Obj):iX w (w.alloc o) o:=⟨rfl,rfl,rfl,rfl,λ_=>Nat.le_refl _⟩
theorem iX.drew (w:World) (o:Obj):iX w (w.drew.alloc o) o:=⟨rfl,rfl,rfl,rfl,λ_=>Nat.le_succ _⟩
theorem iX.size (h:iX G.w w' o):w'.heap.size=G.w.heap.size+1:=by rw [h.heap]; simp
def iX.ri (h:iX G.w w' o) {B:Nat} (hB:B<G.w.heap.size):w'.heap[B]?=G.w.heap[B]?:=by
 rw [h.heap,Array.getElem?_push,if_neg (by omega)]
def iX.new (h:iX G.w w' o):w'.heap[G.w.heap.size]?=some o:=by
 rw [h.heap,Array.getElem?_push,if_pos rfl]
def mq {α:Type} (f:Nat->α) (n:Nat) (v : α):Nat->α:=λm=>if m=n then v else f m
theorem kj {α:Type} (f:Nat->α) (n:Nat) (v : α):mq f n v n=v:=by simp [mq]
theorem mK {α:Type} {f:Nat->α} {n m:Nat} {v : α} (h:m≠n):mq f n v m=f m:=by simp [mq,h]
theorem WR.keep (hW:WR G) {G':Ga} (E:Ext G G') (hold:∀ B,B<G.w.heap.size->G'.w.heap[B]?=G.w.heap[B]?) :
  (∀ b l g z xs,G.pi b=some l->G.h.get b=some (.fc g z xs)->ng G' l z xs)/\(∀ b l es c,G.pi b=some l->G.h.get b=some (.map es c)->rh G' l.B es c) /\
  (∀ d B cs,G.L d=some B->gM G.h.aT d=some cs->vF G' B cs) :=
 ⟨λb l _ _ _ hp hg=>(hW.fc b l _ _ _ hp hg).mono E (hold _ (hW.iU b l hp).1),λb l _ _ hp hg=>(hW.map b l _ _ hp hg).mono E (hold _ (hW.iU b l hp).1),
   λd B cs hL hd=>(hW.loc d B cs hL hd).mono E (hold _ (hW.kN d B hL).1)⟩
def G8 (hW:WR G) {b:Nat} (h:G.h.size<=b):G.pi b=none:=by
 cases hq:G.pi b with
 | none=>rfl
 | some l=>have:=(hW.iU b l hq).2; omega
structure tz (G G':Ga) (bs ds:Nat->Prop):Prop where
 ext:Ext G G'
 os:G'.w.os=G.w.os
 output:G'.w.output=G.w.output
 tape:qY G.w G'.w
 jd:G.w.heap.size<=G'.w.heap.size
 frame:∀ B,B<G.w.heap.size->G'.w.heap[B]?=G.w.heap[B]?
 lI:∀ b l',G'.pi b=some l'->G.pi b=some l'\/G.w.heap.size<=l'.B
 mQ:∀ b l',G'.pi b=some l'->(G.pi b).isSome=true\/bs b
 T:G'.T=G.T
 h:G'.h=G.h
 o7:∀ d B,G'.L d=some B->G.L d=some B\/G.w.heap.size<=B
 rk:∀ d B,G'.L d=some B->(G.L d).isSome=true\/ds d
theorem Step.fill {A B D:Ga} {bs ds:Nat->Prop} (h:Step A B) (k:tz B D bs ds) (hb:∀ b,bs b->A.h.size<=b) (hd:∀ d,ds d->gM A.h.aT d=none):Step A D where
 ext:=h.ext.trans k.ext
 os:=k.os.trans h.os
 output:=k.output.trans h.output
 tape:=k.tape.trans h.tape
 jd:=Nat.le_trans h.jd k.jd
 frame:=by
  intro X hX hp hL
  rw [k.frame X (Nat.lt_of_lt_of_le hX h.jd),h.frame X hX hp hL]
 lI:=by
  intro b l hl
  rcases k.lI b l hl with h0 | hge
  ·exact h.lI b l h0
  ·exact .inr (Nat.le_trans h.jd hge)
 mQ:=by
  intro b l hl
  rcases k.mQ b l hl with h0 | h0
  ·obtain ⟨l0,h0⟩:=Option.isSome_iff_exists.1 h0
   exact h.mQ b l0 h0
  grind
 qG:=by
  intro s X hX
  rw [k.T] at hX
  exact h.qG s X hX
 lo:=by rw [k.h]; exact h.lo
 out:=by
  intro b hb2 hn
  rw [k.h]
  exact h.out b hb2 hn
 o7:=by
  intro d X hX
  rcases k.o7 d X hX with h0 | hge
  ·exact h.o7 d X h0
  ·exact .inr (Nat.le_trans h.jd hge)
 rk:=by
  intro d X hX
  rcases k.rk d X hX with h0 | h0
  ·obtain ⟨Y,hY⟩:=Option.isSome_iff_exists.1 h0
   exact h.rk d Y hY
  grind
 rX:=by
  intro d c hn hdc
  rw [k.h]
  exact h.rX d c hn hdc
def Kb (hW:WR G) (ob:jM):Step G ⟨G.w,G.T,G.h.push ob,G.pi,G.L⟩/\WR ⟨G.w,G.T,G.h.push ob,G.pi,G.L⟩:=by
 have hg:∀ b,(G.h.push ob).get b=if b=G.h.size then some ob else G.h.get b:=λb=>au.nU _ _ _ hW.lo
 have hne:∀ b l,G.pi b=some l->b≠G.h.size:=by
  intro b l hp
  have:=(hW.iU b l hp).2
  omega
 have E:Ext G ⟨G.w,G.T,G.h.push ob,G.pi,G.L⟩:=by
  refine ⟨λ_ _ h=>h,λ_ _ _=>rfl,by simp,?_,?_,λ_ _ h=>h⟩<;>grind
 refine ⟨⟨E,rfl,rfl,.rfl _,Nat.le_refl _,λ_ _ _ _=>rfl,λb l h=>.inl ⟨l,h,rfl⟩,λb l h=>.inl (Option.isSome_iff_exists.2 ⟨l,h⟩),λ_ _ h=>.inl h,by simp,?_,λ_ _ h=>.inl h,λ_ _ h=>.inl (Option.isSome_iff_exists.2 ⟨_,h⟩),?_⟩,?_⟩
 ·grind
 ·simp
 ·constructor
  ·intro b l g z xs hp h
   simp only [hg] at h
   rw [if_neg (hne b l hp)] at h
   exact (hW.fc b l g z xs hp h).mono E rfl
  ·intro b l es c hp h
   simp only [hg] at h
   rw [if_neg (hne b l hp)] at h
   exact (hW.map b l es c hp h).mono E rfl
  ·intro d B cs hL hd
   exact (hW.loc d B cs hL (by simp_all)).mono E rfl
  ·intro b l hp
   have:=hW.iU b l hp
   exact ⟨this.1,by simp; omega⟩
  ·exact hW.ma
  ·exact hW.qf
  ·exact hW.ou
  ·exact hW.LT
  ·exact hW.oT
  ·intro d B hL
   have:=hW.kN d B hL
   simp_all
  ·exact hW.mv
  ·simp only [au.QL,au.size_push]
   have:=hW.lo
   omega
  ·intro b ob' h
   simp only [hg] at h
   simp only [au.size_push]
   by_cases e:b=G.h.size
   ·omega
   ·rw [if_neg e] at h
    have:=hW.lt b ob' h
    omega
def T9 (hW:WR G) {d:Nat} (cs:List AV) (hd:gM G.h.aT d=none):Step G ⟨G.w,G.T,{ G.h with aT:=(d,cs)::G.h.aT },G.pi,G.L⟩/\WR ⟨G.w,G.T,{ G.h with aT:=(d,cs)::G.h.aT },G.pi,G.L⟩:=by
 have hl:∀ x,gM ((d,cs)::G.h.aT) x=if x=d then some cs else gM G.h.aT x:=by
  intro x
  simp only [gM]
  cases hq:Nat.beq x d with
  | true=>simp_all
  | false=>rw [if_neg (Nat.ne_of_beq_eq_false hq)]
 have hne:∀ x B,G.L x=some B->x≠d:=by
  rintro x B hx rfl
  have:=(hW.kN x B hx).2
  grind
 have E:Ext G ⟨G.w,G.T,{ G.h with aT:=(d,cs)::G.h.aT },G.pi,G.L⟩ :=
  ⟨λ_ _ h=>h,λ_ _ _=>rfl,Nat.le_refl _,λ_ _ g z xs h=>⟨g,z,xs,h,Nat.le_refl _,λ_=>⟨rfl,λ_ h=>h⟩⟩,λ_ _ es c h=>⟨es,c,h,λ_ h=>h⟩,λ_ _ h=>h⟩
 refine ⟨⟨E,rfl,rfl,.rfl _,Nat.le_refl _,λ_ _ _ _=>rfl,λb l h=>.inl ⟨l,h,rfl⟩,λb l h=>.inl (Option.isSome_iff_exists.2 ⟨l,h⟩),λ_ _ h=>.inl h,rfl,λ_ _ _=>rfl,λ_ _ h=>.inl h,λ_ _ h=>.inl (Option.isSome_iff_exists.2 ⟨_,h⟩),?_⟩,?_⟩
 ·grind
 ·constructor
  ·exact λb l g z xs hp h=>(hW.fc b l g z xs hp h).mono E rfl
  ·exact λb l es c hp h=>(hW.map b l es c hp h).mono E rfl
  ·intro x B cx hL hx
   simp only [hl] at hx
   rw [if_neg (hne x B hL)] at hx
   exact (hW.loc x B cx hL hx).mono E rfl
  ·exact hW.iU
  ·exact hW.ma
  ·exact hW.qf
  ·exact hW.ou
  ·exact hW.LT
  ·exact hW.oT
  ·intro x B hL
   refine ⟨(hW.kN x B hL).1,?_⟩
   simp only [hl]
   rw [if_neg (hne x B hL)]
   exact (hW.kN x B hL).2
  ·exact hW.mv
  ·exact hW.lo
  ·exact hW.lt
def uL (hW:WR G) {b0:Nat} {ob:jM} {cap:Nat} (hA:iX G.w w' o) (hget:G.h.get b0=some ob) (hn:G.pi b0=none)
  (hblk:∀ g z xs,ob=.fc g z xs->∀ G',Ext G G'->G'.w.heap[G.w.heap.size]?=some o->ng G' ⟨G.w.heap.size,0,cap⟩ z xs)
  (hmap:∀ es c,ob=.map es c->∀ G',Ext G G'->G'.w.heap[G.w.heap.size]?=some o->rh G' G.w.heap.size es c) :
  tz G ⟨w',G.T,G.h,mq G.pi b0 (some ⟨G.w.heap.size,0,cap⟩),G.L⟩ (·=b0) (λ_=>False)/\WR ⟨w',G.T,G.h,mq G.pi b0 (some ⟨G.w.heap.size,0,cap⟩),G.L⟩:=by
 have hne:∀ b l,G.pi b=some l->b≠b0:=by
  grind
 have hup:∀ b l,G.pi b=some l->mq G.pi b0 (some ⟨G.w.heap.size,0,cap⟩) b=some l:=by
  grind [mK]
 have E:Ext G ⟨w',G.T,G.h,mq G.pi b0 (some ⟨G.w.heap.size,0,cap⟩),G.L⟩ :=
  ⟨λ_ _ h=>h,λs B hB=>hA.ri (hW.mv s B hB),Nat.le_refl _,λb _ g z xs h=>⟨g,z,xs,h,Nat.le_refl _,λ_=>⟨rfl,hup b⟩⟩,λb _ es c h=>⟨es,c,h,hup b⟩,λ_ _ h=>h⟩
 obtain ⟨k1,k2,k3⟩:=hW.keep E (λB hB=>hA.ri hB)
 have hdom:∀ b l,mq G.pi b0 (some ⟨G.w.heap.size,0,cap⟩) b=some l->(b=b0/\l=⟨G.w.heap.size,0,cap⟩)\/(b≠b0/\G.pi b=some l):=by
  grind [kj,mK]
 refine ⟨⟨E,hA.os,hA.output,hA.tape,by rw [hA.size]; omega,λB hB=>hA.ri hB,?_,?_,rfl,rfl,λ_ _ h=>.inl h,λ_ _ h=>.inl (Option.isSome_iff_exists.2 ⟨_,h⟩)⟩,?_⟩
 ·grind
 ·grind
 ·have hnew:w'.heap[G.w.heap.size]?=some o:=hA.new
  constructor
  ·grind
  ·grind
  ·exact k3
  ·intro b l hp
   rcases hdom b l hp with ⟨rfl,rfl⟩ | ⟨_,hp⟩
   ·exact ⟨by grind,hW.lt _ _ hget⟩
   ·have:=hW.iU b l hp
    grind
  ·intro b b' l l' hp hp' he
   rcases hdom b l hp with ⟨rfl,rfl⟩ | ⟨_,hq⟩
   ·rcases hdom b' l' hp' with ⟨rfl,rfl⟩ | ⟨_,hq'⟩
    ·rfl
    ·have:=(hW.iU b' l' hq').1
     grind
   ·rcases hdom b' l' hp' with ⟨rfl,rfl⟩ | ⟨_,hq'⟩
    ·have:=(hW.iU b l hq).1
     grind
    ·exact hW.ma b b' l l' hq hq' he
  ·intro s b l hp hT
   rcases hdom b l hp with ⟨rfl,rfl⟩ | ⟨_,hp⟩
   ·have:=hW.mv s _ hT
    grind
   ·exact hW.qf s b l hp hT
  ·exact hW.ou
  ·exact hW.LT
  ·intro d B b l hd hp
   rcases hdom b l hp with ⟨rfl,rfl⟩ | ⟨_,hp⟩
   ·have:=(hW.kN d B hd).1
    grind
   ·exact hW.oT d B b l hd hp
  ·intro d B hd
   have:=hW.kN d B hd
   grind
  ·intro s B hB
   have:=hW.mv s B hB
   grind
  ·exact hW.lo
  ·exact hW.lt
def Mn (hW:WR G) {d:Nat} {cs:List AV} {c:Array Value} {e:TypeId} (hA:iX G.w w' (.cells c e)) (hget:gM G.h.aT d=some cs) (hn:G.L d=none) (hc:CR G cs c) :
  tz G ⟨w',G.T,G.h,G.pi,mq G.L d (some G.w.heap.size)⟩ (λ_=>False) (·=d)/\WR ⟨w',G.T,G.h,G.pi,mq G.L d (some G.w.heap.size)⟩:=by
 have hup:∀ x B,G.L x=some B->mq G.L d (some G.w.heap.size) x=some B:=by
  grind [mK]
 have E:Ext G ⟨w',G.T,G.h,G.pi,mq G.L d (some G.w.heap.size)⟩ :=
  ⟨λ_ _ h=>h,λs B hB=>hA.ri (hW.mv s B hB),Nat.le_refl _,λb _ g z xs h=>⟨g,z,xs,h,Nat.le_refl _,λ_=>⟨rfl,λ_ h=>h⟩⟩,λb _ es c h=>⟨es,c,h,λ_ h=>h⟩,hup⟩
 obtain ⟨k1,k2,k3⟩:=hW.keep E (λB hB=>hA.ri hB)
 have hdom:∀ x B,mq G.L d (some G.w.heap.size) x=some B->(x=d/\B=G.w.heap.size)\/(x≠d/\G.L x=some B):=by
  grind [kj,mK]
 refine ⟨⟨E,hA.os,hA.output,hA.tape,by rw [hA.size]; omega,λB hB=>hA.ri hB,λ_ _ h=>.inl h,λ_ _ h=>.inl (Option.isSome_iff_exists.2 ⟨_,h⟩),rfl,rfl,?_,?_⟩,?_⟩
 ·grind
 ·grind
 ·have hs:∀ n,n<G.w.heap.size->n<w'.heap.size:=λn hn=>by rw [hA.size]; omega
  constructor
  ·exact k1
  ·exact k2
  ·intro x B cx hx hl
   rcases hdom x B hx with ⟨rfl,rfl⟩ | ⟨_,hx⟩
   ·have hl:gM G.h.aT x=some cx:=hl
    rw [hget] at hl
    cases hl
    exact ⟨c,_,hA.new,hc.len.symm,λi a v h1 h2=>(hc.rel i a v h1 h2).mono E,hc.one⟩
   grind
  ·intro b l h
   exact ⟨hs _ (hW.iU b l h).1,(hW.iU b l h).2⟩
  ·exact hW.ma
  ·exact hW.qf
  ·intro x y B hx hy
   rcases hdom x B hx with ⟨rfl,rfl⟩ | ⟨_,hq⟩
   ·rcases hdom y _ hy with ⟨rfl,_⟩ | ⟨_,hq'⟩
    ·rfl
    ·have:=(hW.kN y _ hq').1
     omega
   ·rcases hdom y B hy with ⟨rfl,rfl⟩ | ⟨_,hq'⟩
    ·have:=(hW.kN x _ hq).1
     omega
    ·exact hW.ou x y B hq hq'
  ·intro s x B hx hT
   rcases hdom x B hx with ⟨rfl,rfl⟩ | ⟨_,hx⟩
   ·have:=hW.mv s _ hT
    omega
   ·exact hW.LT s x B hx hT
  ·intro x B b l hx hp
   rcases hdom x B hx with ⟨rfl,rfl⟩ | ⟨_,hx⟩
   ·have:=(hW.iU b l hp).1
    omega
   ·exact hW.oT x B b l hx hp
  ·intro x B hx
   rcases hdom x B hx with ⟨rfl,rfl⟩ | ⟨_,hx⟩
   ·exact ⟨by rw [hA.size]; simp,by grind⟩
   ·exact ⟨hs _ (hW.kN x B hx).1,(hW.kN x B hx).2⟩
  ·intro s B hB
   exact hs _ (hW.mv s B hB)
  ·exact hW.lo
  ·exact hW.lt
def E5 (hW:WR G) {ob:jM} {cap:Nat} (hA:iX G.w w' o)
  (hblk:∀ g z xs,ob=.fc g z xs->∀ G',Ext G G'->G'.w.heap[G.w.heap.size]?=some o->ng G' ⟨G.w.heap.size,0,cap⟩ z xs)
  (hmap:∀ es c,ob=.map es c->∀ G',Ext G G'->G'.w.heap[G.w.heap.size]?=some o->rh G' G.w.heap.size es c) :
  Step G ⟨w',G.T,G.h.push ob,mq G.pi G.h.size (some ⟨G.w.heap.size,0,cap⟩),G.L⟩/\WR ⟨w',G.T,G.h.push ob,mq G.pi G.h.size (some ⟨G.w.heap.size,0,cap⟩),G.L⟩:=by
 obtain ⟨s1,w1⟩:=Kb hW ob
 obtain ⟨f,w2⟩:=uL (cap:=cap) (b0:=G.h.size) (ob:=ob) w1 hA (by simp only; rw [au.nU _ _ _ hW.lo,if_pos rfl]) (G8 hW (Nat.le_refl _))
  (λg z xs e G' E hn=>hblk g z xs e G' (s1.ext.trans E) hn) (λes c e G' E hn=>hmap es c e G' (s1.ext.trans E) hn)
 exact ⟨s1.fill f (by omega) (λ_ h=>h.elim),w2⟩
def Mg (hW:WR G) (hA:iX G.w w' o) :
  Step G ⟨w',λs B=>G.T s B\/B=G.w.heap.size,G.h,G.pi,G.L⟩/\WR ⟨w',λs B=>G.T s B\/B=G.w.heap.size,G.h,G.pi,G.L⟩:=by
 have E:Ext G ⟨w',λs B=>G.T s B\/B=G.w.heap.size,G.h,G.pi,G.L⟩:=by
  refine ⟨λ_ _ h=>.inl h,λs B hB=>hA.ri (hW.mv s B hB),Nat.le_refl _,?_,?_,?_⟩<;>grind
 obtain ⟨k1,k2,k3⟩:=hW.keep E (λB hB=>hA.ri hB)
 refine ⟨⟨E,hA.os,hA.output,hA.tape,by rw [hA.size]; omega,λB hB _ _=>hA.ri hB,λb l h=>.inl ⟨l,h,rfl⟩,λ_ l h=>.inl (Option.isSome_iff_exists.2 ⟨l,h⟩),?_,rfl,λ_ _ _=>rfl,λ_ _ h=>.inl h,λ_ _ h=>.inl (Option.isSome_iff_exists.2 ⟨_,h⟩),λ_ _ _ h=>h⟩,?_⟩
 ·grind
 ·have hs:∀ n,n<G.w.heap.size->n<w'.heap.size:=λn hn=>by rw [hA.size]; omega
  exact ⟨k1,k2,k3,λb l h=>⟨hs _ (hW.iU b l h).1,(hW.iU b l h).2⟩,hW.ma,
   λs b l h=>by
    rintro (hT | he)
    ·exact hW.qf s b l h hT
    ·have:=(hW.iU b l h).1; omega,
   hW.ou,
   λs d B h=>by
    rintro (hT | he)
    ·exact hW.LT s d B h hT
    ·have:=(hW.kN d B h).1; omega,
   hW.oT,λd B h=>⟨hs _ (hW.kN d B h).1,(hW.kN d B h).2⟩,
   λs B=>by
    rintro (hT | rfl)
    ·exact hs _ (hW.mv s B hT)
    ·simp only; rw [hA.size]; omega,
   hW.lo,hW.lt⟩
end
end Go.Sx
namespace Go.Sx
open Go
variable [DD]
def pM (P:Program) (G:Ga) (s:Sem Value) (r:AV×au):Prop :=
 ∃ u G',s.run P G.w=.ok u G'.w/\G'.h=r.2/\Step G G'/\WR G'/\VR G' r.1 u
section
variable {P:Program} {C:gv} {G:Ga} {t:Nat} {ti:TI}
theorem lO.makes (hW:WR G) {s:Sem Value} {r:AV×au} (h:lO P G s r):pM P G s r:=by
 obtain ⟨h1,u,h2,h3⟩:=h
 exact ⟨u,G,h2,h1.symm,.refl G,hW,h3⟩
inductive pe where
 | obj (ob:jM)
 | loc (d:Nat) (cs:List AV)
 | none
def pe.on (h:au):pe->au
 | .obj ob=>h.push ob
 | .loc d cs=>{ h with aT:=(d,cs)::h.aT }
 | .none=>h
def qp (P:Program) (s:Sem Value) (G:Ga) (n:Nat) (v:AV):pe->Prop
 | .obj ob=>G.h.get n=some ob->G.pi n=none->∃ u G',s.run P G.w=.ok u G'.w/\tz G G' (·=n) (λ_=>False)/\WR G'/\VR G' v u
 | .loc d cs=>gM G.h.aT d=some cs->G.L d=none->∃ u G',s.run P G.w=.ok u G'.w/\tz G G' (λ_=>False) (·=d)/\WR G'/\VR G' v u
 | .none=>∃ u G',s.run P G.w=.ok u G'.w/\Step G G'/\G'.h=G.h/\WR G'/\VR G' v u
theorem qp.makes (hW:WR G) {s:Sem Value} {v:AV} {E:pe} (hl:∀ d cs,E=.loc d cs->gM G.h.aT d=none) (H:∀ V,Ext G V->V.w=G.w->WR V->qp P s V G.h.size v E):pM P G s (v,E.on G.h):=by
 cases E with
 | obj ob =>
   obtain ⟨s1,w1⟩:=Kb hW ob
   obtain ⟨u,G',k1,k2,k3,k4⟩:=H _ s1.ext rfl w1 (by simp only; rw [au.nU _ _ _ hW.lo,if_pos rfl]) (G8 hW (Nat.le_refl _))
   exact ⟨u,G',k1,k2.h,s1.fill k2 (by omega) (λ_ h=>h.elim),k3,k4⟩
 | loc d cs =>
   have hd:=hl d cs rfl
   obtain ⟨s1,w1⟩:=T9 hW cs hd
   have hL:G.L d=none:=by
    cases hq:G.L d with
    | none=>rfl
    | some B=>have:=(hW.kN d B hq).2; grind
   obtain ⟨u,G',k1,k2,k3,k4⟩:=H _ s1.ext rfl w1 (by simp [gM]) hL
   exact ⟨u,G',k1,k2.h,s1.fill k2 (λ_ h=>h.elim) (by grind),k3,k4⟩
 | none =>
   obtain ⟨u,G',k1,k2,k3,k4,k5⟩:=H G (.refl G) rfl hW
   exact ⟨u,G',k1,k3,k2,k4,k5⟩
def Bh {fa:eY} {d:Nat} {h0:au} {cs:List AV} {r:AV×au} (h:Sx.newVar fa d h0 cs=some r) :
  ∃ E:pe,r.2=E.on h0/\(∀ d cs,E=.loc d cs->gM h0.aT d=none)/\∀ G (v':Value) (el:Nat),WR G->CR G cs v'.cells->qp P (do pure (.pointer (some (<- Go.newVar el v')))) G h0.size r.1 E:=by
 have hrun:∀ (v':Value) (el:Nat) (w:World),(do pure (Value.pointer (some (<- Go.newVar el v'))):Sem Value).run P w=.ok (.pointer (some ⟨w.heap.size,0,none⟩)) (w.alloc (.cells v'.cells el)):=by
  simp_all [Go.newVar,newRow]
 unfold Sx.newVar at h
 split at h
 ·split at h
  ·rename_i hn
   cases h
   refine ⟨.loc d cs,rfl,by grind,?_⟩
   intro G v' el hW hc hget hL
   obtain ⟨hF,hW'⟩:=Mn hW (iX.alloc G.w (.cells v'.cells el)) hget hL hc
   exact ⟨_,_,hrun v' el G.w,hF,hW',.la d 0 _ (kj _ _ _)⟩
  ·cases h
 ·cases h
  refine ⟨.obj (.fc 0 cs.length [cs]),rfl,by simp,?_⟩
  intro G v' el hW hc hget hpi
  obtain ⟨hF,hW'⟩:=uL (cap:=1) hW (iX.alloc G.w (.cells v'.cells el)) hget hpi (by
   intro g z xs e G' E hnew
   cases e
   refine ⟨v'.cells,el,hnew,by simp,by simp [hc.len],?_,?_⟩
   ·grind
   ·intro i c j x hi hj
    cases i with
    | zero =>
      simp at hi
      subst hi
      have hlt:j<v'.cells.size:=by rw [<- hc.len]; grind
      have hg:v'.cells[j]?=some v'.cells[j]:=by simp
      exact ⟨v'.cells[j],by simp,hc.one j _ hg,(hc.rel j x _ hj hg).mono E⟩
    | succ i=>simp at hi) (by simp)
  refine ⟨_,_,hrun v' el G.w,hF,hW',?_⟩
  refine .ptr _ 0 0 0 _ (hW.lt _ _ hget) (λg0 z xs _=>Nat.zero_le _) ?_
  grind [kj]
def CC (hC:gR P C) {fa:eY} {dst:Option Nat} {h0:au} {r:AV×au} (h:BV C fa dst h0 t=some r) :
  ∃ E:pe,r.2=E.on h0/\(∀ d cs,E=.loc d cs->gM h0.aT d=none)/\∀ G,WR G->qp P (Instr.alloc t true (.tuple #[])) G h0.size r.1 E:=by
 unfold BV at h
 split at h
 ·rename_i ti hti
  split at h
  ·rename_i d
   obtain ⟨E,h1,h2,h3⟩:=Bh (P:=P) h
   refine ⟨E,h1,h2,?_⟩
   intro G hW
   obtain ⟨i,z,hi,hz,hcr,_⟩:=(hC.ty t ti hti).uE (G:=G)
   have hrun:(Instr.alloc t true (.tuple #[])).run P G.w=(do pure (Value.pointer (some (<- Go.newVar t z))):Sem Value).run P G.w:=by
    simp [Instr.alloc,zeroValue,typeInfo,hi,hz]
   have:=h3 G z t hW hcr
   cases E with
   | obj ob=>exact λa b=>by rw [hrun]; exact this a b
   | loc d cs=>exact λa b=>by rw [hrun]; exact this a b
   | none =>
     unfold qp at this ⊢
     grind
  ·cases h
 ·cases h
def FO {fa:eY} {dst:Option Nat} {h0:au} {x:AV} {r:AV×au} (h:GU C fa dst h0 t x=some r) :
  ∃ E:pe,r.2=E.on h0/\(∀ d cs,E=.loc d cs->gM h0.aT d=none)/\∀ G x',WR G->VR G x x'->qp P (Instr.box t x') G h0.size r.1 E:=by
 unfold GU at h
 split at h
 ·split at h
  ·split at h
   ·rename_i cs hcs
    split at h
    ·obtain ⟨E,h1,h2,h3⟩:=Bh (P:=P) h
     exact ⟨E,h1,h2,λG x' hW hx=>h3 G x' t hW (qt hx hcs).1⟩
    ·cases h
   ·cases h
  ·cases h
 ·cases h
def Ju (hW:WR G) (hC:gR P C) {av:AV} {a:Value} {r:AV×au} (ha:VR G av a) (h:vw C G.h t av=some r):pM P G (Instr.loadAt t a) r:=by
 unfold vw at h
 split at h
 ·rename_i ti hti
  obtain ⟨v,hv,rfl⟩:=kR h
  obtain ⟨u,hu,hvu,_⟩:=Cr hW (hC.ty t ti hti) ha hv
  exact ⟨u,G,hu,rfl,.refl G,hW,hvu⟩
 ·cases h
def za (h0:au) (hint:Option Value) (hh:hint=none):∃ E:pe,h0.push (.map [] 0)=E.on h0/\(∀ d cs,E=.loc d cs->gM h0.aT d=none)/\∀ G,WR G->qp P (Instr.makeMap t hint) G h0.size (.hm h0.size) E:=by
 subst hh
 refine ⟨.obj (.map [] 0),rfl,by simp,?_⟩
 intro G hW hget hpi
 obtain ⟨hF,hW'⟩:=uL (cap:=0) hW (iX.alloc G.w (.map #[] 0)) hget hpi (by simp) (by
  intro es c e G' E hnew
  cases e
  exact ⟨#[],hnew,rfl,⟨by simp,.nil⟩,by simp⟩)
 refine ⟨.map (some G.w.heap.size),_,?_,hF,hW',?_⟩
 ·rfl
 ·exact .hm _ _ (hW.lt _ _ hget) (λes c _=>⟨_,kj _ _ _,rfl⟩)
theorem zl (z:Array Value) (n m k:Nat) (hz:z.size=m) (hk:k<n*m):(((Array.range (n*m)).map λi=>z[i % z.size]!)[k]?)=z[k % m]?:=by
 have hm:0<m:=by
  grind
 have hlt:k % m<z.size:=by rw [hz]; exact Nat.mod_lt _ hm
 grind
def w3 (hC:gR P C) {h0:au} {l c:AV} {r:AV×au} (h:tJ C h0 t l c=some r) :
  ∃ E:pe,r.2=E.on h0/\(∀ d cs,E=.loc d cs->gM h0.aT d=none)/\∀ G l' c',WR G->VR G l l'->VR G c c'->qp P (Instr.makeSlice t l' c') G h0.size r.1 E:=by
 unfold tJ at h
 split at h
 ·rename_i ti kl ln kc cn hel hl2 hc2
  split at h
  ·rename_i hb
   simp only [Bool.and_eq_true,s7,decide_eq_true_eq,Nat.ble_eq] at hb
   obtain ⟨⟨⟨h0,hlc⟩,hcm⟩,hby⟩:=hb
   cases h
   have:=int?_eq hl2; subst this
   have:=int?_eq hc2; subst this
   refine ⟨.obj (.fc 0 ti.size (List.replicate cn.toNat ti.zero)),rfl,by simp,?_⟩
   intro G l' c' hW hl hc
   rw [hl.of_int,hc.of_int]
   obtain ⟨el,hd,hte,hTe⟩:=p7 hC hel
   obtain ⟨i,z,hi,hz,hcr,hzs,hza,hzo⟩:=hTe.uE (G:=G)
   obtain ⟨n,rfl⟩:=Int.eq_ofNat_of_zero_le h0
   obtain ⟨m,rfl⟩:=Int.eq_ofNat_of_zero_le (Int.le_trans h0 hlc)
   simp only [Int.toNat_natCast] at hby
   obtain ⟨ii,_,hii,his,hib,_⟩:=hTe.info
   have hi':ii=i:=by grind
   subst hi'
   have hb1:(ii.bytes:Int)*(m:Int)<=281474976710656:=by
    grind
   have hrun:=run_make (P:=P) G.w t el ii z hd hi hz kl kc n m h0 hlc hb1 (by omega)
   simp only [Int.toNat_natCast,madeCells] at hrun
   intro hget hpi
   obtain ⟨hS,hW'⟩:=uL (ob:=.fc 0 ti.size (List.replicate m ti.zero)) (cap:=m) hW (iX.alloc G.w (.cells ((Array.range (m*ii.size)).map λj=>z.cells[j % z.cells.size]!) el)) hget hpi (by
    intro g zz xs e G' E hnew
    cases e
    refine ⟨_,el,hnew,by simp,by simp [his],?_,?_⟩
    ·grind
    ·intro i cs j x hcs hj
     rw [List.getElem?_replicate] at hcs
     split at hcs
     ·rename_i him
      cases hcs
      have hjs:j<ti.size:=by
       grind
      have hk:i*ti.size+j<m*ti.size:=by
       have:(i+1)*ti.size<=m*ti.size:=Nat.mul_le_mul_right _ him
       grind
      rw [Nat.zero_add]
      have hg:=zl z.cells m ti.size (i*ti.size+j) hzs hk
      rw [his,hg]
      have hmod:(i*ti.size+j) % ti.size=j:=by rw [Nat.mul_comm,Nat.mul_add_mod]; exact Nat.mod_eq_of_lt hjs
      rw [hmod]
      have hjz:j<z.cells.size:=by omega
      have hgj:z.cells[j]?=some z.cells[j]:=by simp
      exact ⟨z.cells[j],hgj,hcr.one j _ hgj,(hcr.rel j x _ hj hgj).mono E⟩
     grind) (by simp)
   refine ⟨_,_,hrun,hS,hW',?_⟩
   refine .hs _ 0 0 _ _ _ (hW.lt _ _ hget) (λg0 z xs _=>Nat.zero_le _) (by omega) ?_
   grind [kj]
  ·cases h
 ·cases h
end
end Go.Sx
namespace Go.Sx
open Go
variable [DD]
structure pq (w w':World) (B:Nat) (o:Obj):Prop where
 at_:w'.heap[B]?=some o
 other:∀ k,k≠B->w'.heap[k]?=w.heap[k]?
 size:w'.heap.size=w.heap.size
 os:w'.os=w.os
 output:w'.output=w.output
 tape:qY w w'
def pq.row {w:World} {B:Nat} {c c':Array Value} {e:TypeId} (h:w.heap[B]?=some (.cells c e (0,0))):pq w (w.setRow B c') B (.cells c' e (0,0)) :=
 ⟨setRow_heap w B c c' e (0,0) h,λk hk=>setRow_other w B k c' hk,setRow_size w B c',rfl,rfl,.rfl _⟩
section
variable {P:Program} {C:gv} {G:Ga} {w':World} {o:Obj}
def uh (hW:WR G) {b:Nat} {l:Loc} {ob:jM} (hp:G.pi b=some l) (hP:pq G.w w' l.B o)
  (hk:(∃ g z xs xs',G.h.get b=some (.fc g z xs)/\ob=.fc g z xs')\/(∃ es c es' c',G.h.get b=some (.map es c)/\ob=.map es' c'))
  (hblk:∀ g z xs,ob=.fc g z xs->∀ G',Ext G G'->G'.w.heap[l.B]?=some o->ng G' l z xs)
  (hmap:∀ es c,ob=.map es c->∀ G',Ext G G'->G'.w.heap[l.B]?=some o->rh G' l.B es c) :
  Step G ⟨w',G.T,G.h.set b ob,G.pi,G.L⟩/\WR ⟨w',G.T,G.h.set b ob,G.pi,G.L⟩:=by
 have hlo:G.h.lo<=b:=by
  rcases hk with ⟨g,z,xs,_,h,_⟩ | ⟨es,c,_,_,h,_⟩<;>exact au.kV h
 have hg:∀ b',(G.h.set b ob).get b'=if b'=b then some ob else G.h.get b':=by
  grind [au.ja]
 have hT:∀ s B,G.T s B->B≠l.B:=by
  rintro s B hB rfl
  exact hW.qf s b l hp hB
 have E:Ext G ⟨w',G.T,G.h.set b ob,G.pi,G.L⟩:=by
  refine ⟨λ_ _ h=>h,λs B hB=>hP.other B (hT s B hB),by simp,?_,?_,λ_ _ h=>h⟩<;>grind
 refine ⟨⟨E,hP.os,hP.output,hP.tape,by rw [hP.size]; omega,λB _ hpB _=>hP.other B (λe=>hpB b l hp e.symm),λb' l' h=>.inl ⟨l',h,rfl⟩,λb' l' h=>.inl (Option.isSome_iff_exists.2 ⟨l',h⟩),λs B h=>.inl h,by simp,?_,λ_ _ h=>.inl h,λ_ _ h=>.inl (Option.isSome_iff_exists.2 ⟨_,h⟩),λd c _ h=>by simpa using h⟩,?_⟩
 ·grind
 ·constructor
  ·intro b' l' g z xs hp' h
   simp only [hg] at h
   by_cases e:b'=b
   ·rw [if_pos e] at h
    subst e
    have e2:l'=l:=by
     grind
    subst e2
    cases h
    exact hblk g z xs rfl _ E hP.at_
   ·rw [if_neg e] at h
    have hne:l'.B≠l.B:=λhe=>e (hW.ma b' b l' l hp' hp he)
    exact (hW.fc b' l' g z xs hp' h).mono E (hP.other _ hne)
  ·intro b' l' es c hp' h
   simp only [hg] at h
   by_cases e:b'=b
   ·rw [if_pos e] at h
    subst e
    have e2:l'=l:=by
     grind
    subst e2
    cases h
    exact hmap es c rfl _ E hP.at_
   ·rw [if_neg e] at h
    have hne:l'.B≠l.B:=λhe=>e (hW.ma b' b l' l hp' hp he)
    exact (hW.map b' l' es c hp' h).mono E (hP.other _ hne)
  ·intro d B cs hL hd
   have hd:gM G.h.aT d=some cs:=by simp_all
   exact (hW.loc d B cs hL hd).mono E (hP.other _ (hW.oT d B b l hL hp))
  ·intro b' l' h
   have:=hW.iU b' l' h
   exact ⟨by rw [hP.size]; omega,by simp_all⟩
  ·exact hW.ma
  ·exact hW.qf
  ·exact hW.ou
  ·exact hW.LT
  ·exact hW.oT
  ·intro d B hL
   have:=hW.kN d B hL
   exact ⟨by rw [hP.size]; omega,by simp_all⟩
  ·intro s B hB
   have:=hW.mv s B hB
   rw [hP.size]; exact this
  ·simpa using hW.lo
  ·intro b' ob' h
   simp only [hg] at h
   simp only [au.size_set]
   by_cases e:b'=b
   ·subst e; exact (hW.iU b' l hp).2
   ·rw [if_neg e] at h
    exact hW.lt b' ob' h
theorem Lr (m:iN) (d x:Nat) (v:List AV):gM (tu m d v) x=if x=d then (gM m d).map (λ_=>v) else gM m x:=by
 induction m with
 | nil=>simp [tu,gM]
 | cons p m ih =>
   simp only [tu]
   cases hq:Nat.beq d p.1 with
   | true =>
     have hd:=Nat.eq_of_beq_eq_true hq
     simp only [gM]
     by_cases e:x=d
     ·grind
     ·have h1:Nat.beq x d=false:=by cases hh:Nat.beq x d<;>simp_all
      grind
   | false =>
     grind [gM]
def QB (hW:WR G) {d Bd:Nat} {cs cs':List AV} {c:Array Value} {e:TypeId} (hLd:G.L d=some Bd) (hd:gM G.h.aT d=some cs) (hP:pq G.w w' Bd (.cells c e (0,0))) (hc:CR G cs' c) :
  Step G ⟨w',G.T,{ G.h with aT:=tu G.h.aT d cs' },G.pi,G.L⟩/\WR ⟨w',G.T,{ G.h with aT:=tu G.h.aT d cs' },G.pi,G.L⟩:=by
 have hl:∀ x,gM (tu G.h.aT d cs') x=if x=d then some cs' else gM G.h.aT x:=by
  grind [Lr]
 have hs:∀ x,(gM (tu G.h.aT d cs') x).isSome=(gM G.h.aT x).isSome:=by
  grind
 have hT:∀ s B,G.T s B->B≠Bd:=by
  rintro s B hB rfl
  exact hW.LT s d _ hLd hB
 have E:Ext G ⟨w',G.T,{ G.h with aT:=tu G.h.aT d cs' },G.pi,G.L⟩:=by
  refine ⟨λ_ _ h=>h,λs B hB=>hP.other B (hT s B hB),Nat.le_refl _,?_,?_,λ_ _ h=>h⟩
  ·intro b hb g' z' xs' h
   exact ⟨g',z',xs',h,Nat.le_refl _,λ_=>⟨rfl,λ_ h=>h⟩⟩
  ·intro b hb es c h
   exact ⟨es,c,h,λ_ h=>h⟩
 refine ⟨⟨E,hP.os,hP.output,hP.tape,by rw [hP.size]; omega,λB _ _ hL=>hP.other B (λe=>hL d Bd hLd e.symm),λb' l' h=>.inl ⟨l',h,rfl⟩,λb' l' h=>.inl (Option.isSome_iff_exists.2 ⟨l',h⟩),λs B h=>.inl h,rfl,λ_ _ _=>rfl,
  λ_ _ h=>.inl h,λ_ _ h=>.inl (Option.isSome_iff_exists.2 ⟨_,h⟩),?_⟩,?_⟩
 ·grind
 ·constructor
  ·intro b l g z xs hp h
   exact (hW.fc b l g z xs hp h).mono E (hP.other _ (λhe=>hW.oT d Bd b l hLd hp he.symm))
  ·intro b l es c hp h
   exact (hW.map b l es c hp h).mono E (hP.other _ (λhe=>hW.oT d Bd b l hLd hp he.symm))
  ·intro x B cx hx hcx
   simp only [hl] at hcx
   by_cases e:x=d
   ·rw [if_pos e] at hcx
    subst e
    cases hcx
    have hx:G.L x=some B:=hx
    rw [hLd] at hx
    cases hx
    exact ⟨c,_,hP.at_,hc.len.symm,λi a v h1 h2=>(hc.rel i a v h1 h2).mono E,hc.one⟩
   ·rw [if_neg e] at hcx
    refine (hW.loc x B cx hx hcx).mono E (hP.other _ (λhe=>e ?_))
    subst he
    exact hW.ou x d _ hx hLd
  ·intro b l h
   have:=hW.iU b l h
   exact ⟨by rw [hP.size]; omega,this.2⟩
  ·exact hW.ma
  ·exact hW.qf
  ·exact hW.ou
  ·exact hW.LT
  ·exact hW.oT
  ·intro x B hx
   have:=hW.kN x B hx
   refine ⟨by rw [hP.size]; omega,?_⟩
   grind
  ·intro s B hB
   have:=hW.mv s B hB
   rw [hP.size]; exact this
  ·exact hW.lo
  ·exact hW.lt
def CR.vb {cs:List AV} {c:Array Value} (hl:c.size=cs.length) (hr:∀ (i:Nat) (x:AV) (v:Value),cs[i]?=some x->c[i]?=some v->VC G x v) (h1:∀ (i:Nat) (v:Value),c[i]?=some v->v.oneCell'=true):CR G cs c :=
 ⟨hl.symm,h1,hr⟩
theorem uc {c vs:Array Value} {o:Nat} (ho:o+vs.size<=c.size) (k:Nat):((c.toList.take o++vs.toList++c.toList.drop (o+vs.toList.length)).toArray)[k]?=if o<=k/\k<o+vs.size then vs[k - o]? else c[k]?:=by
 simp only [List.getElem?_toArray,Array.length_toList]
 rw [List.append_assoc,List.getElem?_append]
 grind
theorem NL {c vs:Array Value} {o:Nat} (ho:o+vs.size<=c.size):((c.toList.take o++vs.toList++c.toList.drop (o+vs.toList.length)).toArray).size=c.size:=by
 grind
def vG {t:Nat} {ti:TI} (hT:mz P t ti) {w:World} {B o:Nat} {c:Array Value} {e:TypeId} {v:Value} (hB:w.heap[B]?=some (.cells c e (0,0))) (hs:v.cells.size=ti.size) (h1:∀ (i:Nat) (y:Value),v.cells[i]?=some y->y.oneCell'=true)
  (ho:o+v.cells.size<=c.size) :
  (Instr.storeAt t (.pointer (some ⟨B,o,none⟩)) v).run P w=.ok () (w.setRow B (c.toList.take o++v.cells.toList++c.toList.drop (o+v.cells.toList.length)).toArray):=by
 unfold Instr.storeAt
 simp only [Instr.sureAddr,Sem.run_bind,Sem.run_pure,Result.andThen_ok]
 unfold storeVar
 simp only [Sem.run_bind,hT.sizeOf,Result.andThen_ok]
 rw [if_neg (by simp [hs])]
 have:=run_storeCells_at (P:=P) B o e v.cells.toList 0 c w hB (by omega) (λx hx=>by
  obtain ⟨i,hi⟩:=List.getElem?_of_mem hx
  grind)
 omega
def Cc (P:Program) (G:Ga) (s:Sem Unit) (h:au):Prop :=
 ∃ G',s.run P G.w=.ok () G'.w/\G'.h=h/\Step G G'/\WR G'
def Hg (hW:WR G) {t:Nat} {ti:TI} (hT:mz P t ti) {av v:AV} {a v':Value} {h':au} (ha:VR G av a) (hv:VR G v v') (h:xi G.h ti av v=some h') :
  Cc P G (Instr.storeAt t a v') h':=by
 unfold xi at h
 split at h
 ·cases h
 ·rename_i new hnew
  obtain ⟨hcr,hlen⟩:=qt hv hnew
  have hsz:v'.cells.size=ti.size:=by rw [<- hcr.len,hlen]
  split at h
  ·unfold zM at h
   split at h
   ·
    rename_i d o
    unfold Mz at h
    split at h
    ·rename_i cs hcs
     split at h
     ·rename_i cs' hs
      cases h
      cases ha with
      | gf hp _=>simp [AV.iA] at hp
      | la _ _ Bd hd =>
        obtain ⟨c,e,hB,hs1,hr,h1⟩:=hW.loc d Bd cs hd hcs
        obtain ⟨hle,hl2,hg2⟩:=xO hs
        have hoc:o+v'.cells.size<=c.size:=by omega
        have hrun:=vG (P:=P) hT hB hsz hcr.one hoc
        have hc2:CR G cs' ((c.toList.take o++v'.cells.toList++c.toList.drop (o+v'.cells.toList.length)).toArray):=by
         refine ⟨by grind,?_,?_⟩
         ·intro i y hy
          rw [uc hoc] at hy
          split at hy
          ·exact hcr.one _ y hy
          grind
         ·intro i x y hx hy
          rw [uc hoc] at hy
          rw [hg2] at hx
          rw [hcr.len] at hx
          split at hy
          ·rw [if_pos (by assumption)] at hx
           exact hcr.rel _ x y hx hy
          grind
        obtain ⟨hS,hW'⟩:=QB hW hd hcs (pq.row hB) hc2
        exact ⟨_,hrun,rfl,hS,hW'⟩
     ·cases h
    ·cases h
   ·
    rename_i b g i o
    unfold EF at h
    split at h
    ·rename_i g' z xs hget
     split at h
     ·rename_i hgg
      have hgg:=Nat.eq_of_beq_eq_true hgg
      subst hgg
      split at h
      ·rename_i cs hcs
       split at h
       ·rename_i cs' hs
        cases h
        cases ha with
        | gf hp _=>simp [AV.iA] at hp
        | ptr _ _ _ _ a hb hg hl =>
          obtain ⟨l,hpi,rfl⟩:=hl z xs hget
          obtain ⟨c,e,hB,hcap,hbase,hz,hr⟩:=hW.fc b l g z xs hpi hget
          obtain ⟨hle,hl2,hg2⟩:=xO hs
          have hix:i<xs.length:=(List.getElem?_eq_some_iff.1 hcs).1
          have hzc:=hz i cs hcs
          have hiz:i*z+z<=l.cap*z:=by
           have:(i+1)*z<=l.cap*z:=Nat.mul_le_mul_right _ (by omega)
           grind
          have hnl:=hcr.len
          have hoc:l.base+i*z+o+v'.cells.size<=c.size:=by omega
          have hrun:=vG (P:=P) hT hB hsz hcr.one hoc
          obtain ⟨hS,hW'⟩:=uh (ob:=.fc g z (xs.set i cs')) hW hpi (pq.row (c':=(c.toList.take (l.base+i*z+o)++v'.cells.toList++c.toList.drop (l.base+i*z+o+v'.cells.toList.length)).toArray) hB)
           (.inl ⟨g,z,xs,_,hget,rfl⟩) (by
             intro g2 z2 xs2 e2 G' E hnew
             cases e2
             refine ⟨_,e,hnew,by grind,by grind,?_,?_⟩
             ·grind
             ·intro j cj k x hj hk
              rw [List.getElem?_set] at hj
              by_cases hij:i=j
              ·subst hij
               rw [if_pos rfl,if_pos hix] at hj
               cases hj
               rw [hg2] at hk
               rw [uc hoc]
               by_cases hko:o<=k/\k<o+new.length
               ·rw [if_pos hko] at hk
                rw [if_pos (by omega)]
                have hkl:k - o<v'.cells.size:=by omega
                have hgk:v'.cells[k - o]?=some v'.cells[k - o]:=by simp
                refine ⟨v'.cells[k - o],?_,hcr.one _ _ hgk,(hcr.rel _ x _ hk hgk).mono E⟩
                grind
               ·rw [if_neg hko] at hk
                rw [if_neg (by omega)]
                obtain ⟨v,a1,a2,a3⟩:=hr i cs k x hcs hk
                exact ⟨v,a1,a2,a3.mono E⟩
              ·rw [if_neg hij] at hj
               obtain ⟨v,a1,a2,a3⟩:=hr j cj k x hj hk
               refine ⟨v,?_,a2,a3.mono E⟩
               rw [uc hoc,if_neg ?_]
               ·exact a1
               ·have hk':k<z:=by grind
                rcases Nat.lt_or_gt_of_ne hij with hlt | hgt
                ·have:(i+1)*z<=j*z:=Nat.mul_le_mul_right _ hlt
                 grind
                ·have:(j+1)*z<=i*z:=Nat.mul_le_mul_right _ hgt
                 grind) (by simp)
          exact ⟨_,hrun,rfl,hS,hW'⟩
       ·cases h
      ·cases h
     ·cases h
    ·cases h
   ·cases h
  ·cases h
end
end Go.Sx
namespace Go.Sx
open Go
variable [DD]
def PR.down {w:World} {T:Bool->Nat->Prop} {m:Bool} {v:AV} {u:Value} (h:PR w T m v u) (hp:v.ka=true):PR w T false v u:=by
 cases h with
 | undef=>simp [AV.ka] at hp
 | bool m b=>exact .bool _ b
 | int m k n=>exact .int _ k n
 | str m s b h=>exact .str _ s b h
 | iL m=>exact .iL _
 | ip m cells off sn B base c e fr f hm hB hI hc h1 hr =>
   cases sn with
   | false=>exact .ip _ cells off false B base c e fr f (λh=>h) hB hI hc h1 hr
   | true=>simp [AV.ka] at hp
 | slnil m=>exact .slnil _
 | my m cap a c hm h =>
   cases cap with
   | qC=>simp [AV.ka] at hp
   | nil=>cases h
   | exact n=>exact .my _ _ a c (λh=>by cases h) h
   | iB=>exact .my _ _ a c (λh=>by cases h) h
 | sl m xs cap B base c e fr cap' esz f hm hB hI hcap hle hz hc h1 hr =>
   cases cap with
   | qC=>simp [AV.ka] at hp
   | nil=>cases hcap
   | exact n=>exact .sl _ xs _ B base c e fr cap' esz f (λh=>by cases h) hB hI hcap hle hz hc h1 hr
   | iB=>exact .sl _ xs _ B base c e fr cap' esz f (λh=>by cases h) hB hI hcap hle hz hc h1 hr
 | iw m=>exact .iw _
 | fm m es sn r ents clk hm hB hI hl hy hko hk hv =>
   cases sn with
   | false=>exact .fm _ es false r ents clk (λh=>h) hB hI hl hy hko hk hv
   | true=>simp [AV.ka] at hp
 | j7 m=>exact .j7 _
 | gx=>simp [AV.ka] at hp
 | agg=>simp [AV.ka] at hp
def VR.AQ {G:Ga} {v:AV} {u:Value} (h:VR G v u) (hp:v.ka=true):PR G.w G.T false v u:=by
 cases h with
 | gf _ h=>exact h.down hp
 | undef=>simp [AV.ka] at hp
 | ptr=>simp [AV.ka] at hp
 | hs=>simp [AV.ka] at hp
 | hm=>simp [AV.ka] at hp
 | la=>simp [AV.ka] at hp
 | gx=>simp [AV.ka] at hp
 | agg=>simp [AV.ka] at hp
 | fG=>simp [AV.ka] at hp
def VR.VD {G:Ga} {v:AV} {u:Value} (h:VR G v u) (hp:v.AM=true):PR G.w G.T false v u:=by
 cases v with
 | gx g a c =>
   simp only [AV.AM,Bool.and_eq_true,List.all_eq_true] at hp
   cases h with
   | gf hp2 _=>grind [AV.iA]
   | gx _ _ _ a' c' ha hc _ _ hra hrc =>
     exact .gx _ g a c a' c' ha hc (λi x y hx hy=>(hra i x y hx hy).AQ (hp.1 x (List.mem_of_getElem? hx))) (λi x y hx hy=>(hrc i x y hx hy).AQ (hp.2 x (List.mem_of_getElem? hx)))
 | _=>exact h.AQ hp
structure iS (R:AV->Value->Prop) (z base:Nat) (xs:List (List AV)) (c:Array Value):Prop where
 len:∀ (i:Nat) (cs:List AV),xs[i]?=some cs->cs.length=z
 rel:∀ (i:Nat) (cs:List AV) (j:Nat) (x:AV),xs[i]?=some cs->cs[j]?=some x->∃ v,c[base+i*z+j]?=some v/\v.oneCell'=true/\R x v
def iS.mono {R S:AV->Value->Prop} {z base:Nat} {xs:List (List AV)} {c:Array Value} (h:iS R z base xs c) (hRS:∀ x v,R x v->S x v):iS S z base xs c :=
 ⟨h.len,λi cs j x hi hj=>let ⟨v,a,b,d⟩:=h.rel i cs j x hi hj; ⟨v,a,b,hRS _ _ d⟩⟩
section
variable {P:Program} {C:gv} {G:Ga} {t:Nat} {ti:TI}
def HG {xs:List (List AV)} (h:rP xs=true) {i j:Nat} {cs:List AV} {x:AV} (hi:xs[i]?=some cs) (hj:cs[j]?=some x):x.AM=true:=by
 simp only [rP,List.all_eq_true] at h
 exact h cs (List.mem_of_getElem? hi) x (List.mem_of_getElem? hj)
def HA {ps:List (Nat×AV)} {ps':List (Nat×Value)} {xs r:List (List AV)} {c:Array Value} (hl:ps.length=ps'.length)
  (hr:∀ (i:Nat) p q,ps[i]?=some p->ps'[i]?=some q->p.1=q.1/\VR G p.2 q.2) (hx:iS (VC G) ti.size 0 xs c) (hs:c.size=xs.length*ti.size)
  (h1:∀ (i:Nat) (v:Value),c[i]?=some v->v.oneCell'=true) (h:tY ti ps xs=some r) :
  ∃ rc,Instr.fill (λi=>some (i*ti.size,ti.size)) c ps'=some rc/\iS (VC G) ti.size 0 r rc/\rc.size=r.length*ti.size/\(∀ (i:Nat) (v:Value),rc[i]?=some v->v.oneCell'=true)/\r.length=xs.length:=by
 induction ps generalizing ps' xs c with
 | nil =>
   cases ps' with
   | nil =>
     simp only [tY,Option.some.injEq] at h
     subst h
     exact ⟨c,rfl,hx,hs,h1,rfl⟩
   | cons _ _=>simp at hl
 | cons p ps ih =>
   cases ps' with
   | nil=>simp at hl
   | cons q ps' =>
     obtain ⟨i,v⟩:=p
     obtain ⟨i',v'⟩:=q
     obtain ⟨e,hv⟩:=hr 0 (i,v) (i',v') rfl rfl
     simp only at e hv
     subst e
     simp only [tY] at h
     split at h
     ·cases h
     ·rename_i new hnew
      split at h
      ·rename_i hb
       simp only [Bool.and_eq_true,Nat.blt_eq] at hb
       obtain ⟨hcr,hlen⟩:=qt hv hnew
       have hvs:v'.cells.size=ti.size:=by rw [<- hcr.len,hlen]
       have hfit:i*ti.size+ti.size<=c.size:=by
        rw [hs]
        have:(i+1)*ti.size<=xs.length*ti.size:=Nat.mul_le_mul_right _ hb.2
        grind
       have key:∀ k,(v'.cells.zipIdx.foldl (λ(cs:Array Value) (x:Value×Nat)=>cs.setIfInBounds (i*ti.size+x.2) x.1) c)[k]?=if i*ti.size<=k/\k<i*ti.size+ti.size then v'.cells[k - i*ti.size]? else c[k]?:=by
        intro k
        have:=Ai v'.cells.toList 0 (i*ti.size) c k
        simp only [Nat.add_zero,Array.length_toList,Array.getElem?_toList,hvs] at this
        rw [<- Array.foldl_toList,Array.toList_zipIdx,this]
        grind
       have hsz:(v'.cells.zipIdx.foldl (λ(cs:Array Value) (x:Value×Nat)=>cs.setIfInBounds (i*ti.size+x.2) x.1) c).size=c.size:=by
        have h0:∀ (l:List (Value×Nat)) (a:Array Value),(l.foldl (λ(cs:Array Value) (x:Value×Nat)=>cs.setIfInBounds (i*ti.size+x.2) x.1) a).size=a.size:=by
         intro l
         induction l with
         | nil=>simp
         | cons x l ih=>grind
        rw [<- Array.foldl_toList]
        grind
       obtain ⟨rc,a1,a2,a3,a4,a5⟩:=ih (ps':=ps') (xs:=xs.set i new) (c:=v'.cells.zipIdx.foldl (λ(cs:Array Value) (x:Value×Nat)=>cs.setIfInBounds (i*ti.size+x.2) x.1) c)
        (by grind) (λj p q hp hq=>hr (j+1) p q hp hq) (by
          constructor
          ·intro j cj hj
           rw [List.getElem?_set] at hj
           by_cases hij:i=j
           ·grind
           ·rw [if_neg hij] at hj
            exact hx.len j cj hj
          ·intro j cj k x hj hk
           rw [Nat.zero_add]
           rw [List.getElem?_set] at hj
           by_cases hij:i=j
           ·subst hij
            rw [if_pos rfl,if_pos hb.2] at hj
            cases hj
            have hkl:k<new.length:=(List.getElem?_eq_some_iff.1 hk).1
            rw [key,if_pos (by omega)]
            have hg:v'.cells[k]?=some v'.cells[k]:=by simp
            refine ⟨v'.cells[k],?_,hcr.one k _ hg,hcr.rel k x _ hk hg⟩
            simp
           ·rw [if_neg hij] at hj
            have hkl:k<ti.size:=by rw [<- hx.len j cj hj]; grind
            obtain ⟨v,b1,b2,b3⟩:=hx.rel j cj k x hj hk
            rw [Nat.zero_add] at b1
            rw [key,if_neg]
            ·grind
            ·rcases Nat.lt_or_gt_of_ne hij with hlt | hgt
             ·have:(i+1)*ti.size<=j*ti.size:=Nat.mul_le_mul_right _ hlt
              grind
             ·have:(j+1)*ti.size<=i*ti.size:=Nat.mul_le_mul_right _ hgt
              grind) (by grind) (by
          intro k v hk
          rw [key] at hk
          split at hk
          ·exact hcr.one _ v hk
          grind) h
       grind [Instr.fill]
      ·cases h
def yV {z:Value} {n:Nat} (hcr:CR G ti.zero z.cells) (hzs:z.cells.size=ti.size) :
  iS (VC G) ti.size 0 (List.replicate n ti.zero) ((Array.range (n*ti.size)).map λj=>z.cells[j % z.cells.size]!) /\
   (∀ (i:Nat) (v:Value),((Array.range (n*ti.size)).map λj=>z.cells[j % z.cells.size]!)[i]?=some v->v.oneCell'=true):=by
 constructor
 ·constructor
  ·intro i cs hcs
   rw [List.getElem?_replicate] at hcs
   split at hcs
   ·cases hcs; rw [hcr.len,hzs]
   grind
  ·intro i cs j x hcs hj
   rw [List.getElem?_replicate] at hcs
   split at hcs
   ·rename_i him
    cases hcs
    have hjs:j<ti.size:=by
     have:=(List.getElem?_eq_some_iff.1 hj).1
     rw [hcr.len,hzs] at this
     exact this
    have hk:i*ti.size+j<n*ti.size:=by
     have:(i+1)*ti.size<=n*ti.size:=Nat.mul_le_mul_right _ him
     grind
    rw [Nat.zero_add]
    have hg:=zl z.cells n ti.size (i*ti.size+j) hzs hk
    rw [hg]
    have hmod:(i*ti.size+j) % ti.size=j:=by rw [Nat.mul_comm,Nat.mul_add_mod]; exact Nat.mod_eq_of_lt hjs
    rw [hmod]
    have hjz:j<z.cells.size:=by omega
    have hgj:z.cells[j]?=some z.cells[j]:=by simp
    exact ⟨z.cells[j],hgj,hcr.one j _ hgj,hcr.rel j x _ hj hgj⟩
   grind
 ·intro k v hv
  have hk:k<n*ti.size:=by
   grind
  rw [zl z.cells n ti.size k hzs hk] at hv
  exact hcr.one _ v hv
theorem D8 {ti:TI}:∀ {ps:List (Nat×AV)} {xs r:List (List AV)},tY ti ps xs=some r->r.length=xs.length
 | [],xs,r,h=>by grind [tY]
 | p::ps,xs,r,h=>by
   simp only [tY] at h
   split at h
   ·cases h
   ·split at h
    ·have:=D8 h
     simpa using this
    ·cases h
def vL (hC:gR P C) {fa:eY} {dst:Option Nat} {n:Nat} {h0:au} {ps:List (Nat×AV)} {r:AV×au} (h:sv C fa dst h0 t n ps=some r) :
  ∃ E:pe,r.2=E.on h0/\(∀ d cs,E=.loc d cs->gM h0.aT d=none)/\∀ G (ps':Array (Nat×Value)),WR G->ps.length=ps'.size->(∀ (i:Nat) p q,ps[i]?=some p->ps'[i]?=some q->p.1=q.1/\VR G p.2 q.2)->qp P (Instr.buildSlice t n ps') G h0.size r.1 E:=by
 unfold sv at h
 split at h
 ·rename_i ti hel
  split at h
  ·rename_i hbd
   have hbd:=Nat.le_of_ble_eq_true hbd
   split at h
   ·rename_i xs hxs
    have hlx:xs.length=n:=by rw [D8 hxs]; simp
    have main:∀ G (ps':Array (Nat×Value)),WR G->ps.length=ps'.size->(∀ (i:Nat) p q,ps[i]?=some p->ps'[i]?=some q->p.1=q.1/\VR G p.2 q.2) ->
      ∃ rc el,(Instr.buildSlice t n ps').run P G.w=.ok (.slice (some ⟨G.w.heap.size,0,none⟩) n n) (G.w.alloc (.cells rc el))/\iS (VC G) ti.size 0 xs rc/\rc.size=xs.length*ti.size/\(∀ (i:Nat) (v:Value),rc[i]?=some v->v.oneCell'=true):=by
     intro G ps' hW hl hr
     obtain ⟨el,hd,hte,hTe⟩:=p7 hC hel
     obtain ⟨i,z,hi,hz,hcr,hzs,hza,hzo⟩:=hTe.uE (G:=G)
     have his:i.size=ti.size:=by
      obtain ⟨ii,_,hii,his,_⟩:=hTe.info
      grind
     obtain ⟨hrow,hone⟩:=yV (n:=n) hcr hzs
     obtain ⟨rc,f1,f2,f3,f4,f5⟩:=HA (ps':=ps'.toList) (by omega) (λj p q hp hq=>hr j p q hp (by grind)) hrow (by simp) hone hxs
     have hrun:(Instr.buildSlice t n ps').run P G.w=.ok (.slice (some ⟨G.w.heap.size,0,none⟩) n n) (G.w.alloc (.cells rc el)):=by
      unfold Instr.buildSlice
      by_cases e:n*ti.size=0
      ·have f1':=f1
       rw [e] at f1'
       have h0:∀ f:Nat->Value,(Array.range 0).map f = #[]:=by simp
       rw [h0] at f1'
       simp only [Sem.run_bind,run_underlying hd,Result.andThen_ok,sizeOf,typeInfo,run_program,hi,Sem.run_pure,his,e]
       rw [if_neg (by omega),if_pos trivial]
       simp only [Sem.run_pure,Result.andThen_ok,Sem.run_bind]
       rw [h0,f1']
       rfl
      ·have hgt:¬ (16777216<n*ti.size):=by omega
       simp only [Sem.run_bind,run_underlying hd,Result.andThen_ok,sizeOf,typeInfo,run_program,hi,Sem.run_pure,his]
       simp [e,hgt,zeroValue,typeInfo,hi,hz,his,f1,newRow]
     grind
    unfold BP at h
    split at h
    ·cases h
    ·split at h
     ·cases h
      refine ⟨.obj (.fc 0 ti.size xs),rfl,by simp,?_⟩
      intro G ps' hW hl hr hget hpi
      obtain ⟨rc,el,hrun,f2,f3,f4⟩:=main G ps' hW hl hr
      obtain ⟨hS,hW'⟩:=uL (ob:=.fc 0 ti.size xs) (cap:=n) hW (iX.alloc G.w (.cells rc el)) hget hpi (by
       intro g zz ys e G' E hnew
       cases e
       refine ⟨rc,el,hnew,by grind,by grind,f2.len,?_⟩
       intro i cs j x hi hj
       obtain ⟨v,b1,b2,b3⟩:=f2.rel i cs j x hi hj
       exact ⟨v,b1,b2,b3.mono E⟩) (by simp)
      refine ⟨_,_,hrun,hS,hW',?_⟩
      rw [hlx]
      refine .hs _ 0 0 _ _ _ (hW.lt _ _ hget) (λg0 z xs _=>Nat.zero_le _) (Nat.le_refl _) ?_
      grind [kj]
     ·rename_i hpu
      cases h
      simp only [Bool.or_eq_false_iff,Bool.not_eq_false'] at hpu
      refine ⟨.none,rfl,by simp,?_⟩
      intro G ps' hW hl hr
      obtain ⟨rc,el,hrun,f2,f3,f4⟩:=main G ps' hW hl hr
      obtain ⟨hS,hW'⟩:=Mg hW (iX.alloc G.w (.cells rc el))
      refine ⟨_,⟨G.w.alloc (.cells rc el),λs B=>G.T s B\/B=G.w.heap.size,G.h,G.pi,G.L⟩,hrun,hS,rfl,hW',?_⟩
      have hpr:PR (G.w.alloc (.cells rc el)) (λs B=>G.T s B\/B=G.w.heap.size) true (.sl xs (.exact xs.length)) (.slice (some ⟨G.w.heap.size,0,none⟩) xs.length n):=by
       refine .sl true xs (.exact xs.length) G.w.heap.size 0 rc el (0,0) n ti.size (λi j=>(rc[0+i*ti.size+j]?).getD undef) (λh=>by cases h) ((iX.alloc G.w _).new) (.inr rfl) hlx.symm (by omega) f2.len ?_ ?_ ?_
       ·intro i cs j x hi hj
        obtain ⟨v,b1,b2,b3⟩:=f2.rel i cs j x hi hj
        grind
       ·intro i cs j x hi hj
        obtain ⟨v,b1,b2,b3⟩:=f2.rel i cs j x hi hj
        grind
       ·intro i cs j x hi hj
        obtain ⟨v,b1,b2,b3⟩:=f2.rel i cs j x hi hj
        rw [b1]
        exact (b3.vr.VD (HG hpu.2 hi hj)).mono (λ_ _ h=>.inl h) (λs B hB=>(iX.alloc G.w _).ri (hW.mv s B hB))
      rw [hlx] at hpr ⊢
      exact .gf rfl hpr
   ·cases h
  ·cases h
 ·cases h
end
end Go.Sx
namespace Go.Sx
open Go
variable [DD]
section
variable {P:Program} {C:gv} {G:Ga} {t:Nat} {ti:TI} {w':World}
def ON (hW:WR G) {b:Nat} {l l':Loc} {g z:Nat} {xs xs':List (List AV)} (hp:G.pi b=some l) (hget:G.h.get b=some (.fc g z xs))
  (hB:l'.B=l.B\/l'.B=G.w.heap.size) (hsz:G.w.heap.size<=w'.heap.size) (hlt:l'.B<w'.heap.size) (hother:∀ k,k<G.w.heap.size->k≠l.B->w'.heap[k]?=G.w.heap[k]?)
  (hos:w'.os=G.w.os) (hout:w'.output=G.w.output) (htape:qY G.w w')
  (hlies:∀ G',Ext G G'->G'.w=w'->ng G' l' z xs') :
  Step G ⟨w',G.T,G.h.set b (.fc (g+1) z xs'),mq G.pi b (some l'),G.L⟩/\WR ⟨w',G.T,G.h.set b (.fc (g+1) z xs'),mq G.pi b (some l'),G.L⟩:=by
 have hlo:G.h.lo<=b:=au.kV hget
 have hg:∀ b',(G.h.set b (.fc (g+1) z xs')).get b'=if b'=b then some (.fc (g+1) z xs') else G.h.get b':=by
  grind [au.ja]
 have hT:∀ s B,G.T s B->B≠l.B:=by
  rintro s B hB rfl
  exact hW.qf s b l hp hB
 have hne:∀ b' l2,b'≠b->G.pi b'=some l2->l2.B≠l.B:=λb' l2 e h he=>e (hW.ma b' b l2 l h hp he)
 have hne':∀ b' l2,b'≠b->G.pi b'=some l2->l2.B≠l'.B:=by
  intro b' l2 e h
  rcases hB with h1 | h1
  ·grind
  ·rw [h1]; have:=(hW.iU b' l2 h).1; omega
 have E:Ext G ⟨w',G.T,G.h.set b (.fc (g+1) z xs'),mq G.pi b (some l'),G.L⟩:=by
  refine ⟨λ_ _ h=>h,λs B hB=>hother B (hW.mv s B hB) (hT s B hB),by simp,?_,?_,λ_ _ h=>h⟩<;>grind [mK]
 refine ⟨⟨E,hos,hout,htape,hsz,λB hBl hpB _=>hother B hBl (λe=>hpB b l hp e.symm),?_,?_,λs B h=>.inl h,by simp,?_,λ_ _ h=>.inl h,λ_ _ h=>.inl (Option.isSome_iff_exists.2 ⟨_,h⟩),λd c _ h=>by simpa using h⟩,?_⟩
 ·grind [kj,mK]
 ·grind [mK]
 ·grind
 ·constructor
  ·intro b' l2 g2 z2 x2 hp' h
   simp only [hg] at h
   by_cases e:b'=b
   ·grind [kj]
   ·rw [if_neg e] at h
    simp only [mK e] at hp'
    exact (hW.fc b' l2 g2 z2 x2 hp' h).mono E (hother _ (hW.iU b' l2 hp').1 (hne b' l2 e hp'))
  ·intro b' l2 es c hp' h
   simp only [hg] at h
   by_cases e:b'=b
   ·grind
   ·rw [if_neg e] at h
    simp only [mK e] at hp'
    exact (hW.map b' l2 es c hp' h).mono E (hother _ (hW.iU b' l2 hp').1 (hne b' l2 e hp'))
  ·intro d B cs hL hd
   have hd:gM G.h.aT d=some cs:=by simp_all
   exact (hW.loc d B cs hL hd).mono E (hother _ (hW.kN d B hL).1 (hW.oT d B b l hL hp))
  ·intro b' l2 h
   by_cases e:b'=b
   ·subst e
    simp only [kj,Option.some.injEq] at h
    subst h
    exact ⟨hlt,by simpa using (hW.iU b' l hp).2⟩
   ·simp only [mK e] at h
    have:=hW.iU b' l2 h
    exact ⟨Nat.lt_of_lt_of_le this.1 hsz,by simp_all⟩
  ·intro b1 b2 l1 l2 h1 h2 he
   by_cases e1:b1=b
   ·grind [kj,mK]
   ·by_cases e2:b2=b
    ·grind [kj,mK]
    ·simp only [mK e1] at h1
     simp only [mK e2] at h2
     exact hW.ma b1 b2 l1 l2 h1 h2 he
  ·intro s b' l2 h hT2
   by_cases e:b'=b
   ·subst e
    simp only [kj,Option.some.injEq] at h
    subst h
    rcases hB with h1 | h1
    ·grind
    ·rw [h1] at hT2; have:=hW.mv s _ hT2; omega
   ·simp only [mK e] at h
    exact hW.qf s b' l2 h hT2
  ·exact hW.ou
  ·exact hW.LT
  ·intro d B b' l2 hd h
   by_cases e:b'=b
   ·subst e
    simp only [kj,Option.some.injEq] at h
    subst h
    rcases hB with h1 | h1
    ·rw [h1]; exact hW.oT d B b' l hd hp
    ·rw [h1]; have:=(hW.kN d B hd).1; omega
   ·simp only [mK e] at h
    exact hW.oT d B b' l2 hd h
  ·intro d B hd
   have:=hW.kN d B hd
   exact ⟨Nat.lt_of_lt_of_le this.1 hsz,by simp_all⟩
  ·intro s B hB2
   exact Nat.lt_of_lt_of_le (hW.mv s B hB2) hsz
  ·simpa using hW.lo
  ·intro b' ob' h
   simp only [hg] at h
   simp only [au.size_set]
   by_cases e:b'=b
   ·subst e; exact (hW.iU b' l hp).2
   ·rw [if_neg e] at h
    exact hW.lt b' ob' h
theorem iS.extract {R:AV->Value->Prop} {z base:Nat} {xs:List (List AV)} {c:Array Value} {m:Nat} (h:iS R z base xs c) (hm:m=xs.length*z) :
  iS R z 0 xs (c.extract base (base+m))/\(base+m<=c.size\/m=0):=by
 subst hm
 have hb:base+xs.length*z<=c.size\/xs.length*z=0:=by
  by_cases h0:xs.length*z=0
  ·omega
  ·left
   have hx:0<xs.length:=by grind
   have hz:0<z:=by grind
   have hi:xs[xs.length - 1]?=some xs[xs.length - 1]:=by simp
   have hl:=h.len _ _ hi
   have hj:(xs[xs.length - 1])[z - 1]?=some (xs[xs.length - 1])[z - 1]:=by simp
   obtain ⟨v,hv,_⟩:=h.rel _ _ _ _ hi hj
   have:=(Array.getElem?_eq_some_iff.1 hv).1
   have e1:(xs.length - 1)*z+z=xs.length*z:=by
    rw [<- Nat.succ_mul]; grind
   omega
 refine ⟨⟨h.len,?_⟩,hb⟩
 ·intro i cs j x hi hj
  obtain ⟨v,h1,h2,h3⟩:=h.rel i cs j x hi hj
  refine ⟨v,?_,h2,h3⟩
  rw [Array.getElem?_extract,Nat.zero_add]
  have hil:i<xs.length:=(List.getElem?_eq_some_iff.1 hi).1
  have hjl:j<z:=by rw [<- h.len i cs hi]; grind
  have hk:i*z+j<xs.length*z:=by
   have:(i+1)*z<=xs.length*z:=Nat.mul_le_mul_right _ hil
   grind
  grind
end
end Go.Sx
namespace Go.Sx
open Go
variable [DD]
section rows
variable {R:AV->Value->Prop} {z base:Nat} {xs ys:List (List AV)} {c vs:Array Value}
theorem iS.append (h:iS R z base xs c) (k:iS R z (base+xs.length*z) ys c):iS R z base (xs++ys) c:=by
 constructor
 ·intro i cs hi
  rw [List.getElem?_append] at hi
  split at hi
  ·exact h.len i cs hi
  ·exact k.len _ cs hi
 ·intro i cs j x hi hj
  rw [List.getElem?_append] at hi
  split at hi
  ·exact h.rel i cs j x hi hj
  ·rename_i hn
   obtain ⟨v,a,b,d⟩:=k.rel _ cs j x hi hj
   refine ⟨v,?_,b,d⟩
   rw [<- a]
   congr 1
   have:xs.length*z+(i - xs.length)*z=i*z:=by rw [<- Nat.add_mul]; grind
   omega
theorem iS.drop (h:iS R z base xs c) (n:Nat):iS R z (base+n*z) (xs.drop n) c:=by
 constructor
 ·intro i cs hi
  rw [List.getElem?_drop] at hi
  exact h.len _ cs hi
 ·intro i cs j x hi hj
  rw [List.getElem?_drop] at hi
  obtain ⟨v,a,b,d⟩:=h.rel _ cs j x hi hj
  grind
def iS.take (h:iS R z base xs c) (n:Nat):iS R z base (xs.take n) c:=by
 constructor
 ·intro i cs hi
  rw [List.getElem?_take] at hi
  split at hi
  ·exact h.len _ cs hi
  grind
 ·intro i cs j x hi hj
  rw [List.getElem?_take] at hi
  split at hi
  ·exact h.rel _ cs j x hi hj
  grind
def iS.same {c':Array Value} {base':Nat} (h:iS R z base xs c) (he:∀ k,k<xs.length*z->c'[base'+k]?=c[base+k]?):iS R z base' xs c':=by
 refine ⟨h.len,?_⟩
 intro i cs j x hi hj
 obtain ⟨v,a,b,d⟩:=h.rel i cs j x hi hj
 refine ⟨v,?_,b,d⟩
 have hil:i<xs.length:=(List.getElem?_eq_some_iff.1 hi).1
 have hjl:j<z:=by rw [<- h.len i cs hi]; grind
 have hk:i*z+j<xs.length*z:=by
  have:(i+1)*z<=xs.length*z:=Nat.mul_le_mul_right _ hil
  grind
 grind
def iS.zP (h:iS R z base xs c) (k:iS R z 0 ys vs) (hv:vs.size=ys.length*z) {n o:Nat} (ho:o=base+n*z) (hc:o+vs.size<=c.size) (hn:n<=xs.length) :
  iS R z base (xs.take n++ys++xs.drop (n+ys.length)) ((c.toList.take o++vs.toList++c.toList.drop (o+vs.toList.length)).toArray):=by
 subst ho
 have hlt:(xs.take n).length=n:=by grind
 refine iS.append (iS.append ((h.take n).same ?_) (k.same ?_)) ((h.drop (n+ys.length)).same ?_)
 ·intro q hq
  rw [hlt] at hq
  grind
 ·intro q hq
  rw [hlt,uc hc,if_pos (by omega),Nat.zero_add]
  simp
 ·intro q hq
  rw [uc hc,if_neg]
  ·grind
  ·rw [List.length_append,hlt,Nat.add_mul]
   omega
end rows
section
variable {P:Program} {C:gv} {G:Ga} {t:Nat} {ti:TI}
def ng.row {l:Loc} {z:Nat} {xs:List (List AV)} (h:ng G l z xs):∃ c e,G.w.heap[l.B]?=some (.cells c e (0,0))/\xs.length<=l.cap/\l.base+l.cap*z<=c.size/\iS (VC G) z l.base xs c:=by
 obtain ⟨c,e,hB,h1,h2,h3,h4⟩:=h
 exact ⟨c,e,hB,h1,h2,⟨h3,h4⟩⟩
def ng.vb {l:Loc} {z:Nat} {xs:List (List AV)} {c:Array Value} {e:TypeId} (hB:G.w.heap[l.B]?=some (.cells c e (0,0))) (h1:xs.length<=l.cap) (h2:l.base+l.cap*z<=c.size)
  (h:iS (VC G) z l.base xs c):ng G l z xs:=⟨c,e,hB,h1,h2,h.len,h.rel⟩
theorem qX {n:Nat} {ys:List (List AV)} (h:nm n ys=true) {i:Nat} {cs:List AV} (hi:ys[i]?=some cs):cs.length=n:=by
 simp only [nm,List.all_eq_true,Nat.beq_eq] at h
 grind
def iS.one {R:AV->Value->Prop} {n base:Nat} {ys:List (List AV)} {c:Array Value} (h:iS R n base ys c) (k:Nat) (hk:k<ys.length*n):∃ v,c[base+k]?=some v/\v.oneCell'=true:=by
 have hn:0<n:=by
  grind
 have hi:k / n<ys.length:=(Nat.div_lt_iff_lt_mul hn).2 hk
 have hg:ys[k / n]?=some ys[k / n]:=by simp
 have hm:k % n<n:=Nat.mod_lt _ hn
 have hj:k % n<(ys[k / n]).length:=by rw [h.len _ _ hg]; exact hm
 have hgj:(ys[k / n])[k % n]?=some (ys[k / n])[k % n]:=by simp
 obtain ⟨v,a,b,_⟩:=h.rel _ _ _ _ hg hgj
 refine ⟨v,?_,b⟩
 rw [<- a]
 congr 1
 have:=Nat.div_add_mod k n
 grind
def yh {B base:Nat} {c:Array Value} {e:TypeId} {fr:Nat×Nat} {R:AV->Value->Prop} {n:Nat} {ys:List (List AV)} (hB:G.w.heap[B]?=some (.cells c e fr)) (h:iS R n base ys c) :
  ∃ news:Array Value,(∀ w',w'.heap=G.w.heap->(loadCells ⟨B,base,none⟩ (ys.length*n)).run P w'=.ok news w')/\iS R n 0 ys news/\news.size=ys.length*n/\(∀ (i:Nat) (v:Value),news[i]?=some v->v.oneCell'=true):=by
 obtain ⟨h1,h3⟩:=h.extract (m:=ys.length*n) rfl
 have hsz:(c.extract base (base+ys.length*n)).size=ys.length*n:=by
  grind
 refine ⟨c.extract base (base+ys.length*n),?_,h1,hsz,?_⟩
 ·intro w' hw
  rcases h3 with h3 | h3
  ·grind [D2]
  ·rw [h3]
   simp [loadCells,loadCellsFrom]
   omega
 ·intro i v hi
  have hlt:i<ys.length*n:=by grind
  obtain ⟨u,hu,h1'⟩:=h1.one i hlt
  grind
def CZ (hW:WR G) {x:AV} {x':Value} {ys:List (List AV)} {n:Nat} (hx:VR G x x') (h:elems G.h x=some ys) (hn:nm n ys=true) (hpos:0<ys.length) :
  ∃ (a:Addr) (cap':Nat) (news:Array Value),x'=.slice (some a) ys.length cap'/\(∀ w',w'.heap=G.w.heap->(loadCells a (ys.length*n)).run P w'=.ok news w')/\iS (VC G) n 0 ys news/\news.size=ys.length*n /\
    (∀ (i:Nat) (v:Value),news[i]?=some v->v.oneCell'=true):=by
 cases x with
 | sl xs cap =>
   simp only [elems,Option.some.injEq] at h
   subst h
   cases rv hx with
   | slnil=>grind
   | my=>grind
   | sl _ _ _ B base c e fr cap' esz f hm hB hI hcap hle hz hc h1 hr =>
     have hi0:xs[0]?=some xs[0]:=by simp
     have he:esz=n:=by grind [qX]
     subst he
     have hrow:iS (VC G) esz base xs c:=⟨hz,λi cs j x hi hj=>⟨f i j,hc i cs j x hi hj,h1 i cs j x hi hj,(hr i cs j x hi hj).wv⟩⟩
     obtain ⟨news,k1,k2⟩:=yh (P:=P) hB hrow
     grind
 | hs b g off len =>
   simp only [elems] at h
   split at h
   ·rename_i g' z xs hget
    split at h
    ·rename_i hb
     simp only [Bool.and_eq_true,Nat.beq_eq,Nat.ble_eq] at hb
     obtain ⟨rfl,hle⟩:=hb
     cases h
     have hlen:((xs.drop off).take len).length=len:=by grind
     cases hx with
     | gf hp _=>simp [AV.iA] at hp
     | hs _ _ _ _ a cap' hb hg hlc hl =>
       obtain ⟨l,hpi,hcap,ha⟩:=hl z xs hget
       have hpos':=hpos
       rw [hlen] at hpos'
       have ha:=ha (by omega)
       subst ha
       obtain ⟨c,e,hB,k1,k2,k3⟩:=(hW.fc b l g z xs hpi hget).row
       have hi0:((xs.drop off).take len)[0]?=some ((xs.drop off).take len)[0]:=by grind
       have hr:=(k3.drop off).take len
       have he:z=n:=by rw [<- hr.len 0 _ hi0]; exact qX hn hi0
       subst he
       obtain ⟨news,m1,m2⟩:=yh (P:=P) hB hr
       exact ⟨_,cap',news,by rw [hlen],m1,m2⟩
    ·cases h
   ·cases h
 | _=>cases h
def Lf (hW:WR G) (hC:gR P C) {tx:Nat} {tti:TI} (ht:C.T tx=some tti) (hk:Ax tti.kind=true) {x:AV} {x':Value} {ys:List (List AV)} {n:Nat} (hx:VR G x x') (h:mF G.h x=some ys) (hn:nm n ys=true)
  (hpos:0<ys.length):∃ news:Array Value,Src P n tx x' ys.length news.toList G.w/\iS (VC G) n 0 ys news/\news.size=ys.length*n/\(∀ (i:Nat) (v:Value),news[i]?=some v->v.oneCell'=true):=by
 obtain ⟨d,hd,_,hkd⟩:=(hC.ty tx tti ht).desc
 have hkind:(∃ e',P.underlying tx=some (.slice e'))\/P.underlying tx=some .string:=by
  unfold Ax at hk
  split at hk
  ·rename_i e he
   rw [he] at hkd
   have hkd:d=.slice _:=hkd
   grind
  ·rename_i he
   rw [he] at hkd
   have hkd:d=.string:=hkd
   grind
  grind
 unfold mF at h
 split at h
 ·rename_i s hs
  cases h
  have:=str?_eq hs; subst this
  obtain ⟨b,rfl,hb⟩:=hx.s8
  have hn1:n=1:=by
   have hp':0<s.length:=by grind
   have hi0:(s.map λc=>[AV.int .u8 c.toNat])[0]?=some [AV.int .u8 (s[0]).toNat]:=by simp [hp']
   have:=qX hn hi0
   grind
  subst hn1
  have hsz:b.size=s.length:=uO hb
  refine ⟨(byteCells b).toArray,?_,?_,?_,?_⟩
  ·have hS:=firstCells_string (P:=P) b
   rw [List.length_map]
   refine ⟨hkind,λw'=>by rw [<- hsz]; rfl,?_,?_,?_,?_⟩
   ·grind
   ·grind
   ·simp [byteCells,hb]
   ·intro u hu
    simp only [byteCells,List.mem_map] at hu
    obtain ⟨_,_,rfl⟩:=hu
    rfl
  ·constructor
   ·simp
   ·intro i cs j x hi hj
    rw [List.getElem?_map] at hi
    cases hq:s[i]? with
    | none=>grind
    | some q =>
      rw [hq] at hi
      cases hi
      cases j with
      | zero =>
        cases hj
        refine ⟨.int .u8 q.toNat,?_,rfl,VR.int _ _,rfl⟩
        grind [byteCells]
      | succ j=>cases hj
  ·simp [byteCells,hb]
  ·intro i v hi
   simp only [byteCells,List.getElem?_toArray,List.getElem?_map] at hi
   cases hq:b.data.toList[i]? with
   | none=>grind
   | some q=>rw [hq] at hi; cases hi; rfl
 ·obtain ⟨a,cap',news,rfl,k1,k2,k3,k4⟩:=CZ (P:=P) hW hx h hn hpos
  refine ⟨news,⟨hkind,λ_=>rfl,?_,?_,by omega,?_⟩,k2,k3,k4⟩
  ·simp_all [Builtin.firstCells]
  ·simp only [Builtin.firstCells]
   rw [k1 G.w.drew rfl]
  ·intro u hu
   obtain ⟨i,hi⟩:=List.getElem?_of_mem hu
   grind
def Be (t tx ty e:TypeId) (i:TypeInfo) (d:TypeDesc) (ht:P.underlying t=some (.slice e)) (hi:P.info? e=some i) (hx:P.underlying tx=some d) (hd:(∃ e',d=.slice e')\/d=.string)
  (base:Option Addr) (sLen sCap:Nat) (x:Value) (w:World) (hle:sLen<=sCap) (hl:(Builtin.lenOf x).run P w=.ok 0 w) (hc:(Builtin.firstCells i.size 0 x).run P w=.ok #[] w) :
  (Builtin.append_ #[t,tx] ty #[.slice base sLen sCap,x]).run P w=.ok (.slice base sLen sCap) w:=by
 rcases hd with ⟨e',rfl⟩ | rfl<;>cases base<;>simp [Builtin.append_,run_underlying ht,run_underlying hx,sizeOf,typeInfo,hi,hl,hle,hc,storeCells]
def Hr (t tx ty e:TypeId) (i:TypeInfo) (ht:P.underlying t=some (.slice e)) (hi:P.info? e=some i) (w:World) (b off sLen sCap:Nat) (x:Value) (n:Nat) (news:List Value) (hs:Src P i.size tx x n news w)
  (hroom:sLen+n<=sCap) {c:Array Value} {te:TypeId} (hB:w.heap[b]?=some (.cells c te (0,0))) (hfit:off+sLen*i.size+news.length<=c.size) :
  (Builtin.append_ #[t,tx] ty #[.slice (some ⟨b,off,none⟩) sLen sCap,x]).run P w =
    .ok (.slice (some ⟨b,off,none⟩) (sLen+n) sCap) (w.setRow b (c.toList.take (off+sLen*i.size)++news++c.toList.drop (off+sLen*i.size+news.length)).toArray):=by
 have hst:=run_storeCells_at (P:=P) b (off+sLen*i.size) te news 0 c w hB (by omega) hs.one
 simp only [Nat.add_zero] at hst
 rcases hs.kind with ⟨e',hk⟩ | hk<;>simp [Builtin.append_,run_underlying ht,run_underlying hk,sizeOf,typeInfo,hi,hs.len,hroom,hs.cells,Addr.add_lit,hst]
end
end Go.Sx
