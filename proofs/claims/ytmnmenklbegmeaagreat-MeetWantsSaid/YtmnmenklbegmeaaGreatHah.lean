/- Proves rules for the walks and their soundness. -/
import Derived.Test.YtmnmenklbegmeaaGreatHag
set_option linter.all false
set_option maxHeartbeats 0
namespace Go.Sx
open Go
def GF {α:Type} [Inhabited α] [DecidableEq α] {l lo:List α} (h:lo=Lib.compact l):lo.length<=l.length:=by
 rw [h]
 have:=List.length_filter_le (Lib.keeps l.toArray) (List.range l.length)
 simpa [Lib.compact,Lib.compactUpTo] using this
def oU (n:iD) (e:Int):Int:=match look e n.line with
 | some y=>y.1
 | none=>-1
def rm (n:iD) (e i:Int):Int:=match look e n.lead with
 | some v=>if i<0\/i > 1 then 0 else if v=i then 1 else 2
 | none=>0
def MF {n:iD} {e r:Int} (h:(∃ q,look e n.line=some (r,q))\/(look e n.line=none/\r = -1)):r=oU n e:=by
 unfold oU
 rcases h with ⟨q,h⟩ | ⟨h,h2⟩
 ·rw [h]
 ·rw [h,h2]
def Dw (n:iD) (o:List iu) (s:iR):List iu:=if oU n s.elem<0\/(o.any λt=>decide (t.elem=oU n s.elem))=true then o else o++[⟨oU n s.elem,rm n s.elem s.lN⟩]
def rP (n:iD) (l:List iR):List iu:=l.foldl (Dw n) []
section
variable {n:iD} {l:List iR} {o:List iu} {k:Nat} {s:iR} {r q:Int}
theorem Cq {hk:k<l.length} (hq:l[k]=s) (h:o=rP n (l.take k)):Dw n o s=rP n (l.take (k+1)):=by
 unfold rP at *
 rw [List.take_add_one,List.getElem?_eq_getElem hk,hq,List.foldl_append,<- h]
 rfl
def VJ {hk:k<l.length} (hq:l[k]=s) (h:o=rP n (l.take k)) (hr:r=oU n s.elem) (h0:r<0):o=rP n (l.take (k+1)):=by
 rw [<- Cq hq h,Dw,if_pos (.inl (hr▸h0))]
def Zh {hk:k<l.length} (hq:l[k]=s) (h:o=rP n (l.take k)) (hr:r=oU n s.elem) (h0:∃ x∈o,x.elem=r):o=rP n (l.take (k+1)):=by
 rw [<- Cq hq h,Dw,if_pos]
 refine .inr ?_
 obtain ⟨x,hx,e⟩:=h0
 exact List.any_eq_true.mpr ⟨x,hx,decide_eq_true (e.trans hr)⟩
def Va {hk:k<l.length} (hq:l[k]=s) (h:o=rP n (l.take k)) (hr:r=oU n s.elem) (h0:¬ r<0) (h1:∀ x∈o,¬ x.elem=r) (hl:q=rm n s.elem s.lN):o++[⟨r,q⟩]=rP n (l.take (k+1)):=by
 rw [<- Cq hq h,Dw,if_neg,<- hr,<- hl]
 rintro (h2 | h2)
 ·exact h0 (hr▸h2)
 ·obtain ⟨x,hx,e⟩:=List.any_eq_true.mp h2
  exact h1 x hx ((of_decide_eq_true e).trans hr.symm)
theorem Vz (h:o=rP n (l.take k)) (hk:l.length<=k):o=rP n l:=by rwa [List.take_of_length_le hk] at h
def Ep {Q:iu->Prop}:∀ (l:List iR) (o:List iu),(∀ x∈o,Q x)->(∀ s∈l,¬ oU n s.elem<0->Q ⟨oU n s.elem,rm n s.elem s.lN⟩)->∀ x∈l.foldl (Dw n) o,Q x
 | [],o,h,_=>h
 | s::l,o,h,hs=>by
   refine Ep l (Dw n o s) ?_ (λt ht=>hs t (List.mem_cons_of_mem _ ht))
   unfold Dw
   split
   ·exact h
   ·rename_i h2
    intro x hx
    rcases List.mem_append.mp hx with hx | hx
    ·exact h x hx
    ·rw [List.mem_singleton.mp hx]
     exact hs s (by simp) λh3=>h2 (.inl h3)
end
def Di (n:iD):Prop:=∀ e y,look e n.line=some y->0<=y.1/\y.1<20
def KJ {n:iD} (h:Di n) {e:Int} (h0:¬ oU n e<0):0<=oU n e/\oU n e<20:=by
 unfold oU at *
 split at h0
 ·rename_i y hy
  exact h _ _ hy
 ·omega
def LQ {n:iD} {e i:Int}:0<=rm n e i/\rm n e i<=2:=by
 unfold rm
 split
 ·split
  ·omega
  ·split<;>omega
 ·omega
def Kp {n:iD} (h:Di n) (l:List iR):∀ x∈rP n l,(0<=x.elem/\x.elem<20)/\0<=x.pos/\x.pos<=2 :=
 Ep l [] (by simp) λs _ h0=>⟨KJ h h0,LQ⟩
def Xk {x:iu} (h:(0<=x.elem/\x.elem<20)/\0<=x.pos/\x.pos<=2):mI x.elem:=by unfold mI; omega
def Z8 {x:iu} (h:(0<=x.elem/\x.elem<20)/\0<=x.pos/\x.pos<=2):mI x.pos:=by unfold mI; omega
def YF {x:iu} (h:(0<=x.elem/\x.elem<20)/\0<=x.pos/\x.pos<=2):0<=x.elem/\x.elem<1000:=by omega
def T2 {n:iD} {l:List iR} {o:List iu} (h:Di n) (ho:o=rP n l):∀ x∈o,(0<=x.elem/\x.elem<20)/\0<=x.pos/\x.pos<=2:=ho▸Kp h l
def uT (p:bY) (L:List iG) (d:iB) (run:Int) (m:Nat) (x:iG):Prop:=∃ k:Nat,k<m/\∃ i∈lY p L d run (k:Int),L[i.toNat]?=some x
section
variable {p:bY} {L:List iG} {d:iB} {run:Int} {m j:Nat} {o R:List Int} {S:List iG} {i:Int} {x:iG}
def adU:∀ y,y∈([]:List iG)↔uT p L d run 0 y:=λy=>⟨λh=>by simp at h,λ⟨k,h,_⟩=>by omega⟩
def yT (p:bY) (L:List iG) (d:iB) (run:Int) (m:Nat) (R:List Int) (j:Nat) (y:iG):Prop:=uT p L d run m y\/∃ i∈R.take j,L[i.toNat]?=some y
def abp (h:∀ y,y∈S↔uT p L d run m y):∀ y,y∈S↔yT p L d run m R 0 y:=λy=>by rw [h y]; unfold yT; simp
def ahg (h:∀ y,y∈S↔yT p L d run m R j y) {hj:j<R.length} (hq:R[j]=i) {hi:i.toNat<L.length} (hx:L[i.toNat]=x):∀ y,y∈S++[x]↔yT p L d run m R (j+1) y:=by
 intro y
 rw [List.mem_append,List.mem_singleton,h y]
 unfold yT
 rw [List.take_add_one,List.getElem?_eq_getElem hj,hq]
 simp only [Option.toList_some,List.mem_append,List.mem_singleton]
 constructor
 ·rintro ((h1 | ⟨i',h1,h2⟩) | rfl)
  ·exact .inl h1
  ·exact .inr ⟨i',.inl h1,h2⟩
  ·exact .inr ⟨i,.inr rfl,by rw [List.getElem?_eq_getElem hi,hx]⟩
 ·rintro (h1 | ⟨i',h1 | rfl,h2⟩)
  ·exact .inl (.inl h1)
  ·exact .inl (.inr ⟨i',h1,h2⟩)
  ·rw [List.getElem?_eq_getElem hi,hx] at h2
   cases h2
   exact .inr rfl
def Tp (h:∀ y,y∈S↔yT p L d run m R j y) (hj:R.length<=j) (hR:R=lY p L d run (m:Int)):∀ y,y∈S↔uT p L d run (m+1) y:=by
 intro y
 rw [h y]
 unfold yT
 rw [List.take_of_length_le hj,hR]
 constructor
 ·rintro (⟨k,h1,h2⟩ | ⟨i,h1,h2⟩)
  ·exact ⟨k,by omega,h2⟩
  ·exact ⟨m,by omega,i,h1,h2⟩
 ·rintro ⟨k,h1,h2⟩
  by_cases e:k=m
  ·subst e; exact .inr h2
  ·exact .inl ⟨k,by omega,h2⟩
end
theorem CW {p:bY} {L:List iG} {d:iB} {run leg:Int} (h:run<0\/run>=(d.runs.l.length:Int)):lY p L d run leg=[]:=by
 have hf:tL p d run leg<0:=by
  unfold tL nk kN
  by_cases h1:run<0
  ·simp [h1]
  ·have h2:d.runs.l[run.toNat]?=none:=List.getElem?_eq_none (by omega)
   simp [h1,h2]
 rw [lY,if_pos hf]
def Wu {p:bY} {L:List iG} {d:iB} {run:Int} {m:Nat} (h:run<0\/run>=(d.runs.l.length:Int)):∀ y,y∈([]:List iG)↔uT p L d run m y:=λy=>by
 constructor
 ·intro h2; simp at h2
 ·rintro ⟨k,_,i,hi,_⟩
  rw [CW h] at hi
  simp at hi
def BK {p:bY} {L:List iG} {d:iB} {run:Int} {m:Nat} {x:iG} (h:uT p L d run m x):x∈L:=by
 obtain ⟨k,_,i,_,h2⟩:=h
 obtain ⟨h3,rfl⟩:=List.getElem?_eq_some_iff.mp h2
 exact List.getElem_mem _
def We {p:bY} {L:List iG} {d:iB} {run:Int} {m:Nat} {S:List iG} {x:j7} (h:∀ y,y∈S↔uT p L d run m y) {hx:run.toNat<d.runs.l.length} (hq:d.runs.l[run.toNat]=x) (h1:x.iS.l.length<=m) (h2:m<=x.iS.l.length):∀ y,y∈S↔uT p L d run (oF d run) y:=by
 rw [zl hq,show x.iS.l.length=m by omega]
 exact h
def Hy (S:List iG) (y:iu):Prop:=∃ r∈S,y∈r.jK.l\/y∈r.guards.l
def aeg {S:List iG}:∀ y,y∈([]:List iu)↔Hy (S.take 0) y:=λy=>⟨λh=>by simp at h,λ⟨r,h,_⟩=>by simp at h⟩
def afU {S:List iG} {l:List iu} {k:Nat} {r:iG} (h:∀ y,y∈l↔Hy (S.take k) y) {hk:k<S.length} (hq:S[k]=r):∀ y,y∈(l++r.jK.l)++r.guards.l↔Hy (S.take (k+1)) y:=by
 intro y
 rw [List.mem_append,List.mem_append,h y]
 unfold Hy
 rw [List.take_add_one,List.getElem?_eq_getElem hk,hq]
 simp only [Option.toList_some,List.mem_append,List.mem_singleton]
 constructor
 ·rintro ((⟨z,h1,h2⟩ | h1) | h1)
  ·exact ⟨z,.inl h1,h2⟩
  ·exact ⟨r,.inr rfl,.inl h1⟩
  ·exact ⟨r,.inr rfl,.inr h1⟩
 ·rintro ⟨z,h1 | rfl,h2⟩
  ·exact .inl (.inl ⟨z,h1,h2⟩)
  ·rcases h2 with h2 | h2
   ·exact .inl (.inr h2)
   ·exact .inr h2
def Ws (p:bY) (L:List iG) (d:iB) (run:Int) (y:iu):Prop:=∃ r,uT p L d run (oF d run) r/\(y∈r.jK.l\/y∈r.guards.l)
def Ko {S:List iG} {l:List iu} {k:Nat} {p:bY} {L:List iG} {d:iB} {run:Int} (h:∀ y,y∈l↔Hy (S.take k) y) (hk:S.length<=k) (hS:∀ y,y∈S↔uT p L d run (oF d run) y):∀ y,y∈l↔Ws p L d run y:=by
 intro y
 rw [h y,List.take_of_length_le hk]
 exact ⟨λ⟨r,h1,h2⟩=>⟨r,(hS r).mp h1,h2⟩,λ⟨r,h1,h2⟩=>⟨r,(hS r).mpr h1,h2⟩⟩
def Rl {p q:bY} {L:List iG} {d:iB} {run:Int} {y:iu} (h:Ws p L d run y) (hL:∀ r∈L,lV q r):zf q y:=by
 obtain ⟨r,h1,h2⟩:=h
 have hg:=hL r (BK h1)
 rcases h2 with h2 | h2
 ·exact hg.2.2.2.2.2.1 y h2
 ·exact hg.2.2.2.2.2.2 y h2
def Uo {p:bY} {y:iu} (h:zf p y) (h40:p.elems.l.length<=60):mI y.elem/\mI y.pos:=by
 obtain ⟨⟨h1,h2⟩,h3,h4⟩:=h
 unfold mI
 omega
def Ek (n:iD) (S:List iG) (y:iu):Prop:=∃ r∈S,y∈rP n r.steps.l
def ag7 {n:iD} {S:List iG}:∀ y,y∈([]:List iu)↔Ek n (S.take 0) y:=λy=>⟨λh=>by simp at h,λ⟨r,h,_⟩=>by simp at h⟩
def aep {n:iD} {S:List iG} {l t:List iu} {k:Nat} {r:iG} (h:∀ y,y∈l↔Ek n (S.take k) y) {hk:k<S.length} (hq:S[k]=r) (ht:∀ y,y∈t↔y∈rP n r.steps.l):∀ y,y∈l++t↔Ek n (S.take (k+1)) y:=by
 intro y
 rw [List.mem_append,h y,ht y]
 unfold Ek
 rw [List.take_add_one,List.getElem?_eq_getElem hk,hq]
 simp only [Option.toList_some,List.mem_append,List.mem_singleton]
 constructor
 ·rintro (⟨z,h1,h2⟩ | h1)
  ·exact ⟨z,.inl h1,h2⟩
  ·exact ⟨r,.inr rfl,h1⟩
 ·rintro ⟨z,h1 | rfl,h2⟩
  ·exact .inl ⟨z,h1,h2⟩
  ·exact .inr h2
def LdS (n:iD) (L:List iG) (d:iB) (run:Int) (y:iu):Prop:=∃ r,uT n.p L d run (oF d run) r/\y∈rP n r.steps.l
def WM {n:iD} {S:List iG} {l:List iu} {k:Nat} {L:List iG} {d:iB} {run:Int} (h:∀ y,y∈l↔Ek n (S.take k) y) (hk:S.length<=k) (hS:∀ y,y∈S↔uT n.p L d run (oF d run) y):∀ y,y∈l↔LdS n L d run y:=by
 intro y
 rw [h y,List.take_of_length_le hk]
 exact ⟨λ⟨r,h1,h2⟩=>⟨r,(hS r).mp h1,h2⟩,λ⟨r,h1,h2⟩=>⟨r,(hS r).mpr h1,h2⟩⟩
def UU {n:iD} (h:Di n) {S:List iG} {k:Nat} {l:List iu} (hl:∀ y,y∈l↔Ek n (S.take k) y):∀ y∈l,mI y.elem/\mI y.pos:=by
 intro y hy
 obtain ⟨r,_,h2⟩:=(hl y).mp hy
 have:=Kp h _ y h2
 unfold mI
 omega
def p5 (A:Prop) (f:Bool):Prop:=f=true↔A
def wZ (r:iG) (y:iu):Prop:=y∈r.jK.l\/y∈r.guards.l
def AG (n:iD) (r:iG) (y:iu):Prop:=y∈rP n r.steps.l
section
variable {Has:iG->iu->Prop} {p:bY} {L:List iG} {d:iB} {run:Int} {m j k:Nat} {R:List Int} {y:iu} {f:Bool} {l:List iu} {r:iG} {i e q:Int} {x:iu} {A:Prop}
def se (Has:iG->iu->Prop) (p:bY) (L:List iG) (d:iB) (run:Int) (m:Nat) (y:iu):Prop:=∃ r,uT p L d run m r/\Has r y
def CV (Has:iG->iu->Prop) (p:bY) (L:List iG) (d:iB) (run:Int) (m:Nat) (R:List Int) (j:Nat) (y:iu):Prop:=∃ r,yT p L d run m R j r/\Has r y
def Vp:p5 (se Has p L d run 0 y) false:=⟨λh=>(by cases h),λ⟨r,⟨k,h,_⟩,_⟩=>by omega⟩
def R3 (h:p5 (se Has p L d run m y) f):p5 (CV Has p L d run m R 0 y) f:=by
 refine h.trans ⟨λ⟨r,h1,h2⟩=>⟨r,.inl h1,h2⟩,λ⟨r,h1,h2⟩=>⟨r,h1.elim id λ⟨i,h3,_⟩=>by simp at h3,h2⟩⟩
def Hb (h:p5 (CV Has p L d run m R j y) f) (hj:R.length<=j) (hR:R=lY p L d run (m:Int)):p5 (se Has p L d run (m+1) y) f:=by
 refine h.trans ⟨λ⟨r,h1,h2⟩=>⟨r,?_,h2⟩,λ⟨r,⟨k,h1,h3⟩,h2⟩=>⟨r,?_,h2⟩⟩
 ·unfold yT at h1
  rw [List.take_of_length_le hj,hR] at h1
  rcases h1 with ⟨k,h1,h3⟩ | h1
  ·exact ⟨k,by omega,h3⟩
  ·exact ⟨m,by omega,h1⟩
 ·unfold yT
  rw [List.take_of_length_le hj,hR]
  by_cases e:k=m
  ·subst e; exact .inr h3
  ·exact .inl ⟨k,by omega,h3⟩
def Su (h:p5 A f):p5 (A\/y∈l.take 0) f:=by
 refine h.trans ⟨.inl,λh2=>h2.elim id λh3=>by simp at h3⟩
def acE (h:p5 (A\/y∈l.take k) f) (hf:f=true):p5 (A\/y∈l.take (k+1)) true:=by
 refine ⟨λ_=>?_,λ_=>rfl⟩
 rcases h.mp hf with h | h
 ·exact .inl h
 ·exact .inr (by rw [List.take_add_one]; exact List.mem_append_left _ h)
def Yy {hk:k<l.length} (hq:l[k]=x) (he:x.elem=e/\x.pos=q):p5 (A\/(⟨e,q⟩:iu)∈l.take (k+1)) true:=by
 refine ⟨λ_=>.inr ?_,λ_=>rfl⟩
 rw [List.take_add_one,List.getElem?_eq_getElem hk,hq,<- he.1,<- he.2]
 simp
def abD (h:p5 (A\/(⟨e,q⟩:iu)∈l.take k) f) (hf:f=false) {hk:k<l.length} (hq:l[k]=x) (he:¬ (x.elem=e/\x.pos=q)):p5 (A\/(⟨e,q⟩:iu)∈l.take (k+1)) false:=by
 refine ⟨λh=>(by cases h),λh2=>?_⟩
 rw [List.take_add_one,List.getElem?_eq_getElem hk,hq] at h2
 have:f=true:=h.mpr (h2.imp id λh3=>by
  rcases List.mem_append.mp h3 with h3 | h3
  ·exact h3
  ·simp only [Option.toList_some,List.mem_singleton] at h3
   rw [<- h3] at he
   exact absurd ⟨rfl,rfl⟩ he)
 rw [hf] at this
 exact this
def Ur (h:p5 (CV Has p L d run m R j y\/y∈l.take k) f) (hk:l.length<=k) (hl:∀ y,y∈l↔Has r y) {hj:j<R.length} (hq:R[j]=i) {hi:i.toNat<L.length} (hx:L[i.toNat]=r):p5 (CV Has p L d run m R (j+1) y) f:=by
 rw [List.take_of_length_le hk] at h
 refine h.trans ⟨?_,?_⟩
 ·rintro (⟨z,h1,h2⟩ | h1)
  ·refine ⟨z,?_,h2⟩
   rcases h1 with h1 | ⟨i',h1,h3⟩
   ·exact .inl h1
   ·exact .inr ⟨i',by rw [List.take_add_one]; exact List.mem_append_left _ h1,h3⟩
  ·exact ⟨r,.inr ⟨i,by rw [List.take_add_one,List.getElem?_eq_getElem hj,hq]; simp,by rw [List.getElem?_eq_getElem hi,hx]⟩,(hl y).mp h1⟩
 ·rintro ⟨z,h1,h2⟩
  rcases h1 with h1 | ⟨i',h1,h3⟩
  ·exact .inl ⟨z,.inl h1,h2⟩
  ·rw [List.take_add_one,List.getElem?_eq_getElem hj,hq] at h1
   rcases List.mem_append.mp h1 with h1 | h1
   ·exact .inl ⟨z,.inr ⟨i',h1,h3⟩,h2⟩
   ·simp only [Option.toList_some,List.mem_singleton] at h1
    subst h1
    rw [List.getElem?_eq_getElem hi,hx] at h3
    cases h3
    exact .inr ((hl y).mpr h2)
def V6:∀ y,y∈(([]:List iu)++r.jK.l)++r.guards.l↔wZ r y:=λy=>by unfold wZ; simp
def TB {S:iu->Prop} {o:List iu} {e':Int} (h:nT S e q o) (hq:q=3) (he:e'=e+1):nT S e' 1 o:=he▸h.next hq
def Up {S:iu->Prop} {o:List iu} {q':Int} (h:nT S e q o) (h0:0<=e) (h1:1<=q) (h2:q<=2) (hs:S ⟨e,q⟩) (he:q'=q+1):nT S e q' (o++[⟨e,q⟩]):=he▸h.yes h0 h1 h2 hs
def abm {S:iu->Prop} {o:List iu} {q':Int} (h:nT S e q o) (hs:¬ S ⟨e,q⟩) (he:q'=q+1):nT S e q' o:=he▸h.no hs
def Vd {S:iu->Prop} {o r:List iu} {n k:Nat} (h:nT S ((k:Nat):Int) 1 o) (h1:n<=k) (h2:k<=n) (hr:r=o):nT S (n:Int) 1 r:=by
 rw [hr,show n=k by omega]; exact h
def UO {S:iu->Prop} {e:Int} (h:∀ x,¬ S x):nT S e 1 []:=⟨.nil,λx=>⟨λh2=>by simp at h2,λh2=>absurd h2.1 (h x)⟩⟩
def VM {b:Bool} (h:p5 (se Has p L d run m y) b) (h0:b=true) (h1:oF d run=m):se Has p L d run (oF d run) y:=by
 rw [h1]; exact h.mp h0
def Zp {b:Bool} (h:p5 (se Has p L d run m y) b) (h0:b=false) (h1:oF d run=m):¬ se Has p L d run (oF d run) y:=by
 rw [h1]; exact λh3=>by have:=h.mpr h3; rw [h0] at this; cases this
def UT (h:run<0\/run>=(d.runs.l.length:Int)) (x:iu):¬ se Has p L d run m x:=by
 rintro ⟨r,⟨k,_,i,hi,_⟩,_⟩
 rw [CW h] at hi
 simp at hi
end
theorem KY {p:bY}:p.canon.lines.l.length=p.lines.l.length:=by simp [bY.canon,Row.canon,Row.xl]
theorem Gy (p:bY):kn p.canon=kn p:=rfl
def Vf {n:iD} {p:bY} (h:o9 n p):Di n:=by
 intro e y hy
 obtain ⟨i,hi,h1,_⟩:=h.QQ.1 e y hy
 have h2:=h.Ht.lines
 rw [h.qj,KY] at h2
 rw [h1]; omega
def Ui {p q:bY} {L:List iG} {d:iB} {run:Int} (hL:∀ r∈L,lV q r):∀ x,se wZ p L d run (oF d run) x->0<=x.elem/\x.elem<(q.elems.l.length:Int)/\1<=x.pos/\x.pos<=2:=by
 intro x h
 have h2:=Rl (p:=p) (d:=d) (run:=run) h hL
 exact ⟨h2.1.1,h2.1.2,h2.2⟩
def Um {n:iD} {p:bY} {L:List iG} {d:iB} {run:Int} (h:o9 n p) (hL:∀ r∈L,lV n.p r):∀ x,se (AG n) n.p L d run (oF d run) x->0<=x.elem/\x.elem<(p.lines.l.length:Int)/\1<=x.pos/\x.pos<=2:=by
 rintro x ⟨r,h1,h2⟩
 have hg:=(hL r (BK h1)).1
 refine Ep (Q:=λx=>0<=x.elem/\x.elem<(p.lines.l.length:Int)/\1<=x.pos/\x.pos<=2) r.steps.l [] (by simp) (λs hs h0=>?_) x h2
 have hv:=(hg s hs).2
 unfold oU at *
 split at h0
 ·rename_i y hy
  obtain ⟨i,hi,e1,e2⟩:=h.QQ.1 _ y hy
  obtain ⟨v,hv2⟩:=h.led _ y hy
  have hk:=(h.x.ln.1 _ (List.getElem_mem hi) _ e2).2
  have h3:=hv.2.2
  have h4:=hv.2.1
  rw [h.qj,Gy] at h3
  simp only at h3 h4
  rw [hk,show vI 1=2 from by decide] at h3
  have h5:rm n s.elem s.lN=1\/rm n s.elem s.lN=2:=by
   unfold rm
   rw [hv2]
   simp only
   split
   ·omega
   ·split<;>simp
  simp only
  omega
 ·omega
def Q9 {l o:List iu} (h:l=o) {i j:Nat} {hi:i<l.length} {hj:j<o.length} {x y:iu} (hx:l[i]=x) (hy:o[j]=y) (hij:i=j) (hn:¬ x=y):False:=by
 subst h; subst hij
 exact hn (hx.symm.trans hy)
def rb:List Int->Int
 | []=>0
 | x::l=>if x=0 then rb l else x
def Tl {l:List Int} {k:Nat} {x:Int} (h:rb l=rb (l.drop k)) {hk:k<l.length} (hq:l[k]=x) (hx:x=0):rb l=rb (l.drop (k+1)):=by
 rw [h,List.drop_eq_getElem_cons hk,hq,rb,if_pos hx]
def Wa {l:List Int} {k:Nat} {x:Int} (h:rb l=rb (l.drop k)) {hk:k<l.length} (hq:l[k]=x) (hx:¬ x=0):x=rb l:=by
 rw [h,List.drop_eq_getElem_cons hk,hq,rb,if_neg hx]
def Wo {l:List Int} {k:Nat} (h:rb l=rb (l.drop k)) (hk:l.length<=k):0=rb l:=by
 rw [h,List.drop_eq_nil_of_le hk]; rfl
def KI {r s t a b c d:Int} (h1:r=cI a b) (h2:s=cI c d) (h3:t=rb [r,s]):t=ni (a,c) (b,d):=by
 subst h1 h2 h3
 unfold ni rb rb rb
 simp only
 repeat' split
 all_goals first | rfl | omega
end Go.Sx
namespace Go.Sx
open Go Go.Proofs
def ri {α:Type} {enc : α->List AV} {n:Nat} {r:Row α} (h:∀ x,∀ y∈enc x,lM n y y=true):lM (n+1) (r.av enc) (r.av enc)=true:=by
 have hc:zM r.c r.c=true:=by cases r.c<;>simp [zM]
 show (nq (nq (lM n)) (r.l.map enc) (r.l.map enc)&&zM r.c r.c)=true
 rw [hc,vB]; rfl
 intro x hx
 obtain ⟨z,_,rfl⟩:=List.mem_map.mp hx
 exact vB λy hy=>h z y hy
def LZ {n:Nat} (x:Int):∀ y∈jL x,lM (n+1) y y=true:=by
 intro y hy
 simp only [jL,List.mem_singleton] at hy
 subst hy; exact uf _ _ _
def B6 {n:Nat} (x:iu):∀ y∈iu.af x,lM (n+1) y y=true:=by
 intro y hy
 simp only [iu.af,List.mem_cons,List.not_mem_nil,or_false] at hy
 rcases hy with rfl | rfl<;>exact uf _ _ _
def WJ {n:Nat} (x:iR):∀ y∈iR.af x,lM (n+1) y y=true:=by
 intro y hy
 simp only [iR.af,List.mem_cons,List.not_mem_nil,or_false] at hy
 rcases hy with rfl | rfl | rfl<;>exact uf _ _ _
def Lm {n:Nat} (x:iG):∀ y∈iG.af x,lM (n+2) y y=true:=by
 intro y hy
 simp only [iG.af,List.mem_cons,List.not_mem_nil,or_false] at hy
 rcases hy with rfl | rfl | rfl | rfl | rfl | rfl | rfl | rfl | rfl
 ·exact uf _ _ _
 ·exact uf _ _ _
 ·exact uf _ _ _
 ·exact ri WJ
 ·exact ri B6
 ·exact ri B6
 ·exact ri LZ
 ·exact ri LZ
 ·exact M2 _ _
def Th {n o:Nat} {l:List AV} {b:Bool} (h:∀ y∈l,lM n y y=true):lM (n+1) (.ip l o b) (.ip l o b)=true:=by
 have:=vB (f:=lM n) h
 cases b<;>simp [lM,this,CZ]
end Go.Sx
namespace Go.Sx
open Go Go.Proofs
end Go.Sx
namespace Go.Sx
open Go Go.Proofs
structure wo where
 s6:Row nS
 roads:Row Int
 steps:Row (Row Int)
 D4:Row (Row Int)
 done:Int
def wo.af (x:wo):List AV:=[x.s6.av nS.af,x.roads.av jL,x.steps.av (lh jL),x.D4.av (lh jL),.int .i64 x.done]
def InE (p:bY) (e:Int):Prop:=0<=e/\e<(p.elems.l.length:Int)
def aeB (p:bY) (b:nS):Prop:=(∀ h∈b.Bg.l,InE p h.elem)/\(¬ b.mode=2->¬ b.mode=4->∀ h∈b.Bg.l,kn p h.elem=4)
structure aht (t:wo):Prop where
 bod:t.s6.l.length<=40
 ste:t.steps.l.length<=60
 zon:t.D4.l.length<=60
 tra:∀ b∈t.s6.l,b.Bg.l.length<=60
 row:∀ s∈t.steps.l,s.l.length<=60
 roz:∀ s∈t.D4.l,s.l.length<=60
structure ahw (p:bY) (t:wo):Prop where
 pos:0<t.s6.l.length
 ste:t.steps.l.length=t.s6.l.length
 zon:t.D4.l.length=t.s6.l.length
 roa:t.roads.l.length=t.s6.l.length
 bod:∀ b∈t.s6.l,aeB p b
 row:∀ s∈t.steps.l,∀ e∈s.l,InE p e
section
variable {p:bY} {b:nS} {t:List iz} {k:Nat} {x:iz} {n:Int} {l:List Bool} {y:Int}
end
section
variable {p:bY} {t:wo} {R:List Int} {k j m m':Nat} {x a b c n:Int} {l:List Bool} {bd:nS} {r o:List Int} {y:Int}
end
section
variable {p:bY} {t:wo} {k lo hi n pl x:Int} {j:Nat} {m:List (Int×Bool)} {bd:nS} {r:List Int} {L:Int->Prop}
end
end Go.Sx
namespace Go.Sx
open Go Go.Proofs
end Go.Sx
namespace Go.Sx
open Go
section
variable {P:Program} {X:Ctx} {N:Nat} {G0:Ga}
theorem yU {C : jE} {f : Nat} {fa : iC} (hC : jR P C) {fn : Func} (hfn : P.funcs[f]? = some fn) (hbody : fn.body = some fa.body) (hres : fn.results.toList = fa.res) (hname : (fn.name == "runtime.NumGoroutine") = false) {args args0 : List AV} {x : Ex} {e' : Env} {h' : aT} {v : AV} {h : aT}
  (hr:∀ G0:Ga,G0.h=aT.empty->ml P fn.ntmps G0 fa.body (params 0 args0) aT.empty x e' h') (hv:frozen h (leave C fa.res (some (x,e',h')))=some (v,h)) (hargs:kR h args=some args0):zp P f args h v h:=by
 intro G args' hG hlo hL hW hl hrel
 refine ⟨⟨fn,hfn,by grind,hname⟩,?_⟩
 intro R hR
 subst hG
 obtain ⟨k1,k2⟩:=xQ hW hargs hl hrel
 have hW1:=Hp hW
 have main:∀ v0 h1,leave.leave1 C fa.res e' h'=some (v0,h1)->freeze false h1 8 v0=some v->(x=.j1\/x=.ret)->Calls P f args' G.w R:=by
  intro v0 h1 hlv hfz hx
  refine calls_of_wp (w:=(pq G).w) hfn hbody ?_
  have hfr:Fr (pq G) (pq G):=by
   refine ⟨⟨⟨λ_ _ h=>h,λ_ _ _=>rfl,Nat.le_refl _,λ_ _ g z xs h=>⟨g,z,xs,h,Nat.le_refl _,λ_=>⟨rfl,λ_ h=>h⟩⟩,λ_ _ es c h=>⟨es,c,h,λ_ h=>h⟩,λd B h=>(by cases h)⟩,rfl,rfl,.rfl _,Nat.le_refl _,λ_ _ _ _=>rfl,
    λ_ l h=>.inl ⟨l,h,rfl⟩,λ_ _ h=>(by cases h),λ_ _ h=>.inl h,rfl,λ_ _ _=>rfl,λ_ _ h=>(by cases h),λ_ _ h=>(by cases h),λd c _ hd=>(by cases hd)⟩,λd B h=>(by cases h)⟩
  have hSt:St fn.ntmps (pq G) (pq G) (params 0 args0) { tmps:=args'++Array.replicate (fn.ntmps - args'.size) undef,defers:=[] } :=
   ⟨hfr,hW1,Dp k1 k2 _,rfl,by grind⟩
  refine hr (pq G) rfl (pq G) _ _ rfl hSt ?_
  intro G1 a1 hG1 hS1
  have hpost:∃ u,(results fn a1.tmps).run P G1.w=.ok u G1.w/\R (.returned u) G1.w:=by
   rw [<- hG1,<- hres] at hlv
   obtain ⟨e1,u,e2,e3⟩:=yo hS1.wr hC hS1.er hlv
   refine ⟨u,e2,?_⟩
   have S2:=hS1.fr.S
   have W2:WR (G1.jI [] λ_=>none):=hS1.wr.D3 (λd B h=>by cases h) (λd B h=>by cases h)
   obtain ⟨S3,W3⟩:=Dc hW hL S2 W2
   have hfz2:freeze false (G1.jI [] λ_=>none).h 8 v0=some v:=by
    refine tV (h:=h1) ?_ _ _ _ hfz
    intro b o hb
    rw [e1] at hb
    exact hb
   exact hR u (tb G (G1.jI [] λ_=>none)) S3 W3 (λm=>rfl) (λm L=>(Bm S2 W2 hfz2 e3.jI).jI.vr)
  rcases hx with rfl | rfl
  ·exact ⟨hS1.df,hpost⟩
  ·exact ⟨hS1.df,hpost⟩
 have fin:∀ v0 h1,leave C fa.res (some (x,e',h'))=some (v0,h1)->freeze false h1 8 v0=some v:=by
  grind [frozen]
 cases x with
 | j1 =>
   cases hq:leave C fa.res (some (.j1,e',h')) with
   | none=>rw [hq] at hv; cases hv
   | some y =>
     obtain ⟨v0,h1⟩:=y
     exact main v0 h1 hq (fin v0 h1 hq) (.inl rfl)
 | ret =>
   cases hq:leave C fa.res (some (.ret,e',h')) with
   | none=>rw [hq] at hv; cases hv
   | some y =>
     obtain ⟨v0,h1⟩:=y
     exact main v0 h1 hq (fin v0 h1 hq) (.inr rfl)
 | ext id=>cases hv
theorem Ai {h h2:aT} {args nR:List AV} (ha:kR h args=some nR) (E:∀ b o,h.get b=some o->h2.get b=some o):kR h2 args=some nR:=by
 unfold kR at ha ⊢
 split at ha
 ·have:∀ (l l':List AV),js (freeze true h 8) l=some l'->js (freeze true h2 8) l=some l':=by
   intro l
   induction l<;>grind [js,tV]
  grind
 ·grind
def Hi (a0:List AV) (v0:AV) (a1:List AV) (v1:AV) (shd:Bool) (args:List AV) (h:aT):R2:=match shd with
 | true=>none
 | false=>match kR h args with
   | some a=>match nq (lM 12) a0 a with
     | true=>some (v0,h)
     | false=>match nq (lM 12) a1 a with
       | true=>some (v1,h)
       | false=>none
   | none=>none
def TS {f:Nat} {a0 a1:List AV} {v0 v1:AV} (h0:∀ args h1,kR h1 args=some a0->zp P f args h1 v0 h1) (h1:∀ args h2,kR h2 args=some a1->zp P f args h2 v1 h2):mq P f (Hi a0 v0 a1 v1) where
 call:=by
  intro shd args h v h' hc
  unfold Hi at hc
  split at hc
  ·cases hc
  ·split at hc
   ·rename_i a ha
    split at hc
    ·rename_i hq
     cases hc
     have:=mO (oK 12) _ _ hq
     subst this
     exact h0 args h ha
    ·split at hc
     ·rename_i hq
      cases hc
      have:=mO (oK 12) _ _ hq
      subst this
      exact h1 args h ha
     ·cases hc
   ·cases hc
 wU:=by
  intro args h v h' hc
  unfold Hi at hc
  split at hc
  ·rename_i hh; cases hh
  ·split at hc
   ·rename_i a ha
    split at hc
    ·rename_i hq
     cases hc
     refine ⟨rfl,λh2 E=>?_⟩
     unfold Hi
     simp only [Ai ha E,hq]
    ·split at hc
     ·cases hc
      refine ⟨rfl,λh2 E=>?_⟩
      unfold Hi
      rw [Ai ha E]
      simp_all
     ·cases hc
   ·cases hc
end
end Go.Sx
