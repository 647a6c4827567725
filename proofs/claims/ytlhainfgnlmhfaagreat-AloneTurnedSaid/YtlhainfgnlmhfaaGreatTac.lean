/- Proves rules for the walks and their soundness. -/
import Derived.Deep.AppendSrc
import Derived.MapKept
import Derived.Test.YtlhainfgnlmhfaaGreatTab
set_option linter.all false
namespace Go.Sx
open Go
section rows
variable {R:AV→Value→Prop} {z base:Nat} {xs ys:List (List AV)} {c vs:Array Value}
theorem gu.append (h:gu R z base xs c) (k:gu R z (base+xs.length*z) ys c):gu R z base (xs++ys) c:=by
 constructor
 ·intro i cs hi
  rw [List.getElem?_append] at hi
  split at hi
  ·exact h.len i cs hi
  ·exact k.len _ cs hi
 ·intro i cs j x hi hj
  rw [List.getElem?_append] at hi
  split at hi
  ·exact h.rel i cs j x hi hj
  ·rename_i hn
   obtain ⟨v,a,b,d⟩:=k.rel _ cs j x hi hj
   refine ⟨v,?_,b,d⟩
   rw [← a]
   congr 1
   have:xs.length*z+(i - xs.length)*z=i*z:=by rw [← Nat.add_mul]; congr 1; omega
   omega
theorem gu.drop (h:gu R z base xs c) (n:Nat):gu R z (base+n*z) (xs.drop n) c:=by
 constructor
 ·intro i cs hi
  rw [List.getElem?_drop] at hi
  exact h.len _ cs hi
 ·intro i cs j x hi hj
  rw [List.getElem?_drop] at hi
  obtain ⟨v,a,b,d⟩:=h.rel _ cs j x hi hj
  refine ⟨v,?_,b,d⟩
  rw [← a]
  congr 1
  rw [Nat.add_mul]; omega
theorem gu.take (h:gu R z base xs c) (n:Nat):gu R z base (xs.take n) c:=by
 constructor
 ·intro i cs hi
  rw [List.getElem?_take] at hi
  split at hi
  ·exact h.len _ cs hi
  ·cases hi
 ·intro i cs j x hi hj
  rw [List.getElem?_take] at hi
  split at hi
  ·exact h.rel _ cs j x hi hj
  ·cases hi
theorem gu.same {c':Array Value} {base':Nat} (h:gu R z base xs c) (he:∀ k,k<xs.length*z→c'[base'+k]?=c[base+k]?):gu R z base' xs c':=by
 refine ⟨h.len,?_⟩
 intro i cs j x hi hj
 obtain ⟨v,a,b,d⟩:=h.rel i cs j x hi hj
 refine ⟨v,?_,b,d⟩
 have hil:i<xs.length:=(List.getElem?_eq_some_iff.1 hi).1
 have hjl:j<z:=by rw [← h.len i cs hi]; exact (List.getElem?_eq_some_iff.1 hj).1
 have hk:i*z+j<xs.length*z:=by
  have:(i+1)*z≤xs.length*z:=Nat.mul_le_mul_right _ hil
  rw [Nat.add_mul] at this; omega
 rw [Nat.add_assoc,he _ hk,← Nat.add_assoc]
 exact a
theorem gu.iG (h:gu R z base xs c) (k:gu R z 0 ys vs) (hv:vs.size=ys.length*z) {n o:Nat} (ho:o=base+n*z) (hc:o+vs.size≤c.size) (hn:n≤xs.length) :
  gu R z base (xs.take n++ys++xs.drop (n+ys.length)) ((c.toList.take o++vs.toList++c.toList.drop (o+vs.toList.length)).toArray):=by
 subst ho
 have hlt:(xs.take n).length=n:=by simp; omega
 refine gu.append (gu.append ((h.take n).same ?_) (k.same ?_)) ((h.drop (n+ys.length)).same ?_)
 ·intro q hq
  rw [hlt] at hq
  rw [jQ hc,if_neg (by omega)]
 ·intro q hq
  rw [hlt,jQ hc,if_pos (by omega),Nat.zero_add]
  congr 1
  omega
 ·intro q hq
  rw [jQ hc,if_neg]
  ·congr 1
   rw [List.length_append,hlt]
  ·rw [List.length_append,hlt,Nat.add_mul]
   omega
end rows
section
variable {P:Program} {C:fP} {G:Ga} {t:Nat} {ti:TI}
theorem jz.row {l:Loc} {z:Nat} {xs:List (List AV)} (h:jz G l z xs):∃ c e,G.w.heap[l.B]?=some (.cells c e (0,0))∧xs.length≤l.cap∧l.base+l.cap*z≤c.size∧gu (VC G) z l.base xs c∧(∀ (i:Nat) (v:Value),c[i]?=some v→v.oneCell'=true):=by
 obtain ⟨c,e,hB,h1,h2,h3,h4,h5⟩:=h
 exact ⟨c,e,hB,h1,h2,⟨h3,h4⟩,h5⟩
theorem jz.nS {l:Loc} {z:Nat} {xs:List (List AV)} {c:Array Value} {e:TypeId} (hB:G.w.heap[l.B]?=some (.cells c e (0,0))) (h1:xs.length≤l.cap) (h2:l.base+l.cap*z≤c.size)
  (h:gu (VC G) z l.base xs c) (h5:∀ (i:Nat) (v:Value),c[i]?=some v→v.oneCell'=true):jz G l z xs:=⟨c,e,hB,h1,h2,h.len,h.rel,h5⟩
theorem lW {n:Nat} {ys:List (List AV)} (h:ju n ys=true) {i:Nat} {cs:List AV} (hi:ys[i]?=some cs):cs.length=n:=by
 simp only [ju,List.all_eq_true,Nat.beq_eq] at h
 exact h cs (List.mem_of_getElem? hi)
theorem gu.one {R:AV→Value→Prop} {n base:Nat} {ys:List (List AV)} {c:Array Value} (h:gu R n base ys c) (k:Nat) (hk:k<ys.length*n):∃ v,c[base+k]?=some v∧v.oneCell'=true:=by
 have hn:0<n:=by
  rcases Nat.eq_zero_or_pos n with e | e
  ·subst e; simp at hk
  ·exact e
 have hi:k / n<ys.length:=(Nat.div_lt_iff_lt_mul hn).2 hk
 have hg:ys[k / n]?=some ys[k / n]:=by rw [getElem?_pos]
 have hm:k % n<n:=Nat.mod_lt _ hn
 have hj:k % n<(ys[k / n]).length:=by rw [h.len _ _ hg]; exact hm
 have hgj:(ys[k / n])[k % n]?=some (ys[k / n])[k % n]:=by rw [getElem?_pos]
 obtain ⟨v,a,b,_⟩:=h.rel _ _ _ _ hg hgj
 refine ⟨v,?_,b⟩
 rw [← a]
 congr 1
 have:=Nat.div_add_mod k n
 rw [Nat.mul_comm] at this
 omega
theorem pO {B base:Nat} {c:Array Value} {e:TypeId} {fr:Nat×Nat} {R:AV→Value→Prop} {n:Nat} {ys:List (List AV)} (hB:G.w.heap[B]?=some (.cells c e fr)) (h:gu R n base ys c) :
  ∃ news:Array Value,(∀ w',w'.heap=G.w.heap→(loadCells ⟨B,base,none⟩ (ys.length*n)).run P w'=.ok news w')∧gu R n 0 ys news∧news.size=ys.length*n∧(∀ (i:Nat) (v:Value),news[i]?=some v→v.oneCell'=true):=by
 obtain ⟨h1,_,h3⟩:=h.extract (m:=ys.length*n) rfl
 have hsz:(c.extract base (base+ys.length*n)).size=ys.length*n:=by
  rw [Array.size_extract]
  omega
 refine ⟨c.extract base (base+ys.length*n),?_,h1,hsz,?_⟩
 ·intro w' hw
  rcases h3 with h3 | h3
  ·exact va w' B base c e fr (by rw [hw]; exact hB) _ h3
  ·rw [h3]
   simp [loadCells,loadCellsFrom]
   omega
 ·intro i v hi
  have hlt:i<ys.length*n:=by rw [← hsz]; exact (Array.getElem?_eq_some_iff.1 hi).1
  obtain ⟨u,hu,h1'⟩:=h1.one i hlt
  rw [Nat.zero_add] at hu
  rw [hu] at hi
  cases hi
  exact h1'
theorem tP (hW:WR G) {x:AV} {x':Value} {ys:List (List AV)} {n:Nat} (hx:VR G x x') (h:elems G.h x=some ys) (hn:ju n ys=true) (hpos:0<ys.length) :
  ∃ (a:Addr) (cap':Nat) (news:Array Value),x'=.slice (some a) ys.length cap'∧(∀ w',w'.heap=G.w.heap→(loadCells a (ys.length*n)).run P w'=.ok news w')∧gu (VC G) n 0 ys news∧news.size=ys.length*n ∧
    (∀ (i:Nat) (v:Value),news[i]?=some v→v.oneCell'=true):=by
 cases x with
 | sl xs cap =>
   simp only [elems,Option.some.injEq] at h
   subst h
   cases mh hx with
   | slnil=>simp at hpos
   | iO=>simp at hpos
   | sl _ _ _ B base c e fr cap' esz f hm hB hI hcap hle hz hc h1 hr =>
     have hi0:xs[0]?=some xs[0]:=by rw [getElem?_pos]
     have he:esz=n:=by rw [← hz 0 _ hi0]; exact lW hn hi0
     subst he
     have hrow:gu (VC G) esz base xs c:=⟨hz,fun i cs j x hi hj=>⟨f i j,hc i cs j x hi hj,h1 i cs j x hi hj,(hr i cs j x hi hj).nY⟩⟩
     obtain ⟨news,k1,k2⟩:=pO (P:=P) hB hrow
     exact ⟨_,cap',news,rfl,k1,k2⟩
 | hs b g off len =>
   simp only [elems] at h
   split at h
   ·rename_i g' z xs hget
    split at h
    ·rename_i hb
     simp only [Bool.and_eq_true,Nat.beq_eq,Nat.ble_eq] at hb
     obtain ⟨rfl,hle⟩:=hb
     cases h
     have hlen:((xs.drop off).take len).length=len:=by simp; omega
     cases hx with
     | fp hp _=>simp [AV.gl] at hp
     | hs _ _ _ _ a cap' hb hg hlc hl =>
       obtain ⟨l,hpi,hcap,ha⟩:=hl z xs hget
       have hpos':=hpos
       rw [hlen] at hpos'
       have ha:=ha (by omega)
       subst ha
       obtain ⟨c,e,hB,k1,k2,k3,k4⟩:=(hW.eL b l g z xs hpi hget).row
       have hi0:((xs.drop off).take len)[0]?=some ((xs.drop off).take len)[0]:=by rw [getElem?_pos]
       have hr:=(k3.drop off).take len
       have he:z=n:=by rw [← hr.len 0 _ hi0]; exact lW hn hi0
       subst he
       obtain ⟨news,m1,m2⟩:=pO (P:=P) hB hr
       exact ⟨_,cap',news,by rw [hlen],m1,m2⟩
    ·cases h
   ·cases h
 | _=>cases h
theorem Aw (hW:WR G) (hC:fV P C) {tx:Nat} {tti:TI} (ht:C.T tx=some tti) (hk:sk tti.kind=true) {x:AV} {x':Value} {ys:List (List AV)} {n:Nat} (hx:VR G x x') (h:mD G.h x=some ys) (hn:ju n ys=true)
  (hpos:0<ys.length):∃ news:Array Value,Src P n tx x' ys.length news.toList G.w∧gu (VC G) n 0 ys news∧news.size=ys.length*n∧(∀ (i:Nat) (v:Value),news[i]?=some v→v.oneCell'=true):=by
 obtain ⟨d,hd,_,hkd⟩:=(hC.ty tx tti ht).desc
 have hkind:(∃ e',P.underlying tx=some (.slice e'))∨P.underlying tx=some .string:=by
  unfold sk at hk
  split at hk
  ·rename_i e he
   rw [he] at hkd
   have hkd:d=.slice _:=hkd
   subst hkd
   exact .inl ⟨_,hd⟩
  ·rename_i he
   rw [he] at hkd
   have hkd:d=.string:=hkd
   subst hkd
   exact .inr hd
  ·cases hk
 unfold mD at h
 split at h
 ·rename_i s hs
  cases h
  have:=str?_eq hs; subst this
  obtain ⟨b,rfl,hb⟩:=hx.mN
  have hn1:n=1:=by
   have hp':0<s.length:=by simpa using hpos
   have hi0:(s.map fun c=>[AV.int .u8 c.toNat])[0]?=some [AV.int .u8 (s[0]).toNat]:=by simp [hp']
   have:=lW hn hi0
   simpa using this.symm
  subst hn1
  have hsz:b.size=s.length:=mF hb
  refine ⟨(byteCells b).toArray,?_,?_,?_,?_⟩
  ·have hS:=firstCells_string (P:=P) b
   rw [List.length_map]
   refine ⟨hkind,fun w'=>by rw [← hsz]; rfl,?_,?_,?_,?_⟩
   ·rw [← hsz]; exact hS _
   ·rw [← hsz]; exact hS _
   ·simp [byteCells,hb]
   ·intro u hu
    simp only [byteCells,List.mem_map] at hu
    obtain ⟨_,_,rfl⟩:=hu
    rfl
  ·constructor
   ·intro i cs hi
    rw [List.getElem?_map] at hi
    cases hq:s[i]? with
    | none=>rw [hq] at hi; cases hi
    | some q=>rw [hq] at hi; cases hi; rfl
   ·intro i cs j x hi hj
    rw [List.getElem?_map] at hi
    cases hq:s[i]? with
    | none=>rw [hq] at hi; cases hi
    | some q =>
      rw [hq] at hi
      cases hi
      cases j with
      | zero =>
        cases hj
        refine ⟨.int .u8 q.toNat,?_,rfl,VR.int _ _,rfl⟩
        simp [byteCells,hb,hq]
      | succ j=>cases hj
  ·simp [byteCells,hb]
  ·intro i v hi
   simp only [byteCells,List.getElem?_toArray,List.getElem?_map] at hi
   cases hq:b.data.toList[i]? with
   | none=>rw [hq] at hi; cases hi
   | some q=>rw [hq] at hi; cases hi; rfl
 ·obtain ⟨a,cap',news,rfl,k1,k2,k3,k4⟩:=tP (P:=P) hW hx h hn hpos
  refine ⟨news,⟨hkind,fun _=>rfl,?_,?_,by simpa using k3,?_⟩,k2,k3,k4⟩
  ·simp only [Builtin.firstCells]
   rw [k1 G.w rfl]
  ·simp only [Builtin.firstCells]
   rw [k1 G.w.drew rfl]
  ·intro u hu
   obtain ⟨i,hi⟩:=List.getElem?_of_mem hu
   exact k4 i u (by simpa using hi)
theorem sB (t tx ty e:TypeId) (i:TypeInfo) (d:TypeDesc) (ht:P.underlying t=some (.slice e)) (hi:P.info? e=some i) (hx:P.underlying tx=some d) (hd:(∃ e',d=.slice e')∨d=.string)
  (base:Option Addr) (sLen sCap:Nat) (x:Value) (w:World) (hle:sLen≤sCap) (hl:(Builtin.lenOf x).run P w=.ok 0 w) (hc:(Builtin.firstCells i.size 0 x).run P w=.ok #[] w) :
  (Builtin.append_ #[t,tx] ty #[.slice base sLen sCap,x]).run P w=.ok (.slice base sLen sCap) w:=by
 rcases hd with ⟨e',rfl⟩ | rfl<;>cases base<;>simp [Builtin.append_,run_underlying ht,run_underlying hx,sizeOf,typeInfo,hi,hl,hle,hc,storeCells]
theorem xP (t tx ty e:TypeId) (i:TypeInfo) (ht:P.underlying t=some (.slice e)) (hi:P.info? e=some i) (w:World) (b off sLen sCap:Nat) (x:Value) (n:Nat) (news:List Value) (hs:Src P i.size tx x n news w)
  (hroom:sLen+n≤sCap) {c:Array Value} {te:TypeId} (hB:w.heap[b]?=some (.cells c te (0,0))) (hfit:off+sLen*i.size+news.length≤c.size) :
  (Builtin.append_ #[t,tx] ty #[.slice (some ⟨b,off,none⟩) sLen sCap,x]).run P w =
    .ok (.slice (some ⟨b,off,none⟩) (sLen+n) sCap) (w.setRow b (c.toList.take (off+sLen*i.size)++news++c.toList.drop (off+sLen*i.size+news.length)).toArray):=by
 have hst:=run_storeCells_at (P:=P) b (off+sLen*i.size) te news 0 c w hB (by omega) hs.one
 simp only [Nat.add_zero] at hst
 rcases hs.kind with ⟨e',hk⟩ | hk<;>simp [Builtin.append_,run_underlying ht,run_underlying hk,sizeOf,typeInfo,hi,hs.len,hroom,hs.cells,Addr.add_lit,hst]
end
end Go.Sx
namespace Go.Sx
open Go
section
variable {P:Program} {C:fP} {G:Ga} {t:Nat} {ti:TI}
def AO:jx→Nat→Prop
 | .nil,c=>c=0
 | .exact n,c=>c=n
 | _,_=>True
theorem j3.to {cap:jx} {l c:Nat} (h:j3 cap l c):AO cap c:=by
 cases cap with
 | nil=>cases h
 | exact n=>exact h
 | ee=>trivial
 | kY=>trivial
theorem oe {s:AV} {s':Value} (hs:VR G s s') (h:(∃ xs c,s=.sl xs c)∨∃ b g o l,s=.hs b g o l):∃ base len cap,s'=.slice base len cap∧len≤cap:=by
 rcases h with ⟨xs,c,rfl⟩ | ⟨b,g,o,l,rfl⟩
 ·cases mh hs with
  | slnil=>exact ⟨_,_,_,rfl,Nat.le_refl _⟩
  | iO=>exact ⟨_,_,_,rfl,Nat.zero_le _⟩
  | sl _ _ _ B base c e fr cap' esz f hm hB hI hcap hle=>exact ⟨_,_,_,rfl,hle⟩
 ·cases hs with
  | fp hp _=>simp [AV.gl] at hp
  | hs _ _ _ _ a cap' _ _ hle _=>exact ⟨_,_,_,rfl,hle⟩
theorem Cb {x:AV} {x':Value} (hx:VR G x x') (h:mD G.h x=some []) (n:Nat) (w:World):(Builtin.lenOf x').run P w=.ok 0 w∧(Builtin.firstCells n 0 x').run P w=.ok #[] w:=by
 have hld:∀ a,(loadCells a 0).run P w=.ok #[] w:=by intro a; simp [loadCells,loadCellsFrom]
 have hld':∀ a:Addr,(loadCells a (0*n)).run P w=.ok #[] w:=by intro a; rw [Nat.zero_mul]; exact hld a
 unfold mD at h
 split at h
 ·rename_i s hs
  have:=str?_eq hs; subst this
  obtain ⟨b,rfl,hb⟩:=hx.mN
  have hs0:s=[]:=by simpa using h
  subst hs0
  have hsz:b.size=0:=mF hb
  refine ⟨?_,?_⟩
  ·simp [Builtin.lenOf,hsz]
  ·simp [Builtin.firstCells]
 ·cases x with
  | sl xs cap =>
    simp only [elems,Option.some.injEq] at h
    subst h
    cases mh hx with
    | slnil=>exact ⟨by simp [Builtin.lenOf],by simp [Builtin.firstCells]⟩
    | iO=>exact ⟨by simp [Builtin.lenOf],by simp only [Builtin.firstCells]; exact hld' _⟩
    | sl=>exact ⟨by simp [Builtin.lenOf],by simp only [Builtin.firstCells]; exact hld' _⟩
  | hs b g off len =>
    simp only [elems] at h
    split at h
    ·rename_i g' z xs hget
     split at h
     ·rename_i hb
      simp only [Bool.and_eq_true,Nat.beq_eq,Nat.ble_eq] at hb
      obtain ⟨rfl,hle⟩:=hb
      have h0:=congrArg (Option.map List.length) h
      simp only [Option.map_some,List.length_take,List.length_drop,List.length_nil,Option.some.injEq] at h0
      have hl0:len=0:=by omega
      subst hl0
      cases hx with
      | fp hp _=>simp [AV.gl] at hp
      | hs=>exact ⟨by simp [Builtin.lenOf],by simp only [Builtin.firstCells]; exact hld' _⟩
     ·cases h
    ·cases h
  | _=>cases h
theorem wV {xs ys:List (List AV)} {n cap:Nat} {olds news z:Array Value} (hx:gu (VC G) n 0 xs olds) (hy:gu (VC G) n 0 ys news) (hxs:olds.size=xs.length*n) (hys:news.size=ys.length*n) (hz:z.size=n)
  (hx1:∀ (i:Nat) (v:Value),olds[i]?=some v→v.oneCell'=true) (hy1:∀ (i:Nat) (v:Value),news[i]?=some v→v.oneCell'=true) (hz1:∀ (i:Nat) (v:Value),z[i]?=some v→v.oneCell'=true) (hcap:xs.length+ys.length≤cap) :
  gu (VC G) n 0 (xs++ys) ((olds.toList++news.toList).toArray++Builtin.zeroCells z (cap - (xs.length+ys.length))) ∧
   ((olds.toList++news.toList).toArray++Builtin.zeroCells z (cap - (xs.length+ys.length))).size=cap*n ∧
   (∀ (i:Nat) (v:Value),((olds.toList++news.toList).toArray++Builtin.zeroCells z (cap - (xs.length+ys.length)))[i]?=some v→v.oneCell'=true):=by
 have hsz:(olds.toList++news.toList).toArray.size=(xs.length+ys.length)*n:=by simp [hxs,hys,Nat.add_mul]
 have hget:∀ k,k<(xs.length+ys.length)*n→((olds.toList++news.toList).toArray++Builtin.zeroCells z (cap - (xs.length+ys.length)))[k]?=if k<xs.length*n then olds[k]? else news[k - xs.length*n]?:=by
  intro k hk
  rw [Array.getElem?_append,if_pos (by rw [hsz]; exact hk)]
  rw [List.getElem?_toArray,List.getElem?_append]
  simp only [Array.length_toList,hxs,Array.getElem?_toList]
 refine ⟨gu.append (hx.same ?_) (hy.same ?_),?_,?_⟩
 ·intro k hk
  rw [Nat.zero_add,hget k (by rw [Nat.add_mul]; omega),if_pos hk]
 ·intro k hk
  rw [hget _ (by rw [Nat.add_mul]; omega),if_neg (by omega),Nat.zero_add]
  congr 1
  omega
 ·rw [Array.size_append,hsz,size_zeroCells,hz,← Nat.add_mul]
  congr 1
  omega
 ·intro k v hv
  by_cases hk:k<(xs.length+ys.length)*n
  ·rw [hget k hk] at hv
   split at hv
   ·exact hx1 _ v hv
   ·exact hy1 _ v hv
  ·rw [Array.getElem?_append,if_neg (by rw [hsz]; exact hk)] at hv
   simp only [Builtin.zeroCells,Array.getElem?_map] at hv
   cases hq:(Array.range ((cap - (xs.length+ys.length))*z.size))[k - (olds.toList++news.toList).toArray.size]? with
   | none=>rw [hq] at hv; cases hv
   | some q =>
     rw [hq] at hv
     simp only [Option.map_some,Option.some.injEq] at hv
     have hzp:0<z.size:=by
      rcases Nat.eq_zero_or_pos z.size with e | e
      ·rw [e] at hq; simp at hq
      ·exact e
     have hlt:q % z.size<z.size:=Nat.mod_lt _ hzp
     rw [getElem!_pos z _ hlt] at hv
     exact hz1 (q % z.size) v (by rw [getElem?_pos z _ hlt,hv])
theorem fits {need mn bytes:Nat} (h:mn<need) (hn:need≤oW) (hb:bytes≤1048576):Builtin.nextslicecap need mn*bytes≤281474976710656∧((need:Nat):Int)≤9223372036854775807:=by
 have h1:need*bytes≤1048576*1048576:=Nat.mul_le_mul hn hb
 unfold oW at hn
 exact ⟨growslice_fits h (by omega),by omega⟩
theorem w9 (hW:WR G) (hC:fV P C) {ats:Array Nat} {s x:AV} {s' x':Value} {ty:Nat} {r:AV×bY} (hs:VR G s s') (hx:VR G x x') (h:ny C ats.toList [s,x] G.h=some r) :
  kV P G (Builtin.append_ ats ty #[s',x']) r:=by
 unfold ny at h
 split at h
 ·rename_i ti s0 x0 hhead hargs
  simp only [List.cons.injEq,and_true] at hargs
  obtain ⟨rfl,rfl⟩:=hargs
  split at h
  ·rename_i hsrc
   unfold BP at hsrc
   split at hsrc
   ·rename_i t tx hats
    have hats':ats = #[t,tx]:=by apply Array.ext'; exact hats
    subst hats'
    split at hsrc
    ·rename_i tti htx
     simp only [nr] at hhead
     obtain ⟨el,hd,hte,hTe⟩:=lu hC hhead
     obtain ⟨i,z,hi,hz,hcr,hzs,hza,hzo⟩:=hTe.nV (G:=G)
     have his:i.size=ti.size∧i.bytes=ti.bytes:=by
      obtain ⟨ii,_,hii,h1,h2,_⟩:=hTe.info
      rw [hi] at hii
      cases hii
      exact ⟨h1,h2⟩
     have hby:i.bytes≤1048576:=by rw [his.2]; exact hTe.bytes
     split at h
     ·cases h
     ·rename_i ys hys
      split at h
      ·rename_i hok
       unfold append at h
       split at h
       ·
        obtain ⟨d,hdx,_,hkd⟩:=(hC.ty tx tti htx).desc
        have hdd:(∃ e',d=.slice e')∨d=.string:=by
         unfold sk at hsrc
         split at hsrc
         ·rename_i e he; rw [he] at hkd; exact .inl ⟨e,hkd⟩
         ·rename_i he; rw [he] at hkd; exact .inr hkd
         ·cases hsrc
        obtain ⟨k1,k2⟩:=Cb (P:=P) hx hys i.size G.w
        split at h
        ·cases h
         obtain ⟨base,len,cap,rfl,hle⟩:=oe hs (.inl ⟨_,_,rfl⟩)
         exact ⟨_,G,sB t tx ty el i d hd hi hdx hdd base len cap x' G.w hle k1 k2,rfl,.refl G,hW,hs⟩
        ·cases h
         obtain ⟨base,len,cap,rfl,hle⟩:=oe hs (.inr ⟨_,_,_,_,rfl⟩)
         exact ⟨_,G,sB t tx ty el i d hd hi hdx hdd base len cap x' G.w hle k1 k2,rfl,.refl G,hW,hs⟩
        ·cases h
       ·rename_i y0 ys0
        generalize hyy:y0::ys0=ys at h hys hok
        have hpos:0<ys.length:=by rw [← hyy]; simp
        clear hyy
        split at h
        ·cases h
        ·rename_i hal
         obtain ⟨news,hS,hrow,hsz,hone⟩:=Aw (P:=P) hW hC htx hsrc hx hys hal hpos
         rw [← his.1] at hS
         have hnew:∀ (xs:List (List AV)) (base:Option Addr) (sCap:Nat) (olds:Array Value),s'=.slice base xs.length sCap→(Builtin.firstCells i.size xs.length (.slice base xs.length sCap)).run P G.w.drew=.ok olds G.w.drew →
           gu (VC G) ti.size 0 xs olds→olds.size=xs.length*ti.size→(∀ (i:Nat) (v:Value),olds[i]?=some v→v.oneCell'=true)→sCap<xs.length+ys.length→mR ti.size G.h xs ys=some r →
           kV P G (Builtin.append_ #[t,tx] ty #[s',x']) r:=by
          intro xs base sCap olds hs' hold hro hso ho1 hlt hap
          subst hs'
          unfold mR at hap
          split at hap
          ·rename_i hb
           simp only [Bool.and_eq_true,Nat.ble_eq] at hb
           simp only [jw,Option.some.injEq] at hap
           subst hap
           obtain ⟨f1,f2⟩:=fits hlt hb.2 hby
           have hrun:=run_append_grow_src (P:=P) G.w t tx ty el i z hd hi hz base xs.length sCap olds.toList (by simpa using hold) x' ys.length news.toList hS hlt f2 f1
           obtain ⟨g1,g2,g3⟩:=wV (cap:=grownCap G.w (xs.length+ys.length) sCap el) hro hrow hso hsz hzs ho1 hone hcr.one (grownCap_ge _ _ _ _)
           obtain ⟨hSt,hW'⟩:=wh (ob:=.eL 0 ti.size (xs++ys)) (cap:=grownCap G.w (xs.length+ys.length) sCap el) hW (gv.drew G.w (.cells ((olds.toList++news.toList).toArray++Builtin.zeroCells z.cells (grownCap G.w (xs.length+ys.length) sCap el - (xs.length+ys.length))) el)) (by
            intro g zz y2 e G' E hnew
            cases e
            refine jz.nS hnew (by rw [List.length_append]; exact grownCap_ge _ _ _ _) (by simp only [Nat.zero_add]; rw [g2]; exact Nat.le_refl _) (g1.mono (fun _ _ h=>h.mono E)) g3) (by intro es c e; cases e)
           refine ⟨_,_,hrun,rfl,hSt,hW',?_⟩
           refine .hs _ 0 0 _ _ _ (by simp) (by intro g0 z xs _; omega) (grownCap_ge _ _ _ _) ?_
           intro z' xs _
           exact ⟨_,g6 _ _ _,by simp,fun _=>by simp⟩
          ·cases hap
         have hold0:∀ (xs:List (List AV)) (cap:jx),s=.sl xs cap→ju ti.size xs=true→∃ base sCap olds,s'=.slice base xs.length sCap∧AO cap sCap∧(Builtin.firstCells i.size xs.length (.slice base xs.length sCap)).run P G.w.drew=.ok olds G.w.drew ∧
           gu (VC G) ti.size 0 xs olds∧olds.size=xs.length*ti.size∧(∀ (i:Nat) (v:Value),olds[i]?=some v→v.oneCell'=true):=by
          intro xs cap ES hax
          subst ES
          rcases Nat.eq_zero_or_pos xs.length with h0 | h0
          ·have hx0:xs=[]:=List.eq_nil_of_length_eq_zero h0
           subst hx0
           have hr0:gu (VC G) ti.size 0 [] #[]:=⟨by simp,by simp⟩
           cases mh hs with
           | slnil=>exact ⟨none,0,#[],rfl,rfl,by simp [Builtin.firstCells],hr0,by simp,by simp⟩
           | iO _ _ a c hm hc =>
             refine ⟨some a,c,#[],rfl,hc.to,?_,hr0,by simp,by simp⟩
             simp only [Builtin.firstCells,List.length_nil,Nat.zero_mul]
             simp [loadCells,loadCellsFrom]
           | sl _ _ _ B base c e fr cap' esz f hm hB hI hc hle =>
             refine ⟨_,cap',#[],rfl,hc.to,?_,hr0,by simp,by simp⟩
             simp only [Builtin.firstCells,List.length_nil,Nat.zero_mul]
             simp [loadCells,loadCellsFrom]
          ·obtain ⟨a,cap',olds,rfl,k1,k2,k3,k4⟩:=tP (P:=P) hW hs (ys:=xs) rfl hax h0
           refine ⟨some a,cap',olds,rfl,?_,?_,k2,k3,k4⟩
           ·cases mh hs with
            | iO _ _ a c hm hc=>exact hc.to
            | sl _ _ _ B base c e fr cap' esz f hm hB hI hc hle=>exact hc.to
           ·simp only [Builtin.firstCells,his.1]
            exact k1 _ rfl
         split at h
         ·rename_i xs
          have hax:ju ti.size xs=true:=by
           unfold mR at h
           split at h
           ·rename_i hb; simp only [Bool.and_eq_true] at hb; exact hb.1
           ·cases h
          obtain ⟨base,sCap,olds,e1,e2,e3,e4,e5,e6⟩:=hold0 xs _ rfl hax
          have e2:sCap=0:=e2
          exact hnew xs base sCap olds e1 e3 e4 e5 e6 (by omega) h
         ·rename_i xs m
          split at h
          ·rename_i hlt
           rw [Nat.blt_eq] at hlt
           have hax:ju ti.size xs=true:=by
            unfold mR at h
            split at h
            ·rename_i hb; simp only [Bool.and_eq_true] at hb; exact hb.1
            ·cases h
           obtain ⟨base,sCap,olds,e1,e2,e3,e4,e5,e6⟩:=hold0 xs _ rfl hax
           have e2:sCap=m:=e2
           exact hnew xs base sCap olds e1 e3 e4 e5 e6 (by omega) h
          ·cases h
         ·rename_i b g off len
          unfold vk at h
          split at h
          ·rename_i g' zz xs hget
           split at h
           ·cases h
           ·rename_i hb
            simp only [Bool.not_eq_true',Bool.not_eq_false',Bool.and_eq_true,Nat.beq_eq,Nat.ble_eq,Bool.not_eq_false] at hb
            obtain ⟨⟨rfl,rfl⟩,hmost⟩:=hb
            cases hs with
            | fp hp _=>simp [AV.gl] at hp
            | hs _ _ _ _ a cap' hbl hgg hlc hl =>
              obtain ⟨l,hpi,hcap,ha⟩:=hl _ xs hget
              obtain ⟨c,e,hB,k1,k2,k3,k4⟩:=(hW.eL b l g _ xs hpi hget).row
              have hin:len+ys.length≤cap'→a=⟨l.B,l.base+off*ti.size,none⟩∧l.base+off*ti.size+len*ti.size+news.size≤c.size ∧
                (Builtin.append_ #[t,tx] ty #[.slice (some a) len cap',x']).run P G.w=.ok (.slice (some a) (len+ys.length) cap')
                  (G.w.setRow l.B (c.toList.take (l.base+off*ti.size+len*ti.size)++news.toList++c.toList.drop (l.base+off*ti.size+len*ti.size+news.toList.length)).toArray):=by
               intro hle
               have ha:=ha (by omega)
               have hfit:l.base+off*ti.size+len*ti.size+news.size≤c.size:=by
                rw [hsz]
                have:(off+(len+ys.length))*ti.size≤l.cap*ti.size:=Nat.mul_le_mul_right _ (by omega)
                rw [Nat.add_mul,Nat.add_mul] at this
                omega
               refine ⟨ha,hfit,?_⟩
               subst ha
               have:=xP (P:=P) t tx ty el i hd hi G.w l.B (l.base+off*ti.size) len cap' x' ys.length news.toList hS hle hB (by rw [his.1]; simpa using hfit)
               rw [his.1] at this
               exact this
              split at h
              ·rename_i hroom
               rw [Nat.ble_eq] at hroom
               simp only [jw,Option.some.injEq] at h
               subst h
               obtain ⟨ha,hfit,hrun⟩:=hin (by omega)
               obtain ⟨hSt,hW'⟩:=pa (ob:=.eL g ti.size (overwrite xs (off+len) ys)) hW hpi (lV.row (c':=(c.toList.take (l.base+off*ti.size+len*ti.size)++news.toList++c.toList.drop (l.base+off*ti.size+len*ti.size+news.toList.length)).toArray) hB)
                (.inl ⟨g,_,xs,_,hget,rfl⟩) (by
                  intro g2 z2 xs2 e2 G' E hnw
                  cases e2
                  have hov:=k3.iG hrow hsz (n:=off+len) (o:=l.base+off*ti.size+len*ti.size) (by rw [Nat.add_mul]; omega) hfit (by omega)
                  refine jz.nS hnw ?_ (by rw [nM hfit]; exact k2) (hov.mono (fun _ _ h=>h.mono E)) ?_
                  ·simp only [overwrite,List.length_append,List.length_take,List.length_drop]; omega
                  ·intro k v hv
                   rw [jQ hfit] at hv
                   split at hv
                   ·exact hone _ v hv
                   ·exact k4 _ v hv) (by intro es c e; cases e)
               refine ⟨_,_,hrun,rfl,hSt,hW',?_⟩
               refine .hs b g off _ a cap' (by simpa using hbl) ?_ (by omega) ?_
               ·intro g0 z0 x0 hx0
                have hx0:(G.h.set b (.eL g ti.size (overwrite xs (off+len) ys))).get b=some (.eL g0 z0 x0):=hx0
                rw [bY.ik,if_pos ⟨rfl,bY.jl hget⟩] at hx0
                cases hx0
                exact Nat.le_refl _
               ·intro z0 x0 hx0
                have hx0:(G.h.set b (.eL g ti.size (overwrite xs (off+len) ys))).get b=some (.eL g z0 x0):=hx0
                rw [bY.ik,if_pos ⟨rfl,bY.jl hget⟩] at hx0
                cases hx0
                exact ⟨l,hpi,hcap,fun _=>ha⟩
              ·rename_i hno
               split at h
               ·rename_i hend
                rw [Nat.beq_eq] at hend
                have hno:¬ off+len+ys.length≤xs.length:=by
                 intro hh; rw [Nat.ble_eq_true_of_le hh] at hno; cases hno
                simp only [jw,Option.some.injEq] at h
                subst h
                have hdl:(xs.drop off).length=len:=by simp; omega
                have hvr:∀ (G':Ga) (l':Loc) (a':Addr) (cc:Nat),G'.h=G.h.set b (.eL (g+1) ti.size (xs.drop off++ys))→G'.pi b=some l'→l'.cap=cc→len+ys.length≤cc→a'=⟨l'.B,l'.base,none⟩→VR G' (.hs b (g+1) 0 (len+ys.length)) (.slice (some a') (len+ys.length) cc):=by
                 intro G' l' a' cc eh ep ec hle ea
                 refine .hs b (g+1) 0 _ a' cc (by rw [eh]; simpa using hbl) ?_ hle ?_
                 ·intro g0 z0 x0 hx0
                  rw [eh,bY.ik,if_pos ⟨rfl,bY.jl hget⟩] at hx0
                  cases hx0
                  exact Nat.le_refl _
                 ·intro z0 x0 hx0
                  exact ⟨l',ep,by omega,fun _=>by simpa using ea⟩
                by_cases hroom:len+ys.length≤cap'
                ·obtain ⟨ha,hfit,hrun⟩:=hin hroom
                 obtain ⟨hSt,hW'⟩:=Fc (l':=⟨l.B,l.base+off*ti.size,cap'⟩) (xs':=xs.drop off++ys) (w':=G.w.setRow l.B (c.toList.take (l.base+off*ti.size+len*ti.size)++news.toList++c.toList.drop (l.base+off*ti.size+len*ti.size+news.toList.length)).toArray) hW hpi hget (.inl rfl) (by rw [setRow_size]; exact Nat.le_refl _)
                  (by rw [setRow_size]; exact (hW.gE b l hpi).1) (fun k _ hk=>setRow_other _ _ k _ hk) rfl rfl rfl (by
                    intro G' E hw
                    have hnw:G'.w.heap[l.B]?=some (.cells (c.toList.take (l.base+off*ti.size+len*ti.size)++news.toList++c.toList.drop (l.base+off*ti.size+len*ti.size+news.toList.length)).toArray e (0,0)):=by
                     rw [hw]; exact setRow_heap G.w l.B c _ e (0,0) hB
                    have hov:=(k3.drop off).iG hrow hsz (n:=len) (o:=l.base+off*ti.size+len*ti.size) rfl hfit (by omega)
                    have hcut:(xs.drop off).take len++ys++(xs.drop off).drop (len+ys.length)=xs.drop off++ys:=by
                     rw [List.take_of_length_le (Nat.le_of_eq hdl),show (xs.drop off).drop (len+ys.length)=[] from List.drop_eq_nil_of_le (by rw [hdl]; omega),List.append_nil]
                    rw [hcut] at hov
                    refine jz.nS hnw (by simp only [List.length_append,hdl]; exact hroom) ?_ (hov.mono (fun _ _ h=>h.mono E)) ?_
                    ·rw [nM hfit]
                     have:(off+cap')*ti.size≤l.cap*ti.size:=Nat.mul_le_mul_right _ (by omega)
                     rw [Nat.add_mul] at this
                     simp only
                     omega
                    ·intro k v hv
                     rw [jQ hfit] at hv
                     split at hv
                     ·exact hone _ v hv
                     ·exact k4 _ v hv)
                 exact ⟨_,_,hrun,rfl,hSt,hW',hvr _ _ _ _ rfl (g6 _ _ _) rfl hroom ha⟩
                ·
                 have hro:=k3.drop off
                 have hold:∃ olds:Array Value,(Builtin.firstCells i.size len (.slice (some a) len cap')).run P G.w.drew=.ok olds G.w.drew∧gu (VC G) ti.size 0 (xs.drop off) olds∧olds.size=(xs.drop off).length*ti.size∧(∀ (i:Nat) (v:Value),olds[i]?=some v→v.oneCell'=true):=by
                  rcases Nat.eq_zero_or_pos cap' with h0 | h0
                  ·have hl0:len=0:=by omega
                   have hx0:xs.drop off=[]:=List.eq_nil_of_length_eq_zero (by omega)
                   rw [hx0,hl0]
                   refine ⟨#[],?_,⟨by simp,by simp⟩,by simp,by simp⟩
                   simp only [Builtin.firstCells,Nat.zero_mul]
                   simp [loadCells,loadCellsFrom]
                  ·have ha:=ha h0
                   subst ha
                   obtain ⟨olds,m1,m2⟩:=pO (P:=P) hB hro
                   refine ⟨olds,?_,m2⟩
                   simp only [Builtin.firstCells,his.1]
                   rw [hdl] at m1
                   exact m1 _ rfl
                 obtain ⟨olds,hold,hro',hso,ho1⟩:=hold
                 obtain ⟨f1,f2⟩:=fits (need:=len+ys.length) (mn:=cap') (bytes:=i.bytes) (by omega) (by omega) hby
                 have hrun:=run_append_grow_src (P:=P) G.w t tx ty el i z hd hi hz (some a) len cap' olds.toList (by simpa using hold) x' ys.length news.toList hS (by omega) f2 f1
                 obtain ⟨g1,g2,g3⟩:=wV (cap:=grownCap G.w (len+ys.length) cap' el) hro' hrow hso hsz hzs ho1 hone hcr.one (by rw [hdl]; exact grownCap_ge _ _ _ _)
                 rw [hdl] at g1 g2 g3
                 have hA:=gv.drew G.w (.cells ((olds.toList++news.toList).toArray++Builtin.zeroCells z.cells (grownCap G.w (len+ys.length) cap' el - (len+ys.length))) el)
                 obtain ⟨hSt,hW'⟩:=Fc (l':=⟨G.w.heap.size,0,grownCap G.w (len+ys.length) cap' el⟩) (xs':=xs.drop off++ys) hW hpi hget (.inr rfl) (by rw [hA.size]; omega) (by rw [hA.size]; simp only; omega)
                  (fun k hk _=>hA.mn hk) hA.os hA.output hA.tape (by
                    intro G' E hw
                    refine jz.nS (by rw [hw]; exact hA.new) (by simp only [List.length_append,hdl]; exact grownCap_ge _ _ _ _) (by simp only [Nat.zero_add]; rw [g2]; exact Nat.le_refl _) (g1.mono (fun _ _ h=>h.mono E)) g3)
                 exact ⟨_,_,hrun,rfl,hSt,hW',hvr _ _ _ _ rfl (g6 _ _ _) rfl (grownCap_ge _ _ _ _) rfl⟩
               ·cases h
          ·cases h
         ·cases h
      ·cases h
    ·cases hsrc
   ·cases hsrc
  ·cases h
 ·cases h
end
end Go.Sx
namespace Go.Sx
open Go
section
variable {P:Program} {C:fP} {G:Ga} {t:Nat} {tk:TI}
theorem py {k:AV} (h:kA tk k=true):k.kR=true:=by
 unfold kA at h
 split at h
 ·unfold mg at h
  split at h<;>first | rfl | cases h
 ·split at h
  ·rename_i l hl
   have:=agg?_eq hl; subst this
   simp only [Bool.and_eq_true,List.all_eq_true] at h
   simp only [AV.kR,List.all_eq_true]
   intro x hx
   have:=ry h.2 x hx
   unfold nJ at this
   split at this<;>first | rfl | cases this
  ·cases h
theorem Gk {v:AV} {u:Value} (h:VR G v u) (hs:nJ v=true):PR G.w G.T false v u:=by
 unfold nJ at hs
 split at hs
 ·exact h.rZ rfl
 ·exact h.rZ rfl
 ·exact h.rZ rfl
 ·cases hs
theorem qW {k:AV} {kv:Value} (hk:VR G k kv) (h:kA tk k=true):PR G.w G.T false k kv:=by
 unfold kA at h
 split at h
 ·refine Gk hk ?_
  unfold mg at h
  split at h<;>first | rfl | cases h
 ·split at h
  ·rename_i l hl
   have:=agg?_eq hl; subst this
   simp only [Bool.and_eq_true,List.all_eq_true] at h
   obtain ⟨vs,rfl,hl',h1,hr⟩:=hk.nA
   exact .agg _ l vs hl' h1 (fun i x y hx hy=>Gk (hr i x y hx hy).vr (ry h.2 x (List.mem_of_getElem? hx)))
  ·cases h
theorem CP {a b:ByteArray} (h:a.data.toList=b.data.toList):a=b:=by
 cases a; cases b
 simp only at h
 congr
 exact Array.toList_inj.1 h
theorem xk (a b:ByteArray):(a==b)=(a.data.toList==b.data.toList):=by
 cases a with | mk a=>cases b with | mk b =>
 have:((ByteArray.mk a)==(ByteArray.mk b))=(a==b):=rfl
 rw [this]
 apply Bool.eq_iff_iff.2
 simp
theorem mC {n:Nat} {kt:Nat} {e:Bool} {kv:Value} {w:World} {d:TypeDesc} (hd:P.underlying kt=some d) (h:d=.string∨d=.bool∨∃ k,d=.int k):(Instr.checkKey e (n+1) kt kv).run P w=.ok () w:=by
 rcases h with rfl | rfl | ⟨k,rfl⟩<;>simp [Instr.checkKey,run_underlying hd]
theorem u0 {a b:AV} {x y:Value} {m n:Bool} {w:World} {T:Bool→Nat→Prop} (ha:PR w T m a x) (hb:PR w T n b y) (h:iz a b=some true):x=y:=by
 cases a<;>simp only [iz,kF,qI,oA,rK,reduceCtorEq] at h<;>cases b<;>simp only [AV.bool?,AV.int?,AV.str?,reduceCtorEq] at h
 ·cases ha; cases hb
  simp only [Option.some.injEq,beq_iff_eq] at h
  rw [h]
 ·cases ha; cases hb
  split at h
  ·rename_i hk
   rw [lN] at hk
   simp only [lh,Option.some.injEq,beq_iff_eq] at h
   rw [hk,h]
  ·cases h
 ·cases ha with
  | str _ _ c hc =>
    cases hb with
    | str _ _ d hd =>
      simp only [Option.some.injEq,beq_iff_eq] at h
      rw [CP (hc.trans (h.trans hd.symm))]
theorem uN {w:World} {T:Bool→Nat→Prop} {m n:Bool}:∀ {l k:List AV} {xs ys:List Value},l.length=xs.length→k.length=ys.length→(∀ (i:Nat) (x:AV) (y:Value),l[i]?=some x→xs[i]?=some y→PR w T m x y) →
  (∀ (i:Nat) (x:AV) (y:Value),k[i]?=some x→ys[i]?=some y→PR w T n x y)→iq l k=some true→xs=ys
 | [],[],xs,ys,hl,hk,_,_,_=>by
   have h1:xs=[]:=List.eq_nil_of_length_eq_zero hl.symm
   have h2:ys=[]:=List.eq_nil_of_length_eq_zero hk.symm
   rw [h1,h2]
 | [],_::_,_,_,_,_,_,_,h=>by cases h
 | _::_,[],_,_,_,_,_,_,h=>by cases h
 | a::l,b::k,[],_,hl,_,_,_,_=>by simp at hl
 | a::l,b::k,_::_,[],_,hk,_,_,_=>by simp at hk
 | a::l,b::k,x::xs,y::ys,hl,hk,hx,hy,h=>by
   simp only [iq] at h
   split at h
   ·rename_i he
    have e1:=u0 (hx 0 a x rfl rfl) (hy 0 b y rfl rfl) he
    have e2:=uN (by simpa using hl) (by simpa using hk) (fun i=>hx (i+1)) (fun i=>hy (i+1)) h
    rw [e1,e2]
   ·split at h<;>cases h
   ·cases h
theorem zq {a b:AV} {x y:Value} {m n:Bool} {w:World} {T:Bool→Nat→Prop} (ha:PR w T m a x) (hb:PR w T n b y) (h:gR a b=some true):x=y:=by
 unfold gR at h
 split at h
 ·rename_i l hl
  have:=agg?_eq hl; subst this
  unfold tz at h
  split at h
  ·rename_i k hk
   have:=agg?_eq hk; subst this
   cases ha with
   | agg _ _ xs h1 h2 h3 =>
     cases hb with
     | agg _ _ ys k1 k2 k3 =>
       have:=uN (xs:=xs.toList) (ys:=ys.toList) (by simpa using h1) (by simpa using k1) (fun i x y hx hy=>h3 i x y hx (by simpa using hy)) (fun i x y hx hy=>k3 i x y hx (by simpa using hy)) h
       rw [Array.toList_inj.1 this]
  ·cases h
 ·exact u0 ha hb h
theorem sameBits_self {v:AV} {x:Value} {w:World} {T:Bool→Nat→Prop} {m:Bool} (h:PR w T m v x) (hk:v.kR=true):∀ n,Instr.sameBits (n+2) x x=true:=by
 have hsc:∀ (u:AV) (y:Value) (n:Nat),PR w T m u y→nJ u=true→Instr.sameBits n y y=true:=by
  intro u y n hu hs
  unfold nJ at hs
  split at hs
  ·cases hu; cases n<;>simp [Instr.sameBits]
  ·cases hu; cases n<;>simp [Instr.sameBits]
  ·cases hu; cases n<;>simp [Instr.sameBits,xk]
  ·cases hs
 intro n
 cases v with
 | bool b=>exact hsc _ _ _ h rfl
 | int k i=>exact hsc _ _ _ h rfl
 | str s=>exact hsc _ _ _ h rfl
 | agg l =>
   simp only [AV.kR,List.all_eq_true] at hk
   cases h with
   | agg _ _ vs hl h1 hr =>
     simp only [Instr.sameBits,beq_self_eq_true,Bool.true_and,List.all_eq_true]
     rintro ⟨a,b⟩ hab
     obtain ⟨i,hi⟩:=List.getElem?_of_mem hab
     rw [List.getElem?_zip_eq_some] at hi
     have hab':a=b:=by
      have:=hi.1.symm.trans hi.2
      exact Option.some.inj this
     subst hab'
     have hilt:i<l.length:=by
      rw [hl]
      have:=(List.getElem?_eq_some_iff.1 hi.1).1
      simpa using this
     have hg:l[i]?=some l[i]:=by rw [getElem?_pos]
     refine hsc l[i] a _ (hr i l[i] a hg (by simpa using hi.1)) ?_
     have:=hk l[i] (List.getElem_mem hilt)
     revert this
     generalize l[i]=q
     intro this
     cases q<;>first | rfl | cases this
 | _=>simp [AV.kR] at hk
def Told (P:Program) (kt:Nat) (d:TypeDesc) (k:AV) (kv:Value) (w:World) (T:Bool→Nat→Prop):Prop :=
 (∀ (k':AV) (kv':Value) (b:Bool),PR w T false k' kv'→gR k k'=some b→Instr.sameNow d kv kv'=some b) ∨
 ((∀ kv',Instr.sameNow d kv kv'=none)∧∀ (k':AV) (kv':Value) (b:Bool),PR w T false k' kv'→gR k k'=some b→(Op.equal kt kv kv').run P w=.ok b w)
theorem told {kt:Nat} {k:AV} {kv:Value} {w:World} {T:Bool→Nat→Prop} (hT:iX P kt tk) (hf:kA tk k=true) (hk:PR w T false k kv):∃ d,P.underlying kt=some d∧Told P kt d k kv w T∧∀ e w,(Instr.checkKey e 10000 kt kv).run P w=.ok () w:=by
 obtain ⟨d,hd,ha,hkd⟩:=hT.desc
 refine ⟨d,hd,?_⟩
 unfold kA at hf
 split at hf
 ·unfold mg at hf
  split at hf
  ·rename_i kd kk n hkind
   rw [lN] at hf
   subst hf
   rw [hkind] at hkd
   have hkd:d=.int kd:=hkd
   subst hkd
   cases hk
   refine ⟨.inl ?_,?_⟩
   ·intro k' kv' b hk' he
    simp only [gR,AV.agg?,iz,oA] at he
    split at he
    ·rename_i k2 m hm
     have:=int?_eq hm; subst this
     cases hk'
     split at he
     ·rename_i hkk
      rw [lN] at hkk
      subst hkk
      simp only [lh,Option.some.injEq] at he
      simp [Instr.sameNow,he]
     ·cases he
    ·cases he
   ·intro e w
    exact mC hd (.inr (.inr ⟨_,rfl⟩))
  ·rename_i s hkind
   rw [hkind] at hkd
   have hkd:d=.string:=hkd
   subst hkd
   cases hk with
   | str _ _ c hc =>
   refine ⟨.inl ?_,?_⟩
   ·intro k' kv' b hk' he
    simp only [gR,AV.agg?,iz,rK] at he
    split at he
    ·rename_i s2 hm
     have:=str?_eq hm; subst this
     cases hk' with
     | str _ _ c2 hc2 =>
     simp only [Option.some.injEq] at he
     simp only [Instr.sameNow,Option.some.injEq,xk,hc,hc2]
     exact he
    ·cases he
   ·intro e w
    exact mC hd (.inl rfl)
  ·rename_i b0 hkind
   rw [hkind] at hkd
   have hkd:d=.bool:=hkd
   subst hkd
   cases hk
   refine ⟨.inl ?_,?_⟩
   ·intro k' kv' b hk' he
    simp only [gR,AV.agg?,iz,qI] at he
    split at he
    ·rename_i s2 hm
     have:=bool?_eq hm; subst this
     cases hk'
     simp only [Option.some.injEq] at he
     simp [Instr.sameNow,he]
    ·cases he
   ·intro e w
    exact mC hd (.inr (.inl rfl))
  ·cases hf
 ·rename_i hagg
  split at hf
  ·rename_i l hl
   have:=agg?_eq hl; subst this
   simp only [Bool.and_eq_true,Nat.beq_eq] at hf
   cases hk with
   | agg _ _ vs hlv h1 hr =>
   have hkp:PR w T true (.agg l) (.agg vs):=(PR.agg false l vs hlv h1 hr).yA
   refine ⟨.inr ⟨?_,?_⟩,?_⟩
   ·intro kv'
    rw [hagg] at ha
    cases d<;>simp [zg] at ha<;>rfl
   ·intro k' kv' b hk' he
    simp only [gR,AV.agg?,tz] at he
    split at he
    ·rename_i m hm
     have:=agg?_eq hm; subst this
     cases hk' with
     | agg _ _ us hlu h2 hr2 =>
     have hlen:m.length=tk.size:=by
      have:∀ {l m:List AV} {b:Bool},iq l m=some b→l.length=m.length:=by
       intro l
       induction l with
       | nil=>intro m b h; cases m with | nil=>rfl | cons _ _=>cases h
       | cons a l ih =>
         intro m b h
         cases m with
         | nil=>cases h
         | cons c m =>
           simp only [iq] at h
           split at h
           ·have:=ih h; simp [this]
           ·split at h
            ·rename_i hq; have:=ih hq; simp [this]
            ·cases h
           ·cases h
      rw [← this he]; exact hf.1.2
     exact hT.flat hf.1.1 hagg l m vs us b w T hf.2 hf.1.2 hlen hkp ((PR.agg false m us hlu h2 hr2).yA) he
    ·cases he
   ·intro e w'
    exact hT.key hf.1.1 hagg e vs w' (by rw [← hlv]; exact hf.1.2)
  ·cases hf
end
end Go.Sx
namespace Go.Sx
open Go
section
variable {P:Program} {C:fP} {G:Ga} {t:Nat} {tk:TI}
def Found (k:AV) (es:List (AV×AV×Nat)) (ents:List MapEntry) (i:Nat) (r:Option (Nat×AV)) (r':Option (Nat×Value)):Prop :=
 (r=none∧r'=none)∨∃ j p e,r=some (i+j,p.2.1)∧es[j]?=some p∧ents[j]?=some e∧gR k p.1=some true∧r'=some (i+j,e.val)
theorem Found.cons {k:AV} {p:AV×AV×Nat} {e:MapEntry} {es:List (AV×AV×Nat)} {ents:List MapEntry} {i:Nat} {r:Option (Nat×AV)} {r':Option (Nat×Value)} (h:Found k es ents (i+1) r r'):Found k (p::es) (e::ents) i r r':=by
 rcases h with h | ⟨j,p',e',h1,h2,h3,h4,h5⟩
 ·exact .inl h
 ·exact .inr ⟨j+1,p',e',by rw [h1]; congr 2; omega,h2,h3,h4,by rw [h5]; congr 2; omega⟩
theorem wi {d:TypeDesc} {k:AV} {kv:Value} {w:World} {T:Bool→Nat→Prop} (H:∀ (k':AV) (kv':Value) (b:Bool),PR w T false k' kv'→gR k k'=some b→Instr.sameNow d kv kv'=some b) :
  ∀ (es:List (AV×AV×Nat)) (ents:List MapEntry) (i:Nat) (r:Option (Nat×AV)),es.length=ents.length→(∀ (j:Nat) p e,es[j]?=some p→ents[j]?=some e→PR w T false p.1 e.key)→findKey k es i=some r →
    ∃ r',Instr.findNow d kv ents i=some r'∧Found k es ents i r r'
 | [],[],i,r,_,_,h=>by
   simp only [findKey,Option.some.injEq] at h
   subst h
   exact ⟨none,rfl,.inl ⟨rfl,rfl⟩⟩
 | [],_::_,_,_,hl,_,_=>by simp at hl
 | _::_,[],_,_,hl,_,_=>by simp at hl
 | p::es,e::ents,i,r,hl,hr,h=>by
   obtain ⟨k',v,bn⟩:=p
   simp only [findKey] at h
   have hp:=hr 0 (k',v,bn) e rfl rfl
   split at h
   ·rename_i he
    cases h
    refine ⟨some (i,e.val),by simp only [Instr.findNow,H k' e.key true hp he],.inr ⟨0,(k',v,bn),e,rfl,rfl,rfl,he,rfl⟩⟩
   ·rename_i he
    obtain ⟨r',h1,h2⟩:=wi H es ents (i+1) r (by simpa using hl) (fun j=>hr (j+1)) h
    exact ⟨r',by simp only [Instr.findNow,H k' e.key false hp he]; exact h1,h2.cons⟩
   ·cases h
theorem wU {kt:Nat} {k:AV} {kv:Value} {w:World} {T:Bool→Nat→Prop} (H:∀ (k':AV) (kv':Value) (b:Bool),PR w T false k' kv'→gR k k'=some b→(Op.equal kt kv kv').run P w=.ok b w) :
  ∀ (es:List (AV×AV×Nat)) (ents:List MapEntry) (i:Nat) (r:Option (Nat×AV)),es.length=ents.length→(∀ (j:Nat) p e,es[j]?=some p→ents[j]?=some e→PR w T false p.1 e.key)→findKey k es i=some r →
    ∃ r',(Instr.findAsking kt kv ents i).run P w=.ok r' w∧Found k es ents i r r'
 | [],[],i,r,_,_,h=>by
   simp only [findKey,Option.some.injEq] at h
   subst h
   exact ⟨none,rfl,.inl ⟨rfl,rfl⟩⟩
 | [],_::_,_,_,hl,_,_=>by simp at hl
 | _::_,[],_,_,hl,_,_=>by simp at hl
 | p::es,e::ents,i,r,hl,hr,h=>by
   obtain ⟨k',v,bn⟩:=p
   simp only [findKey] at h
   have hp:=hr 0 (k',v,bn) e rfl rfl
   split at h
   ·rename_i he
    cases h
    refine ⟨some (i,e.val),by simp [Instr.findAsking,H k' e.key true hp he],.inr ⟨0,(k',v,bn),e,rfl,rfl,rfl,he,rfl⟩⟩
   ·rename_i he
    obtain ⟨r',h1,h2⟩:=wU H es ents (i+1) r (by simpa using hl) (fun j=>hr (j+1)) h
    exact ⟨r',by simp [Instr.findAsking,H k' e.key false hp he,h1],h2.cons⟩
   ·cases h
theorem j6 {kt:Nat} {k:AV} {kv:Value} {w:World} {T:Bool→Nat→Prop} (hT:iX P kt tk) (hf:kA tk k=true) (hk:PR w T false k kv) (es:List (AV×AV×Nat)) (ents:List MapEntry) (r:Option (Nat×AV)) (hl:es.length=ents.length)
  (hr:∀ (j:Nat) p e,es[j]?=some p→ents[j]?=some e→PR w T false p.1 e.key) (h:findKey k es 0=some r):∃ r',(Instr.findKey kt kv ents).run P w=.ok r' w∧Found k es ents 0 r r':=by
 obtain ⟨d,hd,hTold,_⟩:=told hT hf hk
 unfold Instr.findKey
 rcases hTold with H | ⟨H1,H2⟩
 ·obtain ⟨r',h1,h2⟩:=wi H es ents 0 r hl hr h
  exact ⟨r',by simp [run_underlying hd,h1],h2⟩
 ·obtain ⟨r',h1,h2⟩:=wU H2 es ents 0 r hl hr h
  refine ⟨r',?_,h2⟩
  cases ents with
  | nil =>
    have:es=[]:=List.eq_nil_of_length_eq_zero (by simpa using hl)
    subst this
    simp only [findKey,Option.some.injEq] at h
    subst h
    rcases h2 with ⟨_,rfl⟩ | ⟨j,p,e,h1,h2,_⟩
    ·simp [run_underlying hd,Instr.findNow]
    ·cases h2
  | cons e ents =>
    simp [run_underlying hd,Instr.findNow,H1,h1]
theorem findF {k:AV}:∀ (es:List (AV×AV)) (i:Nat) (r:Option AV),lJ k es=some r→∃ q,findKey k (es.map fun p=>(p.1,p.2,0)) i=some q∧q.map (·.2)=r
 | [],i,r,h=>by
   simp only [lJ,Option.some.injEq] at h
   subst h
   exact ⟨none,rfl,rfl⟩
 | (k',v)::es,i,r,h=>by
   simp only [lJ] at h
   simp only [List.map_cons,findKey]
   split at h
   ·rename_i he
    cases h
    exact ⟨some (i,v),rfl,rfl⟩
   ·rename_i he
    obtain ⟨q,h1,h2⟩:=findF es (i+1) r h
    exact ⟨q,h1,h2⟩
   ·cases h
theorem wY {el:Nat} {ti:TI} (hT:iX P el ti) {z:AV} (h:asAgg ti ti.zero=some z) (w:World):∃ z',(zeroValue el).run P w=.ok z' w∧VC G z z':=by
 obtain ⟨i,z',hi,hz,hcr,hzs,ha,ho⟩:=hT.nV (G:=G)
 refine ⟨z',by simp [zeroValue,typeInfo,hi,hz],?_⟩
 unfold asAgg at h
 split at h
 ·rename_i hagg
  cases h
  obtain ⟨cs,rfl⟩:=ha hagg
  have:(Value.agg cs).cells=cs:=rfl
  rw [this] at hcr
  exact ⟨hcr.agg,rfl⟩
 ·rename_i hagg
  have h1:=ho hagg
  rw [uV h1] at hcr
  split at h
  ·rename_i v hv
   cases h
   rw [hv] at hcr
   exact hcr.rel 0 _ z' rfl rfl
  ·cases h
theorem pZ {kt:Nat} {k:AV} (h:lx C kt k=true):∃ tk,C.T kt=some tk∧kA tk k=true:=by
 unfold lx at h
 split at h
 ·rename_i tk h1; exact ⟨tk,h1,h⟩
 ·cases h
theorem qf (hC:fV P C) {tm:TI} {kt el:Nat} (h:C.T t=some tm) (hk:tm.kind=.map kt el):P.underlying t=some (.map kt el):=by
 obtain ⟨d,hd,_,hkd⟩:=(hC.ty t tm h).desc
 rw [hk] at hkd
 have hkd:d=.map kt el:=hkd
 rw [hd,hkd]
def Gr (w:World) (m':Value) (ents:Array MapEntry):Prop:=(m'=.map none∧ents = #[])∨∃ r c,m'=.map (some r)∧w.heap[r]?=some (.map ents c)
theorem tp {kt el:Nat} {m' k' q:Value} {ents:Array MapEntry} {r':Option (Nat×Value)} {b ok:Bool} {w:World} (hd:P.underlying t=some (.map kt el)) (hm:Gr w m' ents) (hck:∀ e w,(Instr.checkKey e 10000 kt k').run P w=.ok () w)
  (hf:(Instr.findKey kt k' ents.toList).run P w=.ok r' w) (hq:(∃ i,r'=some (i,q)∧b=true)∨(r'=none∧b=false∧(zeroValue el).run P w=.ok q w)) :
  (Instr.lookup t m' k' ok).run P w=.ok (if ok=true then .tuple #[q,.bool b] else q) w:=by
 unfold Instr.lookup
 rcases hm with ⟨rfl,rfl⟩ | ⟨r,c,rfl,hB⟩<;>rcases hq with ⟨i,rfl,rfl⟩ | ⟨rfl,rfl,hz⟩
 ·have hf':=hf
  simp [run_underlying hd,hck,hf']
 ·have hf':=hf
  simp [run_underlying hd,hck,hf',hz]
 ·simp [run_underlying hd,hck,hf,MapKept.run_getObj_map hB]
 ·simp [run_underlying hd,hck,hf,hz,MapKept.run_getObj_map hB]
theorem wI (hW:WR G) (hC:fV P C) {m k v:AV} {m' k':Value} {ok:Bool} (hm:VR G m m') (hk:VR G k k') (h:lM C t G.h m k ok=some v) :
  ∃ u,(Instr.lookup t m' k' ok).run P G.w=.ok u G.w∧VR G v u:=by
 unfold lM at h
 split at h
 ·cases h
 ·rename_i tm htm
  split at h
  ·rename_i kt el hkind
   have hd:=qf hC htm hkind
   split at h
   ·cases h
   ·rename_i ti hti
    split at h
    ·cases h
    ·rename_i hkey
     obtain ⟨tk,htk,hfit⟩:=pZ hkey
     have hTk:=hC.ty kt tk htk
     have hkp:=qW hk hfit
     obtain ⟨d,hdk,_,hck⟩:=told hTk hfit hkp
     have htup:∀ (x:AV) (u:Value) (b:Bool),VR G x u→p7 ok b x=some v→VR G v (if ok=true then .tuple #[u,.bool b] else u):=by
      intro x u b hx he
      unfold p7 at he
      split at he
      ·cases he
       simp only [if_true]
       refine .eP _ _ rfl ?_
       intro i a c ha hc
       match i with
       | 0=>cases ha; cases hc; exact hx
       | 1=>cases ha; cases hc; exact VR.bool _
       | i+2=>simp at ha
      ·cases he
       simpa using hx
     have main:∀ (es:List (AV×AV×Nat)) (ents:Array MapEntry) (r:Option (Nat×AV)),es.length=ents.size→(∀ (j:Nat) p e,es[j]?=some p→ents[j]?=some e→PR G.w G.T false p.1 e.key∧VR G p.2.1 e.val)→findKey k es 0=some r→Gr G.w m' ents→lr G.h k m=some (r.map (·.2))→∃ u,(Instr.lookup t m' k' ok).run P G.w=.ok u G.w∧VR G v u:=by
      intro es ents r hl hr hf hents hfi
      rw [hfi] at h
      obtain ⟨r',h1,h2⟩:=j6 hTk hfit hkp es ents.toList r (by simpa using hl) (fun j p e hp he=>(hr j p e hp (by simpa using he)).1) hf
      rcases h2 with ⟨rfl,rfl⟩ | ⟨j,p,e,rfl,hp,he,hke,rfl⟩
      ·simp only [Option.map_none] at h
       split at h
       ·cases h
       ·rename_i z hz
        obtain ⟨z',hz',hvz⟩:=wY (G:=G) (hC.ty el ti hti) hz G.w
        exact ⟨_,tp hd hents hck h1 (.inr ⟨rfl,rfl,hz'⟩),htup z z' false hvz.vr h⟩
      ·simp only [Option.map_some] at h
       exact ⟨_,tp hd hents hck h1 (.inl ⟨_,rfl,rfl⟩),htup _ _ true (hr j p e hp (by simpa using he)).2 h⟩
     cases hfi:lr G.h k m with
     | none=>rw [hfi] at h; cases h
     | some x =>
     have hfi0:=hfi
     unfold lr at hfi
     split at hfi
     ·
      cases hm with
      | fp _ hm =>
        cases hm
        exact main [] #[] none rfl (by simp) rfl (.inl ⟨rfl,rfl⟩) rfl
     ·
      rename_i es sn
      ·obtain ⟨q,h1,h2⟩:=findF es 0 x hfi
       cases hm with
       | fp _ hm =>
         cases hm with
         | fm _ _ _ r0 ents clk hmm hB hI hl hy hko hkk hvv =>
           refine main (es.map fun p=>(p.1,p.2,0)) ents q (by simpa using hl) ?_ h1 (.inr ⟨r0,clk,rfl,hB⟩) (by rw [hfi0,h2])
           intro j p e hp he
           rw [List.getElem?_map] at hp
           cases hj:es[j]? with
           | none=>rw [hj] at hp; cases hp
           | some p0 =>
             rw [hj] at hp
             cases hp
             have hc:=hko j p0 hj
             have hp1:PR G.w G.T false p0.1 e.key:=by
              have h0:=hkk j p0 e hj he
              have hsc:∀ (x:AV) (y:Value) (m:Bool),PR G.w G.T m x y→nJ x=true→PR G.w G.T false x y:=by
               intro x y m hx hs
               exact hx.down (by unfold nJ at hs; split at hs<;>first | rfl | cases hs)
              cases hk0:p0.1 with
              | bool b=>rw [hk0] at h0; exact hsc _ _ _ h0 rfl
              | int kk b=>rw [hk0] at h0; exact hsc _ _ _ h0 rfl
              | str b=>rw [hk0] at h0; exact hsc _ _ _ h0 rfl
              | agg l =>
                rw [hk0] at h0 hc
                generalize hv:e.key=kv at h0
                cases h0 with
                | agg _ _ vs hlv h1 hr =>
                  refine .agg _ l vs hlv h1 (fun i x y hx hy=>hsc _ _ _ (hr i x y hx hy) ?_)
                  simp only [AV.kR,List.all_eq_true] at hc
                  have:=hc x (List.mem_of_getElem? hx)
                  unfold nJ
                  split at this<;>first | rfl | cases this
              | _=>rw [hk0] at hc; simp [AV.kR] at hc
             exact ⟨hp1,(hvv j p0 e hj he).qU⟩
     ·
      rename_i b
      split at hfi
      ·rename_i es clk hget
       cases hm with
       | fp hp _=>simp [AV.gl] at hp
       | hm _ r0 hb hl =>
         obtain ⟨l,hpi,rfl⟩:=hl es clk hget
         obtain ⟨ents,hB,hlen,_,hrel⟩:=hW.map b l es clk hpi hget
         have hrel':∀ (j:Nat) p e,es[j]?=some p→ents[j]?=some e→PR G.w G.T false p.1 e.key∧VR G p.2.1 e.val:=fun j p e hp he=>⟨(hrel j p e hp he).2.1,(hrel j p e hp he).2.2.1.vr⟩
         cases hq:findKey k es 0 with
         | none=>rw [hq] at hfi; cases hfi
         | some q =>
           refine main es ents q hlen hrel' hq (.inr ⟨l.B,clk,rfl,hB⟩) ?_
           rw [hfi0]
           cases q with
           | none=>rw [hq] at hfi; cases hfi; rfl
           | some q=>rw [hq] at hfi; cases hfi; rfl
      ·cases hfi
     ·cases hfi
  ·cases h
end
end Go.Sx
namespace Go.Sx
open Go
def jS (G:Ga) (es:List (AV×AV×Nat)) (ents:List MapEntry):Prop :=
 es.length=ents.length∧∀ (i:Nat) (p:AV×AV×Nat) (e:MapEntry),es[i]?=some p→ents[i]?=some e→p.1.kR=true∧PR G.w G.T false p.1 e.key∧VC G p.2.1 e.val∧p.2.2=e.born
theorem jS.mono {G G':Ga} {es:List (AV×AV×Nat)} {ents:List MapEntry} (h:jS G es ents) (E:Ext G G'):jS G' es ents :=
 ⟨h.1,fun i p e hp he=>let ⟨a,b,c,d⟩:=h.2 i p e hp he; ⟨a,b.mono E.T E.eB,c.mono E,d⟩⟩
theorem jS.push {G:Ga} {es:List (AV×AV×Nat)} {ents:List MapEntry} (h:jS G es ents) {p:AV×AV×Nat} {e:MapEntry} (hn:p.1.kR=true∧PR G.w G.T false p.1 e.key∧VC G p.2.1 e.val∧p.2.2=e.born):jS G (es++[p]) (ents++[e]):=by
 refine ⟨by simp [h.1],?_⟩
 intro i q f hq hf
 rw [List.getElem?_append] at hq hf
 split at hq
 ·rename_i hi
  rw [if_pos (by rw [← h.1]; exact hi)] at hf
  exact h.2 i q f hq hf
 ·rename_i hi
  rw [if_neg (by rw [← h.1]; exact hi)] at hf
  rw [h.1] at hq
  cases hk:i - ents.length with
  | zero =>
    rw [hk] at hq hf
    cases hq; cases hf
    exact hn
  | succ n=>rw [hk] at hq; cases hq
theorem jS.modify {G:Ga} {es:List (AV×AV×Nat)} {ents:List MapEntry} (h:jS G es ents) {j:Nat} {f:AV×AV×Nat→AV×AV×Nat} {g:MapEntry→MapEntry}
  (hn:∀ p e,es[j]?=some p→ents[j]?=some e→(f p).1.kR=true∧PR G.w G.T false (f p).1 (g e).key∧VC G (f p).2.1 (g e).val∧(f p).2.2=(g e).born):jS G (es.modify j f) (ents.modify j g):=by
 refine ⟨by simp [h.1],?_⟩
 intro i q e hq he
 rw [List.getElem?_modify] at hq he
 by_cases hij:j=i
 ·subst hij
  simp only [if_true] at hq he
  cases hp:es[j]? with
  | none=>rw [hp] at hq; cases hq
  | some p =>
    cases hx:ents[j]? with
    | none=>rw [hx] at he; cases he
    | some x =>
      rw [hp] at hq; rw [hx] at he
      cases hq; cases he
      exact hn p x hp hx
 ·simp only [if_neg hij] at hq he
  cases hp:es[i]? with
  | none=>rw [hp] at hq; cases hq
  | some p =>
    cases hx:ents[i]? with
    | none=>rw [hx] at he; cases he
    | some x =>
      rw [hp] at hq; rw [hx] at he
      cases hq; cases he
      exact h.2 i p x hp hx
theorem jS.erase {G:Ga} {es:List (AV×AV×Nat)} {ents:List MapEntry} (h:jS G es ents) (j:Nat):jS G (es.eraseIdx j) (ents.eraseIdx j):=by
 refine ⟨by simp only [List.length_eraseIdx,h.1],?_⟩
 intro i q e hq he
 rw [List.getElem?_eraseIdx] at hq he
 split at hq
 ·rename_i hi; rw [if_pos hi] at he; exact h.2 _ q e hq he
 ·rename_i hi; rw [if_neg hi] at he; exact h.2 _ q e hq he
theorem lA.push {es:List (AV×AV×Nat)} {c:Nat} (h:lA es c) (k v:AV):lA (es++[(k,v,c)]) (c+1):=by
 intro p hp
 rcases List.mem_append.1 hp with hp | hp
 ·exact Nat.lt_succ_of_lt (h p hp)
 ·rw [List.mem_singleton.1 hp]; exact Nat.lt_succ_self _
theorem lA.modify {es:List (AV×AV×Nat)} {c:Nat} (h:lA es c) (j:Nat) (f:AV×AV×Nat→AV×AV×Nat) (hf:∀ p,(f p).2.2=p.2.2):lA (es.modify j f) c:=by
 intro p hp
 obtain ⟨i,hi⟩:=List.getElem?_of_mem hp
 rw [List.getElem?_modify] at hi
 cases hq:es[i]? with
 | none=>rw [hq] at hi; cases hi
 | some q =>
   rw [hq] at hi
   have hq2:=h q (List.mem_of_getElem? hq)
   simp only [Option.map_eq_map,Option.map_some,Option.some.injEq] at hi
   split at hi
   ·rw [← hi,hf]; exact hq2
   ·rw [← hi]; exact hq2
theorem lA.erase {es:List (AV×AV×Nat)} {c:Nat} (h:lA es c) (j:Nat):lA (es.eraseIdx j) c :=
 fun p hp=>h p ((List.eraseIdx_subset) hp)
theorem lV.obj {w:World} {r:Nat} {o:Obj} (h:r<w.heap.size):lV w { w with heap:=w.heap.setIfInBounds r o } r o:=by
 refine ⟨by simp [h],?_,by simp,rfl,rfl,rfl⟩
 intro k hk
 simp only [Array.getElem?_setIfInBounds]
 rw [if_neg (fun e=>hk e.symm)]
section
variable {P:Program} {C:fP} {G:Ga} {t:Nat} {tk:TI}
theorem sD (hC:fV P C) {k:AV} (h:mapKey C t k=true):∃ kt el tk,P.underlying t=some (.map kt el)∧iX P kt tk∧kA tk k=true:=by
 unfold mapKey at h
 split at h
 ·rename_i tm htm
  split at h
  ·rename_i kt el hk
   obtain ⟨tk,h1,h2⟩:=pZ h
   exact ⟨kt,el,tk,qf hC htm hk,hC.ty kt tk h1,h2⟩
  ·cases h
 ·cases h
theorem mX (hW:WR G) {b:Nat} {m':Value} {es:List (AV×AV×Nat)} {c:Nat} (hm:VR G (.hm b) m') (hget:G.h.get b=some (.map es c)) :
  ∃ l ents,G.pi b=some l∧m'=.map (some l.B)∧G.w.heap[l.B]?=some (.map ents c)∧jS G es ents.toList∧lA es c:=by
 cases hm with
 | fp hp _=>simp [AV.gl] at hp
 | hm _ r0 hb hl =>
   obtain ⟨l,hpi,rfl⟩:=hl es c hget
   obtain ⟨ents,hB,hlen,hy,hrel⟩:=hW.map b l es c hpi hget
   exact ⟨l,ents,hpi,rfl,hB,⟨by simpa using hlen,fun i p e hp he=>hrel i p e hp (by simpa using he)⟩,hy⟩
theorem mq (hW:WR G) {b:Nat} {l:Loc} {es es':List (AV×AV×Nat)} {ents:Array MapEntry} {c c':Nat} {ents':Array MapEntry} (hpi:G.pi b=some l) (hget:G.h.get b=some (.map es c)) (h':jS G es' ents'.toList) (hy:lA es' c') :
  Step G ⟨{ G.w with heap:=G.w.heap.setIfInBounds l.B (.map ents' c') },G.T,G.h.set b (.map es' c'),G.pi,G.L⟩∧WR ⟨{ G.w with heap:=G.w.heap.setIfInBounds l.B (.map ents' c') },G.T,G.h.set b (.map es' c'),G.pi,G.L⟩:=by
 refine pa hW hpi (lV.obj (hW.gE b l hpi).1) (.inr ⟨es,c,es',c',hget,rfl⟩) (by intro g z xs e; cases e) ?_
 intro es2 c2 e G' E hnew
 cases e
 have h2:=h'.mono E
 exact ⟨ents',hnew,by simpa using h2.1,hy,fun i p e hp he=>h2.2 i p e hp (by simpa using he)⟩
theorem sP {x:AV} (h:x.sa=true):x.iL=true:=by cases x<;>simp_all [AV.sa,AV.iL]
theorem stays {k k0:AV} {kv kv0:Value} {w:World} (h1:PR G.w G.T false k kv) (h2:PR G.w G.T false k0 kv0) (he:gR k k0=some true) (hk:k.kR=true):(Instr.keyThatStays kv0 kv).run P w=.ok kv w:=by
 have:=zq h1 h2 he
 subst this
 unfold Instr.keyThatStays
 rw [sameBits_self h1 hk 9998]
 simp
theorem my {k:AV} {es:List (AV×AV×Nat)} {ents:List MapEntry} {r:Option (Nat×AV)} {r':Option (Nat×Value)} (h:Found k es ents 0 r r') :
  (r=none∧r'=none)∨∃ j p e,r=some (j,p.2.1)∧es[j]?=some p∧ents[j]?=some e∧gR k p.1=some true∧r'=some (j,e.val):=by
 rcases h with h | ⟨j,p,e,h1,h2,h3,h4,h5⟩
 ·exact .inl h
 ·rw [Nat.zero_add] at h1 h5
  exact .inr ⟨j,p,e,h1,h2,h3,h4,h5⟩
theorem oR (hW:WR G) (hC:fV P C) {m k x:AV} {m' k' x':Value} {r:AV×bY} (hm:VR G m m') (hk:VR G k k') (hx:VR G x x') (h:nm C G.h t m k x=some r) :
  r.1=.undef∧tS P G (Instr.mapUpdate t m' k' x') r.2:=by
 unfold nm at h
 split at h
 ·rename_i b
  split at h
  ·rename_i es c hget
   split at h
   ·rename_i hb
    simp only [Bool.and_eq_true] at hb
    obtain ⟨kt,el,tk,hd,hTk,hfit⟩:=sD hC hb.1
    have hkp:=qW hk hfit
    obtain ⟨d,hdk,_,hck⟩:=told hTk hfit hkp
    obtain ⟨l,ents,hpi,rfl,hB,hrel,hyo⟩:=mX hW hm hget
    split at h
    ·rename_i es' c' hup
     cases h
     refine ⟨rfl,?_⟩
     unfold rn at hup
     split at hup
     ·cases hup
     ·rename_i hf
      cases hup
      obtain ⟨r',h1,h2⟩:=j6 hTk hfit hkp es ents.toList none hrel.1 (fun j p e hp he=>(hrel.2 j p e hp he).2.1) hf
      rcases my h2 with ⟨_,rfl⟩ | ⟨j,p,e,h0,_⟩
      ·have hE:jS G (es++[(k,x,c)]) (ents.push { key:=k',val:=x',born:=c }).toList:=by
        rw [Array.toList_push]
        exact hrel.push ⟨py hfit,hkp,⟨hx,sP hb.2⟩,rfl⟩
       obtain ⟨hS,hW'⟩:=mq (ents:=ents) (c':=c+1) hW hpi hget hE (hyo.push _ _)
       refine ⟨_,?_,rfl,hS,hW'⟩
       simp [Instr.mapUpdate,run_underlying hd,MapKept.run_getObj_map hB,hck,h1,MapKept.run_setObj_map _ hB]
      ·cases h0
     ·rename_i i v hf
      cases hup
      obtain ⟨r',h1,h2⟩:=j6 hTk hfit hkp es ents.toList _ hrel.1 (fun j p e hp he=>(hrel.2 j p e hp he).2.1) hf
      rcases my h2 with ⟨h0,_⟩ | ⟨j,p,e,h0,hp,he,hke,rfl⟩
      ·cases h0
      ·cases h0
       have hst:=stays (P:=P) (w:=G.w) hkp (hrel.2 i p e hp he).2.1 hke (py hfit)
       have hE:jS G (es.modify i (fun e=>(k,x,e.2.2))) (ents.modify i fun e=>{ e with key:=k',val:=x' }).toList:=by
        rw [Array.toList_modify]
        exact hrel.modify (fun p0 e0 hp0 he0=>⟨py hfit,hkp,⟨hx,sP hb.2⟩,(hrel.2 i p0 e0 hp0 he0).2.2.2⟩)
       obtain ⟨hS,hW'⟩:=mq (ents:=ents) (c':=c) hW hpi hget hE (hyo.modify _ _ (fun _=>rfl))
       refine ⟨_,?_,rfl,hS,hW'⟩
       have he':ents[i]?=some e:=by simpa using he
       simp [Instr.mapUpdate,run_underlying hd,MapKept.run_getObj_map hB,hck,h1,he',hst,MapKept.run_setObj_map _ hB]
    ·cases h
   ·cases h
  ·cases h
 ·cases h
theorem uu (hW:WR G) (hC:fV P C) {m k:AV} {m' k':Value} {r:AV×bY} (hm:VR G m m') (hk:VR G k k') (h:mQ C G.h t m k=some r):kV P G (Instr.mapEntry t m' k') r:=by
 unfold mQ at h
 split at h
 ·cases h
 ·rename_i tm htm
  split at h
  ·rename_i kt el b hkind
   have hd:=qf hC htm hkind
   split at h
   ·rename_i ti es c hti hget
    split at h
    ·cases h
    ·rename_i hkey
     obtain ⟨tk,htk,hfit⟩:=pZ hkey
     have hTk:=hC.ty kt tk htk
     have hkp:=qW hk hfit
     obtain ⟨d,hdk,_,hck⟩:=told hTk hfit hkp
     obtain ⟨l,ents,hpi,rfl,hB,hrel,hyo⟩:=mX hW hm hget
     split at h
     ·rename_i i v hf
      cases h
      obtain ⟨r',h1,h2⟩:=j6 hTk hfit hkp es ents.toList _ hrel.1 (fun j p e hp he=>(hrel.2 j p e hp he).2.1) hf
      rcases my h2 with ⟨h0,_⟩ | ⟨j,p,e,h0,hp,he,hke,rfl⟩
      ·cases h0
      ·cases h0
       have hst:=stays (P:=P) (w:=G.w) hkp (hrel.2 i p e hp he).2.1 hke (py hfit)
       have hE:jS G (es.modify i (fun x=>(k,x.2))) (ents.modify i fun e=>{ e with key:=k' }).toList:=by
        rw [Array.toList_modify]
        exact hrel.modify (fun p0 e0 hp0 he0=>⟨py hfit,hkp,(hrel.2 i p0 e0 hp0 he0).2.2⟩)
       obtain ⟨hS,hW'⟩:=mq (ents:=ents) (c':=c) hW hpi hget hE (hyo.modify _ _ (fun _=>rfl))
       have he':ents[i]?=some e:=by simpa using he
       refine ⟨.tuple #[e.val,.int .i64 e.born],_,?_,rfl,hS,hW',?_⟩
       ·simp [Instr.mapEntry,run_underlying hd,MapKept.run_getObj_map hB,hck,h1,he',hst,MapKept.run_setObj_map _ hB,goInt]
       ·refine .eP _ _ rfl ?_
        intro i2 a u ha hu
        match i2 with
        | 0=>cases ha; cases hu; exact ((hrel.2 i p e hp he).2.2.1.mono hS.ext).vr
        | 1 =>
          cases ha; cases hu
          have:pG es i=e.born:=by simp only [pG,hp]; exact (hrel.2 i p e hp he).2.2.2
          rw [this]
          exact VR.int _ _
        | i2+2=>simp at ha
     ·rename_i hf
      split at h
      ·rename_i z hz
       cases h
       obtain ⟨z',hz',hvz⟩:=wY (G:=G) (hC.ty el ti hti) hz G.w
       obtain ⟨r',h1,h2⟩:=j6 hTk hfit hkp es ents.toList none hrel.1 (fun j p e hp he=>(hrel.2 j p e hp he).2.1) hf
       rcases my h2 with ⟨_,rfl⟩ | ⟨j,p,e,h0,_⟩
       ·have hE:jS G (es++[(k,z,c)]) (ents.push { key:=k',val:=z',born:=c }).toList:=by
         rw [Array.toList_push]
         exact hrel.push ⟨py hfit,hkp,hvz,rfl⟩
        obtain ⟨hS,hW'⟩:=mq (ents:=ents) (c':=c+1) hW hpi hget hE (hyo.push _ _)
        refine ⟨.tuple #[z',.int .i64 c],_,?_,rfl,hS,hW',?_⟩
        ·simp [Instr.mapEntry,run_underlying hd,MapKept.run_getObj_map hB,hck,h1,hz',MapKept.run_setObj_map _ hB,goInt]
        ·refine .eP _ _ rfl ?_
         intro i2 a u ha hu
         match i2 with
         | 0=>cases ha; cases hu; exact (hvz.mono hS.ext).vr
         | 1=>cases ha; cases hu; exact VR.int _ _
         | i2+2=>simp at ha
       ·cases h0
      ·cases h
     ·cases h
   ·cases h
  ·cases h
theorem qD {n:Int} {v:AV}:∀ {es es':List (AV×AV×Nat)},kz n v es=some es'→∃ j,es'=es.modify j (fun p=>(p.1,v,p.2.2))∧(∃ p,es[j]?=some p∧((p.2.2:Int)==n)=true)∧∀ i p,i<j→es[i]?=some p→((p.2.2:Int)==n)=false
 | [],es',h=>by cases h
 | (k,w,b)::es,es',h=>by
   simp only [kz] at h
   split at h
   ·rename_i hb
    cases h
    exact ⟨0,rfl,⟨_,rfl,hb⟩,fun i p hi=>by omega⟩
   ·rename_i hb
    split at h
    ·cases h
    ·rename_i es2 h2
     cases h
     obtain ⟨j,h3,⟨p,h4,h5⟩,h6⟩:=qD h2
     refine ⟨j+1,by rw [h3]; rfl,⟨p,h4,h5⟩,?_⟩
     intro i q hi hq
     cases i with
     | zero=>cases hq; simpa using hb
     | succ i=>exact h6 i q (by omega) hq
theorem sU (hW:WR G) {m s x:AV} {m' s' x':Value} {r:AV×bY} (hm:VR G m m') (hs:VR G s s') (hx:VR G x x') (h:mL G.h m s x=some r):r.1=.undef∧tS P G (Instr.entryStore t m' s' x') r.2:=by
 unfold mL at h
 split at h
 ·rename_i b kk n hs2
  have:=int?_eq hs2; subst this
  rw [hs.of_int]
  split at h
  ·rename_i es c hget
   split at h
   ·rename_i hvo
    split at h
    ·rename_i es' hst
     cases h
     refine ⟨rfl,?_⟩
     obtain ⟨l,ents,hpi,rfl,hB,hrel,hyo⟩:=mX hW hm hget
     obtain ⟨j,rfl,⟨p,hp,hpn⟩,hmin⟩:=qD hst
     have hjl:j<ents.size:=by
      have:=(List.getElem?_eq_some_iff.1 hp).1
      rw [hrel.1] at this
      simpa using this
     have hfi:ents.findIdx? (fun e=>(e.born:Int)==n)=some j:=by
      rw [Array.findIdx?_eq_some_iff_getElem]
      have hgj:ents.toList[j]?=some ents[j]:=by simp [hjl]
      refine ⟨hjl,?_,?_⟩
      ·rw [← (hrel.2 j p ents[j] hp hgj).2.2.2]; exact hpn
      ·intro i hi
       have hil:i<ents.size:=Nat.lt_trans hi hjl
       have hgi:ents.toList[i]?=some ents[i]:=by simp [hil]
       have hil':i<es.length:=by rw [hrel.1]; simpa using hil
       have hei:es[i]?=some es[i]:=by rw [getElem?_pos]
       rw [← (hrel.2 i es[i] ents[i] hei hgi).2.2.2]
       simpa using hmin i es[i] hi hei
     have hE:jS G (es.modify j fun p=>(p.1,x,p.2.2)) (ents.modify j fun e=>{ e with val:=x' }).toList:=by
      rw [Array.toList_modify]
      exact hrel.modify (fun p0 e0 hp0 he0=>⟨(hrel.2 j p0 e0 hp0 he0).1,(hrel.2 j p0 e0 hp0 he0).2.1,⟨hx,sP hvo⟩,(hrel.2 j p0 e0 hp0 he0).2.2.2⟩)
     obtain ⟨hS,hW'⟩:=mq (ents:=ents) (c':=c) hW hpi hget hE (hyo.modify _ _ (fun _=>rfl))
     refine ⟨_,?_,rfl,hS,hW'⟩
     simp [Instr.entryStore,MapKept.run_getObj_map hB,asInt,lU,hfi,MapKept.run_setObj_map _ hB]
    ·cases h
   ·cases h
  ·cases h
 ·cases h
theorem w6 (hW:WR G) (hC:fV P C) {ats:Array Nat} {m k:AV} {m' k':Value} {ty:Nat} {r:AV×bY} (hm:VR G m m') (hk:VR G k k') (h:pv C ats.toList [m,k] G.h=some r):kV P G (Builtin.delete_ ats ty #[m',k']) r:=by
 have hkey:sd C k ats.toList=true→∃ t kt el tk,ats[0]?=some t∧P.underlying t=some (.map kt el)∧iX P kt tk∧kA tk k=true:=by
  intro hh
  unfold sd at hh
  split at hh
  ·rename_i t rest hats
   obtain ⟨kt,el,tk,a,b,c⟩:=sD hC hh
   exact ⟨t,kt,el,tk,by rw [← Array.getElem?_toList,hats]; rfl,a,b,c⟩
  ·cases hh
 have htup:∀ G',VR G' (.eP []) (.tuple #[]):=fun G'=>.eP _ _ rfl (by simp)
 unfold pv at h
 split at h
 ·rename_i k0 hargs
  simp only [List.cons.injEq,and_true] at hargs
  obtain ⟨rfl,rfl⟩:=hargs
  split at h
  ·rename_i hh
   cases h
   obtain ⟨t,kt,el,tk,h0,hd,hTk,hfit⟩:=hkey hh
   obtain ⟨d,hdk,_,hck⟩:=told hTk hfit (qW hk hfit)
   cases hm with
   | fp _ hm =>
     cases hm
     exact ⟨.tuple #[],G,by simp [Builtin.delete_,h0,run_underlying hd,hck],rfl,.refl G,hW,htup G⟩
  ·cases h
 ·rename_i b k0 hargs
  simp only [List.cons.injEq,and_true] at hargs
  obtain ⟨rfl,rfl⟩:=hargs
  split at h
  ·rename_i es c hget
   split at h
   ·rename_i hh
    obtain ⟨t,kt,el,tk,h0,hd,hTk,hfit⟩:=hkey hh
    have hkp:=qW hk hfit
    obtain ⟨d,hdk,_,hck⟩:=told hTk hfit hkp
    obtain ⟨l,ents,hpi,rfl,hB,hrel,hyo⟩:=mX hW hm hget
    split at h
    ·rename_i es' hdm
     cases h
     unfold yu at hdm
     split at hdm
     ·cases hdm
     ·rename_i hf
      cases hdm
      obtain ⟨r',h1,h2⟩:=j6 hTk hfit hkp es ents.toList none hrel.1 (fun j p e hp he=>(hrel.2 j p e hp he).2.1) hf
      rcases my h2 with ⟨_,rfl⟩ | ⟨j,p,e,h0,_⟩
      ·obtain ⟨hS,hW'⟩:=mq (ents:=ents) (c':=c) hW hpi hget hrel hyo
       exact ⟨.tuple #[],_,by simp [Builtin.delete_,h0,run_underlying hd,MapKept.run_getObj_map hB,hck,h1,MapKept.run_setObj_map _ hB],rfl,hS,hW',htup _⟩
      ·cases h0
     ·rename_i i v hf
      cases hdm
      obtain ⟨r',h1,h2⟩:=j6 hTk hfit hkp es ents.toList _ hrel.1 (fun j p e hp he=>(hrel.2 j p e hp he).2.1) hf
      rcases my h2 with ⟨h0,_⟩ | ⟨j,p,e,h3,hp,he,hke,rfl⟩
      ·cases h0
      ·cases h3
       have hE:jS G (es.eraseIdx i) (ents.eraseIdxIfInBounds i).toList:=by
        rw [Array.toList_eraseIdxIfInBounds]
        exact hrel.erase i
       obtain ⟨hS,hW'⟩:=mq (ents:=ents) (c':=c) hW hpi hget hE (hyo.erase _)
       exact ⟨.tuple #[],_,by simp [Builtin.delete_,h0,run_underlying hd,MapKept.run_getObj_map hB,hck,h1,MapKept.run_setObj_map _ hB],rfl,hS,hW',htup _⟩
    ·cases h
   ·cases h
  ·cases h
 ·cases h
end
end Go.Sx
namespace Go.Sx
open Go
section
variable {P:Program} {C:fP} {G:Ga} {t:Nat} {ti:TI}
theorem tE (hC:fV P C) {ats:Array Nat} (h:nr C ats.toList=some ti):∃ t el,ats[0]?=some t∧P.underlying t=some (.slice el)∧iX P el ti:=by
 unfold nr at h
 split at h
 ·rename_i t rest hats
  obtain ⟨el,hd,_,hT⟩:=lu hC h
  exact ⟨t,el,by rw [← Array.getElem?_toList,hats]; rfl,hd,hT⟩
 ·cases h
theorem xK (hW:WR G) {x:AV} {x':Value} {ys:List (List AV)} {n:Nat} (hx:VR G x x') (h:elems G.h x=some ys) (hn:ju n ys=true) :
  ∃ (a:Option Addr) (cap':Nat),x'=.slice a ys.length cap'∧∀ m,m≤ys.length→∃ news:Array Value,(Builtin.firstCells n m x').run P G.w=.ok news G.w∧gu (VC G) n 0 (ys.take m) news∧news.size=m*n ∧
    (∀ (i:Nat) (v:Value),news[i]?=some v→v.oneCell'=true):=by
 have hzero:∀ (a:Option Addr) (cap':Nat),(Builtin.firstCells n 0 (.slice a 0 cap')).run P G.w=.ok #[] G.w:=by
  intro a cap'
  cases a with
  | none=>simp [Builtin.firstCells]
  | some a =>
    simp only [Builtin.firstCells,Nat.zero_mul]
    simp [loadCells,loadCellsFrom]
 have hnil:∀ (a:Option Addr) (cap':Nat),∀ m,m≤([]:List (List AV)).length→∃ news:Array Value,(Builtin.firstCells n m (.slice a 0 cap')).run P G.w=.ok news G.w∧gu (VC G) n 0 (([]:List (List AV)).take m) news∧news.size=m*n ∧
   (∀ (i:Nat) (v:Value),news[i]?=some v→v.oneCell'=true):=by
  intro a cap' m hm
  have hm0:m=0:=by simpa using hm
  subst hm0
  exact ⟨#[],hzero a cap',⟨by simp,by simp⟩,by simp,by simp⟩
 have hrow:∀ (B base:Nat) (c:Array Value) (e:TypeId) (fr:Nat×Nat) (cap':Nat),G.w.heap[B]?=some (.cells c e fr)→gu (VC G) n base ys c→∀ m,m≤ys.length→∃ news:Array Value,(Builtin.firstCells n m (.slice (some ⟨B,base,none⟩) ys.length cap')).run P G.w=.ok news G.w∧gu (VC G) n 0 (ys.take m) news∧news.size=m*n ∧
   (∀ (i:Nat) (v:Value),news[i]?=some v→v.oneCell'=true):=by
  intro B base c e fr cap' hB hr m hm
  obtain ⟨news,k1,k2,k3,k4⟩:=pO (P:=P) hB (hr.take m)
  have hl:(ys.take m).length=m:=by simp; omega
  rw [hl] at k1 k3
  exact ⟨news,by simp only [Builtin.firstCells]; exact k1 _ rfl,k2,k3,k4⟩
 cases x with
 | sl xs cap =>
   simp only [elems,Option.some.injEq] at h
   subst h
   cases mh hx with
   | slnil=>exact ⟨_,_,rfl,hnil _ _⟩
   | iO=>exact ⟨_,_,rfl,hnil _ _⟩
   | sl _ _ _ B base c e fr cap' esz f hm hB hI hcap hle hz hc h1 hr =>
     refine ⟨_,_,rfl,?_⟩
     rcases Nat.eq_zero_or_pos xs.length with h0 | h0
     ·have hx0:xs=[]:=List.eq_nil_of_length_eq_zero h0
      subst hx0
      exact hnil _ _
     ·have hi0:xs[0]?=some xs[0]:=by rw [getElem?_pos]
      have he:esz=n:=by rw [← hz 0 _ hi0]; exact lW hn hi0
      subst he
      exact hrow B base c e fr cap' hB ⟨hz,fun i cs j x hi hj=>⟨f i j,hc i cs j x hi hj,h1 i cs j x hi hj,(hr i cs j x hi hj).nY⟩⟩
 | hs b g off len =>
   simp only [elems] at h
   split at h
   ·rename_i g' z xs hget
    split at h
    ·rename_i hb
     simp only [Bool.and_eq_true,Nat.beq_eq,Nat.ble_eq] at hb
     obtain ⟨rfl,hle⟩:=hb
     simp only [Option.some.injEq] at h
     have hlen:ys.length=len:=by rw [← h]; simp; omega
     cases hx with
     | fp hp _=>simp [AV.gl] at hp
     | hs _ _ _ _ a cap' hb hg hlc hl =>
       refine ⟨some a,cap',by rw [hlen],?_⟩
       rw [← hlen]
       rcases Nat.eq_zero_or_pos ys.length with h0 | h0
       ·have hx0:ys=[]:=List.eq_nil_of_length_eq_zero h0
        subst hx0
        exact hnil _ _
       ·obtain ⟨l,hpi,hcap,ha⟩:=hl z xs hget
        have ha:=ha (by omega)
        subst ha
        obtain ⟨c,e,hB,k1,k2,k3,k4⟩:=(hW.eL b l g z xs hpi hget).row
        have hr:=(k3.drop off).take len
        rw [h] at hr
        have hi0:ys[0]?=some ys[0]:=by rw [getElem?_pos]
        have he:z=n:=by rw [← hr.len 0 _ hi0]; exact lW hn hi0
        subst he
        exact hrow l.B _ c e _ cap' hB hr
    ·cases h
   ·cases h
 | _=>cases h
theorem lV.same {w:World} {B:Nat} {o:Obj} (h:w.heap[B]?=some o):lV w w B o:=⟨h,fun _ _=>rfl,rfl,rfl,rfl,rfl⟩
theorem vd (xs:List (List AV)) (n:Nat):overwrite xs n []=xs:=by simp [overwrite]
theorem xh (hW:WR G) {b g off len:Nat} {n:Nat} {xs ys:List (List AV)} {a:Addr} {cap':Nat} {news:Array Value} (hv:VR G (.hs b g off len) (.slice (some a) len cap')) (hget:G.h.get b=some (.eL g n xs)) (hle:off+len≤xs.length) (hm:ys.length≤len)
  (hr:gu (VC G) n 0 ys news) (hsz:news.size=ys.length*n) (h1:∀ (i:Nat) (v:Value),news[i]?=some v→v.oneCell'=true) :
  ∃ G',(storeCells a news.toList).run P G.w=.ok () G'.w∧G'.h=G.h.set b (.eL g n (overwrite xs off ys))∧Step G G'∧WR G':=by
 cases hv with
 | fp hp _=>simp [AV.gl] at hp
 | hs _ _ _ _ _ _ hbl hgg hlc hl =>
   obtain ⟨l,hpi,hcap,ha⟩:=hl n xs hget
   obtain ⟨c,e,hB,k1,k2,k3,k4⟩:=(hW.eL b l g n xs hpi hget).row
   rcases Nat.eq_zero_or_pos ys.length with h0 | h0
   ·have hy0:ys=[]:=List.eq_nil_of_length_eq_zero h0
    subst hy0
    have hn0:news = #[]:=by apply Array.eq_empty_of_size_eq_zero; simpa using hsz
    subst hn0
    obtain ⟨hS,hW'⟩:=pa (ob:=.eL g n (overwrite xs off [])) hW hpi (lV.same hB) (.inl ⟨g,n,xs,_,hget,rfl⟩) (by
     intro g2 z2 x2 e2 G' E hnw
     cases e2
     rw [vd]
     exact jz.nS hnw k1 k2 (k3.mono (fun _ _ h=>h.mono E)) k4) (by intro es c e; cases e)
    exact ⟨_,by simp [storeCells],rfl,hS,hW'⟩
   ·have ha:=ha (by omega)
    subst ha
    have hfit:l.base+off*n+news.size≤c.size:=by
     rw [hsz]
     have:(off+ys.length)*n≤l.cap*n:=Nat.mul_le_mul_right _ (by omega)
     rw [Nat.add_mul] at this
     omega
    have hst:=run_storeCells_at (P:=P) l.B (l.base+off*n) e news.toList 0 c G.w hB (by simpa using hfit) (fun u hu=>by
     obtain ⟨i,hi⟩:=List.getElem?_of_mem hu
     exact h1 i u (by simpa using hi))
    simp only [Nat.add_zero] at hst
    obtain ⟨hS,hW'⟩:=pa (ob:=.eL g n (overwrite xs off ys)) hW hpi (lV.row (c':=(c.toList.take (l.base+off*n)++news.toList++c.toList.drop (l.base+off*n+news.toList.length)).toArray) hB) (.inl ⟨g,n,xs,_,hget,rfl⟩) (by
     intro g2 z2 x2 e2 G' E hnw
     cases e2
     have hov:=k3.iG hr hsz (n:=off) rfl hfit (by omega)
     refine jz.nS hnw ?_ (by rw [nM hfit]; exact k2) (hov.mono (fun _ _ h=>h.mono E)) ?_
     ·simp only [overwrite,List.length_append,List.length_take,List.length_drop]; omega
     ·intro k v hv
      rw [jQ hfit] at hv
      split at hv
      ·exact h1 _ v hv
      ·exact k4 _ v hv) (by intro es c e; cases e)
    exact ⟨_,hst,rfl,hS,hW'⟩
theorem Ao (hW:WR G) (hC:fV P C) {ats:Array Nat} {d x:AV} {d' x':Value} {ty:Nat} {r:AV×bY} (hd:VR G d d') (hx:VR G x x') (h:s8 C ats.toList [d,x] G.h=some r):kV P G (Builtin.copy_ ats ty #[d',x']) r:=by
 unfold s8 at h
 split at h
 ·rename_i ti d0 x0 hhead hargs
  simp only [List.cons.injEq,and_true] at hargs
  obtain ⟨rfl,rfl⟩:=hargs
  obtain ⟨t,el,h0,hde,hTe⟩:=tE hC hhead
  split at h
  ·rename_i ys hys
   unfold xj at h
   split at h
   ·rename_i b g off len
    split at h
    ·rename_i g' z xs hget
     split at h
     ·rename_i hb
      simp only [Bool.and_eq_true,Nat.beq_eq,Nat.ble_eq] at hb
      obtain ⟨⟨⟨⟨rfl,rfl⟩,hle⟩,hok⟩,hal⟩:=hb
      cases h
      obtain ⟨ax,capx,rfl,hfirst⟩:=xK (P:=P) hW hx hys hal
      have hml:min ys.length len≤ys.length:=Nat.min_le_left _ _
      obtain ⟨news,f1,f2,f3,f4⟩:=hfirst (min ys.length len) hml
      have htl:(ys.take (min ys.length len)).length=min ys.length len:=by simp
      have hdv:=hd
      cases hd with
      | fp hp _=>simp [AV.gl] at hp
      | hs _ _ _ _ a cap' hbl hgg hlc hl =>
        obtain ⟨G',g1,g2,g3,g4⟩:=xh (P:=P) hW hdv hget hle (by rw [htl]; exact Nat.min_le_right _ _) f2 (by rw [htl]; exact f3) f4
        refine ⟨.int .i64 (min ys.length len:Nat),G',?_,g2,g3,g4,VR.int _ _⟩
        have f1':(Builtin.firstCells ti.size (Nat.min ys.length len) (.slice ax ys.length capx)).run P G.w=.ok news G.w:=f1
        simp [Builtin.copy_,h0,run_underlying hde,Builtin.lenOf,hTe.sizeOf,f1',g1,goInt]
     ·cases h
    ·cases h
   ·rename_i cap
    cases h
    have hempty:∃ (ax:Option Addr) (n cp:Nat),x'=.slice ax n cp:=by
     rcases hxs:x with _ | _
     all_goals first
      | (subst hxs; cases hys; done)
      | (subst hxs
         obtain ⟨a,b,c,e,_⟩:=oe hx (.inl ⟨_,_,rfl⟩)
         exact ⟨a,b,c,e⟩)
      | (subst hxs
         obtain ⟨a,b,c,e,_⟩:=oe hx (.inr ⟨_,_,_,_,rfl⟩)
         exact ⟨a,b,c,e⟩)
    obtain ⟨ax,nx,cx,rfl⟩:=hempty
    have hf:∀ n,(Builtin.firstCells n 0 (.slice ax nx cx)).run P G.w=.ok #[] G.w:=by
     intro n
     cases ax with
     | none=>simp [Builtin.firstCells]
     | some a =>
       simp only [Builtin.firstCells,Nat.zero_mul]
       simp [loadCells,loadCellsFrom]
    have hd0:∃ ad cd,d'=.slice ad 0 cd:=by
     cases mh hd with
     | slnil=>exact ⟨_,_,rfl⟩
     | iO=>exact ⟨_,_,rfl⟩
     | sl=>exact ⟨_,_,rfl⟩
    obtain ⟨ad,cd,rfl⟩:=hd0
    have h0':Nat.min nx 0=0:=Nat.min_zero _
    refine ⟨.int .i64 0,G,?_,rfl,.refl G,hW,VR.int _ _⟩
    cases ad<;>simp [Builtin.copy_,h0,run_underlying hde,Builtin.lenOf,hTe.sizeOf,h0',hf,goInt,storeCells]
   ·cases h
  ·cases h
 ·cases h
theorem xL (hW:WR G) (hC:fV P C) {ats:Array Nat} {x:AV} {x':Value} {ty:Nat} {r:AV×bY} (hx:VR G x x') (h:q9 C ats.toList [x] G.h=some r):kV P G (Builtin.clear_ ats ty #[x']) r:=by
 have htup:∀ G',VR G' (.eP []) (.tuple #[]):=fun G'=>.eP _ _ rfl (by simp)
 unfold q9 at h
 split at h
 ·rename_i ti x0 hhead hargs
  simp only [List.cons.injEq,and_true] at hargs
  subst hargs
  obtain ⟨t,el,h0,hde,hTe⟩:=tE hC hhead
  unfold Ax at h
  split at h
  ·cases h
   have hd0:∃ ad cd,x'=.slice ad 0 cd:=by
    cases mh hx with
    | slnil=>exact ⟨_,_,rfl⟩
    | iO=>exact ⟨_,_,rfl⟩
    | sl=>exact ⟨_,_,rfl⟩
   obtain ⟨ad,cd,rfl⟩:=hd0
   refine ⟨.tuple #[],G,?_,rfl,.refl G,hW,htup G⟩
   cases ad<;>simp [Builtin.clear_,h0,run_underlying hde]
  ·rename_i b g off len
   split at h
   ·rename_i g' z xs hget
    split at h
    ·rename_i hb
     simp only [Bool.and_eq_true,Nat.beq_eq,Nat.ble_eq] at hb
     obtain ⟨⟨rfl,rfl⟩,hle⟩:=hb
     cases h
     have hdv:=hx
     cases hx with
     | fp hp _=>simp [AV.gl] at hp
     | hs _ _ _ _ a cap' hbl hgg hlc hl =>
       obtain ⟨i,z,hi,hz,hcr,hzs,hza,hzo⟩:=hTe.nV (G:=G)
       obtain ⟨k1,k2⟩:=qH (n:=len) hcr hzs
       have hzc:((Array.range (len*ti.size)).map fun j=>z.cells[j % z.cells.size]!)=Builtin.zeroCells z.cells len:=by
        unfold Builtin.zeroCells
        rw [hzs]
       rw [hzc] at k1 k2
       obtain ⟨G',g1,g2,g3,g4⟩:=xh (P:=P) hW hdv hget hle (by simp) k1 (by rw [size_zeroCells,hzs]; simp) k2
       refine ⟨.tuple #[],G',?_,g2,g3,g4,htup G'⟩
       rcases Nat.eq_zero_or_pos len with e0 | e0
       ·subst e0
        have:(Builtin.zeroCells z.cells 0).toList=[]:=by simp [Builtin.zeroCells]
        rw [this] at g1
        simp only [storeCells,Sem.run_pure,Result.ok.injEq,true_and] at g1
        rw [← g1]
        simp [Builtin.clear_,h0,run_underlying hde]
       ·obtain ⟨n,rfl⟩:=Nat.exists_eq_succ_of_ne_zero (by omega:len≠0)
        simp [Builtin.clear_,h0,run_underlying hde,zeroValue,typeInfo,hi,hz,g1]
    ·cases h
   ·cases h
  ·cases h
 ·cases h
end
end Go.Sx
namespace Go.Sx
open Go
def Ga.fR (G:Ga) (m:gN) (L:Nat→Option Nat):Ga:=⟨G.w,G.T,{ G.h with dO:=m },G.pi,L⟩
theorem VR.fR {G:Ga} {m:gN} {L:Nat→Option Nat} {x:AV} {u:Value} (h:VR G x u) (hx:x.iL=true):VR (G.fR m L) x u:=by
 induction h with
 | undef v=>exact .undef v
 | fp hp h=>exact .fp hp h
 | ptr b g i o a hb hg h=>exact .ptr b g i o a hb hg h
 | hs b g off len a cap' hb hg hle h=>exact .hs b g off len a cap' hb hg hle h
 | hm b r hb h=>exact .hm b r hb h
 | la d o B hd=>cases hx
 | fz g a c a' c' ha hc hna hnc hra hrc iha ihc=>exact .fz g a c a' c' ha hc hna hnc (fun i x y h1 h2=>iha i x y h1 h2 (hna x (List.mem_of_getElem? h1))) (fun i x y h1 h2=>ihc i x y h1 h2 (hnc x (List.mem_of_getElem? h1)))
 | agg l vs hl hn h1 hr ih=>exact .agg l vs hl hn h1 (fun i x y h1 h2=>ih i x y h1 h2 (hn x (List.mem_of_getElem? h1)))
 | eP l vs hl hr ih=>cases hx
theorem VC.fR {G:Ga} {m:gN} {L:Nat→Option Nat} {x:AV} {u:Value} (h:VC G x u):VC (G.fR m L) x u:=⟨h.vr.fR h.na,h.na⟩
theorem jz.fR {G:Ga} {m:gN} {L:Nat→Option Nat} {l:Loc} {z:Nat} {xs:List (List AV)} (h:jz G l z xs):jz (G.fR m L) l z xs:=by
 obtain ⟨c,e,hB,h1,h2,h3,h4,h5⟩:=h
 refine ⟨c,e,hB,h1,h2,h3,?_,h5⟩
 intro i cs j x hi hj
 obtain ⟨v,a,b,d⟩:=h4 i cs j x hi hj
 exact ⟨v,a,b,d.fR⟩
theorem lY.fR {G:Ga} {m:gN} {L:Nat→Option Nat} {r:Nat} {es:List (AV×AV×Nat)} {c:Nat} (h:lY G r es c):lY (G.fR m L) r es c:=by
 obtain ⟨ents,hB,hl,hy,hr⟩:=h
 refine ⟨ents,hB,hl,hy,?_⟩
 intro i p e hi he
 obtain ⟨a,b,c,d⟩:=hr i p e hi he
 exact ⟨a,b,c.fR,d⟩
theorem og.fR {G:Ga} {m:gN} {L:Nat→Option Nat} {B:Nat} {cs:List AV} (h:og G B cs):og (G.fR m L) B cs:=by
 obtain ⟨c,e,hB,h1,h2,h3⟩:=h
 exact ⟨c,e,hB,h1,fun i x v hx hv=>(h2 i x v hx hv).fR,h3⟩
theorem WR.vI {G:Ga} (hW:WR G) {m:gN} {L:Nat→Option Nat} (hL:∀ d B,L d=some B→G.L d=some B) (hm:∀ d B,L d=some B→fJ m d=fJ G.h.dO d):WR (G.fR m L) where
 eL:=fun b l g z xs hp hg=>(hW.eL b l g z xs hp hg).fR
 map:=fun b l es c hp hg=>(hW.map b l es c hp hg).fR
 loc:=by
  intro d B cs hd hcs
  have hcs:fJ m d=some cs:=hcs
  rw [hm d B hd] at hcs
  exact (hW.loc d B cs (hL d B hd) hcs).fR
 gE:=hW.gE
 iU:=hW.iU
 ll:=hW.ll
 jZ:=fun d d' B h h'=>hW.jZ d d' B (hL d B h) (hL d' B h')
 LT:=fun s d B h=>hW.LT s d B (hL d B h)
 kp:=fun d B b l h=>hW.kp d B b l (hL d B h)
 iE:=by
  intro d B h
  refine ⟨(hW.iE d B (hL d B h)).1,?_⟩
  show (fJ m d).isSome=true
  rw [hm d B h]
  exact (hW.iE d B (hL d B h)).2
 jn:=hW.jn
 lo:=hW.lo
 lt:=hW.lt
theorem back {G G':Ga} (hW:WR G) (S:Step (G.fR [] (fun _=>none)) G') (W':WR G') :
  Step G (G'.fR G.h.dO G.L)∧WR (G'.fR G.h.dO G.L):=by
 have hfr:∀ d B,G.L d=some B→G'.w.heap[B]?=G.w.heap[B]?:=by
  intro d B hd
  exact S.frame B (hW.iE d B hd).1 (fun b l hp he=>hW.kp d B b l hd hp he.symm) (fun d' B' h=>by cases h)
 have hE:Ext G (G'.fR G.h.dO G.L):=⟨S.ext.T,S.ext.eB,S.ext.size,S.ext.eL,S.ext.map,fun _ _ h=>h⟩
 refine ⟨⟨hE,S.os,S.output,S.tape,S.gG,?_,S.iN,S.ji,S.l3,S.lo,S.out,fun d B h=>.inl h,fun d B h=>.inl (Option.isSome_iff_exists.2 ⟨B,h⟩),fun d c _ h=>h⟩,?_⟩
 ·intro B hB hp hL
  exact S.frame B hB hp (fun d B' h=>by cases h)
 ·have hnp:∀ d B,G.L d=some B→∀ b l,G'.pi b=some l→B≠l.B:=by
   intro d B hd b l hp
   rcases S.iN b l hp with ⟨l0,h0,e⟩ | hge
   ·rw [← e]; exact hW.kp d B b l0 hd h0
   ·have:=(hW.iE d B hd).1
    have hge:G.w.heap.size≤l.B:=hge
    omega
  constructor
  ·exact fun b l g z xs hp hg=>(W'.eL b l g z xs hp hg).fR
  ·exact fun b l es c hp hg=>(W'.map b l es c hp hg).fR
  ·intro d B cs hd hcs
   exact (hW.loc d B cs hd hcs).mono hE (hfr d B hd)
  ·exact W'.gE
  ·exact W'.iU
  ·exact W'.ll
  ·exact hW.jZ
  ·intro s d B hd hT
   rcases S.l3 s B hT with h0 | hge
   ·exact hW.LT s d B hd h0
   ·have:=(hW.iE d B hd).1
    have hge:G.w.heap.size≤B:=hge
    omega
  ·exact fun d B b l hd hp=>hnp d B hd b l hp
  ·intro d B hd
   exact ⟨Nat.lt_of_lt_of_le (hW.iE d B hd).1 S.gG,(hW.iE d B hd).2⟩
  ·exact W'.jn
  ·exact W'.lo
  ·exact W'.lt
end Go.Sx
namespace Go.Sx
open Go
structure ER (G:Ga) (e:Env) (a:Act):Prop where
 rel:∀ t,VR G (gY e t) (a.eval (.tmp t))
section
variable {P:Program} {C:fP} {G:Ga} {e:Env} {a:Act}
theorem ER.mono {G':Ga} (h:ER G e a) (E:Ext G G'):ER G' e a:=⟨fun t=>(h.rel t).mono E⟩
theorem AL (v:Value):VC G (wz v) v:=by
 unfold wz
 split<;>refine ⟨?_,rfl⟩<;>first
  | exact VR.bool _
  | exact VR.int _ _
  | exact VR.str rfl
  | exact .fp rfl (.fS _)
  | exact .fp rfl (.slnil _)
  | exact .fp rfl (.fZ _)
  | exact .fp rfl (.gZ _)
  | exact .undef _
theorem HN {v:Value} (h:Jt v=true):v.oneCell'=true:=by
 unfold Jt at h
 split at h<;>first | rfl | cases h
theorem Oo (v:Value):VR G (cv v) v:=by
 unfold cv
 split
 ·rename_i cs
  split
  ·rename_i hok
   simp only [List.all_eq_true] at hok
   refine VR.vG (R:=VC G) (fun _ _ h=>h) (by simp) ?_ ?_
   ·intro i y hy
    exact HN (hok y (Array.mem_toList_iff.2 (Array.mem_of_getElem? hy)))
   ·intro i x y hx hy
    rw [List.getElem?_map,Array.getElem?_toList,hy] at hx
    simp only [Option.map_some,Option.some.injEq] at hx
    subst hx
    exact AL y
  ·exact .undef _
 ·exact (AL _).vr
theorem e9 (hE:ER G e a) (x:Operand):VR G (eO e x) (a.eval x):=by
 cases x with
 | tmp t=>exact hE.rel t
 | const v=>exact Oo v
 | global g=>exact .undef _
 | func f=>exact .fz f [] [] #[] #[] rfl rfl (by simp) (by simp) (by simp) (by simp)
theorem nf (hE:ER G e a) (xs:Array Operand):(xs.toList.map (eO e)).length=(xs.map a.eval).size ∧
  ∀ (i:Nat) (x:AV) (y:Value),(xs.toList.map (eO e))[i]?=some x→(xs.map a.eval)[i]?=some y→VR G x y:=by
 refine ⟨by simp,?_⟩
 intro i x y hx hy
 rw [List.getElem?_map,Array.getElem?_toList] at hx
 rw [Array.getElem?_map] at hy
 cases hq:xs[i]? with
 | none=>rw [hq] at hx; cases hx
 | some q =>
   rw [hq] at hx hy
   cases hx; cases hy
   exact e9 hE q
theorem OR.of (hE:ER G e a) (x:Option Operand):OR G (jf (eO e) x) (x.map a.eval):=by
 cases x with
 | none=>exact .none
 | some x=>exact .some (e9 hE x)
end
end Go.Sx
namespace Go.Sx
open Go
def nG (P:Program) (o:Oper) (a:Act) (G:Ga) (r:AV×bY):Prop :=
 ∀ (K:Act→World→Prop) (Q:Exit→Act→World→Prop),(∀ u G',G'.h=r.2→Step G G'→WR G'→VR G' r.1 u→K (a.put o.dst u) G'.w)→o.wp P a G.w K Q
section
variable {P:Program} {C:fP} {G:Ga} {e:Env} {a:Act} {o:Oper} {r:AV×bY}
theorem gr {s:Sem Value} (h:execOp a.eval o=(do pure (.value (← s)))) (hm:kV P G s r):nG P o a G r:=by
 intro K Q hK
 obtain ⟨u,G',hr,hh,hS,hW,hv⟩:=hm
 unfold Oper.wp
 rw [h]
 simp only [Sem.run_bind,hr,Result.andThen_ok,Sem.run_pure,Oper.upon_value]
 exact hK u G' hh hS hW hv
theorem ow {s:Sem Unit} (h:execOp a.eval o=(do s; pure .skip)) (hv:r.1=.undef) (hm:tS P G s r.2):nG P o a G r:=by
 intro K Q hK
 obtain ⟨G',hr,hh,hS,hW⟩:=hm
 unfold Oper.wp
 rw [h]
 simp only [Sem.run_bind,hr,Result.andThen_ok,Sem.run_pure,Oper.upon_skip]
 exact hK undef G' hh hS hW (by rw [hv]; exact .undef _)
def js (P:Program) (call:lD):Prop:=∀ (shd:Bool) (f:Nat) (args:List AV) (h:bY) (v:AV) (h':bY),call shd f args h=some (v,h') →
 ∀ (G:Ga) (args':Array Value),G.h=h→h.dO=[]→(∀ d,G.L d=none)→WR G→args.length=args'.size→(∀ (i:Nat) (x:AV) (y:Value),args[i]?=some x→args'[i]?=some y→VC G x y) →
 (∃ fn, P.funcs[f]? = some fn ∧ fn.body.isNone = false ∧ (fn.name == "runtime.NumGoroutine") = false) ∧
 ∀ R:Ending→World→Prop,(∀ u G',Step G G'→WR G'→(∀ m:gN,{ G'.h with dO:=m } = { h' with dO:=m })→(∀ m L,VR (G'.fR m L) v u)→R (.returned u) G'.w)→Calls P f args' G.w R
end
end Go.Sx
namespace Go.Sx
open Go
section
variable {P:Program} {C:fP} {G:Ga} {e:Env} {a:Act} {o:Oper} {r:AV×bY} {X:Ctx}
theorem lq (hW:WR G) {s:Sem Value} {v:Option AV} (h:gq G.h v=some r) (hs:∀ x,v=some x→∃ u,s.run P G.w=.ok u G.w∧VR G x u):kV P G s r:=by
 obtain ⟨x,hx,rfl⟩:=im h
 obtain ⟨u,h1,h2⟩:=hs x hx
 exact ⟨u,G,h1,rfl,.refl G,hW,h2⟩
theorem oY (hE:ER G e a) (ps:Array (Nat×Operand)):(jq e ps).length=(ps.map fun (i,x)=>(i,a.eval x)).size ∧
  ∀ (i:Nat) p q,(jq e ps)[i]?=some p→(ps.map fun (i,x)=>(i,a.eval x))[i]?=some q→p.1=q.1∧VR G p.2 q.2:=by
 refine ⟨by simp [jq],?_⟩
 intro i p q hp hq
 simp only [jq,List.getElem?_map,Array.getElem?_toList] at hp
 rw [Array.getElem?_map] at hq
 cases hz:ps[i]? with
 | none=>rw [hz] at hp; cases hp
 | some z =>
   rw [hz] at hp hq
   cases hp; cases hq
   exact ⟨rfl,e9 hE z.2⟩
theorem lX (hW:WR G) {s:Sem Value} (h:∃ E:kr,r.2=E.on G.h∧(∀ d cs,E=.loc d cs→fJ G.h.dO d=none)∧∀ V,Ext G V→V.w=G.w→WR V→lC P s V G.h.size r.1 E):kV P G s r:=by
 obtain ⟨E,h1,h2,h3⟩:=h
 have:=lC.makes hW h2 h3
 rw [← h1] at this
 exact this
theorem BX (hW:WR G) (hC:fV P X.C) (hE:ER G e a) (hnc:∀ c,o.op≠.call c) (h:fC o.op X e G.h o.dst=some r):nG P o a G r:=by
 cases ho:o.op with
 | call c=>exact absurd ho (hnc c)
 | move x =>
   rw [ho] at h
   cases h
   intro K Q hK
   unfold Oper.wp
   simp only [execOp,ho,Sem.run_pure,Oper.upon_value]
   exact hK _ G rfl (.refl G) hW (e9 hE x)
 | assign x =>
   rw [ho] at h
   cases h
   intro K Q hK
   unfold Oper.wp
   simp only [execOp,ho,Sem.run_pure,Oper.upon_value]
   exact hK _ G rfl (.refl G) hW (e9 hE x)
 | pick c x y =>
   rw [ho] at h
   obtain ⟨k1,u,k2,k3⟩:=zT (P:=P) (e9 hE c) (e9 hE x) (e9 hE y) h
   have hrun:(execOp a.eval o).run P G.w=.ok (.value u) G.w:=by
    simp only [execOp,ho,Sem.run_bind,Sem.run_pure] at k2 ⊢
    generalize (asBool (a.eval c)).run P G.w=R at k2
    cases R with
    | ok b w=>simp only [Result.andThen,Result.ok.injEq] at k2 ⊢; exact ⟨by rw [k2.1],k2.2⟩
    | halt b w=>simp [Result.andThen] at k2
   intro K Q hK
   unfold Oper.wp
   rw [hrun,Oper.upon_value]
   exact hK _ G k1.symm (.refl G) hW k3
 | alloc t =>
   rw [ho] at h
   obtain ⟨E,h1,h2,h3⟩:=tA (P:=P) hC h
   exact gr (by simp only [execOp,ho]) (lX hW ⟨E,h1,h2,fun V _ _ hV=>h3 V hV⟩)
 | box t x =>
   rw [ho] at h
   obtain ⟨E,h1,h2,h3⟩:=wO (P:=P) h
   exact gr (by simp only [execOp,ho]) (lX hW ⟨E,h1,h2,fun V hx _ hV=>h3 V _ hV ((e9 hE x).mono hx)⟩)
 | build t ps =>
   rw [ho] at h
   obtain ⟨k1,k2⟩:=oY hE ps
   exact gr (by simp only [execOp,ho]) (iH.makes hW (xW hC k1 k2 h))
 | buildSlice t n ps =>
   rw [ho] at h
   obtain ⟨E,h1,h2,h3⟩:=oJ (P:=P) hC h
   exact gr (by simp only [execOp,ho]) (lX hW ⟨E,h1,h2,fun V hx _ hV=>let ⟨k1,k2⟩:=oY (hE.mono hx) ps; h3 V _ hV k1 k2⟩)
 | load t x =>
   rw [ho] at h
   exact gr (by simp only [execOp,ho]) (yP hW hC (e9 hE x) h)
 | store t x y =>
   rw [ho] at h
   have h:pH X.C G.h t (eO e x) (eO e y)=some r:=h
   unfold pH at h
   split at h
   ·rename_i ti hti
    split at h
    ·rename_i h' hst
     cases h
     exact ow (by simp only [execOp,ho]) rfl (xN hW (hC.ty t ti hti) (e9 hE x) (e9 hE y) hst)
    ·cases h
   ·cases h
 | nilCheck x =>
   rw [ho] at h
   obtain ⟨v,hv,rfl⟩:=im h
   obtain ⟨k1,k2⟩:=wR (e9 hE x) hv
   intro K Q hK
   have hrun:(execOp a.eval o).run P G.w=.ok (.value (a.eval x)) G.w:=by
    rcases k2 with ⟨b,hb⟩ | ⟨g,b,c,hb⟩<;>simp [execOp,ho,hb]
   unfold Oper.wp
   rw [hrun,Oper.upon_value]
   exact hK _ G rfl (.refl G) hW k1
 | binOp op t x y ty =>
   rw [ho] at h
   exact gr (by simp only [execOp,ho]) (lq hW h (fun v hv=>xI hC (e9 hE x) (e9 hE y) hv x y))
 | unOp op t x =>
   rw [ho] at h
   exact gr (by simp only [execOp,ho]) (lq hW h (fun v hv=>Ah (e9 hE x) hv))
 | convert s d x =>
   rw [ho] at h
   exact gr (by simp only [execOp,ho]) (iH.makes hW (vi hC (e9 hE x) h))
 | makeFunc fn p q =>
   rw [ho] at h
   obtain ⟨k1,k2⟩:=nf hE p
   obtain ⟨m1,m2⟩:=nf hE q
   exact gr (by simp only [execOp,ho]) (iH.makes hW (ur k1 m1 k2 m2 h))
 | makeMap t hint =>
   rw [ho] at h
   cases hint with
   | none =>
     cases h
     obtain ⟨E,h1,h2,h3⟩:=rs (P:=P) (t:=t) G.h none rfl
     exact gr (by simp only [execOp,ho]; rfl) (lX hW ⟨E,h1,h2,fun V _ _ hV=>h3 V hV⟩)
   | some x=>cases h
 | makeSlice t l c =>
   rw [ho] at h
   obtain ⟨E,h1,h2,h3⟩:=ph (P:=P) hC h
   exact gr (by simp only [execOp,ho]) (lX hW ⟨E,h1,h2,fun V hx _ hV=>h3 V _ _ hV ((e9 hE l).mono hx) ((e9 hE c).mono hx)⟩)
 | slice t x lo hi mx =>
   rw [ho] at h
   exact gr (by simp only [execOp,ho]) (iH.makes hW (xC hW hC (e9 hE x) (OR.of hE lo) (OR.of hE hi) (OR.of hE mx) h))
 | fieldAddr t x f =>
   rw [ho] at h
   obtain ⟨k1,u,k2,k3,_⟩:=tJ (P:=P) hC (e9 hE x) h
   exact gr (by simp only [execOp,ho]) ⟨u,G,k2,k1.symm,.refl G,hW,k3⟩
 | field t x f =>
   rw [ho] at h
   exact gr (by simp only [execOp,ho]) (iH.makes hW (yb hC (e9 hE x) h))
 | indexAddr t x i =>
   rw [ho] at h
   exact gr (by simp only [execOp,ho]) (iH.makes hW (tO hW hC (e9 hE x) (e9 hE i) h))
 | index t x i =>
   rw [ho] at h
   exact gr (by simp only [execOp,ho]) (iH.makes hW (xO hC (e9 hE x) (e9 hE i) h))
 | lookup t m k ok =>
   rw [ho] at h
   exact gr (by simp only [execOp,ho]) (lq hW h (fun v hv=>wI hW hC (e9 hE m) (e9 hE k) hv))
 | mapUpdate t m k x =>
   rw [ho] at h
   obtain ⟨k1,k2⟩:=oR hW hC (e9 hE m) (e9 hE k) (e9 hE x) h
   exact ow (by simp only [execOp,ho]) k1 k2
 | insert t m k x =>
   rw [ho] at h
   obtain ⟨k1,k2⟩:=oR hW hC (e9 hE m) (e9 hE k) (e9 hE x) h
   exact ow (by simp only [execOp,ho]) k1 k2
 | mapEntry t m k =>
   rw [ho] at h
   exact gr (by simp only [execOp,ho]) (uu hW hC (e9 hE m) (e9 hE k) h)
 | entryStore t m s x =>
   rw [ho] at h
   obtain ⟨k1,k2⟩:=sU (P:=P) (t:=t) hW (e9 hE m) (e9 hE s) (e9 hE x) h
   exact ow (by simp only [execOp,ho]) k1 k2
 | extract t i =>
   rw [ho] at h
   exact gr (by simp only [execOp,ho]) (iH.makes hW (vb (e9 hE t) h))
 | _=>rw [ho] at h; cases h
end
end Go.Sx
namespace Go.Sx
open Go
section
variable {P:Program} {C:fP} {G:Ga} {e:Env} {a:Act} {o:Oper} {r:AV×bY} {X:Ctx}
theorem j7 {xs:Array Operand} {x:AV} (h:xs.toList.map (eO e)=[x]):∃ y,xs = #[y]∧x=eO e y:=by
 cases xs with | mk l =>
 cases l with
 | nil=>cases h
 | cons y l =>
   cases l with
   | nil=>simp only [List.map_cons,List.map_nil,List.cons.injEq,and_true] at h; exact ⟨y,rfl,h.symm⟩
   | cons _ _=>simp at h
theorem zM {xs:Array Operand} {x y:AV} (h:xs.toList.map (eO e)=[x,y]):∃ u v,xs = #[u,v]∧x=eO e u∧y=eO e v:=by
 cases xs with | mk l =>
 cases l with
 | nil=>cases h
 | cons u l =>
   cases l with
   | nil=>simp at h
   | cons v l =>
     cases l with
     | nil=>simp only [List.map_cons,List.map_nil,List.cons.injEq,and_true] at h; exact ⟨u,v,rfl,h.1.symm,h.2.symm⟩
     | cons _ _=>simp at h
theorem jm {c:Call} {b:Builtin} (ho:o.op=.call c) (hb:c.callee=.builtin b) {s:Sem Value} (hs:∀ consts,builtin b c.argTypes o.type consts (c.args.map a.eval)=(do pure (.value (← s)))) (hm:kV P G s r):nG P o a G r:=by
 refine gr (s:=s) ?_ hm
 simp only [execOp,ho,resolve,hb]
 exact hs _
theorem zn (hW:WR G) (hC:fV P X.C) (hE:ER G e a) {c:Call} {b:Builtin} (ho:o.op=.call c) (hb:c.callee=.builtin b) (h:iQ b X.C c.argTypes.toList (c.args.toList.map (eO e)) G.h=some r):nG P o a G r:=by
 obtain ⟨al,ar⟩:=nf hE c.args
 unfold iQ at h
 split at h
 ·
  have h:nU X.C c.argTypes.toList (c.args.toList.map (eO e)) G.h=some r:=h
  generalize hl:c.args.toList.map (eO e)=l at h
  have hl1:∃ x,l=[x]:=by
   unfold nU at h
   split at h
   ·exact ⟨_,rfl⟩
   ·cases h
  obtain ⟨x,rfl⟩:=hl1
  obtain ⟨y,hy,rfl⟩:=j7 hl
  exact jm ho hb (fun _=>rfl) (by rw [hy,List.map_toArray]; exact iH.makes hW (AM hW hC (e9 hE y) h))
 ·
  have h:uK X.C c.argTypes.toList (c.args.toList.map (eO e)) G.h=some r:=h
  generalize hl:c.args.toList.map (eO e)=l at h
  have hl1:∃ x,l=[x]:=by
   unfold uK at h
   split at h
   ·exact ⟨_,rfl⟩
   ·cases h
  obtain ⟨x,rfl⟩:=hl1
  obtain ⟨y,hy,rfl⟩:=j7 hl
  exact jm ho hb (fun _=>rfl) (by rw [hy,List.map_toArray]; exact iH.makes hW (Bg hC (e9 hE y) h))
 ·
  have h:ny X.C c.argTypes.toList (c.args.toList.map (eO e)) G.h=some r:=h
  generalize hl:c.args.toList.map (eO e)=l at h
  have hl1:∃ x y,l=[x,y]:=by
   unfold ny at h
   split at h
   ·exact ⟨_,_,rfl⟩
   ·cases h
  obtain ⟨x,y,rfl⟩:=hl1
  obtain ⟨u,v,hy,rfl,rfl⟩:=zM hl
  exact jm ho hb (fun _=>rfl) (by rw [hy,List.map_toArray]; exact w9 hW hC (e9 hE u) (e9 hE v) h)
 ·
  have h:s8 X.C c.argTypes.toList (c.args.toList.map (eO e)) G.h=some r:=h
  generalize hl:c.args.toList.map (eO e)=l at h
  have hl1:∃ x y,l=[x,y]:=by
   unfold s8 at h
   split at h
   ·exact ⟨_,_,rfl⟩
   ·cases h
  obtain ⟨x,y,rfl⟩:=hl1
  obtain ⟨u,v,hy,rfl,rfl⟩:=zM hl
  exact jm ho hb (fun _=>rfl) (by rw [hy,List.map_toArray]; exact Ao hW hC (e9 hE u) (e9 hE v) h)
 ·
  have h:pv X.C c.argTypes.toList (c.args.toList.map (eO e)) G.h=some r:=h
  generalize hl:c.args.toList.map (eO e)=l at h
  have hl1:∃ x y,l=[x,y]:=by
   unfold pv at h
   split at h
   ·exact ⟨_,_,rfl⟩
   ·exact ⟨_,_,rfl⟩
   ·cases h
  obtain ⟨x,y,rfl⟩:=hl1
  obtain ⟨u,v,hy,rfl,rfl⟩:=zM hl
  exact jm ho hb (fun _=>rfl) (by rw [hy,List.map_toArray]; exact w6 hW hC (e9 hE u) (e9 hE v) h)
 ·
  have h:q9 X.C c.argTypes.toList (c.args.toList.map (eO e)) G.h=some r:=h
  generalize hl:c.args.toList.map (eO e)=l at h
  have hl1:∃ x,l=[x]:=by
   unfold q9 at h
   split at h
   ·exact ⟨_,rfl⟩
   ·cases h
  obtain ⟨x,rfl⟩:=hl1
  obtain ⟨y,hy,rfl⟩:=j7 hl
  exact jm ho hb (fun _=>rfl) (by rw [hy,List.map_toArray]; exact xL hW hC (e9 hE y) h)
 ·
  have h:lQ max2 (c.args.toList.map (eO e)) G.h=some r:=h
  refine jm (s:=Builtin.max_ c.argTypes o.type (c.args.map a.eval)) ho hb (fun _=>rfl) ?_
  unfold lQ at h
  split at h
  ·rename_i x rest hl
   refine lq hW h (fun v hv=>?_)
   rw [hl] at al ar
   unfold Builtin.max_
   cases hq:(c.args.map a.eval).toList with
   | nil =>
     have:(c.args.map a.eval).size=0:=by rw [← Array.length_toList,hq]; rfl
     rw [this] at al; simp at al
   | cons x' rest' =>
     have hg:∀ (i:Nat) y,(x'::rest')[i]?=some y→(c.args.map a.eval)[i]?=some y:=by
      intro i y hy; rw [← hq] at hy; simpa using hy
     refine pP (fun hx hy h=>zG hx hy h) (ar 0 x x' rfl (hg 0 x' rfl)) ?_ (fun i p q hp hq'=>ar (i+1) p q hp (hg (i+1) q hq')) hv
     have:(x'::rest').length=(c.args.map a.eval).size:=by rw [← hq,Array.length_toList]
     rw [← this] at al
     simpa using al
  ·cases h
 ·
  have h:lQ min2 (c.args.toList.map (eO e)) G.h=some r:=h
  refine jm (s:=Builtin.min_ c.argTypes o.type (c.args.map a.eval)) ho hb (fun _=>rfl) ?_
  unfold lQ at h
  split at h
  ·rename_i x rest hl
   refine lq hW h (fun v hv=>?_)
   rw [hl] at al ar
   unfold Builtin.min_
   cases hq:(c.args.map a.eval).toList with
   | nil =>
     have:(c.args.map a.eval).size=0:=by rw [← Array.length_toList,hq]; rfl
     rw [this] at al; simp at al
   | cons x' rest' =>
     have hg:∀ (i:Nat) y,(x'::rest')[i]?=some y→(c.args.map a.eval)[i]?=some y:=by
      intro i y hy; rw [← hq] at hy; simpa using hy
     refine pP (fun hx hy h=>zQ hx hy h) (ar 0 x x' rfl (hg 0 x' rfl)) ?_ (fun i p q hp hq'=>ar (i+1) p q hp (hg (i+1) q hq')) hv
     have:(x'::rest').length=(c.args.map a.eval).size:=by rw [← hq,Array.length_toList]
     rw [← this] at al
     simpa using al
  ·cases h
 ·cases h
end
end Go.Sx
namespace Go.Sx
open Go
section
variable {P:Program} {C:fP} {G:Ga} {e:Env} {a:Act} {o:Oper} {r:AV×bY} {X:Ctx}
theorem wo {x:AV} (h:x.jg=true):x.iL=true:=by cases x<;>simp_all [AV.jg,AV.iL]
theorem CY (hW:WR G) (hE:ER G e a) (hK:js P X.call) {c:Call} {f:Operand} (ho:o.op=.call c) (hf:c.callee=.value f) (h:n9 X.fa X.call G.h (eO e f) (c.args.toList.map (eO e))=some r):nG P o a G r:=by
 obtain ⟨al,ar⟩:=nf hE c.args
 have hfv:=e9 hE f
 generalize hval:a.eval f=fv at hfv
 unfold n9 at h
 split at h
 ·rename_i g p q hclo
  rw [hclo] at hfv
  simp only [ub] at h
  split at h
  ·rename_i hok
   simp only [List.all_eq_true] at hok
   cases hfv with
   | fp hp _=>simp [AV.gl] at hp
   | fz _ _ _ p' q' hp hq hnp hnq hrp hrq =>
     generalize hcall:X.call (X.fa.fw.elem g) g (p++c.args.toList.map (eO e)++q) { G.h with dO:=[] }=res at h
     cases res with
     | none=>cases h
     | some vh =>
       obtain ⟨v,h'⟩:=vh
       simp only [pC,Option.some.injEq] at h
       subst h
       have hsz:(p++c.args.toList.map (eO e)++q).length=(p'++c.args.map a.eval++q').size:=by simp [hp,hq]
       have hrel:∀ (i:Nat) (x:AV) (y:Value),(p++c.args.toList.map (eO e)++q)[i]?=some x→(p'++c.args.map a.eval++q')[i]?=some y→VC (G.fR [] fun _=>none) x y:=by
        intro i x y hx hy
        have hna:=wo (hok x (List.mem_of_getElem? hx))
        refine ⟨VR.fR ?_ hna,hna⟩
        rw [List.getElem?_append] at hx
        rw [Array.getElem?_append] at hy
        have hl2:(p++c.args.toList.map (eO e)).length=(p'++c.args.map a.eval).size:=by simp [hp]
        rw [hl2] at hx
        split at hx
        ·rename_i hi
         rw [if_pos hi] at hy
         rw [List.getElem?_append] at hx
         rw [Array.getElem?_append] at hy
         rw [hp] at hx
         split at hx
         ·rename_i hi2
          rw [if_pos hi2] at hy
          exact hrp _ x y hx hy
         ·rename_i hi2
          rw [if_neg hi2] at hy
          exact ar _ x y hx hy
        ·rename_i hi
         rw [if_neg hi] at hy
         exact hrq _ x y hx hy
       obtain ⟨⟨fn,hfn,hbody,hname⟩,hcalls⟩:=hK _ g _ _ v h' hcall (G.fR [] fun _=>none) (p'++c.args.map a.eval++q') rfl rfl (fun _=>rfl) (hW.vI (by intro d B h; cases h) (by intro d B h; cases h)) hsz hrel
       intro K Q hKK
       have hrun:(execOp a.eval o).run P G.w=.ok (.enter g (p'++c.args.map a.eval++q')) G.w:=by
        have h1 : ¬ fn.name = "runtime.NumGoroutine" := by simpa using hname
        have h2:¬ fn.body=none:=by intro h; rw [h] at hbody; cases hbody
        simp [execOp,ho,resolve,hf,hval,Deferred.ofValue,invoke,callFunc,hfn,h1,h2]
       unfold Oper.wp
       rw [hrun,Oper.upon_enter]
       refine hcalls _ (fun u G' hS hW' hh hv=>?_)
       obtain ⟨hS2,hW2⟩:=back hW hS hW'
       exact hKK u (G'.fR G.h.dO G.L) (hh G.h.dO) hS2 hW2 (hv _ _)
  ·cases h
 ·cases h
theorem qj (hW:WR G) (hC:fV P X.C) (hE:ER G e a) (hK:js P X.call) (h:fC o.op X e G.h o.dst=some r):nG P o a G r:=by
 by_cases hnc:∀ c,o.op≠.call c
 ·exact BX hW hC hE hnc h
 ·have:∃ c,o.op=.call c:=by
   cases ho:o.op with
   | call c=>exact ⟨c,rfl⟩
   | _=>exact absurd (fun c hc=>by rw [ho] at hc; cases hc) hnc
  obtain ⟨c,ho⟩:=this
  rw [ho] at h
  have h:jW X.C X.fa X.call e G.h c=some r:=h
  unfold jW at h
  split at h
  ·rename_i b hb
   exact zn hW hC hE ho hb h
  ·rename_i f hf
   exact CY hW hE hK ho hf h
  ·cases h
end
end Go.Sx
