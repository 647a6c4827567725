/- Proves tables of the program and that they match it. -/
import Derived.Test.YtihofefpkjfmnaaGreatTag
import Derived.Test.YtihofefpkjfmnaaGreatTaj
set_option linter.all false
set_option maxHeartbeats 0
namespace Go.Sx
open Go Go.Proofs
structure D5 where
 a:List Int
 ca:List Int
 ow:List Int
def wi (v:AV) (i:Nat):AV:=match v with
 | .sl xs _=>.agg ((xs[i]?).getD [])
 | _=>.undef
def vn {α:Type} {enc : α->List AV} {v:AV} {r:Row α} {k:Nat} {x : α} (h:v=Row.av enc r) {hk:k<r.l.length} (hq:r.l[k]=x):wi v k=.agg (enc x):=by
 subst h hq
 simp [wi,Row.av,hk]
inductive z6 (n:iS) (c:j5) (d:jV) (W:AV) (lg rd:List Int) (i:Nat) (s:D5):D5->Prop
 | none {ls:List AV} (hl:rs 46 [.ip [.ip (iS.ag n) 0 false,Row.av lV.ag c.dO.elems,Row.av lQ.ag c.dO.kg,Row.av lP.ag c.dO.signals,Row.av lr.ag c.dO.lines,iv c.dO.top,iv c.dO.kU,iv c.dO.kK,iv c.dO.kM,.bool c.dO.lq,Row.av kz.ag c.roads,iv d.mR,Row.av j4.ag d.j3,Row.av lj.ag d.runs,(lM lg),(lM rd),(lM s.ca),(lM s.ow)] 0 true,iv (i:Int)]=.kq [.agg ls,.bool false]):z6 n c d W lg rd i s s
 | Ma {l:lU} (hl:rs 46 [.ip [.ip (iS.ag n) 0 false,Row.av lV.ag c.dO.elems,Row.av lQ.ag c.dO.kg,Row.av lP.ag c.dO.signals,Row.av lr.ag c.dO.lines,iv c.dO.top,iv c.dO.kU,iv c.dO.kK,iv c.dO.kM,.bool c.dO.lq,Row.av kz.ag c.roads,iv d.mR,Row.av j4.ag d.j3,Row.av lj.ag d.runs,(lM lg),(lM rd),(lM s.ca),(lM s.ow)] 0 true,iv (i:Int)]=.kq [.agg (lU.ag l),.bool true]) {x:Int} (hx:x=0) {bb:AV} (hb:wi (rs 50 [W]) i=bb) (ht:rs 51 [.ip (iS.ag n) 0 false,.agg (jV.ag d),iv (i:Int),iv x,bb]=.bool false):z6 n c d W lg rd i s s
 | early {l:lU} (hl:rs 46 [.ip [.ip (iS.ag n) 0 false,Row.av lV.ag c.dO.elems,Row.av lQ.ag c.dO.kg,Row.av lP.ag c.dO.signals,Row.av lr.ag c.dO.lines,iv c.dO.top,iv c.dO.kU,iv c.dO.kK,iv c.dO.kM,.bool c.dO.lq,Row.av kz.ag c.roads,iv d.mR,Row.av j4.ag d.j3,Row.av lj.ag d.runs,(lM lg),(lM rd),(lM s.ca),(lM s.ow)] 0 true,iv (i:Int)]=.kq [.agg (lU.ag l),.bool true]) {x:Int} (hx:x=0) {bb:AV} (hb:wi (rs 50 [W]) i=bb) (ht:rs 51 [.ip (iS.ag n) 0 false,.agg (jV.ag d),iv (i:Int),iv x,bb]=.bool true) (ha:¬ l.at_<=0):z6 n c d W lg rd i s s
 | Yc {l:lU} (hl:rs 46 [.ip [.ip (iS.ag n) 0 false,Row.av lV.ag c.dO.elems,Row.av lQ.ag c.dO.kg,Row.av lP.ag c.dO.signals,Row.av lr.ag c.dO.lines,iv c.dO.top,iv c.dO.kU,iv c.dO.kK,iv c.dO.kM,.bool c.dO.lq,Row.av kz.ag c.roads,iv d.mR,Row.av j4.ag d.j3,Row.av lj.ag d.runs,(lM lg),(lM rd),(lM s.ca),(lM s.ow)] 0 true,iv (i:Int)]=.kq [.agg (lU.ag l),.bool true]) {x:Int} (hx:x=0) {bb:AV} (hb:wi (rs 50 [W]) i=bb) (ht:rs 51 [.ip (iS.ag n) 0 false,.agg (jV.ag d),iv (i:Int),iv x,bb]=.bool true) (ha:l.at_<=0) {vb:AV} (hv:rs 50 [W]=vb) (hh:rs 54 [.ip [.ip (iS.ag n) 0 false,Row.av lV.ag c.dO.elems,Row.av lQ.ag c.dO.kg,Row.av lP.ag c.dO.signals,Row.av lr.ag c.dO.lines,iv c.dO.top,iv c.dO.kU,iv c.dO.kK,iv c.dO.kM,.bool c.dO.lq,Row.av kz.ag c.roads,iv d.mR,Row.av j4.ag d.j3,Row.av lj.ag d.runs,(lM lg),(lM rd),(lM s.ca),(lM s.ow)] 0 true,vb,iv (i:Int)]=.bool false):z6 n c d W lg rd i s s
 | QA {l:lU} (hl:rs 46 [.ip [.ip (iS.ag n) 0 false,Row.av lV.ag c.dO.elems,Row.av lQ.ag c.dO.kg,Row.av lP.ag c.dO.signals,Row.av lr.ag c.dO.lines,iv c.dO.top,iv c.dO.kU,iv c.dO.kK,iv c.dO.kM,.bool c.dO.lq,Row.av kz.ag c.roads,iv d.mR,Row.av j4.ag d.j3,Row.av lj.ag d.runs,(lM lg),(lM rd),(lM s.ca),(lM s.ow)] 0 true,iv (i:Int)]=.kq [.agg (lU.ag l),.bool true]) {x:Int} (hx:x=0) {bb:AV} (hb:wi (rs 50 [W]) i=bb) (ht:rs 51 [.ip (iS.ag n) 0 false,.agg (jV.ag d),iv (i:Int),iv x,bb]=.bool true) (ha:l.at_<=0) {vb:AV} (hv:rs 50 [W]=vb) (hh:rs 54 [.ip [.ip (iS.ag n) 0 false,Row.av lV.ag c.dO.elems,Row.av lQ.ag c.dO.kg,Row.av lP.ag c.dO.signals,Row.av lr.ag c.dO.lines,iv c.dO.top,iv c.dO.kU,iv c.dO.kK,iv c.dO.kM,.bool c.dO.lq,Row.av kz.ag c.roads,iv d.mR,Row.av j4.ag d.j3,Row.av lj.ag d.runs,(lM lg),(lM rd),(lM s.ca),(lM s.ow)] 0 true,vb,iv (i:Int)]=.bool true) {vc:AV} (hc:rs 15 [.ip [.ip (iS.ag n) 0 false,Row.av lV.ag c.dO.elems,Row.av lQ.ag c.dO.kg,Row.av lP.ag c.dO.signals,Row.av lr.ag c.dO.lines,iv c.dO.top,iv c.dO.kU,iv c.dO.kK,iv c.dO.kM,.bool c.dO.lq,Row.av kz.ag c.roads,iv d.mR,Row.av j4.ag d.j3,Row.av lj.ag d.runs,(lM lg),(lM rd),(.sl [] .nil),(.sl [] .nil)] 0 true]=vc) (hg:rs 55 [vc,iv (i:Int),lM s.a]=.bool false):z6 n c d W lg rd i s s
 | go {l:lU} (hl:rs 46 [.ip [.ip (iS.ag n) 0 false,Row.av lV.ag c.dO.elems,Row.av lQ.ag c.dO.kg,Row.av lP.ag c.dO.signals,Row.av lr.ag c.dO.lines,iv c.dO.top,iv c.dO.kU,iv c.dO.kK,iv c.dO.kM,.bool c.dO.lq,Row.av kz.ag c.roads,iv d.mR,Row.av j4.ag d.j3,Row.av lj.ag d.runs,(lM lg),(lM rd),(lM s.ca),(lM s.ow)] 0 true,iv (i:Int)]=.kq [.agg (lU.ag l),.bool true]) {x:Int} (hx:x=0) {bb:AV} (hb:wi (rs 50 [W]) i=bb) (ht:rs 51 [.ip (iS.ag n) 0 false,.agg (jV.ag d),iv (i:Int),iv x,bb]=.bool true) (ha:l.at_<=0) {vb:AV} (hv:rs 50 [W]=vb) (hh:rs 54 [.ip [.ip (iS.ag n) 0 false,Row.av lV.ag c.dO.elems,Row.av lQ.ag c.dO.kg,Row.av lP.ag c.dO.signals,Row.av lr.ag c.dO.lines,iv c.dO.top,iv c.dO.kU,iv c.dO.kK,iv c.dO.kM,.bool c.dO.lq,Row.av kz.ag c.roads,iv d.mR,Row.av j4.ag d.j3,Row.av lj.ag d.runs,(lM lg),(lM rd),(lM s.ca),(lM s.ow)] 0 true,vb,iv (i:Int)]=.bool true) {vc:AV} (hc:rs 15 [.ip [.ip (iS.ag n) 0 false,Row.av lV.ag c.dO.elems,Row.av lQ.ag c.dO.kg,Row.av lP.ag c.dO.signals,Row.av lr.ag c.dO.lines,iv c.dO.top,iv c.dO.kU,iv c.dO.kK,iv c.dO.kM,.bool c.dO.lq,Row.av kz.ag c.roads,iv d.mR,Row.av j4.ag d.j3,Row.av lj.ag d.runs,(lM lg),(lM rd),(.sl [] .nil),(.sl [] .nil)] 0 true]=vc) (hg:rs 55 [vc,iv (i:Int),lM s.a]=.bool true) {y:Int} (hy:y=0) {r:Row Int} (hr:rs 56 [.ip (iS.ag n) 0 false,Row.av kz.ag c.roads,.agg (jV.ag d),iv (i:Int),iv y]=Row.av j6 r):z6 n c d W lg rd i s ⟨s.a++[(i:Int)],s.ca++r.l,s.ow++List.replicate r.l.length (i:Int)⟩
inductive ui (n:iS) (c:j5) (d:jV) (W:AV) (lg rd:List Int):Nat->D5->Prop
 | zero:ui n c d W lg rd 0 ⟨[],[],[]⟩
 | succ {k:Nat} {s s2:D5} (h:ui n c d W lg rd k s) (h2:z6 n c d W lg rd k s s2):ui n c d W lg rd (k+1) s2
theorem KM {r s:Row Int} (h:Row.av j6 r=Row.av j6 s):r.l=s.l:=by
 simp only [Row.av,AV.sl.injEq] at h
 exact (List.map_inj_right (f:=j6) (λa b h=>by simpa [j6] using h)).mp h.1
section
variable {n:iS} {c:j5} {d:jV} {W:AV} {lg rd:List Int} {i:Nat} {s s1 s2:D5}
theorem z6.FJ (h1:z6 n c d W lg rd i s s1) (h2:z6 n c d W lg rd i s s2):s1=s2:=by
 cases h1<;>cases h2<;>first | rfl | (exfalso; simp_all [lU.ag]; done) | (exfalso; simp_all [lU.ag]; omega) | skip
 rename_i y1 hy1 r1 hr1 _ _ _ _ _ _ _ _ _ _ _ _ _ _ y2 hy2 r2 hr2
 subst hy1 hy2
 rw [KM (hr1.symm.trans hr2)]
theorem ui.FJ {k:Nat} (h1:ui n c d W lg rd k s1):∀ {s2:D5},ui n c d W lg rd k s2->s1=s2:=by
 induction h1 with
 | zero=>intro s2 h2; cases h2; rfl
 | succ h g ih =>
   intro s2 h2
   cases h2 with
   | succ h' g' =>
     have:=ih h'
     subst this
     exact g.FJ g'
end
def Ly {{n:iS}} {{c:j5}} {{d:jV}} {{W:AV}}  {lg lg1 lg2 rd rd1 rd2 ca1 ca2 ow1 ow2:List Int} (h1:∃ a,ui n c d W lg1 rd1 lg1.length ⟨a,ca1,ow1⟩) (h2:∃ a,ui n c d W lg2 rd2 lg2.length ⟨a,ca2,ow2⟩) (e1:lg1=lg) (e2:lg2=lg) (e3:rd1=rd) (e4:rd2=rd):ca1=ca2/\ow1=ow2:=by
 subst e1 e2 e3 e4
 obtain ⟨a,h1⟩:=h1
 obtain ⟨b,h2⟩:=h2
 have:=h1.FJ h2
 injection this with _ h3 h4
 exact ⟨h3,h4⟩
theorem ui.at_ {n:iS} {c:j5} {d:jV} {W:AV} {lg rd:List Int} {k m:Nat} {s:D5} (h:ui n c d W lg rd k s) (e:k=m):ui n c d W lg rd m s:=e▸h
def ui.go_ {{n:iS}} {{c:j5}} {{d:jV}} {{W:AV}} {{lg rd:List Int}} {A CA OW ca ow:List Int} {i m:Nat} (h:ui n c d W lg rd i ⟨A,CA,OW⟩) {l:lU} (hl:rs 46 [.ip [.ip (iS.ag n) 0 false,Row.av lV.ag c.dO.elems,Row.av lQ.ag c.dO.kg,Row.av lP.ag c.dO.signals,Row.av lr.ag c.dO.lines,iv c.dO.top,iv c.dO.kU,iv c.dO.kK,iv c.dO.kM,.bool c.dO.lq,Row.av kz.ag c.roads,iv d.mR,Row.av j4.ag d.j3,Row.av lj.ag d.runs,(lM lg),(lM rd),(lM CA),(lM OW)] 0 true,iv (i:Int)]=.kq [.agg (lU.ag l),.bool true]) {x:Int} (hx:x=0) {bb:AV} (hb:wi (rs 50 [W]) i=bb) (ht:rs 51 [.ip (iS.ag n) 0 false,.agg (jV.ag d),iv (i:Int),iv x,bb]=.bool true) (ha:l.at_<=0) {vb:AV} (hv:rs 50 [W]=vb) (hh:rs 54 [.ip [.ip (iS.ag n) 0 false,Row.av lV.ag c.dO.elems,Row.av lQ.ag c.dO.kg,Row.av lP.ag c.dO.signals,Row.av lr.ag c.dO.lines,iv c.dO.top,iv c.dO.kU,iv c.dO.kK,iv c.dO.kM,.bool c.dO.lq,Row.av kz.ag c.roads,iv d.mR,Row.av j4.ag d.j3,Row.av lj.ag d.runs,(lM lg),(lM rd),(lM CA),(lM OW)] 0 true,vb,iv (i:Int)]=.bool true) {vc:AV} (hc:rs 15 [.ip [.ip (iS.ag n) 0 false,Row.av lV.ag c.dO.elems,Row.av lQ.ag c.dO.kg,Row.av lP.ag c.dO.signals,Row.av lr.ag c.dO.lines,iv c.dO.top,iv c.dO.kU,iv c.dO.kK,iv c.dO.kM,.bool c.dO.lq,Row.av kz.ag c.roads,iv d.mR,Row.av j4.ag d.j3,Row.av lj.ag d.runs,(lM lg),(lM rd),(.sl [] .nil),(.sl [] .nil)] 0 true]=vc) (hg:rs 55 [vc,iv (i:Int),lM A]=.bool true) {y:Int} (hy:y=0) {r:Row Int} (hr:rs 56 [.ip (iS.ag n) 0 false,Row.av kz.ag c.roads,.agg (jV.ag d),iv (i:Int),iv y]=Row.av j6 r)
  (h1:ca=CA++r.l.take m) (h2:ow=OW++List.replicate m (i:Int)) (h3:r.l.length<=m) (h4:m<=r.l.length):ui n c d W lg rd (i+1) ⟨A++[(i:Int)],ca,ow⟩:=by
 have e:m=r.l.length:=by omega
 subst e
 rw [List.take_length] at h1
 subst h1 h2
 exact h.succ (.go hl hx hb ht ha hv hh hc hg hy hr)
def Ed {l CA r:List Int} {k:Nat} {x:Int} (h:l=CA++r.take k) {hk:k<r.length} (hq:r[k]=x):l++[x]=CA++r.take (k+1):=by
 subst h hq
 rw [List.append_assoc,List.take_append_getElem]
def DG {l OW:List Int} {k:Nat} {x:Int} (h:l=OW++List.replicate k x):l++[x]=OW++List.replicate (k+1) x:=by
 subst h
 rw [List.append_assoc,List.replicate_succ']
def oK (an rd ca ow:List Int):Nat->List Int
 | 0=>rd
 | k+1=>if an[k]?=some 0/\(((oK an rd ca ow k)[((ow[k]?).getD 0).toNat]?).getD 0)<0 then (oK an rd ca ow k).set ((ow[k]?).getD 0).toNat ((ca[k]?).getD 0) else oK an rd ca ow k
section
variable {an rd ca ow l:List Int} {k:Nat} {x y z u:Int}
def MY (h:l=oK an rd ca ow k) (hk:¬ (k:Int)<(an.length:Int)):l=oK an rd ca ow (k+1):=by
 rw [oK,if_neg,h]
 rw [List.getElem?_eq_none (by omega)]
 simp
def MO (h:l=oK an rd ca ow k) {hk:k<an.length} (hq:an[k]=x) (hx:¬ x=0):l=oK an rd ca ow (k+1):=by
 rw [oK,if_neg,h]
 rw [List.getElem?_eq_getElem hk,hq]
 simp [hx]
def L9 (h:l=oK an rd ca ow k) {ho:k<ow.length} (hq:ow[k]=y) {hz:y.toNat<l.length} (hq2:l[y.toNat]=z) (hn:¬ z<0):l=oK an rd ca ow (k+1):=by
 rw [oK,if_neg,h]
 rw [List.getElem?_eq_getElem ho,hq,<- h,Option.getD_some,List.getElem?_eq_getElem hz,hq2]
 simp; omega
def Mh (h:l=oK an rd ca ow k) {hk:k<an.length} (hq0:an[k]=x) (hx:x=0) {ho:k<ow.length} (hq:ow[k]=y) {hz:y.toNat<l.length} (hq2:l[y.toNat]=z) (hn:z<0) {hc:k<ca.length} (hq3:ca[k]=u):l.set y.toNat u=oK an rd ca ow (k+1):=by
 rw [oK,if_pos,h]
 ·rw [List.getElem?_eq_getElem ho,hq,List.getElem?_eq_getElem hc,hq3]; rfl
 ·rw [List.getElem?_eq_getElem ho,hq,<- h,Option.getD_some,List.getElem?_eq_getElem hz,hq2,List.getElem?_eq_getElem hk,hq0,hx]
  exact ⟨rfl,hn⟩
theorem y4:(oK an rd ca ow k).length=rd.length:=by
 induction k with
 | zero=>rfl
 | succ k ih=>unfold oK; split<;>simp [ih]
def L6 {an2:List Int} (h:∀ i,i<k->(an[i]?=some 0↔an2[i]?=some 0)):oK an rd ca ow k=oK an2 rd ca ow k:=by
 induction k with
 | zero=>rfl
 | succ k ih =>
   have e:=ih λi hi=>h i (by omega)
   have e2:=h k (by omega)
   unfold oK
   rw [e]
   simp only [e2]
def LY {all ahead rA rB cA cB oA oB rA' rB':List Int} {m cut:Int} (hA:rA'=oK (all++ahead) rA cA oA cA.length) (hB:rB'=oK (all.take m.toNat) rB cB oB cB.length) (hr:rA=rB) (hc:cA=cB) (ho:oA=oB) (hl:all.length=cA.length) (hall:∀ i:Nat,all[i]?=some 0->(i:Int)<cut) (hm:Bh m (all.length:Int) cut):rA'=rB':=by
 unfold Bh at hm
 subst hr hc ho
 rw [hA,hB]
 refine L6 λi hi=>?_
 rw [List.getElem?_append_left (by omega)]
 constructor
 ·intro h
  have h1:=hall i h
  rw [List.getElem?_take_of_lt (by omega)]
  exact h
 ·intro h
  by_cases hlt:i<m.toNat
  ·rwa [List.getElem?_take_of_lt hlt] at h
  ·rw [List.getElem?_eq_none (by rw [List.length_take]; omega)] at h
   cases h
end
end Go.Sx
