/- Proves rules for the walks and their soundness. -/
import Derived.MapKept
import Derived.Orders
import Derived.Test.YtmajcicmbclkhaaGreatHab
set_option linter.all false
namespace Go.Sx
open Go
variable [DD]
section
variable {P:Program} {C:gv} {G:Ga} {t:Nat} {ti:TI}
def Lq:ml->Nat->Prop
 | .nil,c=>c=0
 | .exact n,c=>c=n
 | _,_=>True
def nJ.to {cap:ml} {l c:Nat} (h:nJ cap l c):Lq cap c:=by
 cases cap with
 | nil=>cases h
 | exact n=>exact h
 | iB=>trivial
 | qC=>trivial
def vR {s:AV} {s':Value} (hs:VR G s s') (h:(∃ xs c,s=.sl xs c)\/∃ b g o l,s=.hs b g o l):∃ base len cap,s'=.slice base len cap/\len<=cap:=by
 rcases h with ⟨xs,c,rfl⟩ | ⟨b,g,o,l,rfl⟩
 ·cases rv hs<;>grind
 ·cases hs<;>grind [AV.iA]
def Mf {x:AV} {x':Value} (hx:VR G x x') (h:mF G.h x=some []) (n:Nat) (w:World):(Builtin.lenOf x').run P w=.ok 0 w/\(Builtin.firstCells n 0 x').run P w=.ok #[] w:=by
 have hld:∀ a,(loadCells a 0).run P w=.ok #[] w:=by intro a; rfl
 have hld':∀ a:Addr,(loadCells a (0*n)).run P w=.ok #[] w:=by grind
 unfold mF at h
 split at h
 ·rename_i s hs
  have:=str?_eq hs; subst this
  obtain ⟨b,rfl,hb⟩:=hx.s8
  simp_all [uO,Builtin.lenOf,Builtin.firstCells]
 ·cases x with
  | sl xs cap =>
    simp only [elems,Option.some.injEq] at h
    subst h
    cases rv hx with
    | slnil=>simp_all [Builtin.lenOf,Builtin.firstCells]
    | my=>simp_all [Builtin.lenOf,Builtin.firstCells]
    | sl=>simp_all [Builtin.lenOf,Builtin.firstCells]
  | hs b g off len =>
    simp only [elems] at h
    split at h
    ·rename_i g' z xs hget
     split at h
     ·rename_i hb
      simp only [Bool.and_eq_true,Nat.beq_eq,Nat.ble_eq] at hb
      obtain ⟨rfl,hle⟩:=hb
      have h0:=congrArg (Option.map List.length) h
      simp only [Option.map_some,List.length_take,List.length_drop,List.length_nil,Option.some.injEq] at h0
      have hl0:len=0:=by omega
      subst hl0
      cases hx with
      | gf hp _=>simp [AV.iA] at hp
      | hs=>simp_all [Builtin.lenOf,Builtin.firstCells]
     ·cases h
    ·cases h
  | _=>cases h
def FQ {xs ys:List (List AV)} {n cap:Nat} {olds news z:Array Value} (hx:iS (VC G) n 0 xs olds) (hy:iS (VC G) n 0 ys news) (hxs:olds.size=xs.length*n) (hys:news.size=ys.length*n) (hz:z.size=n)
  (hx1:∀ (i:Nat) (v:Value),olds[i]?=some v->v.oneCell'=true) (hy1:∀ (i:Nat) (v:Value),news[i]?=some v->v.oneCell'=true) (hz1:∀ (i:Nat) (v:Value),z[i]?=some v->v.oneCell'=true) (hcap:xs.length+ys.length<=cap) :
  iS (VC G) n 0 (xs++ys) ((olds.toList++news.toList).toArray++Builtin.zeroCells z (cap - (xs.length+ys.length))) /\
   ((olds.toList++news.toList).toArray++Builtin.zeroCells z (cap - (xs.length+ys.length))).size=cap*n /\
   (∀ (i:Nat) (v:Value),((olds.toList++news.toList).toArray++Builtin.zeroCells z (cap - (xs.length+ys.length)))[i]?=some v->v.oneCell'=true):=by
 have hsz:(olds.toList++news.toList).toArray.size=(xs.length+ys.length)*n:=by grind
 have hget:∀ k,k<(xs.length+ys.length)*n->((olds.toList++news.toList).toArray++Builtin.zeroCells z (cap - (xs.length+ys.length)))[k]?=if k<xs.length*n then olds[k]? else news[k - xs.length*n]?:=by
  grind
 refine ⟨iS.append (hx.same ?_) (hy.same ?_),?_,?_⟩
 ·grind
 ·grind
 ·rw [Array.size_append,hsz,size_zeroCells,hz,<- Nat.add_mul]
  grind
 ·intro k v hv
  by_cases hk:k<(xs.length+ys.length)*n
  ·grind
  ·rw [Array.getElem?_append,if_neg (by omega)] at hv
   simp only [Builtin.zeroCells,Array.getElem?_map] at hv
   cases hq:(Array.range ((cap - (xs.length+ys.length))*z.size))[k - (olds.toList++news.toList).toArray.size]? with
   | none=>grind
   | some q =>
     rw [hq] at hv
     simp only [Option.map_some,Option.some.injEq] at hv
     have hzp:0<z.size:=by
      grind
     have hlt:q % z.size<z.size:=Nat.mod_lt _ hzp
     rw [getElem!_pos z _ hlt] at hv
     exact hz1 (q % z.size) v (by grind)
def fits {need ri bytes:Nat} (h:ri<need) (hn:need<=o5) (hb:bytes<=1048576):Builtin.nextslicecap need ri*bytes<=281474976710656/\((need:Nat):Int)<=9223372036854775807:=by
 have h1:need*bytes<=1048576*1048576:=Nat.mul_le_mul hn hb
 unfold o5 at hn
 exact ⟨growslice_fits h (by omega),by omega⟩
def GW (hW:WR G) (hC:gR P C) {ats:Array Nat} {s x:AV} {s' x':Value} {ty:Nat} {r:AV×au} (hs:VR G s s') (hx:VR G x x') (h:rT C ats.toList [s,x] G.h=some r) :
  pM P G (Builtin.append_ ats ty #[s',x']) r:=by
 unfold rT at h
 split at h
 ·rename_i ti s0 x0 hhead hargs
  simp only [List.cons.injEq,and_true] at hargs
  obtain ⟨rfl,rfl⟩:=hargs
  split at h
  ·rename_i hsrc
   unfold Bn at hsrc
   split at hsrc
   ·rename_i t tx hats
    have hats':ats = #[t,tx]:=by grind
    subst hats'
    split at hsrc
    ·rename_i tti htx
     simp only [pX] at hhead
     obtain ⟨el,hd,hte,hTe⟩:=p7 hC hhead
     obtain ⟨i,z,hi,hz,hcr,hzs,hza,hzo⟩:=hTe.uE (G:=G)
     have his:i.size=ti.size/\i.bytes=ti.bytes:=by
      obtain ⟨ii,_,hii,h1,h2,_⟩:=hTe.info
      grind
     have hby:i.bytes<=1048576:=by rw [his.2]; exact hTe.bytes
     split at h
     ·cases h
     ·rename_i ys hys
      split at h
      ·rename_i hok
       unfold append at h
       split at h
       ·
        obtain ⟨d,hdx,_,hkd⟩:=(hC.ty tx tti htx).desc
        have hdd:(∃ e',d=.slice e')\/d=.string:=by
         unfold Ax at hsrc
         split at hsrc
         ·rename_i e he; rw [he] at hkd; exact .inl ⟨e,hkd⟩
         ·rename_i he; rw [he] at hkd; exact .inr hkd
         grind
        obtain ⟨k1,k2⟩:=Mf (P:=P) hx hys i.size G.w
        split at h
        ·cases h
         obtain ⟨base,len,cap,rfl,hle⟩:=vR hs (.inl ⟨_,_,rfl⟩)
         exact ⟨_,G,Be t tx ty el i d hd hi hdx hdd base len cap x' G.w hle k1 k2,rfl,.refl G,hW,hs⟩
        ·cases h
         obtain ⟨base,len,cap,rfl,hle⟩:=vR hs (.inr ⟨_,_,_,_,rfl⟩)
         exact ⟨_,G,Be t tx ty el i d hd hi hdx hdd base len cap x' G.w hle k1 k2,rfl,.refl G,hW,hs⟩
        ·cases h
       ·rename_i y0 ys0
        generalize hyy:y0::ys0=ys at h hys hok
        have hpos:0<ys.length:=by grind
        clear hyy
        split at h
        ·cases h
        ·rename_i hal
         obtain ⟨news,hS,hrow,hsz,hone⟩:=Lf (P:=P) hW hC htx hsrc hx hys hal hpos
         rw [<- his.1] at hS
         have hnew:∀ (xs:List (List AV)) (base:Option Addr) (sCap:Nat) (olds:Array Value),s'=.slice base xs.length sCap->(Builtin.firstCells i.size xs.length (.slice base xs.length sCap)).run P G.w.drew=.ok olds G.w.drew ->
           iS (VC G) ti.size 0 xs olds->olds.size=xs.length*ti.size->(∀ (i:Nat) (v:Value),olds[i]?=some v->v.oneCell'=true)->sCap<xs.length+ys.length->rD ti.size G.h xs ys=some r ->
           pM P G (Builtin.append_ #[t,tx] ty #[s',x']) r:=by
          intro xs base sCap olds hs' hold hro hso ho1 hlt hap
          subst hs'
          unfold rD at hap
          split at hap
          ·rename_i hb
           simp only [Bool.and_eq_true,Nat.ble_eq] at hb
           simp only [mA,Option.some.injEq] at hap
           subst hap
           obtain ⟨f1,f2⟩:=fits hlt hb.2 hby
           have hrun:=run_append_grow_src (P:=P) G.w t tx ty el i z hd hi hz base xs.length sCap olds.toList (by omega) x' ys.length news.toList hS hlt f2 f1
           obtain ⟨g1,g2,g3⟩:=FQ (cap:=grownCap G.w (xs.length+ys.length) sCap el) hro hrow hso hsz hzs ho1 hone hcr.one (grownCap_ge _ _ _ _)
           obtain ⟨hSt,hW'⟩:=E5 (ob:=.fc 0 ti.size (xs++ys)) (cap:=grownCap G.w (xs.length+ys.length) sCap el) hW (iX.drew G.w (.cells ((olds.toList++news.toList).toArray++Builtin.zeroCells z.cells (grownCap G.w (xs.length+ys.length) sCap el - (xs.length+ys.length))) el)) (by
            intro g zz y2 e G' E hnew
            cases e
            refine ng.vb hnew (by grind [grownCap_ge]) (by grind) (g1.mono (λ_ _ h=>h.mono E))) (by simp)
           refine ⟨_,_,hrun,rfl,hSt,hW',?_⟩
           refine .hs _ 0 0 _ _ _ (by simp) (by omega) (grownCap_ge _ _ _ _) ?_
           grind [kj]
          grind
         have hold0:∀ (xs:List (List AV)) (cap:ml),s=.sl xs cap->nm ti.size xs=true->∃ base sCap olds,s'=.slice base xs.length sCap/\Lq cap sCap/\(Builtin.firstCells i.size xs.length (.slice base xs.length sCap)).run P G.w.drew=.ok olds G.w.drew /\
           iS (VC G) ti.size 0 xs olds/\olds.size=xs.length*ti.size/\(∀ (i:Nat) (v:Value),olds[i]?=some v->v.oneCell'=true):=by
          intro xs cap vc hax
          subst vc
          rcases Nat.eq_zero_or_pos xs.length with h0 | h0
          ·have hx0:xs=[]:=List.eq_nil_of_length_eq_zero h0
           subst hx0
           have hr0:iS (VC G) ti.size 0 [] #[]:=⟨by simp,by simp⟩
           cases rv hs with
           | slnil=>exact ⟨none,0,#[],rfl,rfl,by rfl,hr0,by simp,by simp⟩
           | my _ _ a c hm hc =>
             refine ⟨some a,c,#[],rfl,hc.to,?_,hr0,by simp,by simp⟩
             simp only [Builtin.firstCells,List.length_nil,Nat.zero_mul]
             rfl
           | sl _ _ _ B base c e fr cap' esz f hm hB hI hc hle =>
             refine ⟨_,cap',#[],rfl,hc.to,?_,hr0,by simp,by simp⟩
             simp only [Builtin.firstCells,List.length_nil,Nat.zero_mul]
             rfl
          ·obtain ⟨a,cap',olds,rfl,k1,k2,k3,k4⟩:=CZ (P:=P) hW hs (ys:=xs) rfl hax h0
           refine ⟨some a,cap',olds,rfl,?_,?_,k2,k3,k4⟩
           ·cases rv hs with
            | my _ _ a c hm hc=>grind
            | sl _ _ _ B base c e fr cap' esz f hm hB hI hc hle=>exact hc.to
           ·simp only [Builtin.firstCells,his.1]
            exact k1 _ rfl
         split at h
         ·rename_i xs
          have hax:nm ti.size xs=true:=by
           grind [rD]
          obtain ⟨base,sCap,olds,e1,e2,e3,e4,e5,e6⟩:=hold0 xs _ rfl hax
          have e2:sCap=0:=e2
          grind
         ·rename_i xs m
          split at h
          ·rename_i hlt
           rw [Nat.blt_eq] at hlt
           have hax:nm ti.size xs=true:=by
            grind [rD]
           obtain ⟨base,sCap,olds,e1,e2,e3,e4,e5,e6⟩:=hold0 xs _ rfl hax
           have e2:sCap=m:=e2
           grind
          ·cases h
         ·rename_i b g off len
          unfold Cs at h
          split at h
          ·rename_i g' zz xs hget
           split at h
           ·cases h
           ·rename_i hb
            simp only [Bool.not_eq_true',Bool.not_eq_false',Bool.and_eq_true,Nat.beq_eq,Nat.ble_eq,Bool.not_eq_false] at hb
            obtain ⟨⟨rfl,rfl⟩,hmost⟩:=hb
            cases hs with
            | gf hp _=>simp [AV.iA] at hp
            | hs _ _ _ _ a cap' hbl hgg hlc hl =>
              obtain ⟨l,hpi,hcap,ha⟩:=hl _ xs hget
              obtain ⟨c,e,hB,k1,k2,k3⟩:=(hW.fc b l g _ xs hpi hget).row
              have hin:len+ys.length<=cap'->a=⟨l.B,l.base+off*ti.size,none⟩/\l.base+off*ti.size+len*ti.size+news.size<=c.size /\
                (Builtin.append_ #[t,tx] ty #[.slice (some a) len cap',x']).run P G.w=.ok (.slice (some a) (len+ys.length) cap')
                  (G.w.setRow l.B (c.toList.take (l.base+off*ti.size+len*ti.size)++news.toList++c.toList.drop (l.base+off*ti.size+len*ti.size+news.toList.length)).toArray):=by
               intro hle
               have ha:=ha (by omega)
               have hfit:l.base+off*ti.size+len*ti.size+news.size<=c.size:=by
                rw [hsz]
                have:(off+(len+ys.length))*ti.size<=l.cap*ti.size:=Nat.mul_le_mul_right _ (by omega)
                grind
               refine ⟨ha,hfit,?_⟩
               subst ha
               have:=Hr (P:=P) t tx ty el i hd hi G.w l.B (l.base+off*ti.size) len cap' x' ys.length news.toList hS hle hB (by grind)
               grind
              split at h
              ·rename_i hroom
               rw [Nat.ble_eq] at hroom
               simp only [mA,Option.some.injEq] at h
               subst h
               obtain ⟨ha,hfit,hrun⟩:=hin (by omega)
               obtain ⟨hSt,hW'⟩:=uh (ob:=.fc g ti.size (overwrite xs (off+len) ys)) hW hpi (pq.row (c':=(c.toList.take (l.base+off*ti.size+len*ti.size)++news.toList++c.toList.drop (l.base+off*ti.size+len*ti.size+news.toList.length)).toArray) hB)
                (.inl ⟨g,_,xs,_,hget,rfl⟩) (by
                  intro g2 z2 xs2 e2 G' E hnw
                  cases e2
                  have hov:=k3.zP hrow hsz (n:=off+len) (o:=l.base+off*ti.size+len*ti.size) (by grind) hfit (by omega)
                  refine ng.vb hnw ?_ (by grind) (hov.mono (λ_ _ h=>h.mono E))
                  grind [overwrite]) (by simp)
               refine ⟨_,_,hrun,rfl,hSt,hW',?_⟩
               refine .hs b g off _ a cap' (by simpa using hbl) ?_ (by omega) ?_<;>grind [overwrite,au.ja,au.kV]
              ·rename_i hno
               split at h
               ·rename_i hend
                rw [Nat.beq_eq] at hend
                have hno:¬ off+len+ys.length<=xs.length:=by
                 omega
                simp only [mA,Option.some.injEq] at h
                subst h
                have hdl:(xs.drop off).length=len:=by grind
                have hvr:∀ (G':Ga) (l':Loc) (a':Addr) (cc:Nat),G'.h=G.h.set b (.fc (g+1) ti.size (xs.drop off++ys))->G'.pi b=some l'->l'.cap=cc->len+ys.length<=cc->a'=⟨l'.B,l'.base,none⟩->VR G' (.hs b (g+1) 0 (len+ys.length)) (.slice (some a') (len+ys.length) cc):=by
                 intro G' l' a' cc eh ep ec hle ea
                 refine .hs b (g+1) 0 _ a' cc (by rw [eh]; simpa using hbl) ?_ hle ?_<;>grind [au.ja,au.kV]
                by_cases hroom:len+ys.length<=cap'
                ·obtain ⟨ha,hfit,hrun⟩:=hin hroom
                 obtain ⟨hSt,hW'⟩:=ON (l':=⟨l.B,l.base+off*ti.size,cap'⟩) (xs':=xs.drop off++ys) (w':=G.w.setRow l.B (c.toList.take (l.base+off*ti.size+len*ti.size)++news.toList++c.toList.drop (l.base+off*ti.size+len*ti.size+news.toList.length)).toArray) hW hpi hget (.inl rfl) (by simp)
                  (by grind [setRow_size]) (λk _ hk=>setRow_other _ _ k _ hk) rfl rfl (.rfl _) (by
                    intro G' E hw
                    have hnw:G'.w.heap[l.B]?=some (.cells (c.toList.take (l.base+off*ti.size+len*ti.size)++news.toList++c.toList.drop (l.base+off*ti.size+len*ti.size+news.toList.length)).toArray e (0,0)):=by
                     grind [setRow_heap]
                    have hov:=(k3.drop off).zP hrow hsz (n:=len) (o:=l.base+off*ti.size+len*ti.size) rfl hfit (by omega)
                    have hcut:(xs.drop off).take len++ys++(xs.drop off).drop (len+ys.length)=xs.drop off++ys:=by
                     rw [List.take_of_length_le (Nat.le_of_eq hdl),show (xs.drop off).drop (len+ys.length)=[] from List.drop_eq_nil_of_le (by omega),List.append_nil]
                    rw [hcut] at hov
                    refine ng.vb hnw (by grind) ?_ (hov.mono (λ_ _ h=>h.mono E))
                    rw [NL hfit]
                    have:(off+cap')*ti.size<=l.cap*ti.size:=Nat.mul_le_mul_right _ (by omega)
                    grind)
                 exact ⟨_,_,hrun,rfl,hSt,hW',hvr _ _ _ _ rfl (kj _ _ _) rfl hroom ha⟩
                ·
                 have hro:=k3.drop off
                 have hold:∃ olds:Array Value,(Builtin.firstCells i.size len (.slice (some a) len cap')).run P G.w.drew=.ok olds G.w.drew/\iS (VC G) ti.size 0 (xs.drop off) olds/\olds.size=(xs.drop off).length*ti.size/\(∀ (i:Nat) (v:Value),olds[i]?=some v->v.oneCell'=true):=by
                  rcases Nat.eq_zero_or_pos cap' with h0 | h0
                  ·have hl0:len=0:=by omega
                   have hx0:xs.drop off=[]:=List.eq_nil_of_length_eq_zero (by omega)
                   rw [hx0,hl0]
                   refine ⟨#[],?_,⟨by simp,by simp⟩,by simp,by simp⟩
                   simp only [Builtin.firstCells,Nat.zero_mul]
                   rfl
                  ·have ha:=ha h0
                   subst ha
                   obtain ⟨olds,m1,m2⟩:=yh (P:=P) hB hro
                   refine ⟨olds,?_,m2⟩
                   simp only [Builtin.firstCells,his.1]
                   rw [hdl] at m1
                   exact m1 _ rfl
                 obtain ⟨olds,hold,hro',hso,ho1⟩:=hold
                 obtain ⟨f1,f2⟩:=fits (need:=len+ys.length) (ri:=cap') (bytes:=i.bytes) (by omega) (by omega) hby
                 have hrun:=run_append_grow_src (P:=P) G.w t tx ty el i z hd hi hz (some a) len cap' olds.toList (by omega) x' ys.length news.toList hS (by omega) f2 f1
                 obtain ⟨g1,g2,g3⟩:=FQ (cap:=grownCap G.w (len+ys.length) cap' el) hro' hrow hso hsz hzs ho1 hone hcr.one (by grind [grownCap_ge])
                 rw [hdl] at g1 g2 g3
                 have hA:=iX.drew G.w (.cells ((olds.toList++news.toList).toArray++Builtin.zeroCells z.cells (grownCap G.w (len+ys.length) cap' el - (len+ys.length))) el)
                 obtain ⟨hSt,hW'⟩:=ON (l':=⟨G.w.heap.size,0,grownCap G.w (len+ys.length) cap' el⟩) (xs':=xs.drop off++ys) hW hpi hget (.inr rfl) (by simp) (by simp)
                  (λk hk _=>hA.ri hk) hA.os hA.output hA.tape (by
                    intro G' E hw
                    refine ng.vb (by rw [hw]; exact hA.new) (by grind [grownCap_ge]) (by grind) (g1.mono (λ_ _ h=>h.mono E)))
                 exact ⟨_,_,hrun,rfl,hSt,hW',hvr _ _ _ _ rfl (kj _ _ _) rfl (grownCap_ge _ _ _ _) rfl⟩
               ·cases h
          ·cases h
         ·cases h
      ·cases h
    grind
   grind
  ·cases h
 ·cases h
end
end Go.Sx
namespace Go.Sx
open Go
variable [DD]
section
variable {P:Program} {C:gv} {G:Ga} {t:Nat} {tk:TI}
def wU {k:AV} (h:pE tk k=true):k.pP=true:=by
 unfold pE at h
 split at h
 ·unfold rn at h
  split at h<;>first | rfl | cases h
 ·split at h
  ·rename_i l hl
   have:=agg?_eq hl; subst this
   simp only [Bool.and_eq_true,List.all_eq_true] at h
   simp only [AV.pP,List.all_eq_true]
   intro x hx
   have:=zj h.2 x hx
   grind [uv]
  ·cases h
def O8 {v:AV} {u:Value} (h:VR G v u) (hs:uv v=true):PR G.w G.T false v u:=by
 unfold uv at hs
 split at hs
 ·exact h.AQ rfl
 ·exact h.AQ rfl
 ·exact h.AQ rfl
 grind
def Ad {k:AV} {kv:Value} (hk:VR G k kv) (h:pE tk k=true):PR G.w G.T false k kv:=by
 unfold pE at h
 split at h
 ·refine O8 hk ?_
  unfold rn at h
  split at h<;>first | rfl | cases h
 ·split at h
  ·rename_i l hl
   have:=agg?_eq hl; subst this
   simp only [Bool.and_eq_true,List.all_eq_true] at h
   obtain ⟨vs,rfl,hl',h1,hr⟩:=hk.uX
   exact .agg _ l vs hl' h1 (λi x y hx hy=>O8 (hr i x y hx hy).vr (zj h.2 x (List.mem_of_getElem? hx)))
  ·cases h
theorem MX {a b:ByteArray} (h:a.data.toList=b.data.toList):a=b:=by
 cases a<;>simp_all
theorem FB (a b:ByteArray):(a==b)=(a.data.toList==b.data.toList):=by
 cases a with | mk a=>cases b with | mk b =>
 have:((ByteArray.mk a)==(ByteArray.mk b))=(a==b):=rfl
 simp_all
theorem yc {n:Nat} {kt:Nat} {e:Bool} {kv:Value} {w:World} {d:TypeDesc} (hd:P.underlying kt=some d) (h:d=.string\/d=.bool\/∃ k,d=.int k):(Instr.checkKey e (n+1) kt kv).run P w=.ok () w:=by
 rcases h with rfl | rfl | ⟨k,rfl⟩<;>simp [Instr.checkKey,run_underlying hd]
theorem DP {a b:AV} {x y:Value} {m n:Bool} {w:World} {T:Bool->Nat->Prop} (ha:PR w T m a x) (hb:PR w T n b y) (h:kT a b=some true):x=y:=by
 cases a<;>simp only [kT,pr,zW,vq,Ay,reduceCtorEq] at h<;>cases b<;>simp only [AV.bool?,AV.int?,AV.str?,reduceCtorEq] at h
 ·cases ha; cases hb<;>grind
 ·cases ha; cases hb<;>grind [pS,oo]
 ·cases ha with
  | str _ _ c hc =>
    cases hb<;>grind [MX]
def DY {w:World} {T:Bool->Nat->Prop} {m n:Bool}:∀ {l k:List AV} {xs ys:List Value},l.length=xs.length->k.length=ys.length->(∀ (i:Nat) (x:AV) (y:Value),l[i]?=some x->xs[i]?=some y->PR w T m x y) ->
  (∀ (i:Nat) (x:AV) (y:Value),k[i]?=some x->ys[i]?=some y->PR w T n x y)->ki l k=some true->xs=ys
 | [],[],xs,ys,hl,hk,_,_,_=>by
   grind
 | [],_::_,_,_,_,_,_,_,h=>by cases h
 | _::_,[],_,_,_,_,_,_,h=>by cases h
 | a::l,b::k,[],_,hl,_,_,_,_=>by simp at hl
 | a::l,b::k,_::_,[],_,hk,_,_,_=>by simp at hk
 | a::l,b::k,x::xs,y::ys,hl,hk,hx,hy,h=>by
   simp only [ki] at h
   split at h
   ·rename_i he
    have e1:=DP (hx 0 a x rfl rfl) (hy 0 b y rfl rfl) he
    have e2:=DY (by grind) (by grind) (λi=>hx (i+1)) (λi=>hy (i+1)) h
    grind
   ·grind
   ·cases h
def JS {a b:AV} {x y:Value} {m n:Bool} {w:World} {T:Bool->Nat->Prop} (ha:PR w T m a x) (hb:PR w T n b y) (h:jc a b=some true):x=y:=by
 unfold jc at h
 split at h
 ·rename_i l hl
  have:=agg?_eq hl; subst this
  unfold zD at h
  split at h
  ·rename_i k hk
   have:=agg?_eq hk; subst this
   cases ha with
   | agg _ _ xs h1 h2 h3 =>
     cases hb with
     | agg _ _ ys k1 k2 k3 =>
       have:=DY (xs:=xs.toList) (ys:=ys.toList) (by omega) (by omega) (λi x y hx hy=>h3 i x y hx (by grind)) (λi x y hx hy=>k3 i x y hx (by grind)) h
       simp_all
  ·cases h
 grind [DP]
theorem sameBits_self {v:AV} {x:Value} {w:World} {T:Bool->Nat->Prop} {m:Bool} (h:PR w T m v x) (hk:v.pP=true):∀ n,Instr.sameBits (n+2) x x=true:=by
 have hsc:∀ (u:AV) (y:Value) (n:Nat),PR w T m u y->uv u=true->Instr.sameBits n y y=true:=by
  intro u y n hu hs
  unfold uv at hs
  split at hs
  ·cases hu<;>grind [Instr.sameBits]
  ·cases hu<;>grind [Instr.sameBits]
  ·cases hu<;>grind [Instr.sameBits,FB]
  grind
 intro n
 cases v with
 | bool b=>exact hsc _ _ _ h rfl
 | int k i=>exact hsc _ _ _ h rfl
 | str s=>exact hsc _ _ _ h rfl
 | agg l =>
   simp only [AV.pP,List.all_eq_true] at hk
   cases h with
   | agg _ _ vs hl h1 hr =>
     simp only [Instr.sameBits,beq_self_eq_true,Bool.true_and,List.all_eq_true]
     rintro ⟨a,b⟩ hab
     obtain ⟨i,hi⟩:=List.getElem?_of_mem hab
     rw [List.getElem?_zip_eq_some] at hi
     have hab':a=b:=by
      grind
     subst hab'
     have hilt:i<l.length:=by
      grind
     have hg:l[i]?=some l[i]:=by simp
     refine hsc l[i] a _ (hr i l[i] a hg (by grind)) ?_
     have:=hk l[i] (List.getElem_mem hilt)
     revert this
     generalize l[i]=q
     intro this
     cases q<;>first | rfl | cases this
 | _=>simp [AV.pP] at hk
def Told (P:Program) (kt:Nat) (d:TypeDesc) (k:AV) (kv:Value) (w:World) (T:Bool->Nat->Prop):Prop :=
 (∀ (k':AV) (kv':Value) (b:Bool),PR w T false k' kv'->jc k k'=some b->Instr.sameNow d kv kv'=some b) \/
 ((∀ kv',Instr.sameNow d kv kv'=none)/\∀ (k':AV) (kv':Value) (b:Bool),PR w T false k' kv'->jc k k'=some b->(Op.equal kt kv kv').run P w=.ok b w)
def told {kt:Nat} {k:AV} {kv:Value} {w:World} {T:Bool->Nat->Prop} (hT:mz P kt tk) (hf:pE tk k=true) (hk:PR w T false k kv):∃ d,P.underlying kt=some d/\Told P kt d k kv w T/\∀ e w,(Instr.checkKey e 10000 kt kv).run P w=.ok () w:=by
 obtain ⟨d,hd,ha,hkd⟩:=hT.desc
 refine ⟨d,hd,?_⟩
 unfold pE at hf
 split at hf
 ·unfold rn at hf
  split at hf
  ·rename_i kd kk n hkind
   rw [pS] at hf
   subst hf
   rw [hkind] at hkd
   have hkd:d=.int kd:=hkd
   subst hkd
   cases hk
   refine ⟨.inl ?_,?_⟩
   ·intro k' kv' b hk' he
    simp only [jc,AV.agg?,kT,vq] at he
    split at he
    ·rename_i k2 m hm
     have:=int?_eq hm; subst this
     cases hk'<;>grind [pS,oo,Instr.sameNow]
    grind
   grind [yc]
  ·rename_i s hkind
   rw [hkind] at hkd
   have hkd:d=.string:=hkd
   subst hkd
   cases hk with
   | str _ _ c hc =>
   refine ⟨.inl ?_,?_⟩
   ·intro k' kv' b hk' he
    simp only [jc,AV.agg?,kT,Ay] at he
    split at he
    ·rename_i s2 hm
     have:=str?_eq hm; subst this
     cases hk'<;>grind [Instr.sameNow,FB]
    grind
   grind [yc]
  ·rename_i b0 hkind
   rw [hkind] at hkd
   have hkd:d=.bool:=hkd
   subst hkd
   cases hk
   refine ⟨.inl ?_,?_⟩
   ·intro k' kv' b hk' he
    simp only [jc,AV.agg?,kT,zW] at he
    split at he
    ·rename_i s2 hm
     have:=bool?_eq hm; subst this
     cases hk'<;>grind [Instr.sameNow]
    grind
   grind [yc]
  grind
 ·rename_i hagg
  split at hf
  ·rename_i l hl
   have:=agg?_eq hl; subst this
   simp only [Bool.and_eq_true,Nat.beq_eq] at hf
   cases hk with
   | agg _ _ vs hlv h1 hr =>
   have hkp:PR w T true (.agg l) (.agg vs):=(PR.agg false l vs hlv h1 hr).D6
   refine ⟨.inr ⟨?_,?_⟩,?_⟩
   ·intro kv'
    rw [hagg] at ha
    cases d<;>simp [JA] at ha<;>rfl
   ·intro k' kv' b hk' he
    simp only [jc,AV.agg?,zD] at he
    split at he
    ·rename_i m hm
     have:=agg?_eq hm; subst this
     cases hk' with
     | agg _ _ us hlu h2 hr2 =>
     have hlen:m.length=tk.size:=by
      have:∀ {l m:List AV} {b:Bool},ki l m=some b->l.length=m.length:=by
       intro l
       induction l with
       | nil=>intro m b h; cases m with | nil=>rfl | cons _ _=>cases h
       | cons a l ih =>
         intro m b h
         cases m<;>grind [ki]
      grind
     exact hT.flat hf.1.1 hagg l m vs us b w T hf.2 hf.1.2 hlen hkp ((PR.agg false m us hlu h2 hr2).D6) he
    grind
   ·intro e w'
    exact hT.key hf.1.1 hagg e vs w' (by omega)
  grind
end
end Go.Sx
namespace Go.Sx
open Go
variable [DD]
section
variable {P:Program} {C:gv} {G:Ga} {t:Nat} {tk:TI}
def Found (k:AV) (es:List (AV×AV×Nat)) (ents:List MapEntry) (i:Nat) (r:Option (Nat×AV)) (r':Option (Nat×Value)):Prop :=
 (r=none/\r'=none)\/∃ j p e,r=some (i+j,p.2.1)/\es[j]?=some p/\ents[j]?=some e/\jc k p.1=some true/\r'=some (i+j,e.val)
def Found.cons {k:AV} {p:AV×AV×Nat} {e:MapEntry} {es:List (AV×AV×Nat)} {ents:List MapEntry} {i:Nat} {r:Option (Nat×AV)} {r':Option (Nat×Value)} (h:Found k es ents (i+1) r r'):Found k (p::es) (e::ents) i r r':=by
 rcases h with h | ⟨j,p',e',h1,h2,h3,h4,h5⟩
 ·exact .inl h
 ·exact .inr ⟨j+1,p',e',by grind,h2,h3,h4,by grind⟩
def FI {d:TypeDesc} {k:AV} {kv:Value} {w:World} {T:Bool->Nat->Prop} (H:∀ (k':AV) (kv':Value) (b:Bool),PR w T false k' kv'->jc k k'=some b->Instr.sameNow d kv kv'=some b) :
  ∀ (es:List (AV×AV×Nat)) (ents:List MapEntry) (i:Nat) (r:Option (Nat×AV)),es.length=ents.length->(∀ (j:Nat) p e,es[j]?=some p->ents[j]?=some e->PR w T false p.1 e.key)->findKey k es i=some r ->
    ∃ r',Instr.findNow d kv ents i=some r'/\Found k es ents i r r'
 | [],[],i,r,_,_,h=>by
   simp only [findKey,Option.some.injEq] at h
   subst h
   exact ⟨none,rfl,.inl ⟨rfl,rfl⟩⟩
 | [],_::_,_,_,hl,_,_=>by simp at hl
 | _::_,[],_,_,hl,_,_=>by simp at hl
 | p::es,e::ents,i,r,hl,hr,h=>by
   obtain ⟨k',v,bn⟩:=p
   simp only [findKey] at h
   have hp:=hr 0 (k',v,bn) e rfl rfl
   split at h
   ·rename_i he
    cases h
    refine ⟨some (i,e.val),by grind [Instr.findNow],.inr ⟨0,(k',v,bn),e,rfl,rfl,rfl,he,rfl⟩⟩
   ·rename_i he
    obtain ⟨r',h1,h2⟩:=FI H es ents (i+1) r (by grind) (λj=>hr (j+1)) h
    exact ⟨r',by grind [Instr.findNow],h2.cons⟩
   ·cases h
def Fa {kt:Nat} {k:AV} {kv:Value} {w:World} {T:Bool->Nat->Prop} (H:∀ (k':AV) (kv':Value) (b:Bool),PR w T false k' kv'->jc k k'=some b->(Op.equal kt kv kv').run P w=.ok b w) :
  ∀ (es:List (AV×AV×Nat)) (ents:List MapEntry) (i:Nat) (r:Option (Nat×AV)),es.length=ents.length->(∀ (j:Nat) p e,es[j]?=some p->ents[j]?=some e->PR w T false p.1 e.key)->findKey k es i=some r ->
    ∃ r',(Instr.findAsking kt kv ents i).run P w=.ok r' w/\Found k es ents i r r'
 | [],[],i,r,_,_,h=>by
   simp only [findKey,Option.some.injEq] at h
   subst h
   exact ⟨none,rfl,.inl ⟨rfl,rfl⟩⟩
 | [],_::_,_,_,hl,_,_=>by simp at hl
 | _::_,[],_,_,hl,_,_=>by simp at hl
 | p::es,e::ents,i,r,hl,hr,h=>by
   obtain ⟨k',v,bn⟩:=p
   simp only [findKey] at h
   have hp:=hr 0 (k',v,bn) e rfl rfl
   split at h
   ·rename_i he
    cases h
    refine ⟨some (i,e.val),by simp [Instr.findAsking,H k' e.key true hp he],.inr ⟨0,(k',v,bn),e,rfl,rfl,rfl,he,rfl⟩⟩
   ·rename_i he
    obtain ⟨r',h1,h2⟩:=Fa H es ents (i+1) r (by grind) (λj=>hr (j+1)) h
    exact ⟨r',by simp [Instr.findAsking,H k' e.key false hp he,h1],h2.cons⟩
   ·cases h
def oJ {kt:Nat} {k:AV} {kv:Value} {w:World} {T:Bool->Nat->Prop} (hT:mz P kt tk) (hf:pE tk k=true) (hk:PR w T false k kv) (es:List (AV×AV×Nat)) (ents:List MapEntry) (r:Option (Nat×AV)) (hl:es.length=ents.length)
  (hr:∀ (j:Nat) p e,es[j]?=some p->ents[j]?=some e->PR w T false p.1 e.key) (h:findKey k es 0=some r):∃ r',(Instr.findKey kt kv ents).run P w=.ok r' w/\Found k es ents 0 r r':=by
 obtain ⟨d,hd,hTold,_⟩:=told hT hf hk
 unfold Instr.findKey
 rcases hTold with H | ⟨H1,H2⟩
 ·obtain ⟨r',h1,h2⟩:=FI H es ents 0 r hl hr h
  simp_all [run_underlying]
 ·obtain ⟨r',h1,h2⟩:=Fa H2 es ents 0 r hl hr h
  refine ⟨r',?_,h2⟩
  cases ents with
  | nil =>
    have:es=[]:=List.eq_nil_of_length_eq_zero (by omega)
    subst this
    simp only [findKey,Option.some.injEq] at h
    subst h
    rcases h2 with ⟨_,rfl⟩ | ⟨j,p,e,h1,h2,_⟩
    ·simp [run_underlying hd,Instr.findNow]
    grind
  | cons e ents =>
    simp_all [run_underlying,Instr.findNow]
def findF {k:AV}:∀ (es:List (AV×AV)) (i:Nat) (r:Option AV),qz k es=some r->∃ q,findKey k (es.map λp=>(p.1,p.2,0)) i=some q/\q.map (·.2)=r
 | [],i,r,h=>by
   simp only [qz,Option.some.injEq] at h
   subst h
   exact ⟨none,rfl,rfl⟩
 | (k',v)::es,i,r,h=>by
   simp only [qz] at h
   simp only [List.map_cons,findKey]
   split at h
   ·grind
   ·rename_i he
    obtain ⟨q,h1,h2⟩:=findF es (i+1) r h
    grind
   ·cases h
def Fb {el:Nat} {ti:TI} (hT:mz P el ti) {z:AV} (h:asAgg ti ti.zero=some z) (w:World):∃ z',(zeroValue el).run P w=.ok z' w/\VC G z z':=by
 obtain ⟨i,z',hi,hz,hcr,hzs,ha,ho⟩:=hT.uE (G:=G)
 refine ⟨z',by simp [zeroValue,typeInfo,hi,hz],?_⟩
 unfold asAgg at h
 split at h
 ·rename_i hagg
  cases h
  obtain ⟨cs,rfl⟩:=ha hagg
  have:(Value.agg cs).cells=cs:=rfl
  rw [this] at hcr
  exact ⟨hcr.agg,rfl⟩
 ·rename_i hagg
  have h1:=ho hagg
  rw [cells_one h1] at hcr
  split at h
  ·rename_i v hv
   cases h
   rw [hv] at hcr
   exact hcr.rel 0 _ z' rfl rfl
  ·cases h
def xQ {kt:Nat} {k:AV} (h:oP C kt k=true):∃ tk,C.T kt=some tk/\pE tk k=true:=by
 grind [oP]
def ur (hC:gR P C) {tm:TI} {kt el:Nat} (h:C.T t=some tm) (hk:tm.kind=.map kt el):P.underlying t=some (.map kt el):=by
 obtain ⟨d,hd,_,hkd⟩:=(hC.ty t tm h).desc
 rw [hk] at hkd
 have hkd:d=.map kt el:=hkd
 grind
def P1 (w:World) (m':Value) (ents:Array MapEntry):Prop:=(m'=.map none/\ents = #[])\/∃ r c,m'=.map (some r)/\w.heap[r]?=some (.map ents c)
def CH {kt el:Nat} {m' k' q:Value} {ents:Array MapEntry} {r':Option (Nat×Value)} {b ok:Bool} {w:World} (hd:P.underlying t=some (.map kt el)) (hm:P1 w m' ents) (hck:∀ e w,(Instr.checkKey e 10000 kt k').run P w=.ok () w)
  (hf:(Instr.findKey kt k' ents.toList).run P w=.ok r' w) (hq:(∃ i,r'=some (i,q)/\b=true)\/(r'=none/\b=false/\(zeroValue el).run P w=.ok q w)) :
  (Instr.lookup t m' k' ok).run P w=.ok (if ok=true then .tuple #[q,.bool b] else q) w:=by
 unfold Instr.lookup
 rcases hm with ⟨rfl,rfl⟩ | ⟨r,c,rfl,hB⟩<;>rcases hq with ⟨i,rfl,rfl⟩ | ⟨rfl,rfl,hz⟩
 ·simp_all [run_underlying]
 ·simp_all [run_underlying]
 ·simp [run_underlying hd,hck,hf,MapKept.run_getObj_map hB]
 ·simp [run_underlying hd,hck,hf,hz,MapKept.run_getObj_map hB]
def GK (hW:WR G) (hC:gR P C) {m k v:AV} {m' k':Value} {ok:Bool} (hm:VR G m m') (hk:VR G k k') (h:pN C t G.h m k ok=some v) :
  ∃ u,(Instr.lookup t m' k' ok).run P G.w=.ok u G.w/\VR G v u:=by
 unfold pN at h
 split at h
 ·cases h
 ·rename_i tm htm
  split at h
  ·rename_i kt el hkind
   have hd:=ur hC htm hkind
   split at h
   ·cases h
   ·rename_i ti hti
    split at h
    ·cases h
    ·rename_i hkey
     obtain ⟨tk,htk,hfit⟩:=xQ hkey
     have hTk:=hC.ty kt tk htk
     have hkp:=Ad hk hfit
     obtain ⟨d,hdk,_,hck⟩:=told hTk hfit hkp
     have htup:∀ (x:AV) (u:Value) (b:Bool),VR G x u->yf ok b x=some v->VR G v (if ok=true then .tuple #[u,.bool b] else u):=by
      intro x u b hx he
      unfold yf at he
      split at he
      ·cases he
       simp only [if_true]
       refine .fG _ _ rfl ?_
       grind [VR.bool]
      grind
     have main:∀ (es:List (AV×AV×Nat)) (ents:Array MapEntry) (r:Option (Nat×AV)),es.length=ents.size->(∀ (j:Nat) p e,es[j]?=some p->ents[j]?=some e->PR G.w G.T false p.1 e.key/\VR G p.2.1 e.val)->findKey k es 0=some r->P1 G.w m' ents->py G.h k m=some (r.map (·.2))->∃ u,(Instr.lookup t m' k' ok).run P G.w=.ok u G.w/\VR G v u:=by
      intro es ents r hl hr hf hents hfi
      rw [hfi] at h
      obtain ⟨r',h1,h2⟩:=oJ hTk hfit hkp es ents.toList r (by omega) (λj p e hp he=>(hr j p e hp (by grind)).1) hf
      rcases h2 with ⟨rfl,rfl⟩ | ⟨j,p,e,rfl,hp,he,hke,rfl⟩
      ·simp only [Option.map_none] at h
       split at h
       ·cases h
       ·rename_i z hz
        obtain ⟨z',hz',hvz⟩:=Fb (G:=G) (hC.ty el ti hti) hz G.w
        exact ⟨_,CH hd hents hck h1 (.inr ⟨rfl,rfl,hz'⟩),htup z z' false hvz.vr h⟩
      ·simp only [Option.map_some] at h
       exact ⟨_,CH hd hents hck h1 (.inl ⟨_,rfl,rfl⟩),htup _ _ true (hr j p e hp (by grind)).2 h⟩
     cases hfi:py G.h k m with
     | none=>grind
     | some x =>
     have hfi0:=hfi
     unfold py at hfi
     split at hfi
     ·
      cases hm with
      | gf _ hm =>
        cases hm
        exact main [] #[] none rfl (by simp) rfl (.inl ⟨rfl,rfl⟩) rfl
     ·
      rename_i es sn
      ·obtain ⟨q,h1,h2⟩:=findF es 0 x hfi
       cases hm with
       | gf _ hm =>
         cases hm with
         | fm _ _ _ r0 ents clk hmm hB hI hl hy hko hkk hvv =>
           refine main (es.map λp=>(p.1,p.2,0)) ents q (by grind) ?_ h1 (.inr ⟨r0,clk,rfl,hB⟩) (by grind)
           intro j p e hp he
           rw [List.getElem?_map] at hp
           cases hj:es[j]? with
           | none=>grind
           | some p0 =>
             rw [hj] at hp
             cases hp
             have hc:=hko j p0 hj
             have hp1:PR G.w G.T false p0.1 e.key:=by
              have h0:=hkk j p0 e hj he
              have hsc:∀ (x:AV) (y:Value) (m:Bool),PR G.w G.T m x y->uv x=true->PR G.w G.T false x y:=by
               intro x y m hx hs
               exact hx.down (by unfold uv at hs; split at hs<;>first | rfl | cases hs)
              cases hk0:p0.1 with
              | bool b=>rw [hk0] at h0; exact hsc _ _ _ h0 rfl
              | int kk b=>rw [hk0] at h0; exact hsc _ _ _ h0 rfl
              | str b=>rw [hk0] at h0; exact hsc _ _ _ h0 rfl
              | agg l =>
                rw [hk0] at h0 hc
                generalize hv:e.key=kv at h0
                cases h0 with
                | agg _ _ vs hlv h1 hr =>
                  refine .agg _ l vs hlv h1 (λi x y hx hy=>hsc _ _ _ (hr i x y hx hy) ?_)
                  simp only [AV.pP,List.all_eq_true] at hc
                  have:=hc x (List.mem_of_getElem? hx)
                  grind [uv]
              | _=>rw [hk0] at hc; simp [AV.pP] at hc
             exact ⟨hp1,(hvv j p0 e hj he).tj⟩
     ·
      rename_i b
      split at hfi
      ·rename_i es clk hget
       cases hm with
       | gf hp _=>simp [AV.iA] at hp
       | hm _ r0 hb hl =>
         obtain ⟨l,hpi,rfl⟩:=hl es clk hget
         obtain ⟨ents,hB,hlen,_,hrel⟩:=hW.map b l es clk hpi hget
         have hrel':∀ (j:Nat) p e,es[j]?=some p->ents[j]?=some e->PR G.w G.T false p.1 e.key/\VR G p.2.1 e.val:=λj p e hp he=>⟨(hrel j p e hp he).2.1,(hrel j p e hp he).2.2.1.vr⟩
         cases hq:findKey k es 0 with
         | none=>grind
         | some q =>
           refine main es ents q hlen hrel' hq (.inr ⟨l.B,clk,rfl,hB⟩) ?_
           grind
      grind
     grind
  ·cases h
end
end Go.Sx
namespace Go.Sx
open Go
variable [DD]
def om (G:Ga) (es:List (AV×AV×Nat)) (ents:List MapEntry):Prop :=
 es.length=ents.length/\∀ (i:Nat) (p:AV×AV×Nat) (e:MapEntry),es[i]?=some p->ents[i]?=some e->p.1.pP=true/\PR G.w G.T false p.1 e.key/\VC G p.2.1 e.val/\p.2.2=e.born
def om.mono {G G':Ga} {es:List (AV×AV×Nat)} {ents:List MapEntry} (h:om G es ents) (E:Ext G G'):om G' es ents :=
 ⟨h.1,λi p e hp he=>let ⟨a,b,c,d⟩:=h.2 i p e hp he; ⟨a,b.mono E.T E.keep,c.mono E,d⟩⟩
theorem om.push {G:Ga} {es:List (AV×AV×Nat)} {ents:List MapEntry} (h:om G es ents) {p:AV×AV×Nat} {e:MapEntry} (hn:p.1.pP=true/\PR G.w G.T false p.1 e.key/\VC G p.2.1 e.val/\p.2.2=e.born):om G (es++[p]) (ents++[e]):=by
 refine ⟨by simp [h.1],?_⟩
 intro i q f hq hf
 rw [List.getElem?_append] at hq hf
 split at hq
 ·rename_i hi
  rw [if_pos (by rw [<- h.1]; exact hi)] at hf
  exact h.2 i q f hq hf
 ·rename_i hi
  rw [if_neg (by rw [<- h.1]; exact hi)] at hf
  grind
def om.modify {G:Ga} {es:List (AV×AV×Nat)} {ents:List MapEntry} (h:om G es ents) {j:Nat} {f:AV×AV×Nat->AV×AV×Nat} {g:MapEntry->MapEntry}
  (hn:∀ p e,es[j]?=some p->ents[j]?=some e->(f p).1.pP=true/\PR G.w G.T false (f p).1 (g e).key/\VC G (f p).2.1 (g e).val/\(f p).2.2=(g e).born):om G (es.modify j f) (ents.modify j g):=by
 refine ⟨by simp [h.1],?_⟩
 intro i q e hq he
 rw [List.getElem?_modify] at hq he
 by_cases hij:j=i
 ·grind
 ·simp only [if_neg hij] at hq he
  cases hp:es[i]? with
  | none=>grind
  | some p =>
    cases hx:ents[i]? with
    | none=>grind
    | some x =>
      rw [hp] at hq; rw [hx] at he
      cases hq; cases he
      exact h.2 i p x hp hx
def om.erase {G:Ga} {es:List (AV×AV×Nat)} {ents:List MapEntry} (h:om G es ents) (j:Nat):om G (es.eraseIdx j) (ents.eraseIdx j):=by
 refine ⟨by simp only [List.length_eraseIdx,h.1],?_⟩
 intro i q e hq he
 rw [List.getElem?_eraseIdx] at hq he
 split at hq
 ·rename_i hi; rw [if_pos hi] at he; exact h.2 _ q e hq he
 ·rename_i hi; rw [if_neg hi] at he; exact h.2 _ q e hq he
theorem o9.push {es:List (AV×AV×Nat)} {c:Nat} (h:o9 es c) (k v:AV):o9 (es++[(k,v,c)]) (c+1):=by
 refine ⟨λp hp=>?_,?_⟩
 ·rcases List.mem_append.1 hp with hp | hp
  ·exact Nat.lt_succ_of_lt (h.1 p hp)
  grind
 ·rw [List.map_append,List.nodup_append]
  refine ⟨h.2,by simp,λa ha b hb=>?_⟩
  obtain ⟨p,hp,rfl⟩:=List.mem_map.1 ha
  have:=h.1 p hp
  simp at hb
  omega
def o9.modify {es:List (AV×AV×Nat)} {c:Nat} (h:o9 es c) (j:Nat) (f:AV×AV×Nat->AV×AV×Nat) (hf:∀ p,(f p).2.2=p.2.2):o9 (es.modify j f) c:=by
 refine ⟨λp hp=>?_,?_⟩
 rotate_left
 ·have:(es.modify j f).map (·.2.2)=es.map (·.2.2):=by
   apply List.ext_getElem?
   intro i
   simp only [List.getElem?_map,List.getElem?_modify]
   cases es[i]? with
   | none=>rfl
   | some p=>by_cases hj:j=i<;>simp [hj,hf]
  rw [this]; exact h.2
 obtain ⟨i,hi⟩:=List.getElem?_of_mem hp
 rw [List.getElem?_modify] at hi
 cases hq:es[i]? with
 | none=>grind
 | some q =>
   rw [hq] at hi
   have hq2:=h.1 q (List.mem_of_getElem? hq)
   grind
def o9.erase {es:List (AV×AV×Nat)} {c:Nat} (h:o9 es c) (j:Nat):o9 (es.eraseIdx j) c :=
 ⟨λp hp=>h.1 p ((List.eraseIdx_subset) hp),h.2.sublist ((List.eraseIdx_sublist es j).map _)⟩
def pq.obj {w:World} {r:Nat} {o:Obj} (h:r<w.heap.size):pq w { w with heap:=w.heap.setIfInBounds r o } r o:=by
 refine ⟨by simp [h],?_,by simp,rfl,rfl,.rfl _⟩
 grind
section
variable {P:Program} {C:gv} {G:Ga} {t:Nat} {tk:TI}
def Bj (hC:gR P C) {k:AV} (h:mapKey C t k=true):∃ kt el tk,P.underlying t=some (.map kt el)/\mz P kt tk/\pE tk k=true:=by
 unfold mapKey at h
 split at h
 ·rename_i tm htm
  split at h
  ·rename_i kt el hk
   obtain ⟨tk,h1,h2⟩:=xQ h
   exact ⟨kt,el,tk,ur hC htm hk,hC.ty kt tk h1,h2⟩
  ·cases h
 ·cases h
def sX (hW:WR G) {b:Nat} {m':Value} {es:List (AV×AV×Nat)} {c:Nat} (hm:VR G (.hm b) m') (hget:G.h.get b=some (.map es c)) :
  ∃ l ents,G.pi b=some l/\m'=.map (some l.B)/\G.w.heap[l.B]?=some (.map ents c)/\om G es ents.toList/\o9 es c:=by
 cases hm with
 | gf hp _=>simp [AV.iA] at hp
 | hm _ r0 hb hl =>
   obtain ⟨l,hpi,rfl⟩:=hl es c hget
   obtain ⟨ents,hB,hlen,hy,hrel⟩:=hW.map b l es c hpi hget
   exact ⟨l,ents,hpi,rfl,hB,⟨by omega,λi p e hp he=>hrel i p e hp (by grind)⟩,hy⟩
def se (hW:WR G) {b:Nat} {l:Loc} {es es':List (AV×AV×Nat)} {ents:Array MapEntry} {c c':Nat} {ents':Array MapEntry} (hpi:G.pi b=some l) (hget:G.h.get b=some (.map es c)) (h':om G es' ents'.toList) (hy:o9 es' c') :
  Step G ⟨{ G.w with heap:=G.w.heap.setIfInBounds l.B (.map ents' c') },G.T,G.h.set b (.map es' c'),G.pi,G.L⟩/\WR ⟨{ G.w with heap:=G.w.heap.setIfInBounds l.B (.map ents' c') },G.T,G.h.set b (.map es' c'),G.pi,G.L⟩:=by
 refine uh hW hpi (pq.obj (hW.iU b l hpi).1) (.inr ⟨es,c,es',c',hget,rfl⟩) (by simp) ?_
 intro es2 c2 e G' E hnew
 cases e
 have h2:=h'.mono E
 exact ⟨ents',hnew,by simpa using h2.1,hy,λi p e hp he=>h2.2 i p e hp (by grind)⟩
def BD {x:AV} (h:x.ye=true):x.lR=true:=by cases x<;>simp_all [AV.ye,AV.lR]
def stays {k k0:AV} {kv kv0:Value} {w:World} (h1:PR G.w G.T false k kv) (h2:PR G.w G.T false k0 kv0) (he:jc k k0=some true) (hk:k.pP=true):(Instr.keyThatStays kv0 kv).run P w=.ok kv w:=by
 have:=JS h1 h2 he
 subst this
 unfold Instr.keyThatStays
 rw [sameBits_self h1 hk 9998]
 simp
def so {k:AV} {es:List (AV×AV×Nat)} {ents:List MapEntry} {r:Option (Nat×AV)} {r':Option (Nat×Value)} (h:Found k es ents 0 r r') :
  (r=none/\r'=none)\/∃ j p e,r=some (j,p.2.1)/\es[j]?=some p/\ents[j]?=some e/\jc k p.1=some true/\r'=some (j,e.val):=by
 rcases h with h | ⟨j,p,e,h1,h2,h3,h4,h5⟩<;>grind
def vx (hW:WR G) (hC:gR P C) {m k x:AV} {m' k' x':Value} {r:AV×au} (hm:VR G m m') (hk:VR G k k') (hx:VR G x x') (h:tX C G.h t m k x=some r) :
  r.1=.undef/\Cc P G (Instr.mapUpdate t m' k' x') r.2:=by
 unfold tX at h
 split at h
 ·rename_i b
  split at h
  ·rename_i es c hget
   split at h
   ·rename_i hb
    simp only [Bool.and_eq_true] at hb
    obtain ⟨kt,el,tk,hd,hTk,hfit⟩:=Bj hC hb.1
    have hkp:=Ad hk hfit
    obtain ⟨d,hdk,_,hck⟩:=told hTk hfit hkp
    obtain ⟨l,ents,hpi,rfl,hB,hrel,hyo⟩:=sX hW hm hget
    split at h
    ·rename_i es' c' hup
     cases h
     refine ⟨rfl,?_⟩
     unfold zK at hup
     split at hup
     ·cases hup
     ·rename_i hf
      cases hup
      obtain ⟨r',h1,h2⟩:=oJ hTk hfit hkp es ents.toList none hrel.1 (λj p e hp he=>(hrel.2 j p e hp he).2.1) hf
      rcases so h2 with ⟨_,rfl⟩ | ⟨j,p,e,h0,_⟩
      ·have hE:om G (es++[(k,x,c)]) (ents.push { key:=k',val:=x',born:=c }).toList:=by
        rw [Array.toList_push]
        exact hrel.push ⟨wU hfit,hkp,⟨hx,BD hb.2⟩,rfl⟩
       obtain ⟨hS,hW'⟩:=se (ents:=ents) (c':=c+1) hW hpi hget hE (hyo.push _ _)
       refine ⟨_,?_,rfl,hS,hW'⟩
       simp [Instr.mapUpdate,run_underlying hd,MapKept.run_getObj_map hB,hck,h1,MapKept.run_setObj_map _ hB]
      grind
     ·rename_i i v hf
      cases hup
      obtain ⟨r',h1,h2⟩:=oJ hTk hfit hkp es ents.toList _ hrel.1 (λj p e hp he=>(hrel.2 j p e hp he).2.1) hf
      rcases so h2 with ⟨h0,_⟩ | ⟨j,p,e,h0,hp,he,hke,rfl⟩
      ·cases h0
      ·cases h0
       have hst:=stays (P:=P) (w:=G.w) hkp (hrel.2 i p e hp he).2.1 hke (wU hfit)
       have hE:om G (es.modify i (λe=>(k,x,e.2.2))) (ents.modify i λe=>{ e with key:=k',val:=x' }).toList:=by
        rw [Array.toList_modify]
        exact hrel.modify (λp0 e0 hp0 he0=>⟨wU hfit,hkp,⟨hx,BD hb.2⟩,(hrel.2 i p0 e0 hp0 he0).2.2.2⟩)
       obtain ⟨hS,hW'⟩:=se (ents:=ents) (c':=c) hW hpi hget hE (hyo.modify _ _ (λ_=>rfl))
       refine ⟨_,?_,rfl,hS,hW'⟩
       have he':ents[i]?=some e:=by grind
       simp [Instr.mapUpdate,run_underlying hd,MapKept.run_getObj_map hB,hck,h1,he',hst,MapKept.run_setObj_map _ hB]
    ·cases h
   ·cases h
  ·cases h
 ·cases h
def Dq (hW:WR G) (hC:gR P C) {m k:AV} {m' k':Value} {r:AV×au} (hm:VR G m m') (hk:VR G k k') (h:s5 C G.h t m k=some r):pM P G (Instr.mapEntry t m' k') r:=by
 unfold s5 at h
 split at h
 ·cases h
 ·rename_i tm htm
  split at h
  ·rename_i kt el b hkind
   have hd:=ur hC htm hkind
   split at h
   ·rename_i ti es c hti hget
    split at h
    ·cases h
    ·rename_i hkey
     obtain ⟨tk,htk,hfit⟩:=xQ hkey
     have hTk:=hC.ty kt tk htk
     have hkp:=Ad hk hfit
     obtain ⟨d,hdk,_,hck⟩:=told hTk hfit hkp
     obtain ⟨l,ents,hpi,rfl,hB,hrel,hyo⟩:=sX hW hm hget
     split at h
     ·rename_i i v hf
      cases h
      obtain ⟨r',h1,h2⟩:=oJ hTk hfit hkp es ents.toList _ hrel.1 (λj p e hp he=>(hrel.2 j p e hp he).2.1) hf
      rcases so h2 with ⟨h0,_⟩ | ⟨j,p,e,h0,hp,he,hke,rfl⟩
      ·cases h0
      ·cases h0
       have hst:=stays (P:=P) (w:=G.w) hkp (hrel.2 i p e hp he).2.1 hke (wU hfit)
       have hE:om G (es.modify i (λx=>(k,x.2))) (ents.modify i λe=>{ e with key:=k' }).toList:=by
        rw [Array.toList_modify]
        exact hrel.modify (λp0 e0 hp0 he0=>⟨wU hfit,hkp,(hrel.2 i p0 e0 hp0 he0).2.2⟩)
       obtain ⟨hS,hW'⟩:=se (ents:=ents) (c':=c) hW hpi hget hE (hyo.modify _ _ (λ_=>rfl))
       have he':ents[i]?=some e:=by grind
       refine ⟨.tuple #[e.val,.int .i64 e.born],_,?_,rfl,hS,hW',?_⟩
       ·simp [Instr.mapEntry,run_underlying hd,MapKept.run_getObj_map hB,hck,h1,he',hst,MapKept.run_setObj_map _ hB,goInt]
       ·refine .fG _ _ rfl ?_
        intro i2 a u ha hu
        match i2 with
        | 0=>cases ha; cases hu; exact ((hrel.2 i p e hp he).2.2.1.mono hS.ext).vr
        | 1 =>
          cases ha; cases hu
          have:xn es i=e.born:=by simp only [xn,hp]; exact (hrel.2 i p e hp he).2.2.2
          grind [VR.int]
        | i2+2=>simp at ha
     ·rename_i hf
      split at h
      ·rename_i z hz
       cases h
       obtain ⟨z',hz',hvz⟩:=Fb (G:=G) (hC.ty el ti hti) hz G.w
       obtain ⟨r',h1,h2⟩:=oJ hTk hfit hkp es ents.toList none hrel.1 (λj p e hp he=>(hrel.2 j p e hp he).2.1) hf
       rcases so h2 with ⟨_,rfl⟩ | ⟨j,p,e,h0,_⟩
       ·have hE:om G (es++[(k,z,c)]) (ents.push { key:=k',val:=z',born:=c }).toList:=by
         rw [Array.toList_push]
         exact hrel.push ⟨wU hfit,hkp,hvz,rfl⟩
        obtain ⟨hS,hW'⟩:=se (ents:=ents) (c':=c+1) hW hpi hget hE (hyo.push _ _)
        refine ⟨.tuple #[z',.int .i64 c],_,?_,rfl,hS,hW',?_⟩
        ·simp [Instr.mapEntry,run_underlying hd,MapKept.run_getObj_map hB,hck,h1,hz',MapKept.run_setObj_map _ hB,goInt]
        ·refine .fG _ _ rfl ?_
         intro i2 a u ha hu
         match i2 with
         | 0=>cases ha; cases hu; exact (hvz.mono hS.ext).vr
         | 1=>grind [VR.int]
         | i2+2=>simp at ha
       grind
      ·cases h
     ·cases h
   ·cases h
  ·cases h
def y3 {n:Int} {v:AV}:∀ {es es':List (AV×AV×Nat)},po n v es=some es'->∃ j,es'=es.modify j (λp=>(p.1,v,p.2.2))/\(∃ p,es[j]?=some p/\((p.2.2:Int)==n)=true)/\∀ i p,i<j->es[i]?=some p->((p.2.2:Int)==n)=false
 | [],es',h=>by cases h
 | (k,w,b)::es,es',h=>by
   simp only [po] at h
   split at h
   ·rename_i hb
    cases h
    exact ⟨0,rfl,⟨_,rfl,hb⟩,λi p hi=>by omega⟩
   ·rename_i hb
    split at h
    ·cases h
    ·rename_i es2 h2
     cases h
     obtain ⟨j,h3,⟨p,h4,h5⟩,h6⟩:=y3 h2
     refine ⟨j+1,by rw [h3]; rfl,⟨p,h4,h5⟩,?_⟩
     intro i q hi hq
     cases i with
     | zero=>cases hq; simpa using hb
     | succ i=>exact h6 i q (by omega) hq
def Bs (hW:WR G) {m s x:AV} {m' s' x':Value} {r:AV×au} (hm:VR G m m') (hs:VR G s s') (hx:VR G x x') (h:sF G.h m s x=some r):r.1=.undef/\Cc P G (Instr.entryStore t m' s' x') r.2:=by
 unfold sF at h
 split at h
 ·rename_i b kk n hs2
  have:=int?_eq hs2; subst this
  rw [hs.of_int]
  split at h
  ·rename_i es c hget
   split at h
   ·rename_i hvo
    split at h
    ·rename_i es' hst
     cases h
     refine ⟨rfl,?_⟩
     obtain ⟨l,ents,hpi,rfl,hB,hrel,hyo⟩:=sX hW hm hget
     obtain ⟨j,rfl,⟨p,hp,hpn⟩,hmin⟩:=y3 hst
     have hjl:j<ents.size:=by
      have:=(List.getElem?_eq_some_iff.1 hp).1
      rw [hrel.1] at this
      omega
     have hfi:ents.findIdx? (λe=>(e.born:Int)==n)=some j:=by
      rw [Array.findIdx?_eq_some_iff_getElem]
      have hgj:ents.toList[j]?=some ents[j]:=by simp
      refine ⟨hjl,?_,?_⟩
      ·rw [<- (hrel.2 j p ents[j] hp hgj).2.2.2]; exact hpn
      ·intro i hi
       have hil:i<ents.size:=Nat.lt_trans hi hjl
       have hgi:ents.toList[i]?=some ents[i]:=by simp
       have hil':i<es.length:=by grind
       have hei:es[i]?=some es[i]:=by simp
       rw [<- (hrel.2 i es[i] ents[i] hei hgi).2.2.2]
       grind
     have hE:om G (es.modify j λp=>(p.1,x,p.2.2)) (ents.modify j λe=>{ e with val:=x' }).toList:=by
      rw [Array.toList_modify]
      exact hrel.modify (λp0 e0 hp0 he0=>⟨(hrel.2 j p0 e0 hp0 he0).1,(hrel.2 j p0 e0 hp0 he0).2.1,⟨hx,BD hvo⟩,(hrel.2 j p0 e0 hp0 he0).2.2.2⟩)
     obtain ⟨hS,hW'⟩:=se (ents:=ents) (c':=c) hW hpi hget hE (hyo.modify _ _ (λ_=>rfl))
     refine ⟨_,?_,rfl,hS,hW'⟩
     simp [Instr.entryStore,MapKept.run_getObj_map hB,asInt,qV,hfi,MapKept.run_setObj_map _ hB]
    ·cases h
   ·cases h
  ·cases h
 ·cases h
def F8 (hW:WR G) (hC:gR P C) {ats:Array Nat} {m k:AV} {m' k':Value} {ty:Nat} {r:AV×au} (hm:VR G m m') (hk:VR G k k') (h:ug C ats.toList [m,k] G.h=some r):pM P G (Builtin.delete_ ats ty #[m',k']) r:=by
 have hkey:wR C k ats.toList=true->∃ t kt el tk,ats[0]?=some t/\P.underlying t=some (.map kt el)/\mz P kt tk/\pE tk k=true:=by
  intro hh
  unfold wR at hh
  split at hh
  ·rename_i t rest hats
   obtain ⟨kt,el,tk,a,b,c⟩:=Bj hC hh
   exact ⟨t,kt,el,tk,by rw [<- Array.getElem?_toList,hats]; rfl,a,b,c⟩
  grind
 have htup:∀ G',VR G' (.fG []) (.tuple #[]):=λG'=>.fG _ _ rfl (by simp)
 unfold ug at h
 split at h
 ·rename_i k0 hargs
  simp only [List.cons.injEq,and_true] at hargs
  obtain ⟨rfl,rfl⟩:=hargs
  split at h
  ·rename_i hh
   cases h
   obtain ⟨t,kt,el,tk,h0,hd,hTk,hfit⟩:=hkey hh
   obtain ⟨d,hdk,_,hck⟩:=told hTk hfit (Ad hk hfit)
   cases hm with
   | gf _ hm =>
     cases hm
     exact ⟨.tuple #[],G,by simp_all [Builtin.delete_,run_underlying],rfl,.refl G,hW,htup G⟩
  ·cases h
 ·rename_i b k0 hargs
  simp only [List.cons.injEq,and_true] at hargs
  obtain ⟨rfl,rfl⟩:=hargs
  split at h
  ·rename_i es c hget
   split at h
   ·rename_i hh
    obtain ⟨t,kt,el,tk,h0,hd,hTk,hfit⟩:=hkey hh
    have hkp:=Ad hk hfit
    obtain ⟨d,hdk,_,hck⟩:=told hTk hfit hkp
    obtain ⟨l,ents,hpi,rfl,hB,hrel,hyo⟩:=sX hW hm hget
    split at h
    ·rename_i es' hdm
     cases h
     unfold wQ at hdm
     split at hdm
     ·cases hdm
     ·rename_i hf
      cases hdm
      obtain ⟨r',h1,h2⟩:=oJ hTk hfit hkp es ents.toList none hrel.1 (λj p e hp he=>(hrel.2 j p e hp he).2.1) hf
      rcases so h2 with ⟨_,rfl⟩ | ⟨j,p,e,h0,_⟩
      ·obtain ⟨hS,hW'⟩:=se (ents:=ents) (c':=c) hW hpi hget hrel hyo
       exact ⟨.tuple #[],_,by simp [Builtin.delete_,h0,run_underlying hd,MapKept.run_getObj_map hB,hck,h1,MapKept.run_setObj_map _ hB],rfl,hS,hW',htup _⟩
      grind
     ·rename_i i v hf
      cases hdm
      obtain ⟨r',h1,h2⟩:=oJ hTk hfit hkp es ents.toList _ hrel.1 (λj p e hp he=>(hrel.2 j p e hp he).2.1) hf
      rcases so h2 with ⟨h0,_⟩ | ⟨j,p,e,h3,hp,he,hke,rfl⟩
      ·cases h0
      ·cases h3
       have hE:om G (es.eraseIdx i) (ents.eraseIdxIfInBounds i).toList:=by
        rw [Array.toList_eraseIdxIfInBounds]
        exact hrel.erase i
       obtain ⟨hS,hW'⟩:=se (ents:=ents) (c':=c) hW hpi hget hE (hyo.erase _)
       exact ⟨.tuple #[],_,by simp [Builtin.delete_,h0,run_underlying hd,MapKept.run_getObj_map hB,hck,h1,MapKept.run_setObj_map _ hB],rfl,hS,hW',htup _⟩
    ·cases h
   ·cases h
  ·cases h
 ·cases h
end
end Go.Sx
namespace Go.Sx
open Go
variable [DD]
section
variable {P:Program} {C:gv} {G:Ga} {t:Nat} {ti:TI}
def B6 (hC:gR P C) {ats:Array Nat} (h:pX C ats.toList=some ti):∃ t el,ats[0]?=some t/\P.underlying t=some (.slice el)/\mz P el ti:=by
 unfold pX at h
 split at h
 ·rename_i t rest hats
  obtain ⟨el,hd,_,hT⟩:=p7 hC h
  exact ⟨t,el,by rw [<- Array.getElem?_toList,hats]; rfl,hd,hT⟩
 ·cases h
def HC (hW:WR G) {x:AV} {x':Value} {ys:List (List AV)} {n:Nat} (hx:VR G x x') (h:elems G.h x=some ys) (hn:nm n ys=true) :
  ∃ (a:Option Addr) (cap':Nat),x'=.slice a ys.length cap'/\∀ m,m<=ys.length->∃ news:Array Value,(Builtin.firstCells n m x').run P G.w=.ok news G.w/\iS (VC G) n 0 (ys.take m) news/\news.size=m*n /\
    (∀ (i:Nat) (v:Value),news[i]?=some v->v.oneCell'=true):=by
 have hzero:∀ (a:Option Addr) (cap':Nat),(Builtin.firstCells n 0 (.slice a 0 cap')).run P G.w=.ok #[] G.w:=by
  intro a cap'
  cases a with
  | none=>rfl
  | some a =>
    simp_all [Builtin.firstCells,loadCells,loadCellsFrom]
 have hnil:∀ (a:Option Addr) (cap':Nat),∀ m,m<=([]:List (List AV)).length->∃ news:Array Value,(Builtin.firstCells n m (.slice a 0 cap')).run P G.w=.ok news G.w/\iS (VC G) n 0 (([]:List (List AV)).take m) news/\news.size=m*n /\
   (∀ (i:Nat) (v:Value),news[i]?=some v->v.oneCell'=true):=by
  intro a cap' m hm
  have hm0:m=0:=by grind
  subst hm0
  exact ⟨#[],hzero a cap',⟨by simp,by simp⟩,by simp,by simp⟩
 have hrow:∀ (B base:Nat) (c:Array Value) (e:TypeId) (fr:Nat×Nat) (cap':Nat),G.w.heap[B]?=some (.cells c e fr)->iS (VC G) n base ys c->∀ m,m<=ys.length->∃ news:Array Value,(Builtin.firstCells n m (.slice (some ⟨B,base,none⟩) ys.length cap')).run P G.w=.ok news G.w/\iS (VC G) n 0 (ys.take m) news/\news.size=m*n /\
   (∀ (i:Nat) (v:Value),news[i]?=some v->v.oneCell'=true):=by
  intro B base c e fr cap' hB hr m hm
  obtain ⟨news,k1,k2,k3,k4⟩:=yh (P:=P) hB (hr.take m)
  grind [Builtin.firstCells]
 cases x with
 | sl xs cap =>
   simp only [elems,Option.some.injEq] at h
   subst h
   cases rv hx with
   | slnil=>simp_all
   | my=>simp_all
   | sl _ _ _ B base c e fr cap' esz f hm hB hI hcap hle hz hc h1 hr =>
     refine ⟨_,_,rfl,?_⟩
     rcases Nat.eq_zero_or_pos xs.length with h0 | h0
     ·simp_all
     ·have hi0:xs[0]?=some xs[0]:=by simp
      have he:esz=n:=by grind [qX]
      subst he
      exact hrow B base c e fr cap' hB ⟨hz,λi cs j x hi hj=>⟨f i j,hc i cs j x hi hj,h1 i cs j x hi hj,(hr i cs j x hi hj).wv⟩⟩
 | hs b g off len =>
   simp only [elems] at h
   split at h
   ·rename_i g' z xs hget
    split at h
    ·rename_i hb
     simp only [Bool.and_eq_true,Nat.beq_eq,Nat.ble_eq] at hb
     obtain ⟨rfl,hle⟩:=hb
     simp only [Option.some.injEq] at h
     have hlen:ys.length=len:=by grind
     cases hx with
     | gf hp _=>simp [AV.iA] at hp
     | hs _ _ _ _ a cap' hb hg hlc hl =>
       refine ⟨some a,cap',by rw [hlen],?_⟩
       rw [<- hlen]
       rcases Nat.eq_zero_or_pos ys.length with h0 | h0
       ·have hx0:ys=[]:=List.eq_nil_of_length_eq_zero h0
        subst hx0
        exact hnil _ _
       ·obtain ⟨l,hpi,hcap,ha⟩:=hl z xs hget
        have ha:=ha (by omega)
        subst ha
        obtain ⟨c,e,hB,k1,k2,k3⟩:=(hW.fc b l g z xs hpi hget).row
        have hr:=(k3.drop off).take len
        rw [h] at hr
        have hi0:ys[0]?=some ys[0]:=by simp
        have he:z=n:=by rw [<- hr.len 0 _ hi0]; exact qX hn hi0
        subst he
        exact hrow l.B _ c e _ cap' hB hr
    ·cases h
   ·cases h
 | _=>cases h
def pq.same {w:World} {B:Nat} {o:Obj} (h:w.heap[B]?=some o):pq w w B o:=⟨h,λ_ _=>rfl,rfl,rfl,rfl,.rfl _⟩
theorem Ep (xs:List (List AV)) (n:Nat):overwrite xs n []=xs:=by simp [overwrite]
def E7 (hW:WR G) {b g off len:Nat} {n:Nat} {xs ys:List (List AV)} {a:Addr} {cap':Nat} {news:Array Value} (hv:VR G (.hs b g off len) (.slice (some a) len cap')) (hget:G.h.get b=some (.fc g n xs)) (hle:off+len<=xs.length) (hm:ys.length<=len)
  (hr:iS (VC G) n 0 ys news) (hsz:news.size=ys.length*n) (h1:∀ (i:Nat) (v:Value),news[i]?=some v->v.oneCell'=true) :
  ∃ G',(storeCells a news.toList).run P G.w=.ok () G'.w/\G'.h=G.h.set b (.fc g n (overwrite xs off ys))/\Step G G'/\WR G':=by
 cases hv with
 | gf hp _=>simp [AV.iA] at hp
 | hs _ _ _ _ _ _ hbl hgg hlc hl =>
   obtain ⟨l,hpi,hcap,ha⟩:=hl n xs hget
   obtain ⟨c,e,hB,k1,k2,k3⟩:=(hW.fc b l g n xs hpi hget).row
   rcases Nat.eq_zero_or_pos ys.length with h0 | h0
   ·have hy0:ys=[]:=List.eq_nil_of_length_eq_zero h0
    subst hy0
    have hn0:news = #[]:=by grind
    subst hn0
    obtain ⟨hS,hW'⟩:=uh (ob:=.fc g n (overwrite xs off [])) hW hpi (pq.same hB) (.inl ⟨g,n,xs,_,hget,rfl⟩) (by
     intro g2 z2 x2 e2 G' E hnw
     cases e2
     rw [Ep]
     exact ng.vb hnw k1 k2 (k3.mono (λ_ _ h=>h.mono E))) (by simp)
    exact ⟨_,by rfl,rfl,hS,hW'⟩
   ·have ha:=ha (by omega)
    subst ha
    have hfit:l.base+off*n+news.size<=c.size:=by
     rw [hsz]
     have:(off+ys.length)*n<=l.cap*n:=Nat.mul_le_mul_right _ (by omega)
     grind
    have hst:=run_storeCells_at (P:=P) l.B (l.base+off*n) e news.toList 0 c G.w hB (by omega) (λu hu=>by
     obtain ⟨i,hi⟩:=List.getElem?_of_mem hu
     grind)
    simp only [Nat.add_zero] at hst
    obtain ⟨hS,hW'⟩:=uh (ob:=.fc g n (overwrite xs off ys)) hW hpi (pq.row (c':=(c.toList.take (l.base+off*n)++news.toList++c.toList.drop (l.base+off*n+news.toList.length)).toArray) hB) (.inl ⟨g,n,xs,_,hget,rfl⟩) (by
     intro g2 z2 x2 e2 G' E hnw
     cases e2
     have hov:=k3.zP hr hsz (n:=off) rfl hfit (by omega)
     refine ng.vb hnw ?_ (by grind) (hov.mono (λ_ _ h=>h.mono E))
     grind [overwrite]) (by simp)
    grind
def Jf (hW:WR G) (hC:gR P C) {ats:Array Nat} {d x:AV} {d' x':Value} {ty:Nat} {r:AV×au} (hd:VR G d d') (hx:VR G x x') (h:Cd C ats.toList [d,x] G.h=some r):pM P G (Builtin.copy_ ats ty #[d',x']) r:=by
 unfold Cd at h
 split at h
 ·rename_i ti d0 x0 hhead hargs
  simp only [List.cons.injEq,and_true] at hargs
  obtain ⟨rfl,rfl⟩:=hargs
  obtain ⟨t,el,h0,hde,hTe⟩:=B6 hC hhead
  split at h
  ·rename_i ys hys
   unfold Gn at h
   split at h
   ·rename_i b g off len
    split at h
    ·rename_i g' z xs hget
     split at h
     ·rename_i hb
      simp only [Bool.and_eq_true,Nat.beq_eq,Nat.ble_eq] at hb
      obtain ⟨⟨⟨⟨rfl,rfl⟩,hle⟩,hok⟩,hal⟩:=hb
      cases h
      obtain ⟨ax,capx,rfl,hfirst⟩:=HC (P:=P) hW hx hys hal
      have hml:min ys.length len<=ys.length:=Nat.min_le_left _ _
      obtain ⟨news,f1,f2,f3,f4⟩:=hfirst (min ys.length len) hml
      have htl:(ys.take (min ys.length len)).length=min ys.length len:=by simp
      have hdv:=hd
      cases hd with
      | gf hp _=>simp [AV.iA] at hp
      | hs _ _ _ _ a cap' hbl hgg hlc hl =>
        obtain ⟨G',g1,g2,g3,g4⟩:=E7 (P:=P) hW hdv hget hle (by omega) f2 (by grind) f4
        refine ⟨.int .i64 (min ys.length len:Nat),G',?_,g2,g3,g4,VR.int _ _⟩
        have f1':(Builtin.firstCells ti.size (Nat.min ys.length len) (.slice ax ys.length capx)).run P G.w=.ok news G.w:=f1
        simp [Builtin.copy_,h0,run_underlying hde,Builtin.lenOf,hTe.sizeOf,f1',g1,goInt]
     ·cases h
    ·cases h
   ·rename_i cap
    cases h
    have hempty:∃ (ax:Option Addr) (n cp:Nat),x'=.slice ax n cp:=by
     rcases hxs:x with _ | _
     all_goals first
      | (subst hxs; cases hys; done)
      | (subst hxs
         obtain ⟨a,b,c,e,_⟩:=vR hx (.inl ⟨_,_,rfl⟩)
         grind)
      | (subst hxs
         obtain ⟨a,b,c,e,_⟩:=vR hx (.inr ⟨_,_,_,_,rfl⟩)
         grind)
    obtain ⟨ax,nx,cx,rfl⟩:=hempty
    have hf:∀ n,(Builtin.firstCells n 0 (.slice ax nx cx)).run P G.w=.ok #[] G.w:=by
     intro n
     cases ax with
     | none=>rfl
     | some a =>
       simp_all [Builtin.firstCells,loadCells,loadCellsFrom]
    have hd0:∃ ad cd,d'=.slice ad 0 cd:=by
     cases rv hd<;>grind
    obtain ⟨ad,cd,rfl⟩:=hd0
    have h0':Nat.min nx 0=0:=Nat.min_zero _
    refine ⟨.int .i64 0,G,?_,rfl,.refl G,hW,VR.int _ _⟩
    cases ad<;>simp [Builtin.copy_,h0,run_underlying hde,Builtin.lenOf,hTe.sizeOf,h0',hf,goInt,storeCells]
   ·cases h
  ·cases h
 ·cases h
def Hp (hW:WR G) (hC:gR P C) {ats:Array Nat} {x:AV} {x':Value} {ty:Nat} {r:AV×au} (hx:VR G x x') (h:Aj C ats.toList [x] G.h=some r):pM P G (Builtin.clear_ ats ty #[x']) r:=by
 have htup:∀ G',VR G' (.fG []) (.tuple #[]):=λG'=>.fG _ _ rfl (by simp)
 unfold Aj at h
 split at h
 ·rename_i ti x0 hhead hargs
  simp only [List.cons.injEq,and_true] at hargs
  subst hargs
  obtain ⟨t,el,h0,hde,hTe⟩:=B6 hC hhead
  unfold KR at h
  split at h
  ·cases h
   have hd0:∃ ad cd,x'=.slice ad 0 cd:=by
    cases rv hx<;>grind
   obtain ⟨ad,cd,rfl⟩:=hd0
   refine ⟨.tuple #[],G,?_,rfl,.refl G,hW,htup G⟩
   cases ad<;>simp [Builtin.clear_,h0,run_underlying hde]
  ·rename_i b g off len
   split at h
   ·rename_i g' z xs hget
    split at h
    ·rename_i hb
     simp only [Bool.and_eq_true,Nat.beq_eq,Nat.ble_eq] at hb
     obtain ⟨⟨rfl,rfl⟩,hle⟩:=hb
     cases h
     have hdv:=hx
     cases hx with
     | gf hp _=>simp [AV.iA] at hp
     | hs _ _ _ _ a cap' hbl hgg hlc hl =>
       obtain ⟨i,z,hi,hz,hcr,hzs,hza,hzo⟩:=hTe.uE (G:=G)
       obtain ⟨k1,k2⟩:=yV (n:=len) hcr hzs
       have hzc:((Array.range (len*ti.size)).map λj=>z.cells[j % z.cells.size]!)=Builtin.zeroCells z.cells len:=by
        grind [Builtin.zeroCells]
       rw [hzc] at k1 k2
       obtain ⟨G',g1,g2,g3,g4⟩:=E7 (P:=P) hW hdv hget hle (by simp) k1 (by grind) k2
       refine ⟨.tuple #[],G',?_,g2,g3,g4,htup G'⟩
       rcases Nat.eq_zero_or_pos len with e0 | e0
       ·simp_all [Builtin.zeroCells,storeCells,Sem.run_pure,Result.ok.injEq,Builtin.clear_,run_underlying]
       ·obtain ⟨n,rfl⟩:=Nat.exists_eq_succ_of_ne_zero (by omega:len≠0)
        simp [Builtin.clear_,h0,run_underlying hde,zeroValue,typeInfo,hi,hz,g1]
    ·cases h
   ·cases h
  ·cases h
 ·cases h
end
end Go.Sx
namespace Go.Sx
open Go
variable [DD]
def Ga.gK (G:Ga) (m:iN) (L:Nat->Option Nat):Ga:=⟨G.w,G.T,{ G.h with aT:=m },G.pi,L⟩
theorem VR.gK {G:Ga} {m:iN} {L:Nat->Option Nat} {x:AV} {u:Value} (h:VR G x u) (hx:x.lR=true):VR (G.gK m L) x u:=by
 induction h with
 | undef v=>exact .undef v
 | gf hp h=>exact .gf hp h
 | ptr b g i o a hb hg h=>exact .ptr b g i o a hb hg h
 | hs b g off len a cap' hb hg hle h=>exact .hs b g off len a cap' hb hg hle h
 | hm b r hb h=>exact .hm b r hb h
 | la d o B hd=>cases hx
 | gx g a c a' c' ha hc hna hnc hra hrc iha ihc=>exact .gx g a c a' c' ha hc hna hnc (λi x y h1 h2=>iha i x y h1 h2 (hna x (List.mem_of_getElem? h1))) (λi x y h1 h2=>ihc i x y h1 h2 (hnc x (List.mem_of_getElem? h1)))
 | agg l vs hl hn h1 hr ih=>exact .agg l vs hl hn h1 (λi x y h1 h2=>ih i x y h1 h2 (hn x (List.mem_of_getElem? h1)))
 | fG l vs hl hr ih=>cases hx
theorem VC.gK {G:Ga} {m:iN} {L:Nat->Option Nat} {x:AV} {u:Value} (h:VC G x u):VC (G.gK m L) x u:=⟨h.vr.gK h.na,h.na⟩
theorem ng.gK {G:Ga} {m:iN} {L:Nat->Option Nat} {l:Loc} {z:Nat} {xs:List (List AV)} (h:ng G l z xs):ng (G.gK m L) l z xs:=by
 obtain ⟨c,e,hB,h1,h2,h3,h4⟩:=h
 refine ⟨c,e,hB,h1,h2,h3,?_⟩
 intro i cs j x hi hj
 obtain ⟨v,a,b,d⟩:=h4 i cs j x hi hj
 exact ⟨v,a,b,d.gK⟩
theorem rh.gK {G:Ga} {m:iN} {L:Nat->Option Nat} {r:Nat} {es:List (AV×AV×Nat)} {c:Nat} (h:rh G r es c):rh (G.gK m L) r es c:=by
 obtain ⟨ents,hB,hl,hy,hr⟩:=h
 refine ⟨ents,hB,hl,hy,?_⟩
 intro i p e hi he
 obtain ⟨a,b,c,d⟩:=hr i p e hi he
 exact ⟨a,b,c.gK,d⟩
theorem vF.gK {G:Ga} {m:iN} {L:Nat->Option Nat} {B:Nat} {cs:List AV} (h:vF G B cs):vF (G.gK m L) B cs:=by
 obtain ⟨c,e,hB,h1,h2,h3⟩:=h
 exact ⟨c,e,hB,h1,λi x v hx hv=>(h2 i x v hx hv).gK,h3⟩
def WR.Cb {G:Ga} (hW:WR G) {m:iN} {L:Nat->Option Nat} (hL:∀ d B,L d=some B->G.L d=some B) (hm:∀ d B,L d=some B->gM m d=gM G.h.aT d):WR (G.gK m L) where
 fc:=λb l g z xs hp hg=>(hW.fc b l g z xs hp hg).gK
 map:=λb l es c hp hg=>(hW.map b l es c hp hg).gK
 loc:=by
  intro d B cs hd hcs
  have hcs:gM m d=some cs:=hcs
  rw [hm d B hd] at hcs
  exact (hW.loc d B cs (hL d B hd) hcs).gK
 iU:=hW.iU
 ma:=hW.ma
 qf:=hW.qf
 ou:=λd d' B h h'=>hW.ou d d' B (hL d B h) (hL d' B h')
 LT:=λs d B h=>hW.LT s d B (hL d B h)
 oT:=λd B b l h=>hW.oT d B b l (hL d B h)
 kN:=by
  intro d B h
  refine ⟨(hW.kN d B (hL d B h)).1,?_⟩
  show (gM m d).isSome=true
  rw [hm d B h]
  exact (hW.kN d B (hL d B h)).2
 mv:=hW.mv
 lo:=hW.lo
 lt:=hW.lt
def back {G G':Ga} (hW:WR G) (S:Step (G.gK [] (λ_=>none)) G') (W':WR G') :
  Step G (G'.gK G.h.aT G.L)/\WR (G'.gK G.h.aT G.L):=by
 have hfr:∀ d B,G.L d=some B->G'.w.heap[B]?=G.w.heap[B]?:=by
  intro d B hd
  exact S.frame B (hW.kN d B hd).1 (λb l hp he=>hW.oT d B b l hd hp he.symm) (λd' B' h=>by cases h)
 have hE:Ext G (G'.gK G.h.aT G.L):=⟨S.ext.T,S.ext.keep,S.ext.size,S.ext.fc,S.ext.map,λ_ _ h=>h⟩
 refine ⟨⟨hE,S.os,S.output,S.tape,S.jd,?_,S.lI,S.mQ,S.qG,S.lo,S.out,λd B h=>.inl h,λd B h=>.inl (Option.isSome_iff_exists.2 ⟨B,h⟩),λd c _ h=>h⟩,?_⟩
 ·intro B hB hp hL
  exact S.frame B hB hp (λd B' h=>by cases h)
 ·have hnp:∀ d B,G.L d=some B->∀ b l,G'.pi b=some l->B≠l.B:=by
   intro d B hd b l hp
   rcases S.lI b l hp with ⟨l0,h0,e⟩ | hge
   ·rw [<- e]; exact hW.oT d B b l0 hd h0
   ·have:=(hW.kN d B hd).1
    have hge:G.w.heap.size<=l.B:=hge
    omega
  constructor
  ·exact λb l g z xs hp hg=>(W'.fc b l g z xs hp hg).gK
  ·exact λb l es c hp hg=>(W'.map b l es c hp hg).gK
  ·intro d B cs hd hcs
   exact (hW.loc d B cs hd hcs).mono hE (hfr d B hd)
  ·exact W'.iU
  ·exact W'.ma
  ·exact W'.qf
  ·exact hW.ou
  ·intro s d B hd hT
   rcases S.qG s B hT with h0 | hge
   ·exact hW.LT s d B hd h0
   ·have:=(hW.kN d B hd).1
    have hge:G.w.heap.size<=B:=hge
    omega
  ·exact λd B b l hd hp=>hnp d B hd b l hp
  ·intro d B hd
   exact ⟨Nat.lt_of_lt_of_le (hW.kN d B hd).1 S.jd,(hW.kN d B hd).2⟩
  ·exact W'.mv
  ·exact W'.lo
  ·exact W'.lt
end Go.Sx
namespace Go.Sx
open Go
variable [DD]
structure ER (G:Ga) (e:Env) (a:Act):Prop where
 rel:∀ t,VR G (j5 e t) (a.eval (.tmp t))
section
variable {P:Program} {C:gv} {G:Ga} {e:Env} {a:Act}
def ER.mono {G':Ga} (h:ER G e a) (E:Ext G G'):ER G' e a:=⟨λt=>(h.rel t).mono E⟩
theorem Km (v:Value):VC G (GY v) v:=by
 unfold GY
 split<;>refine ⟨?_,rfl⟩<;>first
  | exact VR.bool _
  | exact VR.int _ _
  | exact VR.str rfl
  | exact .gf rfl (.iL _)
  | exact .gf rfl (.slnil _)
  | exact .gf rfl (.iw _)
  | exact .gf rfl (.j7 _)
  | exact .undef _
theorem QZ {v:Value} (h:Rt v=true):v.oneCell'=true:=by
 unfold Rt at h
 split at h<;>first | rfl | cases h
def Wn (v:Value):VR G (cv v) v:=by
 unfold cv
 split
 ·rename_i cs
  split
  ·rename_i hok
   simp only [List.all_eq_true] at hok
   refine VR.EN (R:=VC G) (λ_ _ h=>h) (by simp) ?_ ?_<;>grind [QZ,Km]
  ·exact .undef _
 ·exact (Km _).vr
theorem fW (hE:ER G e a) (x:Operand):VR G (fg e x) (a.eval x):=by
 cases x with
 | tmp t=>exact hE.rel t
 | const v=>exact Wn v
 | global g=>exact .undef _
 | func f=>exact .gx f [] [] #[] #[] rfl rfl (by simp) (by simp) (by simp) (by simp)
def tW (hE:ER G e a) (xs:Array Operand):(xs.toList.map (fg e)).length=(xs.map a.eval).size /\
  ∀ (i:Nat) (x:AV) (y:Value),(xs.toList.map (fg e))[i]?=some x->(xs.map a.eval)[i]?=some y->VR G x y:=by
 grind [fW]
def OR.of (hE:ER G e a) (x:Option Operand):OR G (np (fg e) x) (x.map a.eval):=by
 cases x with
 | none=>exact .none
 | some x=>exact .some (fW hE x)
end
end Go.Sx
namespace Go.Sx
open Go
variable [DD]
def uw (P:Program) (o:Oper) (a:Act) (G:Ga) (r:AV×au):Prop :=
 ∀ (K:Act->World->Prop) (Q:Exit->Act->World->Prop),(∀ u G',G'.h=r.2->Step G G'->WR G'->VR G' r.1 u->K (a.put o.dst u) G'.w)->o.wp P a G.w K Q
section
variable {P:Program} {C:gv} {G:Ga} {e:Env} {a:Act} {o:Oper} {r:AV×au}
def iO {s:Sem Value} (h:execOp a.eval o=(do pure (.value (<- s)))) (hm:pM P G s r):uw P o a G r:=by
 intro K Q hK
 obtain ⟨u,G',hr,hh,hS,hW,hv⟩:=hm
 grind [Oper.wp,Sem.run_bind,Result.andThen_ok,Sem.run_pure,Oper.upon_value]
theorem vK {s:Sem Unit} (h:execOp a.eval o=(do s; pure .skip)) (hv:r.1=.undef) (hm:Cc P G s r.2):uw P o a G r:=by
 intro K Q hK
 obtain ⟨G',hr,hh,hS,hW⟩:=hm
 unfold Oper.wp
 rw [h]
 simp only [Sem.run_bind,hr,Result.andThen_ok,Sem.run_pure,Oper.upon_skip]
 exact hK undef G' hh hS hW (by rw [hv]; exact .undef _)
def lh (P:Program) (call:mN):Prop:=∀ (shd:Bool) (f:Nat) (args:List AV) (h:au) (v:AV) (h':au),call shd f args h=some (v,h') ->
 ∀ (G:Ga) (args':Array Value),G.h=h->h.aT=[]->(∀ d,G.L d=none)->WR G->args.length=args'.size->(∀ (i:Nat) (x:AV) (y:Value),args[i]?=some x->args'[i]?=some y->VC G x y) ->
 (∃ fn, P.funcs[f]? = some fn ∧ fn.body.isNone = false ∧ (fn.name == "runtime.NumGoroutine") = false) ∧
 ∀ R:Ending->World->Prop,(∀ u G',Step G G'->WR G'->(∀ m:iN,{ G'.h with aT:=m } = { h' with aT:=m })->(∀ m L,VR (G'.gK m L) v u)->R (.returned u) G'.w)->Calls P f args' G.w R
end
end Go.Sx
namespace Go.Sx
open Go
variable [DD]
section
variable {P:Program} {C:gv} {G:Ga} {e:Env} {a:Act} {o:Oper} {r:AV×au} {X:Ctx}
def p9 (hW:WR G) {s:Sem Value} {v:Option AV} (h:iJ G.h v=some r) (hs:∀ x,v=some x->∃ u,s.run P G.w=.ok u G.w/\VR G x u):pM P G s r:=by
 obtain ⟨x,hx,rfl⟩:=kR h
 obtain ⟨u,h1,h2⟩:=hs x hx
 exact ⟨u,G,h1,rfl,.refl G,hW,h2⟩
theorem wK (hE:ER G e a) (ps:Array (Nat×Operand)):(oc e ps).length=(ps.map λ(i,x)=>(i,a.eval x)).size /\
  ∀ (i:Nat) p q,(oc e ps)[i]?=some p->(ps.map λ(i,x)=>(i,a.eval x))[i]?=some q->p.1=q.1/\VR G p.2 q.2:=by
 grind [oc,fW]
def rA (hW:WR G) {s:Sem Value} (h:∃ E:pe,r.2=E.on G.h/\(∀ d cs,E=.loc d cs->gM G.h.aT d=none)/\∀ V,Ext G V->V.w=G.w->WR V->qp P s V G.h.size r.1 E):pM P G s r:=by
 grind [qp.makes]
theorem M8 (hW:WR G) (hC:gR P X.C) (hE:ER G e a) (hnc:∀ c,o.op≠.call c) (h:gd o.op X e G.h o.dst=some r):uw P o a G r:=by
 cases ho:o.op with
 | call c=>grind
 | move x =>
   rw [ho] at h
   cases h
   intro K Q hK
   unfold Oper.wp
   simp only [execOp,ho,Sem.run_pure,Oper.upon_value]
   exact hK _ G rfl (.refl G) hW (fW hE x)
 | assign x =>
   rw [ho] at h
   cases h
   intro K Q hK
   unfold Oper.wp
   simp only [execOp,ho,Sem.run_pure,Oper.upon_value]
   exact hK _ G rfl (.refl G) hW (fW hE x)
 | pick c x y =>
   rw [ho] at h
   obtain ⟨k1,u,k2,k3⟩:=J9 (P:=P) (fW hE c) (fW hE x) (fW hE y) h
   have hrun:(execOp a.eval o).run P G.w=.ok (.value u) G.w:=by
    simp only [execOp,ho,Sem.run_bind,Sem.run_pure] at k2 ⊢
    generalize (asBool (a.eval c)).run P G.w=R at k2
    cases R<;>simp_all
   intro K Q hK
   unfold Oper.wp
   rw [hrun,Oper.upon_value]
   exact hK _ G k1.symm (.refl G) hW k3
 | alloc t =>
   rw [ho] at h
   obtain ⟨E,h1,h2,h3⟩:=CC (P:=P) hC h
   exact iO (by grind [execOp]) (rA hW ⟨E,h1,h2,λV _ _ hV=>h3 V hV⟩)
 | box t x =>
   rw [ho] at h
   obtain ⟨E,h1,h2,h3⟩:=FO (P:=P) h
   exact iO (by grind [execOp]) (rA hW ⟨E,h1,h2,λV hx _ hV=>h3 V _ hV ((fW hE x).mono hx)⟩)
 | build t ps =>
   rw [ho] at h
   obtain ⟨k1,k2⟩:=wK hE ps
   exact iO (by grind [execOp]) (lO.makes hW (Hm hC k1 k2 h))
 | buildSlice t n ps =>
   rw [ho] at h
   obtain ⟨E,h1,h2,h3⟩:=vL (P:=P) hC h
   exact iO (by grind [execOp]) (rA hW ⟨E,h1,h2,λV hx _ hV=>let ⟨k1,k2⟩:=wK (hE.mono hx) ps; h3 V _ hV k1 k2⟩)
 | load t x =>
   rw [ho] at h
   exact iO (by grind [execOp]) (Ju hW hC (fW hE x) h)
 | store t x y =>
   rw [ho] at h
   have h:xj X.C G.h t (fg e x) (fg e y)=some r:=h
   unfold xj at h
   split at h
   ·rename_i ti hti
    split at h
    ·rename_i h' hst
     cases h
     exact vK (by grind [execOp]) rfl (Hg hW (hC.ty t ti hti) (fW hE x) (fW hE y) hst)
    ·cases h
   ·cases h
 | nilCheck x =>
   rw [ho] at h
   obtain ⟨v,hv,rfl⟩:=kR h
   obtain ⟨k1,k2⟩:=Gb (fW hE x) hv
   intro K Q hK
   have hrun:(execOp a.eval o).run P G.w=.ok (.value (a.eval x)) G.w:=by
    rcases k2 with ⟨b,hb⟩ | ⟨g,b,c,hb⟩<;>simp [execOp,ho,hb]
   unfold Oper.wp
   rw [hrun,Oper.upon_value]
   exact hK _ G rfl (.refl G) hW k1
 | binOp op t x y ty =>
   rw [ho] at h
   exact iO (by grind [execOp]) (p9 hW h (λv hv=>Hy hC (fW hE x) (fW hE y) hv x y))
 | unOp op t x =>
   rw [ho] at h
   exact iO (by grind [execOp]) (p9 hW h (λv hv=>JE (fW hE x) hv))
 | convert s d x =>
   rw [ho] at h
   exact iO (by grind [execOp]) (lO.makes hW (Et hC (fW hE x) h))
 | makeFunc fn p q =>
   rw [ho] at h
   obtain ⟨k1,k2⟩:=tW hE p
   obtain ⟨m1,m2⟩:=tW hE q
   exact iO (by grind [execOp]) (lO.makes hW (DA k1 m1 k2 m2 h))
 | makeMap t hint =>
   rw [ho] at h
   cases hint with
   | none =>
     cases h
     obtain ⟨E,h1,h2,h3⟩:=za (P:=P) (t:=t) G.h none rfl
     exact iO (by grind [execOp]) (rA hW ⟨E,h1,h2,λV _ _ hV=>h3 V hV⟩)
   | some x=>cases h
 | makeSlice t l c =>
   rw [ho] at h
   obtain ⟨E,h1,h2,h3⟩:=w3 (P:=P) hC h
   exact iO (by grind [execOp]) (rA hW ⟨E,h1,h2,λV hx _ hV=>h3 V _ _ hV ((fW hE l).mono hx) ((fW hE c).mono hx)⟩)
 | slice t x lo hi mx =>
   rw [ho] at h
   exact iO (by grind [execOp]) (lO.makes hW (G3 hW hC (fW hE x) (OR.of hE lo) (OR.of hE hi) (OR.of hE mx) h))
 | fieldAddr t x f =>
   rw [ho] at h
   obtain ⟨k1,u,k2,k3,_⟩:=C2 (P:=P) hC (fW hE x) h
   exact iO (by grind [execOp]) ⟨u,G,k2,k1.symm,.refl G,hW,k3⟩
 | field t x f =>
   rw [ho] at h
   exact iO (by grind [execOp]) (lO.makes hW (Hq hC (fW hE x) h))
 | indexAddr t x i =>
   rw [ho] at h
   exact iO (by grind [execOp]) (lO.makes hW (C7 hW hC (fW hE x) (fW hE i) h))
 | index t x i =>
   rw [ho] at h
   exact iO (by grind [execOp]) (lO.makes hW (Hk hC (fW hE x) (fW hE i) h))
 | lookup t m k ok =>
   rw [ho] at h
   exact iO (by grind [execOp]) (p9 hW h (λv hv=>GK hW hC (fW hE m) (fW hE k) hv))
 | mapUpdate t m k x =>
   rw [ho] at h
   obtain ⟨k1,k2⟩:=vx hW hC (fW hE m) (fW hE k) (fW hE x) h
   simp_all [vK,execOp]
 | insert t m k x =>
   rw [ho] at h
   obtain ⟨k1,k2⟩:=vx hW hC (fW hE m) (fW hE k) (fW hE x) h
   simp_all [vK,execOp]
 | mapEntry t m k =>
   rw [ho] at h
   exact iO (by grind [execOp]) (Dq hW hC (fW hE m) (fW hE k) h)
 | entryStore t m s x =>
   rw [ho] at h
   obtain ⟨k1,k2⟩:=Bs (P:=P) (t:=t) hW (fW hE m) (fW hE s) (fW hE x) h
   simp_all [vK,execOp]
 | extract t i =>
   rw [ho] at h
   exact iO (by grind [execOp]) (lO.makes hW (Es (fW hE t) h))
 | _=>rw [ho] at h; cases h
end
end Go.Sx
namespace Go.Sx
open Go
variable [DD]
section
variable {P:Program} {C:gv} {G:Ga} {e:Env} {a:Act} {o:Oper} {r:AV×au} {X:Ctx}
def kU {xs:Array Operand} {x:AV} (h:xs.toList.map (fg e)=[x]):∃ y,xs = #[y]/\x=fg e y:=by
 cases xs with | mk l =>
 cases l<;>simp_all
def J6 {xs:Array Operand} {x y:AV} (h:xs.toList.map (fg e)=[x,y]):∃ u v,xs = #[u,v]/\x=fg e u/\y=fg e v:=by
 cases xs with | mk l =>
 cases l with
 | nil=>cases h
 | cons u l =>
   cases l with
   | nil=>simp at h
   | cons v l =>
     cases l<;>grind
def mX {c:Call} {b:Builtin} (ho:o.op=.call c) (hb:c.callee=.builtin b) {s:Sem Value} (hs:∀ consts,builtin b c.argTypes o.type consts (c.args.map a.eval)=(do pure (.value (<- s)))) (hm:pM P G s r):uw P o a G r:=by
 refine iO (s:=s) ?_ hm
 simp only [execOp,ho,resolve,hb]
 exact hs _
theorem J5 (hW:WR G) (hC:gR P X.C) (hE:ER G e a) {c:Call} {b:Builtin} (ho:o.op=.call c) (hb:c.callee=.builtin b) (h:lz b X.C c.argTypes.toList (c.args.toList.map (fg e)) G.h=some r):uw P o a G r:=by
 obtain ⟨al,ar⟩:=tW hE c.args
 unfold lz at h
 split at h
 ·
  have h:uC X.C c.argTypes.toList (c.args.toList.map (fg e)) G.h=some r:=h
  generalize hl:c.args.toList.map (fg e)=l at h
  have hl1:∃ x,l=[x]:=by
   unfold uC at h
   grind
  obtain ⟨x,rfl⟩:=hl1
  obtain ⟨y,hy,rfl⟩:=kU hl
  exact mX ho hb (λ_=>rfl) (by rw [hy,List.map_toArray]; exact lO.makes hW (LA hW hC (fW hE y) h))
 ·
  have h:Dn X.C c.argTypes.toList (c.args.toList.map (fg e)) G.h=some r:=h
  generalize hl:c.args.toList.map (fg e)=l at h
  have hl1:∃ x,l=[x]:=by
   unfold Dn at h
   grind
  obtain ⟨x,rfl⟩:=hl1
  obtain ⟨y,hy,rfl⟩:=kU hl
  exact mX ho hb (λ_=>rfl) (by rw [hy,List.map_toArray]; exact lO.makes hW (Ki hC (fW hE y) h))
 ·
  have h:rT X.C c.argTypes.toList (c.args.toList.map (fg e)) G.h=some r:=h
  generalize hl:c.args.toList.map (fg e)=l at h
  have hl1:∃ x y,l=[x,y]:=by
   unfold rT at h
   grind
  obtain ⟨x,y,rfl⟩:=hl1
  obtain ⟨u,v,hy,rfl,rfl⟩:=J6 hl
  exact mX ho hb (λ_=>rfl) (by rw [hy,List.map_toArray]; exact GW hW hC (fW hE u) (fW hE v) h)
 ·
  have h:Cd X.C c.argTypes.toList (c.args.toList.map (fg e)) G.h=some r:=h
  generalize hl:c.args.toList.map (fg e)=l at h
  have hl1:∃ x y,l=[x,y]:=by
   unfold Cd at h
   grind
  obtain ⟨x,y,rfl⟩:=hl1
  obtain ⟨u,v,hy,rfl,rfl⟩:=J6 hl
  exact mX ho hb (λ_=>rfl) (by rw [hy,List.map_toArray]; exact Jf hW hC (fW hE u) (fW hE v) h)
 ·
  have h:ug X.C c.argTypes.toList (c.args.toList.map (fg e)) G.h=some r:=h
  generalize hl:c.args.toList.map (fg e)=l at h
  have hl1:∃ x y,l=[x,y]:=by
   unfold ug at h
   grind
  obtain ⟨x,y,rfl⟩:=hl1
  obtain ⟨u,v,hy,rfl,rfl⟩:=J6 hl
  exact mX ho hb (λ_=>rfl) (by rw [hy,List.map_toArray]; exact F8 hW hC (fW hE u) (fW hE v) h)
 ·
  have h:Aj X.C c.argTypes.toList (c.args.toList.map (fg e)) G.h=some r:=h
  generalize hl:c.args.toList.map (fg e)=l at h
  have hl1:∃ x,l=[x]:=by
   unfold Aj at h
   grind
  obtain ⟨x,rfl⟩:=hl1
  obtain ⟨y,hy,rfl⟩:=kU hl
  exact mX ho hb (λ_=>rfl) (by rw [hy,List.map_toArray]; exact Hp hW hC (fW hE y) h)
 ·
  have h:qQ max2 (c.args.toList.map (fg e)) G.h=some r:=h
  refine mX (s:=Builtin.max_ c.argTypes o.type (c.args.map a.eval)) ho hb (λ_=>rfl) ?_
  unfold qQ at h
  split at h
  ·rename_i x rest hl
   refine p9 hW h (λv hv=>?_)
   rw [hl] at al ar
   unfold Builtin.max_
   cases hq:(c.args.map a.eval).toList with
   | nil =>
     simp_all
   | cons x' rest' =>
     have hg:∀ (i:Nat) y,(x'::rest')[i]?=some y->(c.args.map a.eval)[i]?=some y:=by
      grind
     refine yl (λhx hy h=>Je hx hy h) (ar 0 x x' rfl (hg 0 x' rfl)) ?_ (λi p q hp hq'=>ar (i+1) p q hp (hg (i+1) q hq')) hv
     have:(x'::rest').length=(c.args.map a.eval).size:=by grind
     grind
  ·cases h
 ·
  have h:qQ min2 (c.args.toList.map (fg e)) G.h=some r:=h
  refine mX (s:=Builtin.min_ c.argTypes o.type (c.args.map a.eval)) ho hb (λ_=>rfl) ?_
  unfold qQ at h
  split at h
  ·rename_i x rest hl
   refine p9 hW h (λv hv=>?_)
   rw [hl] at al ar
   unfold Builtin.min_
   cases hq:(c.args.map a.eval).toList with
   | nil =>
     simp_all
   | cons x' rest' =>
     have hg:∀ (i:Nat) y,(x'::rest')[i]?=some y->(c.args.map a.eval)[i]?=some y:=by
      grind
     refine yl (λhx hy h=>Jh hx hy h) (ar 0 x x' rfl (hg 0 x' rfl)) ?_ (λi p q hp hq'=>ar (i+1) p q hp (hg (i+1) q hq')) hv
     have:(x'::rest').length=(c.args.map a.eval).size:=by grind
     grind
  ·cases h
 ·cases h
end
end Go.Sx
namespace Go.Sx
open Go
variable [DD]
section
variable {P:Program} {C:gv} {G:Ga} {e:Env} {a:Act} {o:Oper} {r:AV×au} {X:Ctx}
def Gg {x:AV} (h:x.kK=true):x.lR=true:=by cases x<;>simp_all [AV.kK,AV.lR]
theorem MD (hW:WR G) (hE:ER G e a) (hK:lh P X.call) {c:Call} {f:Operand} (ho:o.op=.call c) (hf:c.callee=.value f) (h:rB X.fa X.call G.h (fg e f) (c.args.toList.map (fg e))=some r):uw P o a G r:=by
 obtain ⟨al,ar⟩:=tW hE c.args
 have hfv:=fW hE f
 generalize hval:a.eval f=fv at hfv
 unfold rB at h
 split at h
 ·rename_i g p q hclo
  rw [hclo] at hfv
  simp only [yt] at h
  split at h
  ·rename_i hok
   simp only [List.all_eq_true] at hok
   cases hfv with
   | gf hp _=>simp [AV.iA] at hp
   | gx _ _ _ p' q' hp hq hnp hnq hrp hrq =>
     generalize hcall:X.call (X.fa.fY.elem g) g (p++c.args.toList.map (fg e)++q) { G.h with aT:=[] }=res at h
     cases res with
     | none=>cases h
     | some vh =>
       obtain ⟨v,h'⟩:=vh
       simp only [sR,Option.some.injEq] at h
       subst h
       have hsz:(p++c.args.toList.map (fg e)++q).length=(p'++c.args.map a.eval++q').size:=by grind
       have hrel:∀ (i:Nat) (x:AV) (y:Value),(p++c.args.toList.map (fg e)++q)[i]?=some x->(p'++c.args.map a.eval++q')[i]?=some y->VC (G.gK [] λ_=>none) x y:=by
        intro i x y hx hy
        have hna:=Gg (hok x (List.mem_of_getElem? hx))
        refine ⟨VR.gK ?_ hna,hna⟩
        grind
       obtain ⟨⟨fn,hfn,hbody,hname⟩,hcalls⟩:=hK _ g _ _ v h' hcall (G.gK [] λ_=>none) (p'++c.args.map a.eval++q') rfl rfl (λ_=>rfl) (hW.Cb (by simp) (by simp)) hsz hrel
       intro K Q hKK
       have hrun:(execOp a.eval o).run P G.w=.ok (.enter g (p'++c.args.map a.eval++q')) G.w:=by
        have h1 : ¬ fn.name = "runtime.NumGoroutine" := by grind
        have h2:¬ fn.body=none:=by grind
        simp [execOp,ho,resolve,hf,hval,Deferred.ofValue,invoke,callFunc,hfn,h1,h2]
       unfold Oper.wp
       rw [hrun,Oper.upon_enter]
       refine hcalls _ (λu G' hS hW' hh hv=>?_)
       obtain ⟨hS2,hW2⟩:=back hW hS hW'
       exact hKK u (G'.gK G.h.aT G.L) (hh G.h.aT) hS2 hW2 (hv _ _)
  ·cases h
 ·cases h
def uS (hW:WR G) (hC:gR P X.C) (hE:ER G e a) (hK:lh P X.call) (h:gd o.op X e G.h o.dst=some r):uw P o a G r:=by
 by_cases hnc:∀ c,o.op≠.call c
 ·grind [M8]
 ·have:∃ c,o.op=.call c:=by
   grind
  obtain ⟨c,ho⟩:=this
  rw [ho] at h
  have h:mM X.C X.fa X.call e G.h c=some r:=h
  grind [mM,J5,MD]
end
end Go.Sx
namespace Go.Sx
open Go
variable [DD]
structure Fr (G0 G:Ga):Prop where
 S:Step G0 (G.gK [] λ_=>none)
 L:∀ d B,G.L d=some B->G0.w.heap.size<=B
section
variable {P:Program} {G0 G G':Ga} {e:Env} {a:Act} {o:Oper} {X:Ctx} {N:Nat}
theorem Fr.Y5 (h:Fr G0 G) (d:Nat):G0.L d=none:=by
 cases hq:G0.L d with
 | none=>rfl
 | some B=>have:=h.S.ext.aT d B hq; cases this
def Fr.step (h:Fr G0 G) (k:Step G G'):Fr G0 G':=by
 have hL:∀ d B,G'.L d=some B->G0.w.heap.size<=B:=by
  intro d B hd
  rcases k.o7 d B hd with h0 | hge
  ·exact h.L d B h0
  ·exact Nat.le_trans h.S.jd hge
 refine ⟨?_,hL⟩
 have hE:Ext G0 (G'.gK [] λ_=>none):=by
  refine ⟨λs B t=>k.ext.T s B (h.S.ext.T s B t),?_,Nat.le_trans h.S.ext.size k.ext.size,?_,?_,?_⟩
  ·intro s B t
   have h1:=h.S.ext.keep s B t
   have h2:=k.ext.keep s B (h.S.ext.T s B t)
   exact h2.trans h1
  ·intro b hb g' z' xs' hg
   obtain ⟨g1,z1,xs1,h1,hle,heq⟩:=k.ext.fc b (Nat.lt_of_lt_of_le hb h.S.ext.size) g' z' xs' hg
   obtain ⟨g2,z2,xs2,h2,hle2,heq2⟩:=h.S.ext.fc b hb g1 z1 xs1 h1
   refine ⟨g2,z2,xs2,h2,Nat.le_trans hle2 hle,?_⟩
   rintro rfl
   have:g1=g2:=Nat.le_antisymm hle hle2
   subst this
   obtain ⟨e1,p1⟩:=heq rfl
   obtain ⟨e2,p2⟩:=heq2 rfl
   exact ⟨e2.trans e1,λl hl=>p1 l (p2 l hl)⟩
  ·intro b hb es c hg
   obtain ⟨es1,c1,h1,p1⟩:=k.ext.map b (Nat.lt_of_lt_of_le hb h.S.ext.size) es c hg
   obtain ⟨es2,c2,h2,p2⟩:=h.S.ext.map b hb es1 c1 h1
   exact ⟨es2,c2,h2,λl hl=>p1 l (p2 l hl)⟩
  ·intro d B hd
   rw [h.Y5 d] at hd; cases hd
 constructor
 ·exact hE
 ·exact k.os.trans h.S.os
 ·exact k.output.trans h.S.output
 ·exact k.tape.trans h.S.tape
 ·exact Nat.le_trans h.S.jd k.jd
 ·intro B hB hp hL0
  have h1:=h.S.frame B hB hp hL0
  have h2:=k.frame B (Nat.lt_of_lt_of_le hB h.S.jd) (by
   intro b l hl e
   rcases h.S.lI b l hl with ⟨l0,h0,e0⟩ | hge<;>grind) (by
   intro d B' hd e
   have:=h.L d B' hd
   omega)
  exact h2.trans h1
 ·intro b l' hl
  rcases k.lI b l' hl with ⟨l,h0,e⟩ | hge
  ·rcases h.S.lI b l h0 with ⟨l1,h1,e1⟩ | hge<;>grind
  ·exact .inr (Nat.le_trans h.S.jd hge)
 ·intro b l' hl
  rcases k.mQ b l' hl with h0 | hge
  ·obtain ⟨l0,h0⟩:=Option.isSome_iff_exists.1 h0
   exact h.S.mQ b l0 h0
  ·exact .inr (Nat.le_trans h.S.ext.size hge)
 ·intro s B hB
  rcases k.qG s B hB with h0 | hge
  ·exact h.S.qG s B h0
  ·exact .inr (Nat.le_trans h.S.jd hge)
 ·exact k.lo.trans h.S.lo
 ·intro b hb hn
  have hG:G.pi b=none:=by
   cases hq:G.pi b with
   | none=>rfl
   | some l =>
     rcases h.S.mQ b l hq with h0 | hge<;>grind
  have h1:=h.S.out b hb hn
  have h2:=k.out b (Nat.lt_of_lt_of_le hb h.S.ext.size) hG
  exact h2.trans h1
 ·intro d B hd; cases hd
 ·intro d B hd; cases hd
 ·intro d c hn hdc
  have:=h.S.rX d c hn hdc
  exact this
theorem Fr.gK (h:Fr G0 G) {m:iN} {L:Nat->Option Nat} (hL:∀ d B,L d=some B->G.L d=some B):Fr G0 (G.gK m L) :=
 ⟨h.S,λd B hd=>h.L d B (hL d B hd)⟩
structure St (N:Nat) (G0 G:Ga) (e:Env) (a:Act):Prop where
 fr:Fr G0 G
 wr:WR G
 er:ER G e a
 df:a.defers=[]
 sz:N<=a.tmps.size
theorem Act.yo (a:Act) (d:Option Tmp) (u:Value):(a.put d u).tmps.size=a.tmps.size:=by
 cases d<;>simp [Act.put]
theorem Act.Cl (a:Act) (d:Option Tmp) (u:Value):(a.put d u).defers=a.defers:=by
 cases d<;>rfl
theorem Act.Cu {a:Act} {d:Tmp} {u:Value} (h:d<a.tmps.size) (t:Tmp):(a.put (some d) u).eval (.tmp t)=if t=d then u else a.eval (.tmp t):=by
 simp only [Act.put,Act.eval]
 rw [Array.getD_eq_getD_getElem?,Array.getD_eq_getD_getElem?,Array.getElem?_setIfInBounds]
 grind
theorem BN (e:Env) (d t:Nat) (v:AV):j5 (y6 e d v) t=if t=d then v else j5 e t:=by
 simp only [y6,j5]
 cases hq:Nat.beq t d with
 | true=>simp_all
 | false=>rw [if_neg (Nat.ne_of_beq_eq_false hq)]
def nL (N:Nat) (o:Oper):Bool:=match o.dst with
 | some d=>Nat.blt d N
 | none=>true
theorem tV {o:Oper} {d:Nat} (h:nL N o=true) (hd:o.dst=some d):d<N:=by
 simp_all [nL]
theorem ER.put (h:ER G e a) (hs:N<=a.tmps.size) (ho:nL N o=true) {v:AV} {u:Value} (hv:VR G v u):ER G (fp e o v) (a.put o.dst u):=by
 constructor
 intro t
 unfold fp
 cases hd:o.dst with
 | none=>exact h.rel t
 | some d =>
   simp only
   rw [BN,Act.Cu (Nat.lt_of_lt_of_le (tV ho hd) hs)]
   split
   ·exact hv
   ·exact h.rel t
theorem St.put (h:St N G0 G e a) (k:Step G G') (w:WR G') (ho:nL N o=true) {v:AV} {u:Value} (hv:VR G' v u):St N G0 G' (fp e o v) (a.put o.dst u) :=
 ⟨h.fr.step k,w,(h.er.mono k.ext).put h.sz ho hv,by rw [Act.Cl]; exact h.df,by rw [Act.yo]; exact h.sz⟩
theorem VR.Gv (G:Ga):VR G (.fG []) Go.undef:=.fG [] #[] rfl (by simp)
def VR.QE {u:Value} (h:VR G (.fG []) u):u=Go.undef:=by
 cases h with
 | gf hp _=>simp [AV.iA] at hp
 | fG _ vs hl _ =>
   have:vs.size=0:=by grind
   rw [Array.size_eq_zero_iff.1 this]; rfl
theorem Fk (a b:Bool):C3 a b=(a==b):=by cases a<;>cases b<;>rfl
theorem pz {ops:Array Oper} (hE:∀ j o' d,ops[j]?=some o'->o'.dst=some d->o.guard.isSome=true->(∀ w,o.guard=some (j,w)->VR G (j5 e d) (a.eval (.tmp d)))) {b:Bool} (h:fE ops.toList e o=some b) :
  Region.wanted o (yielded ops a.tmps)=b:=by
 unfold fE at h
 unfold Region.wanted
 split at h
 ·grind
 ·rename_i j want hg
  rw [hg]
  simp only
  split at h
  ·rename_i o' ho'
   rw [Array.getElem?_toList] at ho'
   split at h
   ·rename_i d hd
    have hv:=hE j o' d ho' hd (by grind) want hg
    unfold yielded
    rw [ho']
    simp only [Option.bind_some,hd]
    unfold Iv at h
    have hev:∀ u,a.eval (.tmp d)=u->u≠undef->a.tmps[d]?=some u:=by
     intro u hu hne
     simp only [Act.eval,Array.getD_eq_getD_getElem?] at hu
     grind
    split at h
    ·rename_i x hx
     rw [hx] at hv
     have hb:=hv.of_bool
     grind [undef,Fk]
    ·rename_i hx
     rw [hx] at hv
     have hb:=VR.QE hv
     simp only [Option.some.injEq] at h
     rw [<- h]
     have:∀ y,a.tmps[d]?=some (.bool y)->False:=by
      intro y hy
      simp_all [Act.eval,undef]
     simp
    ·cases h
   ·cases h
  ·cases h
def K6 {C:gv} (hCX:X.C=C) (hC:gR P C) (hK:lh P X.call) {ops:Array Oper} (hN:ops.toList.all (nL N)=true) :
  ∀ (l:List Oper) (i:Nat) (e:Env) (h:au) (e':Env) (h':au),ops.toList.drop i=l->uJ X ops.toList l e h=some (e',h') ->
  ∀ (G:Ga) (a:Act) (Q:Exit->Act->World->Prop),G.h=h->St N G0 G e a->(∀ G' a',G'.h=h'->St N G0 G' e' a'->Q .normal a' G'.w)->wpOps P ops Q (List.range' i (ops.size - i)) a G.w:=by
 intro l
 induction l with
 | nil =>
   intro i e h e' h' hd hr G a Q hG hS hQ
   simp only [uJ,Option.some.injEq,Prod.mk.injEq] at hr
   obtain ⟨rfl,rfl⟩:=hr
   have:ops.size - i=0:=by
    simp_all
   rw [this]
   exact hQ G a hG hS
 | cons o l ih =>
   intro i e h e' h' hd hr G a Q hG hS hQ
   have hoi:ops[i]?=some o:=by
    have h1:(ops.toList.drop i)[0]?=some o:=by grind
    grind
   have hlt:i<ops.size:=(Array.getElem?_eq_some_iff.1 hoi).1
   have hd':ops.toList.drop (i+1)=l:=by
    rw [<- List.tail_drop,hd]; rfl
   have hon:nL N o=true:=by
    grind
   have hrange:List.range' i (ops.size - i)=i::List.range' (i+1) (ops.size - (i+1)):=by
    have:ops.size - i=(ops.size - (i+1))+1:=by omega
    rw [this,List.range'_succ]
   rw [hrange]
   simp only [wpOps,hoi]
   simp only [uJ] at hr
   cases hw:fE ops.toList e o with
   | none=>rw [hw] at hr; cases hr
   | some b =>
     rw [hw] at hr
     rw [pz (λ_ _ d _ _ _ _ _=>hS.er.rel d) hw]
     cases b with
     | false =>
       simp only [Bool.false_eq_true,if_false]
       simp only [oY] at hr
       exact ih (i+1) _ _ e' h' hd' hr G _ Q hG (hS.put (.refl G) hS.wr hon (VR.Gv G)) hQ
     | true =>
       simp only [if_true]
       simp only [oY] at hr
       split at hr
       ·rename_i v h1 hop
        simp only [xZ] at hr
        subst hG
        have:=uS hS.wr (by grind) hS.er hK hop
        left
        refine this _ Q (λu G' hh hst hwr hv=>?_)
        exact ih (i+1) _ _ e' h' hd' hr G' _ Q hh (hS.put hst hwr hon hv) hQ
       grind
end
end Go.Sx
namespace Go.Sx
open Go
variable [DD]
inductive Kd where
 | uD | zb | rd | pure
 deriving DecidableEq
def Cx (fY:List Nat):Callee->Kd
 | .builtin .len=>.rd
 | .builtin .cap=>.pure
 | .builtin .max=>.pure
 | .builtin .min=>.pure
 | .value (.func f)=>if fY.elem f then .uD else .rd
 | _=>.uD
def iM (fY:List Nat):Op->Kd
 | .store .. | .mapUpdate .. | .insert .. | .mapEntry .. | .entryStore ..=>.uD
 | .alloc .. | .box .. | .makeMap .. | .makeSlice .. | .buildSlice ..=>.zb
 | .load .. | .lookup .. | .slice .. | .indexAddr ..=>.rd
 | .call c=>Cx fY c.callee
 | _=>.pure
structure Di (h h':au):Prop where
 get:∀ b o,h.get b=some o->h'.get b=some o
 loc:∀ d c,gM h.aT d=some c->gM h'.aT d=some c
def Di.refl (h:au):Di h h:=⟨λ_ _ h=>h,λ_ _ h=>h⟩
def mr (call:mN):Prop:=∀ (f:Nat) (args:List AV) (h:au) (v:AV) (h':au),call false f args h=some (v,h') ->
 h'=h/\∀ h2:au,(∀ b o,h.get b=some o->h2.get b=some o)->call false f args h2=some (v,h2)
section
variable {X:Ctx} {e e':Env} {o:Op} {h h1 h2:au} {d:Option Nat} {v:AV}
theorem Al (h:∀ x∈o.operands,fg e x=fg e' x):gd o X e h1 d=gd o X e' h1 d:=by
 have pairs:∀ ps:Array (Nat×Operand),(∀ x∈ps.map (·.2),fg e x=fg e' x)->oc e ps=oc e' ps:=λps hp=>by
  unfold oc
  refine List.map_congr_left λp hm=>?_
  grind
 have lst:∀ xs:Array Operand,(∀ x∈xs,fg e x=fg e' x)->xs.toList.map (fg e)=xs.toList.map (fg e'):=λxs hp =>
  List.map_congr_left λx hm=>hp x (by grind)
 cases o<;>simp only [Op.operands] at h<;>simp only [gd]
 case build t ps=>simp only [Ci]; rw [pairs ps λx hx=>h x (by simp_all)]
 case buildSlice t n ps=>simp only [wL]; rw [pairs ps λx hx=>h x (by simp_all)]
 case makeFunc fn first captured =>
  grind [wa]
 case call c =>
  grind [nG,mM,Call.operands,invoke,builtin]
 case makeMap t r=>cases r<;>rfl
 case slice t x lo hi mx=>cases lo<;>cases hi<;>cases mx<;>simp_all [qj,np]
 all_goals (first | rfl | (simp_all [Jy,Ka,J8,yK,Aa,wb,zd,Uo,Bx,yH,rj,G5,oK,Cf,si,tP,vf,wG,BQ]; done))
def nP {x:Option AV} {r:AV×au} (k:iJ h x=some r):r.2=h/\∀ h2,iJ h2 x=some (r.1,h2):=by
 grind [kR,iJ]
theorem A0 {fY:List Nat} (hk:iM fY o=.pure) (k:gd o X e h d=some (v,h1)):h1=h/\∀ h2,gd o X e h2 d=some (v,h2):=by
 cases o<;>simp only [iM,reduceCtorEq] at hk<;>simp only [gd] at k ⊢
 case move x=>cases k; exact ⟨rfl,λ_=>rfl⟩
 case assign x=>cases k; exact ⟨rfl,λ_=>rfl⟩
 case pick c a b =>
  grind [Ka,EH]
 case build t ps =>
  simp only [Ci,zH] at k ⊢
  split at k<;>grind
 case nilCheck x=>simp only [wb] at k ⊢; exact nP k
 case binOp op t x y ty=>simp only [zd] at k ⊢; exact nP k
 case unOp op t x=>simp only [Uo] at k ⊢; exact nP k
 case convert s t x =>
  simp only [Bx,yF] at k ⊢
  split at k
  ·split at k
   ·split at k
    ·exact nP k
    ·cases k
   ·split at k<;>grind
   ·cases k
  ·cases k
 case makeFunc fn a c =>
  simp only [wa,sT] at k ⊢
  split at k<;>grind
 case fieldAddr t x f =>
  simp only [rj,pO] at k ⊢
  split at k
  ·cases k
  ·split at k
   ·split at k
    ·exact nP k
    ·cases k
   ·cases k
 case field t x f =>
  simp only [G5,B2] at k ⊢
  split at k
  ·cases k
  ·split at k
   ·split at k
    ·split at k
     ·split at k
      ·exact nP k
      ·cases k
     ·cases k
    ·cases k
   ·cases k
 case index t x i =>
  simp only [Cf,zE] at k ⊢
  split at k
  ·cases k
  ·split at k
   ·cases k
   ·split at k
    ·split at k
     ·split at k<;>grind
     ·cases k
    ·split at k
     ·split at k
      ·split at k
       ·exact nP k
       ·cases k
      ·cases k
     ·cases k
    ·cases k
 case extract t i =>
  simp only [BQ,xI] at k ⊢
  split at k
  ·exact nP k
  ·cases k
 case call c =>
  simp only [nG,mM] at k ⊢
  unfold Cx at hk
  split at hk<;>try (cases hk; done)
  ·rename_i hc
   rw [hc] at k ⊢
   simp only [lz,Of,Dn] at k ⊢
   split at k
   ·unfold oR at k ⊢
    split at k<;>grind
   ·cases k
  ·rename_i hc
   rw [hc] at k ⊢
   simp only [lz,OD,qQ] at k ⊢
   split at k
   ·exact nP k
   ·cases k
  ·rename_i hc
   rw [hc] at k ⊢
   simp only [lz,PS,qQ] at k ⊢
   split at k
   ·exact nP k
   ·cases k
  grind
 all_goals (cases k)
theorem KO {a:AV} {ti:TI} (E:Di h h2) (k:rz a h ti=some v):rz a h2 ti=some v:=by
 unfold rz at k ⊢
 split at k
 ·unfold IW at k ⊢
  split at k
  ·rename_i cs hcs; simp only [E.loc _ _ hcs]; exact k
  ·cases k
 ·exact k
 ·unfold C1 at k ⊢
  split at k
  ·rename_i g' z xs hg; simp only [E.get _ _ hg]; exact k
  ·cases k
 ·exact k
theorem E4 {n i:Nat} {y:AV} (k:p8 n h y i=some (v,h1)):h1=h/\∀ h2,Di h h2->p8 n h2 y i=some (v,h2):=by
 unfold p8 at k
 split at k
 ·grind [p8]
 ·split at k
  ·rename_i z xs hg
   split at k
   ·rename_i hb
    simp only [mA,Option.some.injEq,Prod.mk.injEq] at k
    obtain ⟨rfl,rfl⟩:=k
    exact ⟨rfl,λh2 E=>by simp only [p8,E.get _ _ hg,hb,mA]⟩
   ·cases k
  ·cases k
 ·cases k
theorem vC {fY:List Nat} (hI:mr X.call) (hs:X.fa.fY=fY) (hk:iM fY o=.rd) (k:gd o X e h d=some (v,h1)):h1=h/\∀ h2,Di h h2->gd o X e h2 d=some (v,h2):=by
 cases o<;>simp only [iM,reduceCtorEq] at hk<;>simp only [gd] at k ⊢
 case load t a =>
  simp only [yK,vw] at k ⊢
  split at k<;>grind [kR,iJ,KO]
 case lookup t m q ok =>
  simp only [si] at k ⊢
  obtain ⟨u,hu,k⟩:=kR k
  cases k
  refine ⟨rfl,λh2 E=>?_⟩
  have:pN X.C t h2 (fg e m) (fg e q) ok=some v:=by
   unfold pN at hu ⊢
   split at hu
   ·cases hu
   ·split at hu
    ·split at hu
     ·cases hu
     ·split at hu
      ·cases hu
      ·have hf:∀ r,py h (fg e q) (fg e m)=some r->py h2 (fg e q) (fg e m)=some r:=by
        intro r hr
        unfold py at hr ⊢
        split at hr
        ·exact hr
        ·exact hr
        ·split at hr
         ·rename_i es c hg; simp only [E.get _ _ hg]; exact hr
         grind
        omega
       grind
    omega
  simp [iJ,this]
 case slice t x lo hi mx =>
  simp only [qj,pF] at k ⊢
  split at k
  ·cases k
  ·split at k
   ·split at k
    ·obtain ⟨u,hu,k⟩:=kR k
     cases k
     refine ⟨rfl,λh2 E=>?_⟩
     have:∀ n,slice n h (fg e x) (np (fg e) lo) (np (fg e) hi) (np (fg e) mx)=some v->slice n h2 (fg e x) (np (fg e) lo) (np (fg e) hi) (np (fg e) mx)=some v:=by
      intro n hu
      unfold slice at hu ⊢
      split at hu
      ·exact hu
      ·unfold FA at hu ⊢
       split at hu
       ·rename_i g' z xs hg; simp only [E.get _ _ hg]; exact hu
       grind
      omega
     grind [iJ]
    ·cases k
   ·split at k<;>grind [kR,iJ]
   ·cases k
 case indexAddr t x i =>
  simp only [oK,nE] at k ⊢
  split at k
  ·cases k
  ·split at k
   ·cases k
   ·split at k
    ·split at k<;>grind [fg,E4]
    ·split at k<;>grind [kR,iJ]
    ·cases k
 case call c =>
  simp only [nG,mM] at k ⊢
  unfold Cx at hk
  split at hk<;>try (cases hk; done)
  ·rename_i hc
   rw [hc] at k ⊢
   simp only [lz,xy,uC] at k ⊢
   split at k
   ·split at k
    ·unfold oR at k
     split at k
     ·rename_i n hn
      cases k
      refine ⟨rfl,λh2 E=>?_⟩
      have:∀ (x:AV) (tk:TK),wD h x tk=some n->wD h2 x tk=some n:=by
       intro x tk ht
       unfold wD at ht ⊢
       split at ht
       ·exact ht
       ·exact ht
       ·exact ht
       ·unfold Gi at ht ⊢
        split at ht
        ·exact ht
        ·exact ht
        ·split at ht
         ·rename_i es c hg; simp only [E.get _ _ hg]; exact ht
         grind
        omega
       omega
      grind [oR]
     ·cases k
    ·cases k
   ·cases k
  ·rename_i f hc
   rw [hc] at k ⊢
   simp only [fg,rB,yt,List.nil_append,List.append_nil] at k ⊢
   have hsf:X.fa.fY.elem f=false:=by
    grind
   split at k
   ·rename_i hok
    rw [hsf] at k
    unfold sR at k
    split at k
    ·rename_i u hu hcall
     cases k
     obtain ⟨rfl,hall⟩:=hI _ _ _ _ _ hcall
     refine ⟨rfl,λh2 E=>?_⟩
     rw [hsf]
     rw [hall { h2 with aT:=[] } (λb o hb=>E.get b o hb)]
     rfl
    ·cases k
   ·cases k
end
end Go.Sx
namespace Go.Sx
open Go
variable [DD]
theorem lX {α:Type} {f : α->α->Bool} (hf:∀ a b,f a b=true->a=b):∀ x y:List α,lK f x y=true->x=y
 | [],[],_=>rfl
 | a::x,b::y,h=>by
   simp only [lK,Bool.and_eq_true] at h
   rw [hf a b h.1,lX hf x y h.2]
 | [],_::_,h=>by simp [lK] at h
 | _::_,[],h=>by simp [lK] at h
theorem M7 {a b:ml} (h:Aw a b=true):a=b:=by
 cases a<;>cases b<;>simp only [Aw,Bool.false_eq_true] at h<;>try rfl
 simp_all
theorem oe:∀ (n:Nat) (a b:AV),iR n a b=true->a=b
 | 0,_,_,h=>by simp [iR] at h
 | n+1,a,b,h=>by
   have ih:=oe n
   cases a<;>cases b<;>simp only [iR,Bool.and_eq_true,Bool.false_eq_true,Fk,beq_iff_eq,pS,oo,Nat.beq_eq] at h
   all_goals first | rfl | skip
   ·rw [h]
   ·rw [h.1,h.2]
   ·rw [h]
   ·rw [lX ih _ _ h.1.1,h.1.2,h.2]
   ·rw [h.1,h.2]
   ·rw [h.1.1.1,h.1.1.2,h.1.2,h.2]
   ·rw [lX (λ_ _=>lX ih _ _) _ _ h.1,M7 h.2]
   ·rw [h.1.1.1,h.1.1.2,h.1.2,h.2]
   ·rw [lX (λp q hpq=>by simp only [Bool.and_eq_true] at hpq; exact Prod.ext (ih _ _ hpq.1) (ih _ _ hpq.2)) _ _ h.1,h.2]
   ·rw [h]
   ·rw [lX ih _ _ h]
def direct (o:Oper):List Nat:=(o.after.toList.filter (Region.binds .any)).map (·.on)
inductive xb (ops:Array Oper):Nat->Nat->Prop
 | one {i j:Nat} {o:Oper}:ops[i]?=some o->j∈direct o->xb ops i j
 | more {i k j:Nat} {o:Oper}:ops[i]?=some o->k∈direct o->xb ops k j->xb ops i j
def xm:List (Nat×Nat)->Nat->Nat
 | [],_=>0
 | (i,m)::t,k=>match Nat.beq i k with
   | true=>m
   | false=>xm t k
def zB (tab:List (Nat×Nat)):List Nat->Nat
 | []=>0
 | k::l=>(1 <<< k) ||| (xm tab k) ||| zB tab l
def CJ {β:Type} (ops:Array Oper):List (Nat×List Nat)->List (Nat×Nat)->(List (Nat×Nat)->β)->β
 | [],t,k=>k t
 | (i,_)::l,t,k=>match ops[i]? with
   | some o=>fN (zB t (direct o)) λm=>CJ ops l ((i,m)::t) k
   | none=>CJ ops l t k
def KL (tab:List (Nat×Nat)) (i j:Nat):Bool:=(xm tab i).testBit j
def Aq (ops:Array Oper) (o:Oper):Option Tmp->Bool
 | some d=>(o.looksAt ops).elem d
 | none=>false
def IP:Option Tmp->Option Tmp->Bool
 | some a,some b=>Nat.beq a b
 | _,_=>false
def Ew:Kd->Bool
 | .uD=>true
 | _=>false
def FR:Kd->Bool
 | .rd=>true
 | _=>false
def Ld (fY:List Nat) (ops:Array Oper) (tab:List (Nat×Nat)) (x y:Nat×List Nat):Bool:=!(Nat.beq x.1 y.1)&&match ops[x.1]?,ops[y.1]? with
 | some a,some b=>(!(Aq ops a b.dst)||(KL tab y.1 x.1&&!(FR (iM fY a.op))))&&(!(Aq ops b a.dst)||KL tab y.1 x.1)&&!(IP a.dst b.dst)&&!((direct a).elem y.1)&&(!(Ew (iM fY a.op))||KL tab y.1 x.1) &&
   (!(FR (iM fY a.op)&&Ew (iM fY b.op))||KL tab y.1 x.1||y.2.elem x.1)
 | _,_=>false
def O5 (fY:List Nat) (ops:Array Oper) (x:Nat×List Nat):Bool:=match ops[x.1]? with
 | some o=>(!(Aq ops o o.dst)||!(FR (iM fY o.op)))&&(direct o).all (λj=>!(Nat.beq j x.1)&&Nat.blt j ops.size)
 | none=>false
def pw {α:Type} (R : α->α->Bool):List α->Bool
 | []=>true
 | x::l=>l.all (R x)&&pw R l
def EV (fY:List Nat) (ops:Array Oper) (sch:List (Nat×List Nat)):Bool :=
 CJ ops sch [] λtab=>(List.range ops.size).all (λi=>sch.any λx=>Nat.beq x.1 i)&&sch.all (O5 fY ops)&&pw (Ld fY ops tab) sch
section
variable {ops:Array Oper} {fY:List Nat} {sch:List (Nat×List Nat)}
def CI {t:List (Nat×Nat)} {i j:Nat} (h:(xm t i).testBit j=true):∃ m,(i,m)∈t/\m.testBit j=true:=by
 induction t with
 | nil=>simp [xm] at h
 | cons p t ih =>
   obtain ⟨k,m⟩:=p
   simp only [xm] at h
   split at h
   ·simp_all
   grind
def EL (ops:Array Oper) (t:List (Nat×Nat)):Prop:=∀ i m,(i,m)∈t->∀ j,m.testBit j=true->xb ops i j
def zR {t:List (Nat×Nat)} (ht:EL ops t) {i:Nat} {o:Oper} (ho:ops[i]?=some o) :
  ∀ l:List Nat,(∀ k∈l,k∈direct o)->∀ j,(zB t l).testBit j=true->xb ops i j
 | [],_,j,h=>by simp [zB] at h
 | k::l,hl,j,h=>by
   simp only [zB,Nat.testBit_or,Bool.or_eq_true] at h
   have hk:=hl k List.mem_cons_self
   rcases h with (h | h) | h
   ·have:j=k:=by
     rw [Nat.testBit_shiftLeft] at h
     simp only [ge_iff_le,Bool.and_eq_true,decide_eq_true_eq,Nat.testBit_one_eq_true_iff_self_eq_zero] at h
     omega
    subst this
    exact .one ho hk
   ·obtain ⟨m,h1,h2⟩:=CI h
    exact .more ho hk (ht k m h1 j h2)
   ·exact zR ht ho l (λx hx=>hl x (List.mem_cons_of_mem _ hx)) j h
def wq {p:List (Nat×Nat)->Bool}:∀ (l:List (Nat×List Nat)) (t:List (Nat×Nat)),EL ops t->CJ ops l t p=true->∃ t',EL ops t'/\p t'=true
 | [],t,ht,h=>⟨t,ht,h⟩
 | (i,c)::l,t,ht,h=>by
   simp only [CJ] at h
   split at h
   ·rename_i o ho
    simp only [mA] at h
    refine wq l _ ?_ h
    intro a m hm j hj
    rcases List.mem_cons.1 hm with e | hm
    ·cases e; exact zR ht ho _ (λ_ h=>h) j hj
    ·exact ht a m hm j hj
   ·exact wq l t ht h
theorem vX {t:List (Nat×Nat)} (ht:EL ops t) {i j:Nat} (h:KL t i j=true):xb ops i j:=by
 obtain ⟨m,h1,h2⟩:=CI h
 exact ht i m h1 j h2
def Kp {α:Type} {R : α->α->Bool}:∀ {l:List α},pw R l=true->∀ {p q:Nat} {x y : α},p<q->l[p]?=some x->l[q]?=some y->R x y=true
 | [],_,p,q,x,y,_,hx,_=>by simp at hx
 | z::l,h,p,q,x,y,hlt,hx,hy=>by
   simp only [pw,Bool.and_eq_true,List.all_eq_true] at h
   obtain ⟨q,rfl⟩:∃ q',q=q'+1:=⟨q - 1,by omega⟩
   rw [List.getElem?_cons_succ] at hy
   cases p with
   | zero =>
     simp only [List.getElem?_cons_zero,Option.some.injEq] at hx
     subst hx
     exact h.1 y (List.mem_of_getElem? hy)
   | succ p =>
     rw [List.getElem?_cons_succ] at hx
     exact Kp h.2 (by omega) hx hy
structure tI (fY:List Nat) (ops:Array Oper) (sch:List (Nat×List Nat)):Prop where
 cover:∀ i,i<ops.size->∃ (p:Nat) (c:List Nat),sch[p]?=some (i,c)
 one:∀ (p i:Nat) c,sch[p]?=some (i,c)->∃ o,ops[i]?=some o/\(∀ d,o.dst=some d->d∈o.looksAt ops->iM fY o.op≠.rd)/\(∀ j∈direct o,j≠i/\j<ops.size)
 pair:∀ (p q i:Nat) c (j:Nat) c' a b,p<q->sch[p]?=some (i,c)->sch[q]?=some (j,c')->ops[i]?=some a->ops[j]?=some b ->
  i≠j/\(∀ d,b.dst=some d->d∈a.looksAt ops->xb ops j i/\iM fY a.op≠.rd)/\(∀ d,a.dst=some d->d∈b.looksAt ops->xb ops j i)/\(∀ d,a.dst=some d->b.dst≠some d)/\j∉direct a /\
  (iM fY a.op=.uD->xb ops j i)/\(iM fY a.op=.rd->iM fY b.op=.uD->xb ops j i\/i∈c')
theorem BZ {k:Kd} (h:FR k=false):k≠.rd:=by rintro rfl; cases h
theorem u5 {o:Oper} {x:Option Tmp} (h:Aq ops o x=false):∀ d,x=some d->d∉o.looksAt ops:=by
 grind [Aq]
def MR (h:EV fY ops sch=true):tI fY ops sch:=by
 obtain ⟨t,ht,h⟩:=wq sch [] (by intro i m hm; cases hm) h
 simp only [Bool.and_eq_true,List.all_eq_true] at h
 obtain ⟨⟨h1,h2⟩,h3⟩:=h
 refine ⟨?_,?_,?_⟩
 ·intro i hi
  have:=h1 i (List.mem_range.2 hi)
  obtain ⟨x,hx,hb⟩:=List.any_eq_true.1 this
  have:=Nat.eq_of_beq_eq_true hb
  obtain ⟨p,hp⟩:=List.getElem?_of_mem hx
  grind
 ·intro p i c hp
  have:=h2 (i,c) (List.mem_of_getElem? hp)
  unfold O5 at this
  simp only at this
  split at this
  ·rename_i o ho
   simp only [Bool.and_eq_true,List.all_eq_true,Bool.not_eq_true',Bool.or_eq_true] at this
   obtain ⟨k1,k2⟩:=this
   refine ⟨o,ho,?_,?_⟩
   ·grind [u5,BZ]
   ·intro j hj
    obtain ⟨m1,m2⟩:=k2 j hj
    refine ⟨?_,Nat.le_of_ble_eq_true m2⟩
    rintro rfl
    simp at m1
  grind
 ·intro p q i c j c' a b hlt hp hq ha hb
  have:=Kp h3 hlt hp hq
  unfold Ld at this
  simp only [ha,hb,Bool.and_eq_true,Bool.not_eq_true',Bool.or_eq_true] at this
  obtain ⟨k0,⟨⟨⟨⟨k1,k1'⟩,k2⟩,k3⟩,k4⟩,k5⟩:=this
  refine ⟨?_,?_,?_,?_,?_,?_,?_⟩
  ·rintro rfl; simp at k0
  ·grind [u5,vX,BZ]
  ·grind [u5,vX]
  ·intro d hd hd2
   simp_all [IP]
  ·grind
  ·grind [Ew,vX]
  grind [Ew,FR,vX]
structure Trace (X:Ctx) (ops:Array Oper) (sch:List (Nat×List Nat)) (E:Nat->Env) (H:Nat->au) (V:Nat->AV) (W:Nat->Bool):Prop where
 at_:∀ (p i:Nat) c o,sch[p]?=some (i,c)->ops[i]?=some o->fE ops.toList (E p) o=some (W p)/\E (p+1)=fp (E p) o (V p) /\
  (W p=true->gd o.op X (E p) (H p) o.dst=some (V p,H (p+1)))/\(W p=false->V p=.fG []/\H (p+1)=H p) /\
  ∀ r∈c,again X ops.toList (E (p+1)) (H (p+1)) r=true
def shift {α:Type} (x : α) (f:Nat->α):Nat->α
 | 0=>x
 | n+1=>f n
def GV {X:Ctx}:∀ (sch:List (Nat×List Nat)) (e:Env) (h:au) (e':Env) (h':au),tA X ops.toList sch e h=some (e',h') ->
  ∃ E H V W,E 0=e/\H 0=h/\E sch.length=e'/\H sch.length=h'/\Trace X ops sch E H V W
 | [],e,h,e',h',hr=>by
   simp only [tA,Option.some.injEq,Prod.mk.injEq] at hr
   exact ⟨λ_=>e,λ_=>h,λ_=>.undef,λ_=>true,rfl,rfl,hr.1,hr.2,⟨by simp⟩⟩
 | (i,c)::rest,e,h,e',h',hr=>by
   simp only [tA] at hr
   split at hr
   ·cases hr
   ·rename_i o ho
    rw [Array.getElem?_toList] at ho
    have key:∀ (w:Bool) (v:AV) (h1:au),fE ops.toList e o=some w->(w=true->gd o.op X e h o.dst=some (v,h1))->(w=false->v=.fG []/\h1=h) ->
      (match c.all (again X ops.toList (fp e o v) h1) with | true=>tA X ops.toList rest (fp e o v) h1 | false=>none)=some (e',h') ->
      ∃ E H V W,E 0=e/\H 0=h/\E ((i,c)::rest).length=e'/\H ((i,c)::rest).length=h'/\Trace X ops ((i,c)::rest) E H V W:=by
     intro w v h1 hw k1 k2 k3
     split at k3
     ·rename_i hall
      obtain ⟨E,H,V,W,hE0,hH0,hE,hH,hT⟩:=GV rest _ _ _ _ k3
      refine ⟨shift e E,shift h H,shift v V,shift w W,rfl,rfl,hE,hH,⟨?_⟩⟩
      intro p i' c' o' hp ho'
      cases p with
      | zero =>
        simp only [List.getElem?_cons_zero,Option.some.injEq,Prod.mk.injEq] at hp
        obtain ⟨rfl,rfl⟩:=hp
        rw [ho] at ho'
        cases ho'
        simp only [shift,hE0,hH0]
        refine ⟨hw,trivial,k1,k2,?_⟩
        exact λr hr=>List.all_eq_true.1 hall r hr
      | succ p =>
        rw [List.getElem?_cons_succ] at hp
        exact hT.at_ p i' c' o' hp ho'
     ·cases k3
    cases hw:fE ops.toList e o with
    | none=>rw [hw] at hr; cases hr
    | some w =>
      rw [hw] at hr
      cases w with
      | false =>
        simp only [oY] at hr
        exact key false (.fG []) h hw (by simp) (λ_=>⟨rfl,rfl⟩) hr
      | true =>
        simp only [oY] at hr
        split at hr
        ·rename_i v h1 hop
         simp only [xZ] at hr
         exact key true v h1 hw (λ_=>hop) (by simp) hr
        ·cases hr
variable {X:Ctx} {E:Nat->Env} {H:Nat->au} {V:Nat->AV} {W:Nat->Bool}
theorem sf {e:Env} {o:Oper} {v:AV} {t:Nat} (h:∀ d,o.dst=some d->d≠t):j5 (fp e o v) t=j5 e t:=by
 grind [fp,BN]
def Dt {e:Env} {o:Oper} {v:AV} {d:Nat} (h:o.dst=some d):j5 (fp e o v) d=v:=by
 grind [fp,BN]
theorem Trace.look (F:tI fY ops sch) (T:Trace X ops sch E H V W) {p i:Nat} {c:List Nat} {o:Oper} (hp:sch[p]?=some (i,c)) (ho:ops[i]?=some o) (hrd:iM fY o.op=.rd) {t:Nat} (ht:t∈o.looksAt ops) :
  ∀ k,p+k<=sch.length->j5 (E (p+k)) t=j5 (E p) t
 | 0,_=>rfl
 | k+1,hk=>by
   rw [<- T.look F hp ho hrd ht k (by omega)]
   have hlt:p+k<sch.length:=by omega
   obtain ⟨x,hx⟩:∃ x,sch[p+k]?=some x:=⟨sch[p+k],by simp⟩
   obtain ⟨j,c'⟩:=x
   obtain ⟨o',ho',h1,_⟩:=F.one _ _ _ hx
   have:=(T.at_ _ _ _ _ hx ho').2.1
   rw [<- Nat.add_assoc,this]
   refine sf ?_
   rintro d hd rfl
   cases k with
   | zero =>
     grind
   | succ k=>exact ((F.pair p (p+(k+1)) i c j c' o o' (by omega) hp hx ho ho').2.1 d hd ht).2 hrd
theorem Trace.val (F:tI fY ops sch) (T:Trace X ops sch E H V W) {p i:Nat} {c:List Nat} {o:Oper} (hp:sch[p]?=some (i,c)) (ho:ops[i]?=some o) {d:Nat} (hd:o.dst=some d) :
  ∀ k,p+1+k<=sch.length->j5 (E (p+1+k)) d=V p
 | 0,_=>by rw [Nat.add_zero,(T.at_ _ _ _ _ hp ho).2.1]; exact Dt hd
 | k+1,hk=>by
   rw [<- T.val F hp ho hd k (by omega)]
   have hlt:p+1+k<sch.length:=by omega
   obtain ⟨x,hx⟩:∃ x,sch[p+1+k]?=some x:=⟨sch[p+1+k],by simp⟩
   obtain ⟨j,c'⟩:=x
   obtain ⟨o',ho',_⟩:=F.one _ _ _ hx
   have:=(T.at_ _ _ _ _ hx ho').2.1
   rw [<- Nat.add_assoc,this]
   refine sf ?_
   rintro d' hd' rfl
   exact (F.pair p (p+1+k) i c j c' o o' (by omega) hp hx ho ho').2.2.2.1 d' hd hd'
theorem Trace.keep (F:tI fY ops sch) (T:Trace X ops sch E H V W) {t:Nat}:∀ k,k<=sch.length->(∀ (q j:Nat) c o',q<k->sch[q]?=some (j,c)->ops[j]?=some o'->o'.dst≠some t)->j5 (E k) t=j5 (E 0) t
 | 0,_,_=>rfl
 | k+1,hk,ht=>by
   rw [<- T.keep F k (by omega) (λq j c o' hq=>ht q j c o' (by omega))]
   have hlt:k<sch.length:=by omega
   obtain ⟨x,hx⟩:∃ x,sch[k]?=some x:=⟨sch[k],by simp⟩
   obtain ⟨j,c'⟩:=x
   obtain ⟨o',ho',_⟩:=F.one _ _ _ hx
   rw [(T.at_ _ _ _ _ hx ho').2.1]
   grind [sf]
end
end Go.Sx
