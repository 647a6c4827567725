/- Proves rules for the walks and their soundness. -/
import Derived.Test.YtlhainfgnlmhfaaGreatTaf
set_option linter.all false
namespace Go.Sx
open Go
section
variable {C:fP} {F:iI} {Pr:iw} {fa:eC} {Q:Ex→Env→bY→Prop} {e:Env} {h h1:bY} {all rest:List Oper} {o:Oper} {q:Env→bY→Prop} {v:AV} {sch:List (Nat×List Nat)} {i:Nat} {a b:Code} {x y an:g8} {live:List Nat}
theorem oV (w:gy C F Pr fa all rest q (eY e o v) h1) (hw:fk all e o=some true:=by rfl) (hop:∀ call,fC o.op ⟨C,fa,call⟩ e h o.dst=some (v,h1):=by exact fun _=>rfl):gy C F Pr fa all (o::rest) q e h:=eg hw hop w
theorem rV (w:gz C F Pr fa all sch q (eY e o v) h1) (ho:all[i]?=some o:=by rfl) (hw:fk all e o=some true:=by rfl) (hop:∀ call,fC o.op ⟨C,fa,call⟩ e h o.dst=some (v,h1):=by exact fun _=>rfl):gz C F Pr fa all ((i,[])::sch) q e h:=eI ho hw hop w
theorem oS (w:gy C F Pr fa all rest q (eY e o (.eP [])) h) (hw:fk all e o=some false:=by rfl):gy C F Pr fa all (o::rest) q e h:=Cq hw w
theorem rS (w:gz C F Pr fa all sch q (eY e o (.eP [])) h) (ho:all[i]?=some o:=by rfl) (hw:fk all e o=some false:=by rfl):gz C F Pr fa all ((i,[])::sch) q e h:=C1 ho hw w
theorem oN (w:q e h):gy C F Pr fa all [] q e h:=IC w
theorem rN (w:q e h):gz C F Pr fa all [] q e h:=HG w
theorem qq (w:Wp C F Pr fa a x (oj (Wp C F Pr fa b y Q) Q) e h):Wp C F Pr fa (.seq a b) (.sq x y) Q e h:=IH w
theorem qs (w:Wp C F Pr fa a x (oj (fun e h=>Wp C F Pr fa b y Q (proj live e) { h with dO:=eV live h.dO }) Q) e h):Wp C F Pr fa (.seq a b) (.seq live x y) Q e h:=yM w
theorem qk (w:Q .gf e h):Wp C F Pr fa .skip an Q e h:=CI w
theorem ql {l:Nat} (w:Q .gf e h):Wp C F Pr fa (.label l) an Q e h:=Bo w
theorem qe {id:Nat} (w:Q (.ext id) e h):Wp C F Pr fa (.exit id) an Q e h:=Du w
theorem qr (w:Q .ret e h):Wp C F Pr fa .ret an Q e h:=HT w
theorem qb {id:Nat} (w:Wp C F Pr fa a an (Ae id Q) e h):Wp C F Pr fa (.block id a) an Q e h:=Au w
theorem qg {id:Nat} {ops:Array Oper} (w:gy C F Pr fa ops.toList ops.toList (Q .gf) e h):Wp C F Pr fa (.region id ops false) an Q e h:=Ar w
theorem qd {id:Nat} {ops:Array Oper} (w:gz C F Pr fa ops.toList sch (Q .gf) e h):Wp C F Pr fa (.region id ops true) (.lZ sch) Q e h:=A0 w
theorem qT {c:Operand} (w:Wp C F Pr fa a x Q e h) (hc:eO e c=.bool true:=by rfl):Wp C F Pr fa (.cond c a b) (.two x y) Q e h:=vS hc (fun _=>w) (fun h=>by cases h)
theorem qF {c:Operand} (w:Wp C F Pr fa b y Q e h) (hc:eO e c=.bool false:=by rfl):Wp C F Pr fa (.cond c a b) (.two x y) Q e h:=vS hc (fun h=>by cases h) (fun _=>w)
theorem fg (a b:Int) (w1:a<b→gy C F Pr fa all rest q (eY e o (.bool true)) h) (w2:¬ (a<b)→gy C F Pr fa all rest q (eY e o (.bool false)) h) {t u:Nat} {x y:Operand} {k k':IntKind} (ho:o.op=.binOp .lss t x y u:=by rfl) (hw:fk all e o=some true:=by rfl) (hx:eO e x=.int k a:=by rfl) (hy:eO e y=.int k' b:=by rfl) (hk:jM k k'=true:=by rfl):gy C F Pr fa all (o::rest) q e h:=jA hw (fun _=>by rw [ho]; exact fD hx hy hk (yJ _ a b)) w1 w2
theorem j8 (a b:Int) (w1:a<b→gz C F Pr fa all sch q (eY e o (.bool true)) h) (w2:¬ (a<b)→gz C F Pr fa all sch q (eY e o (.bool false)) h) {t u:Nat} {x y:Operand} {k k':IntKind} (hi:all[i]?=some o:=by rfl) (ho:o.op=.binOp .lss t x y u:=by rfl) (hw:fk all e o=some true:=by rfl) (hx:eO e x=.int k a:=by rfl) (hy:eO e y=.int k' b:=by rfl) (hk:jM k k'=true:=by rfl):gz C F Pr fa all ((i,[])::sch) q e h:=jC hi hw (fun _=>by rw [ho]; exact fD hx hy hk (yJ _ a b)) w1 w2
theorem o3 (a b:Int) (w1:a≤b→gy C F Pr fa all rest q (eY e o (.bool true)) h) (w2:¬ (a≤b)→gy C F Pr fa all rest q (eY e o (.bool false)) h) {t u:Nat} {x y:Operand} {k k':IntKind} (ho:o.op=.binOp .leq t x y u:=by rfl) (hw:fk all e o=some true:=by rfl) (hx:eO e x=.int k a:=by rfl) (hy:eO e y=.int k' b:=by rfl) (hk:jM k k'=true:=by rfl):gy C F Pr fa all (o::rest) q e h:=jA hw (fun _=>by rw [ho]; exact fD hx hy hk (yD _ a b)) w1 w2
theorem rf (a b:Int) (w1:a≤b→gz C F Pr fa all sch q (eY e o (.bool true)) h) (w2:¬ (a≤b)→gz C F Pr fa all sch q (eY e o (.bool false)) h) {t u:Nat} {x y:Operand} {k k':IntKind} (hi:all[i]?=some o:=by rfl) (ho:o.op=.binOp .leq t x y u:=by rfl) (hw:fk all e o=some true:=by rfl) (hx:eO e x=.int k a:=by rfl) (hy:eO e y=.int k' b:=by rfl) (hk:jM k k'=true:=by rfl):gz C F Pr fa all ((i,[])::sch) q e h:=jC hi hw (fun _=>by rw [ho]; exact fD hx hy hk (yD _ a b)) w1 w2
theorem fW (a b:Int) (w1:a > b→gy C F Pr fa all rest q (eY e o (.bool true)) h) (w2:¬ (a > b)→gy C F Pr fa all rest q (eY e o (.bool false)) h) {t u:Nat} {x y:Operand} {k k':IntKind} (ho:o.op=.binOp .gtr t x y u:=by rfl) (hw:fk all e o=some true:=by rfl) (hx:eO e x=.int k a:=by rfl) (hy:eO e y=.int k' b:=by rfl) (hk:jM k k'=true:=by rfl):gy C F Pr fa all (o::rest) q e h:=jA hw (fun _=>by rw [ho]; exact fD hx hy hk (yG _ a b)) w1 w2
theorem zj (a b:Int) (w1:a > b→gz C F Pr fa all sch q (eY e o (.bool true)) h) (w2:¬ (a > b)→gz C F Pr fa all sch q (eY e o (.bool false)) h) {t u:Nat} {x y:Operand} {k k':IntKind} (hi:all[i]?=some o:=by rfl) (ho:o.op=.binOp .gtr t x y u:=by rfl) (hw:fk all e o=some true:=by rfl) (hx:eO e x=.int k a:=by rfl) (hy:eO e y=.int k' b:=by rfl) (hk:jM k k'=true:=by rfl):gz C F Pr fa all ((i,[])::sch) q e h:=jC hi hw (fun _=>by rw [ho]; exact fD hx hy hk (yG _ a b)) w1 w2
theorem gV (a b:Int) (w1:a≥b→gy C F Pr fa all rest q (eY e o (.bool true)) h) (w2:¬ (a≥b)→gy C F Pr fa all rest q (eY e o (.bool false)) h) {t u:Nat} {x y:Operand} {k k':IntKind} (ho:o.op=.binOp .geq t x y u:=by rfl) (hw:fk all e o=some true:=by rfl) (hx:eO e x=.int k a:=by rfl) (hy:eO e y=.int k' b:=by rfl) (hk:jM k k'=true:=by rfl):gy C F Pr fa all (o::rest) q e h:=jA hw (fun _=>by rw [ho]; exact fD hx hy hk (yn _ a b)) w1 w2
theorem jR (a b:Int) (w1:a≥b→gz C F Pr fa all sch q (eY e o (.bool true)) h) (w2:¬ (a≥b)→gz C F Pr fa all sch q (eY e o (.bool false)) h) {t u:Nat} {x y:Operand} {k k':IntKind} (hi:all[i]?=some o:=by rfl) (ho:o.op=.binOp .geq t x y u:=by rfl) (hw:fk all e o=some true:=by rfl) (hx:eO e x=.int k a:=by rfl) (hy:eO e y=.int k' b:=by rfl) (hk:jM k k'=true:=by rfl):gz C F Pr fa all ((i,[])::sch) q e h:=jC hi hw (fun _=>by rw [ho]; exact fD hx hy hk (yn _ a b)) w1 w2
theorem fj (a b:Int) (w1:a=b→gy C F Pr fa all rest q (eY e o (.bool true)) h) (w2:¬ (a=b)→gy C F Pr fa all rest q (eY e o (.bool false)) h) {t u:Nat} {x y:Operand} {k k':IntKind} (ho:o.op=.binOp .eql t x y u:=by rfl) (hw:fk all e o=some true:=by rfl) (hx:eO e x=.int k a:=by rfl) (hy:eO e y=.int k' b:=by rfl) (hk:jM k k'=true:=by rfl):gy C F Pr fa all (o::rest) q e h:=jA hw (fun _=>by rw [ho]; exact fD hx hy hk (yO _ a b)) w1 w2
theorem kJ (a b:Int) (w1:a=b→gz C F Pr fa all sch q (eY e o (.bool true)) h) (w2:¬ (a=b)→gz C F Pr fa all sch q (eY e o (.bool false)) h) {t u:Nat} {x y:Operand} {k k':IntKind} (hi:all[i]?=some o:=by rfl) (ho:o.op=.binOp .eql t x y u:=by rfl) (hw:fk all e o=some true:=by rfl) (hx:eO e x=.int k a:=by rfl) (hy:eO e y=.int k' b:=by rfl) (hk:jM k k'=true:=by rfl):gz C F Pr fa all ((i,[])::sch) q e h:=jC hi hw (fun _=>by rw [ho]; exact fD hx hy hk (yO _ a b)) w1 w2
theorem gK (a b:Int) (w1:a≠b→gy C F Pr fa all rest q (eY e o (.bool true)) h) (w2:¬ (a≠b)→gy C F Pr fa all rest q (eY e o (.bool false)) h) {t u:Nat} {x y:Operand} {k k':IntKind} (ho:o.op=.binOp .neq t x y u:=by rfl) (hw:fk all e o=some true:=by rfl) (hx:eO e x=.int k a:=by rfl) (hy:eO e y=.int k' b:=by rfl) (hk:jM k k'=true:=by rfl):gy C F Pr fa all (o::rest) q e h:=jA hw (fun _=>by rw [ho]; exact fD hx hy hk (yl _ a b)) w1 w2
theorem sO (a b:Int) (w1:a≠b→gz C F Pr fa all sch q (eY e o (.bool true)) h) (w2:¬ (a≠b)→gz C F Pr fa all sch q (eY e o (.bool false)) h) {t u:Nat} {x y:Operand} {k k':IntKind} (hi:all[i]?=some o:=by rfl) (ho:o.op=.binOp .neq t x y u:=by rfl) (hw:fk all e o=some true:=by rfl) (hx:eO e x=.int k a:=by rfl) (hy:eO e y=.int k' b:=by rfl) (hk:jM k k'=true:=by rfl):gz C F Pr fa all ((i,[])::sch) q e h:=jC hi hw (fun _=>by rw [ho]; exact fD hx hy hk (yl _ a b)) w1 w2
theorem oC {f:Nat} {args:List AV} {R:AV→Prop} (w:∀ h:bY,∃ v,eH C F Pr false f args h v h∧R v) (next:∀ v,R v→gy C F Pr fa all rest q (eY e o v) h) {g:Operand} {c:Call} (ho:o.op=.call c:=by rfl) (hw:fk all e o=some true:=by rfl) (hf:c.callee=.value g:=by rfl) (hg:eO e g=.fz f [] []:=by rfl) (ha:c.args.toList.map (eO e)=args:=by rfl) (hok:args.all AV.jg=true:=by rfl) (hs:fa.fw.elem f=false:=by rfl):gy C F Pr fa all (o::rest) q e h:=Bu ho hw hf hg ha hok hs w next
theorem rC {f:Nat} {args:List AV} {R:AV→Prop} (w:∀ h:bY,∃ v,eH C F Pr false f args h v h∧R v) (next:∀ v,R v→gz C F Pr fa all sch q (eY e o v) h) {g:Operand} {c:Call} (hi:all[i]?=some o:=by rfl) (ho:o.op=.call c:=by rfl) (hw:fk all e o=some true:=by rfl) (hf:c.callee=.value g:=by rfl) (hg:eO e g=.fz f [] []:=by rfl) (ha:c.args.toList.map (eO e)=args:=by rfl) (hok:args.all AV.jg=true:=by rfl) (hs:fa.fw.elem f=false:=by rfl):gz C F Pr fa all ((i,[])::sch) q e h:=Ct hi hw ho hf hg ha hok hs w next
theorem wa {c:Code} (E:Env) (H:bY) (L:gN) (w:Wp C F Pr fa c an Q E { H with dO:=L }) (he:e=E:=by rfl) (hh:h = { H with dO:=L }:=by rfl):Wp C F Pr fa c an Q e h:=ff he hh w
theorem w0 {c:Code} (E:Env) (L:gN) (w:Wp C F Pr fa c an Q E { bY.empty with dO:=L }) (he:e=E:=by rfl) (hh:h = { bY.empty with dO:=L }:=by rfl):Wp C F Pr fa c an Q e h:=ff he hh w
end
theorem Row.lk {α:Type} (r:Row α):r.l.length≤9223372036854775807:=r.ok
theorem eR.lk {α:Type} (r:eR α):r.l.length≤9223372036854775807:=r.ok
theorem jd.lk (r:jd):r.l.length≤9223372036854775807:=r.ok
abbrev iv (n:Int):AV:=.int .i64 n
theorem FZ:(∀ sn hp n k a,freeze sn hp (n+1) (.int k a)=some (.int k a))∧(∀ sn hp n b,freeze sn hp (n+1) (.bool b)=some (.bool b))∧(∀ sn hp n s,freeze sn hp (n+1) (.str s)=some (.str s)) ∧
  (∀ (α:Type) (enc : α→List AV) hp n r,freeze true hp (n+1) (eR.av enc r)=some (eR.av enc r))∧(∀ (α:Type) (enc : α→List AV) sn hp n r,freeze sn hp (n+1) (Row.av enc r)=some (Row.av enc r)) ∧
  (∀ hp n c o s,freeze true hp (n+1) (.ip c o s)=some (.ip c o s))∧(∀ sn hp n c o,freeze sn hp (n+1) (.ip c o false)=some (.ip c o false))∧(∀ hp n c s,freeze true hp (n+1) (.fm c s)=some (.fm c s))∧(∀ sn hp n c,freeze sn hp (n+1) (.fm c false)=some (.fm c false)) ∧
  (∀ sn hp n,freeze sn hp (n+1) (.sl [] .nil)=some (.sl [] .nil))∧(∀ sn hp n,freeze sn hp (n+1) .fS=some .fS)∧(∀ sn hp n,freeze sn hp (n+1) .fZ=some .fZ)∧(∀ sn hp n m xs,freeze sn hp (n+1) (.sl xs (.exact m))=some (.sl xs (.exact m))) ∧
  (∀ sn hp n l,freeze sn hp (n+1) (.agg l)=(match fx (freeze sn hp n) l with
    | some l=>some (.agg l)
    | none=>none))∧(∀ sn hp n l,freeze sn hp (n+1) (.eP l)=(match fx (freeze sn hp n) l with
    | some l=>some (.eP l)
    | none=>none))∧(∀ x:ed,x.cells=[.int .i64 x.elem,.int .i64 x.en])∧(∀ x:eA,x.cells=[.int .i64 x.elem,.int .i64 x.pos])∧(∀ x:fc,x.cells=[.int .i64 x.out,.int .i64 x.pos])∧(∀ x:ew,x.cells=[.int .i64 x.elem,.int .i64 x.iy,.int .i64 x.out])∧(∀ x:e8,x.cells=[.str x.name.l,.int .i64 x.kind,.int .i64 x.len])∧(∀ x:fY,x.cells=[.bool x.sV,.int .i64 x.at_,.int .i64 x.end_,.int .i64 x.to]) ∧
  (∀ x:eF,x.cells=[.int .i64 x.from_,.int .i64 x.to,.int .i64 x.end_,x.steps.av ew.cells,x.gU.av eA.cells,x.guards.av eA.cells,x.j5.av eu,x.holds.av eu,.bool x.bare])∧(∀ x:lj,x.cells=[.int .i64 x.from_,.int .i64 x.to,.int .i64 x.end_,x.steps.av ew.cells,x.gU.av eA.cells,x.guards.av eA.cells,x.j5.av eu,x.holds.av eu,.bool x.bare]) ∧
  (∀ x:iT,x.cells=[.int .i64 x.mi,x.steps.av ew.cells,x.pos.av eu,x.left.av (gi fc.cells)])∧(∀ p:eb,p.cells=[p.elems.av e8.cells,p.eT.av fo.cells,p.signals.av fe.cells,p.lines.av eZ.cells,.int .i64 p.top,.int .i64 p.gd,.int .i64 p.fQ,.int .i64 p.ga,.bool p.gT])∧(∀ x:gp,x.cells=x.KC.cells++[x.roads.av eF.cells]) ∧
  (∀ x:fi,x.cells=[.int .i64 x.mode,x.eQ.av ed.cells,.int .i64 x.left,.int .i64 x.iG,.int .i64 x.v])∧(∀ x:gP,x.cells=[.str x.name.l,.int .i64 x.fy,.int .i64 x.at_.elem,.int .i64 x.at_.en,.int .i64 x.left])∧(∀ x:eZ,x.cells=[.str x.name.l,x.elems.av eu])∧(∀ x:gj,x.cells=[.str x.name.l,.int .i64 x.fy,.int .i64 x.from_,.int .i64 x.left,x.fK.av fY.cells])∧(∀ x:eS,x.cells=[.int .i64 x.xa,x.fy.av fM.cells,x.runs.av gj.cells]) ∧
  (∀ (f:AV→Option AV),fx f []=some [])∧(∀ (f:AV→Option AV) v l,fx f (v::l)=(match f v with
    | none=>none
    | some w=>match fx f l with
      | none=>none
      | some l'=>some (w::l')))∧(∀ (a b:List AV) v,(v::a)++b=v::(a++b))∧(∀ b:List AV,[]++b=b):=by
 refine ⟨fun _ _ _ _ _=>rfl,fun _ _ _ _=>rfl,fun _ _ _ _=>rfl,fun _ _ _ _ r=>wk r,fun _ _ _ _ _ r=>kP r,fun _ _ _ _ _=>yE _ _ _,fun _ _ _ _ _=>HA _ _,fun _ _ _ _=>yj _ _,fun _ _ _ _=>Hv _,fun _ _ _=>rfl,fun _ _ _=>rfl,fun _ _ _=>rfl,fun _ _ _ _ _=>rfl,fun _ _ _ _=>rfl,fun _ _ _ _=>rfl,?_⟩
 exact ⟨fun _=>rfl,fun _=>rfl,fun _=>rfl,fun _=>rfl,fun _=>rfl,fun _=>rfl,fun _=>rfl,fun _=>rfl,fun _=>rfl,fun _=>rfl,fun _=>rfl,fun _=>rfl,fun _=>rfl,fun _=>rfl,fun _=>rfl,fun _=>rfl,fun _=>rfl,fun _ _ _=>rfl,fun _ _ _=>rfl,fun _=>rfl⟩
end Go.Sx
namespace Go.Sx
open Go
def Bs (amb:Bool) (a b:Option ed) (to:Int):Option ed:=match a,b with
 | some _,none=>some ⟨to,1⟩
 | none,some _=>some ⟨to,0⟩
 | _,_=>if amb=true then some ⟨to,-1⟩ else none
def kq (amb:Bool) (A:Int→Option ed) (N:ed→Option ed) (l:fY):Option ed:=if l.end_=1 then A l.to else if l.end_=3 then Bs amb (N ⟨l.to,0⟩) (N ⟨l.to,1⟩) l.to else none
def ri (amb:Bool) (A:Int→Option ed) (N:ed→Option ed) (r:gj) (leg:Int):Option ed:=if leg=0 then A r.from_ else match r.fK.l[(leg - 1).toNat]? with
 | none=>none
 | some l=>kq amb A N l
def gX (amb:Bool) (A:Int→Option ed) (N:ed→Option ed) (d:eS) (run leg:Int):Option ed:=if run<0 then none else match d.runs.l[run.toNat]? with
 | none=>none
 | some r=>if leg<0∨leg > r.fK.l.length then none else ri amb A N r leg
section
variable {amb:Bool} {A:Int→Option ed} {N:ed→Option ed} {d:eS} {run leg:Int} {x:gj} {y:fY}
theorem qi (h:run<0∨run≥d.runs.l.length):gX amb A N d run leg=none:=by
 unfold gX
 split
 ·rfl
 ·rw [List.getElem?_eq_none (by omega)]
theorem q6 (h0:0≤run) (hx:run.toNat<d.runs.l.length) (hq:d.runs.l[run.toNat]=x):gX amb A N d run leg=if leg<0∨leg > x.fK.l.length then none else ri amb A N x leg:=by
 unfold gX
 rw [if_neg (by omega),List.getElem?_eq_getElem hx,hq]
theorem p9 (h0:0≤run) (hx:run.toNat<d.runs.l.length) (hq:d.runs.l[run.toNat]=x) (h:leg<0∨leg > x.fK.l.length):gX amb A N d run leg=none:=by
 rw [q6 h0 hx hq,if_pos h]
theorem HD {hx:run.toNat<d.runs.l.length} (hq:d.runs.l[run.toNat]=x) (h:leg<(x.fK.l.length:Int)):∀ h:run.toNat<d.runs.l.length,leg<((d.runs.l[run.toNat]).fK.l.length:Int):=by
 intro _; rw [hq]; exact h
theorem u5 (h:leg<0):gX amb A N d run leg=none:=by
 unfold gX
 split
 ·rfl
 ·cases d.runs.l[run.toNat]? with
  | none=>rfl
  | some r=>simp only; rw [if_pos (.inl h)]
theorem wN (h0:0≤run) (hx:run.toNat<d.runs.l.length) (hq:d.runs.l[run.toNat]=x) (h:leg=0):gX amb A N d run leg=A x.from_:=by
 rw [q6 h0 hx hq,if_neg (by omega),ri,if_pos h]
theorem xE (h0:0≤run) (hx:run.toNat<d.runs.l.length) (hq:d.runs.l[run.toNat]=x) (h1:0<leg) (h2:leg≤x.fK.l.length) (hy:(leg - 1).toNat<x.fK.l.length) (hz:x.fK.l[(leg - 1).toNat]=y):gX amb A N d run leg=kq amb A N y:=by
 rw [q6 h0 hx hq,if_neg (by omega),ri,if_neg (by omega),List.getElem?_eq_getElem hy,hz]
theorem sp (h:y.end_=1):kq amb A N y=A y.to:=by rw [kq,if_pos h]
theorem sb (h:¬ y.end_=1) (h3:y.end_=3):kq amb A N y=Bs amb (N ⟨y.to,0⟩) (N ⟨y.to,1⟩) y.to:=by rw [kq,if_neg h,if_pos h3]
theorem rH (h:¬ y.end_=1) (h3:¬ y.end_=3):kq amb A N y=none:=by rw [kq,if_neg h,if_neg h3]
end
def vw (amb:Bool) (K:Int→Int) (R:ed→Int) (h:ed) (l:fY):Int:=if l.sV=true then if K h.elem=1 then R ⟨h.elem,IntKind.i64.wrap (1 - h.en)⟩ else -1 else R h
def jD (amb:Bool) (A:Int→Option ed) (N:ed→Option ed) (K:Int→Int) (R:ed→Int) (d:eS) (run leg:Int):Int:=match gX amb A N d run leg with
 | none=>-1
 | some h=>if amb=true∧h.en<0 then -1 else match d.runs.l[run.toNat]? with
   | none=>-1
   | some r=>match r.fK.l[leg.toNat]? with
     | none=>-1
     | some l=>vw amb K R h l
def yy (d:eS) (run leg:Int):Prop:=run<0∨run≥d.runs.l.length∨leg<0∨∃ h:run.toNat<d.runs.l.length,leg > ((d.runs.l[run.toNat]).fK.l.length:Int)
section
variable {amb:Bool} {A:Int→Option ed} {N:ed→Option ed} {K:Int→Int} {R:ed→Int} {d:eS} {run leg:Int} {x:gj} {y:fY} {h:ed}
theorem kO (hh:gX amb A N d run leg=none):jD amb A N K R d run leg = -1:=by rw [jD,hh]
theorem AG (hl:yy d run leg):gX amb A N d run leg=none:=by
 by_cases h0:run<0∨run≥d.runs.l.length
 ·exact qi h0
 ·have hx:run.toNat<d.runs.l.length:=by omega
  refine p9 (by omega) hx rfl ?_
  rcases hl with hl | hl | hl | ⟨_,hl⟩
  ·omega
  ·omega
  ·exact .inl hl
  ·exact .inr hl
theorem u7 (hh:gX true A N d run leg=some h) (hn:h.en<0):jD true A N K R d run leg = -1:=by rw [jD,hh]; simp only [true_and]; rw [if_pos hn]
theorem u1 (hx:run.toNat<d.runs.l.length) (hq:d.runs.l[run.toNat]=x) (hl:leg≥x.fK.l.length):jD amb A N K R d run leg = -1:=by
 rw [jD]
 split
 ·rfl
 ·split
  ·rfl
  ·rw [List.getElem?_eq_getElem hx,hq]
   simp only
   rw [List.getElem?_eq_none (by omega)]
theorem ua (hh:gX amb A N d run leg=some h) (hn:amb=false∨¬ h.en<0) (hx:run.toNat<d.runs.l.length) (hq:d.runs.l[run.toNat]=x) (hy:leg.toNat<x.fK.l.length) (hz:x.fK.l[leg.toNat]=y):jD amb A N K R d run leg=vw amb K R h y:=by
 rw [jD,hh]
 simp only
 rw [if_neg (by rintro ⟨h1,h2⟩; rcases hn with hn | hn; · rw [hn] at h1; cases h1
                ·exact hn h2),List.getElem?_eq_getElem hx,hq]
 simp only
 rw [List.getElem?_eq_getElem hy,hz]
theorem Cp (hA:∀ i h,A i=some h→0≤h.en):jD false A N K R d run leg=jD true A N K R d run leg:=by
 have hl:∀ l:fY,(kq false A N l=none∧kq true A N l=none)∨(∃ h,kq false A N l=none∧kq true A N l=some h∧h.en<0)∨∃ h,kq false A N l=some h∧kq true A N l=some h∧0≤h.en:=by
  intro l
  by_cases h1:l.end_=1
  ·rw [sp h1,sp h1]
   cases h:A l.to with
   | none=>exact .inl ⟨rfl,rfl⟩
   | some p=>exact .inr (.inr ⟨p,rfl,rfl,hA _ _ h⟩)
  ·by_cases h3:l.end_=3
   ·rw [sb h1 h3,sb h1 h3]
    cases N ⟨l.to,0⟩<;>cases N ⟨l.to,1⟩<;>simp [Bs]
   ·rw [rH h1 h3,rH h1 h3]; exact .inl ⟨rfl,rfl⟩
 have hg:(gX false A N d run leg=none∧gX true A N d run leg=none)∨(∃ h,gX false A N d run leg=none∧gX true A N d run leg=some h∧h.en<0)∨∃ h,gX false A N d run leg=some h∧gX true A N d run leg=some h∧0≤h.en:=by
  unfold gX
  split
  ·exact .inl ⟨rfl,rfl⟩
  ·cases d.runs.l[run.toNat]? with
   | none=>exact .inl ⟨rfl,rfl⟩
   | some r =>
     simp only
     split
     ·exact .inl ⟨rfl,rfl⟩
     ·unfold ri
      split
      ·cases h:A r.from_ with
       | none=>exact .inl ⟨rfl,rfl⟩
       | some p=>exact .inr (.inr ⟨p,rfl,rfl,hA _ _ h⟩)
      ·cases r.fK.l[(leg - 1).toNat]? with
       | none=>exact .inl ⟨rfl,rfl⟩
       | some l=>exact hl l
 rcases hg with ⟨h1,h2⟩ | ⟨h,h1,h2,h3⟩ | ⟨h,h1,h2,h3⟩
 ·rw [kO h1,kO h2]
 ·rw [kO h1,u7 h2 h3]
 ·simp only [jD,h1,h2,Bool.false_eq_true,false_and,true_and,if_false]
  rw [if_neg (by omega)]
  rfl
end
def mP (b:fi):Option ed:=b.eQ.l[((b.eQ.l.length:Int) - 1).toNat]?
theorem y7 {b:fi} (h:b.eQ.l.length=0):mP b=none:=by
 unfold mP; rw [List.getElem?_eq_none (by omega)]
theorem Bk {b:fi} {x:ed} (hx:((b.eQ.l.length:Int) - 1).toNat<b.eQ.l.length) (hq:b.eQ.l[((b.eQ.l.length:Int) - 1).toNat]=x):mP b=some x:=by
 unfold mP; rw [List.getElem?_eq_getElem hx,hq]
def pj (a h:Option ed) (m:Int):Bool:=match a,h with
 | some a,some h=>decide ((m=2∨m=1)∧h=a)
 | _,_=>false
def ns (f:Int) (h:Option ed) (m:Int) (R:ed→Int):Bool:=match h with
 | some h=>decide ((m=2∨m=1)∧0≤f∧R h=f)
 | none=>false
theorem xB {f m:Int} {h:ed} {R:ed→Int}:ns f (some h) m R=decide ((m=2∨m=1)∧0≤f∧R h=f):=rfl
theorem nK {x:ed}:∀ {l:List fe} {i:Nat} {f:Int},gw x i l=some f→(i:Int)≤f∧iD l (f - i)=some x
 | [],_,_,h=>by simp [gw] at h
 | a::l,i,f,h=>by
   simp only [gw] at h
   split at h
   ·rename_i ha
    simp only [Option.some.injEq] at h
    subst h
    refine ⟨Int.le_refl _,?_⟩
    rw [Int.sub_self]
    simp [iD,ha]
   ·obtain ⟨h1,h2⟩:=nK h
    refine ⟨by omega,?_⟩
    unfold iD at *
    rw [if_neg (by omega)] at h2 ⊢
    have:(f - (i:Int)).toNat=(f - ((i+1:Nat):Int)).toNat+1:=by omega
    rw [this,List.getElem?_cons_succ]; exact h2
theorem Bz {l:List fe} (hS:nR l) {f:Int} {x:ed} (h:iD l f=some x):ig l x=some f:=by
 unfold iD at h
 split at h
 ·cases h
 ·rename_i h0
  obtain ⟨s,hs,rfl⟩:=Option.map_eq_some_iff.mp h
  obtain ⟨hl,hq⟩:=List.getElem?_eq_some_iff.mp hs
  have h1:=hS f.toNat hl
  rw [hq] at h1
  have h2:l=l.take f.toNat++l.drop f.toNat:=(List.take_append_drop _ _).symm
  have h3:l.drop f.toNat=s::l.drop (f.toNat+1):=by rw [List.drop_eq_getElem_cons hl,hq]
  have key:∀ (a:List fe) (i:Nat),(∀ y∈a,y.at_≠s.at_)→∀ b,gw s.at_ i (a++s::b)=some ((i+a.length:Nat):Int):=by
   intro a
   induction a with
   | nil=>intro i _ b; simp [gw]
   | cons z a ih =>
     intro i hz b
     rw [List.cons_append,gw,if_neg (hz z List.mem_cons_self),ih (i+1) (fun y hy=>hz y (List.mem_cons_of_mem _ hy))]
     simp only [List.length_cons]; congr 1; omega
  have:=key (l.take f.toNat) 0 h1 (l.drop (f.toNat+1))
  rw [← h3,← h2] at this
  unfold ig
  rw [this,List.length_take]
  congr 1; omega
theorem AP {l:List fe} (hS:nR l) (f:Int) (h:Option ed) (m:Int):pj (iD l f) h m=ns f h m (fun x=>(ig l x).getD (-1)):=by
 cases h with
 | none=>cases iD l f<;>rfl
 | some h =>
   cases ha:iD l f with
   | none =>
     simp only [pj,ns]
     symm
     rw [decide_eq_false_iff_not]
     rintro ⟨_,h0,h1⟩
     cases hr:ig l h with
     | none=>rw [hr] at h1; simp at h1; omega
     | some g =>
       rw [hr] at h1
       simp at h1; subst h1
       have:=(nK hr).2
       rw [show g - ((0:Nat):Int)=g from by omega,ha] at this
       cases this
   | some a =>
     simp only [pj,ns]
     rw [decide_eq_decide]
     have h0:0≤f:=by
      unfold iD at ha
      split at ha
      ·cases ha
      ·omega
     constructor
     ·rintro ⟨h1,rfl⟩
      exact ⟨h1,h0,by rw [Bz hS ha]; rfl⟩
     ·rintro ⟨h1,_,h2⟩
      refine ⟨h1,?_⟩
      cases hr:ig l h with
      | none=>rw [hr] at h2; simp at h2; omega
      | some g =>
        rw [hr] at h2
        simp at h2; subst h2
        have:=(nK hr).2
        rw [show g - ((0:Nat):Int)=g from by omega,ha] at this
        exact (Option.some.inj this).symm
theorem De {n p:eb} (h:n.elems.l=p.elems.l):jG n=jG p:=by
 funext e; unfold jG; rw [h]
theorem HI {p:eb} (h:∀ s∈p.signals.l,0≤s.at_.elem∧s.at_.elem<(p.elems.l.length:Int)∧0≤s.at_.en):∀ i x,iD p.signals.l i=some x→0≤x.en:=by
 intro i x hx
 unfold iD at hx
 split at hx
 ·cases hx
 ·obtain ⟨s,hs,rfl⟩:=Option.map_eq_some_iff.mp hx
  exact (h s (List.mem_of_getElem? hs)).2.2
theorem Jq {n:eE} {p:eb} (hO:rF n p) (d:eS) (run leg:Int) (h:Option ed) (m:Int) :
  pj (iD n.p.signals.l (jD false (iD n.p.signals.l) (fun x=>look x n.next) (jG n.p) (fun x=>(look x n.reads).getD (-1)) d run leg)) h m=ns (jD true (iD p.signals.l) (gJ p.eT.l) (jG p) (fun x=>(ig p.signals.l x).getD (-1)) d run leg) h m (fun x=>(ig p.signals.l x).getD (-1)):=by
 have h1:(fun x=>look x n.next)=gJ p.eT.l:=funext hO.next
 have h2:(fun x=>(look x n.reads).getD (-1))=(fun x=>(ig p.signals.l x).getD (-1)):=by funext x; rw [hO.reads]
 rw [h1,h2,hO.signals,De hO.elems,Cp (HI hO.VD),AP hO.sigs]
end Go.Sx
set_option maxRecDepth 100000
namespace Go.Sx
open Go
section
variable {C:fP} {F:iI} {Pr:iw} {fa:eC} {e:Env} {h:bY} {all rest:List Oper} {o:Oper} {q:Env→bY→Prop} {sch:List (Nat×List Nat)} {i t u el:Nat} {x y:Operand} {k k':IntKind} {cl:Call} {ti te:TI} {α:Type} {enc : α→List AV}
theorem capXn {p:Prop} {n:Nat} (h:jx.exact n=.nil):p:=by cases h
theorem fu (a b:Int) (w:gy C F Pr fa all rest q (eY e o (.int .i64 (a+b))) h) (ho:o.op=.binOp .add t x y u:=by rfl) (hw:fk all e o=some true:=by rfl) (hx:eO e x=.int .i64 a:=by rfl) (hy:eO e y=.int k' b:=by rfl) (hk:jM .i64 k'=true:=by rfl) (h1 : -9223372036854775808≤a+b:=by first | omega | (simp<;>omega) | (simp_all; omega)) (h2:a+b≤9223372036854775807:=by first | omega | (simp<;>omega) | (simp_all; omega)):gy C F Pr fa all (o::rest) q e h:=eg hw (fun _=>by rw [ho]; exact fD hx hy hk (yh a b h1 h2)) w
theorem Xt (a b:Int) (w:gz C F Pr fa all sch q (eY e o (.int .i64 (a+b))) h) (hi:all[i]?=some o:=by rfl) (ho:o.op=.binOp .add t x y u:=by rfl) (hw:fk all e o=some true:=by rfl) (hx:eO e x=.int .i64 a:=by rfl) (hy:eO e y=.int k' b:=by rfl) (hk:jM .i64 k'=true:=by rfl) (h1 : -9223372036854775808≤a+b:=by first | omega | (simp<;>omega) | (simp_all; omega)) (h2:a+b≤9223372036854775807:=by first | omega | (simp<;>omega) | (simp_all; omega)):gz C F Pr fa all ((i,[])::sch) q e h:=eI hi hw (fun _=>by rw [ho]; exact fD hx hy hk (yh a b h1 h2)) w
theorem g7 (a b:Int) (w:gy C F Pr fa all rest q (eY e o (.int .i64 (a - b))) h) (ho:o.op=.binOp .sub t x y u:=by rfl) (hw:fk all e o=some true:=by rfl) (hx:eO e x=.int .i64 a:=by rfl) (hy:eO e y=.int k' b:=by rfl) (hk:jM .i64 k'=true:=by rfl) (h1 : -9223372036854775808≤a - b:=by first | omega | (simp<;>omega) | (simp_all; omega)) (h2:a - b≤9223372036854775807:=by first | omega | (simp<;>omega) | (simp_all; omega)):gy C F Pr fa all (o::rest) q e h:=eg hw (fun _=>by rw [ho]; exact fD hx hy hk (yf a b h1 h2)) w
theorem JV (a b:Int) (w:gz C F Pr fa all sch q (eY e o (.int .i64 (a - b))) h) (hi:all[i]?=some o:=by rfl) (ho:o.op=.binOp .sub t x y u:=by rfl) (hw:fk all e o=some true:=by rfl) (hx:eO e x=.int .i64 a:=by rfl) (hy:eO e y=.int k' b:=by rfl) (hk:jM .i64 k'=true:=by rfl) (h1 : -9223372036854775808≤a - b:=by first | omega | (simp<;>omega) | (simp_all; omega)) (h2:a - b≤9223372036854775807:=by first | omega | (simp<;>omega) | (simp_all; omega)):gz C F Pr fa all ((i,[])::sch) q e h:=eI hi hw (fun _=>by rw [ho]; exact fD hx hy hk (yf a b h1 h2)) w
theorem fA (r:Row α) (w:gy C F Pr fa all rest q (eY e o (.int .i64 r.l.length)) h) (ho:o.op=.call cl:=by rfl) (hw:fk all e o=some true:=by rfl) (hc:cl.callee=.builtin .len:=by rfl) (ha:cl.args.toList=[x]:=by rfl) (hts:cl.argTypes.toList=[t]:=by rfl) (hT:C.T t=some ti:=by rfl) (hk:ti.kind=.slice el:=by rfl) (hx:eO e x=r.av enc:=by rfl):gy C F Pr fa all (o::rest) q e h:=eg hw (fun _=>by rw [ho]; exact yi hc ha hts hT hk hx) w
theorem GH (r:Row α) (w:gz C F Pr fa all sch q (eY e o (.int .i64 r.l.length)) h) (hi:all[i]?=some o:=by rfl) (ho:o.op=.call cl:=by rfl) (hw:fk all e o=some true:=by rfl) (hc:cl.callee=.builtin .len:=by rfl) (ha:cl.args.toList=[x]:=by rfl) (hts:cl.argTypes.toList=[t]:=by rfl) (hT:C.T t=some ti:=by rfl) (hk:ti.kind=.slice el:=by rfl) (hx:eO e x=r.av enc:=by rfl):gz C F Pr fa all ((i,[])::sch) q e h:=eI hi hw (fun _=>by rw [ho]; exact yi hc ha hts hT hk hx) w
theorem gL (n:Nat) (r:Row α) (hn:n<r.l.length) (w:gy C F Pr fa all rest q (eY e o (.ip (enc r.l[n]) 0 false)) h) (ho:o.op=.indexAddr t x y:=by rfl) (hw:fk all e o=some true:=by rfl) (hT:C.T t=some ti:=by rfl) (hk:ti.kind=.slice el:=by rfl) (hE:C.T el=some te:=by rfl) (hx:eO e x=r.av enc:=by rfl) (hi:eO e y=.int k (n:Int):=by rfl) (hl:(enc r.l[n]).length=te.size:=by rfl):gy C F Pr fa all (o::rest) q e h:=eg hw (fun _=>by rw [ho]; exact po hT hk hE hx hi hn hl) w
theorem jE (n:Nat) (r:Row α) (hn:n<r.l.length) (w:gz C F Pr fa all sch q (eY e o (.ip (enc r.l[n]) 0 false)) h) (hi':all[i]?=some o:=by rfl) (ho:o.op=.indexAddr t x y:=by rfl) (hw:fk all e o=some true:=by rfl) (hT:C.T t=some ti:=by rfl) (hk:ti.kind=.slice el:=by rfl) (hE:C.T el=some te:=by rfl) (hx:eO e x=r.av enc:=by rfl) (hi:eO e y=.int k (n:Int):=by rfl) (hl:(enc r.l[n]).length=te.size:=by rfl):gz C F Pr fa all ((i,[])::sch) q e h:=eI hi' hw (fun _=>by rw [ho]; exact po hT hk hE hx hi hn hl) w
theorem xA {A P:AV→Prop} {B:AV→AV→Prop} (x:AV) (p:P x) (a:A x:=by rfl) (b:B x x:=by rfl):∃ v,A v∧∃ w,B v w∧P w:=⟨x,a,x,b,p⟩
theorem xF {A P:AV→Prop} {B:AV→AV→Prop} (x:AV) (p:P x) (a:A x:=by rfl) (b:B x x:=by simp only [FZ]):∃ v,A v∧∃ w,B v w∧P w:=⟨x,a,x,b,p⟩
end
section
variable {p q:Prop}
theorem aa (w:q) (h:q→p:=by intro w;refine qq ?_;refine qg ?_;exact w):p:=h w
theorem ab (w:q) (h:q→p:=by intro w;refine oV ?_;refine oN ?_;exact w):p:=h w
theorem ac (w:q) (h:q→p:=by intro w;refine qT ?_;refine qq ?_;refine qg ?_;refine oV ?_;refine oN ?_;refine qr ?_;exact w):p:=h w
theorem ae (w:q) (h:q→p:=by intro w;refine qq ?_;refine qg ?_;(iterate 2 refine oV ?_);exact w):p:=h w
theorem af (w:q) (h:q→p:=by intro w;refine qF ?_;refine qk ?_;exact w):p:=h w
theorem ag (w:q) (h:q→p:=by intro w;refine oV ?_;refine oN ?_;refine qr ?_;exact w):p:=h w
theorem ah (w:q) (h:q→p:=by intro w;(iterate 2 refine oV ?_);refine oN ?_;exact w):p:=h w
theorem ai (w:q) (h:q→p:=by intro w;refine oV ?_;refine oN ?_;refine qT ?_;refine qq ?_;refine qg ?_;refine oV ?_;refine oN ?_;refine qr ?_;exact w):p:=h w
theorem aj (w:q) (h:q→p:=by intro w;refine qq ?_;refine qg ?_;refine oV ?_;exact w):p:=h w
theorem ak (w:q) (h:q→p:=by intro w;refine qs ?_;refine qq ?_;refine qg ?_;refine oV ?_;exact w):p:=h w
theorem am (w:q) (h:q→p:=by intro w;refine oN ?_;refine qs ?_;refine qF ?_;refine qe ?_;exact w):p:=h w
theorem ao (w:q) (h:q→p:=by intro w;refine oN ?_;refine qs ?_;refine qT ?_;refine qk ?_;exact w):p:=h w
theorem ap (w:q) (h:q→p:=by intro w;(iterate 2 refine oV ?_);(iterate 3 refine oS ?_);(iterate 2 refine oV ?_);(iterate 3 refine oS ?_);(iterate 2 refine oV ?_);exact w):p:=h w
theorem aq (w:q) (h:q→p:=by intro w;(iterate 2 refine oV ?_);(iterate 3 refine oS ?_);(iterate 2 refine oV ?_);(iterate 3 refine oS ?_);(iterate 2 refine oV ?_);(iterate 3 refine oS ?_);(iterate 2 refine oV ?_);exact w):p:=h w
theorem au (w:q) (h:q→p:=by intro w;(iterate 6 refine oV ?_);refine oN ?_;exact w):p:=h w
theorem aw (w:q) (h:q→p:=by intro w;refine oV ?_;refine oN ?_;refine qF ?_;refine qk ?_;exact w):p:=h w
theorem ay (w:q) (h:q→p:=by intro w;refine oN ?_;refine qT ?_;exact w):p:=h w
theorem az (w:q) (h:q→p:=by intro w;refine oN ?_;refine qF ?_;refine qk ?_;exact w):p:=h w
theorem aA (w:q) (h:q→p:=by intro w;refine qs ?_;refine qb ?_;exact w):p:=h w
theorem aB (w:q) (h:q→p:=by intro w;refine qs ?_;refine qq ?_;refine qg ?_;(iterate 3 refine oV ?_);exact w):p:=h w
theorem aC (w:q) (h:q→p:=by intro w;refine oV ?_;refine oN ?_;refine qT ?_;exact w):p:=h w
theorem aD (w:q) (h:q→p:=by intro w;(iterate 2 refine rV ?_);(iterate 3 refine rS ?_);(iterate 2 refine rV ?_);exact w):p:=h w
theorem aE (w:q) (h:q→p:=by intro w;refine oN ?_;refine qF ?_;refine qe ?_;exact w):p:=h w
theorem aF (w:q) (h:q→p:=by intro w;refine qq ?_;refine qg ?_;(iterate 3 refine oV ?_);exact w):p:=h w
theorem aG (w:q) (h:q→p:=by intro w;refine qq ?_;refine qg ?_;(iterate 4 refine oV ?_);exact w):p:=h w
theorem aH (w:q) (h:q→p:=by intro w;(iterate 2 refine rV ?_);refine rN ?_;refine qr ?_;exact w):p:=h w
theorem aI (w:q) (h:q→p:=by intro w;refine qs ?_;refine qq ?_;refine qg ?_;(iterate 2 refine oV ?_);exact w):p:=h w
theorem aJ (w:q) (h:q→p:=by intro w;(iterate 2 refine oV ?_);(iterate 4 refine oS ?_);exact w):p:=h w
theorem aK (w:q) (h:q→p:=by intro w;(iterate 2 refine oV ?_);(iterate 5 refine oS ?_);exact w):p:=h w
theorem aL (w:q) (h:q→p:=by intro w;(iterate 2 refine oV ?_);(iterate 2 refine oS ?_);exact w):p:=h w
theorem aM (w:q) (h:q→p:=by intro w;refine qg ?_;refine oV ?_;exact w):p:=h w
theorem aN (w:q) (h:q→p:=by intro w;refine qq ?_;refine qd ?_;exact w):p:=h w
theorem aO (w:q) (h:q→p:=by intro w;refine qq ?_;refine qg ?_;refine oV ?_;refine oN ?_;refine qs ?_;refine qq ?_;refine qg ?_;refine oV ?_;exact w):p:=h w
theorem aP (w:q) (h:q→p:=by intro w;refine oV ?_;refine oN ?_;refine qb ?_;exact w):p:=h w
theorem aQ (w:q) (h:q→p:=by intro w;refine qq ?_;refine qg ?_;refine oV ?_;refine oN ?_;exact w):p:=h w
theorem aR (w:q) (h:q→p:=by intro w;refine rV ?_;refine rN ?_;exact w):p:=h w
theorem aS (w:q) (h:q→p:=by intro w;refine oV ?_;refine oN ?_;refine qF ?_;refine qq ?_;refine qg ?_;exact w):p:=h w
theorem aU (w:q) (h:q→p:=by intro w;refine qq ?_;refine qg ?_;(iterate 2 refine oV ?_);refine oN ?_;exact w):p:=h w
theorem aV (w:q) (h:q→p:=by intro w;(iterate 2 refine oV ?_);refine oN ?_;refine qr ?_;exact w):p:=h w
theorem aW (w:q) (h:q→p:=by intro w;(iterate 3 refine oV ?_);refine oN ?_;exact w):p:=h w
theorem aX (w:q) (h:q→p:=by intro w;refine oN ?_;refine qT ?_;refine qk ?_;exact w):p:=h w
theorem aY (w:q) (h:q→p:=by intro w;refine qg ?_;(iterate 3 refine oV ?_);exact w):p:=h w
theorem aZ (w:q) (h:q→p:=by intro w;refine qs ?_;refine qq ?_;refine qg ?_;refine oV ?_;refine oN ?_;refine qb ?_;exact w):p:=h w
theorem a6 (w:q) (h:q→p:=by intro w;refine qq ?_;refine qg ?_;refine oV ?_;refine oN ?_;refine qr ?_;exact w):p:=h w
theorem a7 (w:q) (h:q→p:=by intro w;refine qq ?_;refine qg ?_;(iterate 3 refine oV ?_);refine oN ?_;refine qr ?_;exact w):p:=h w
theorem a8 (w:q) (h:q→p:=by intro w;(iterate 2 refine oV ?_);refine oN ?_;refine qT ?_;refine qq ?_;refine qg ?_;refine oV ?_;refine oN ?_;refine qr ?_;exact w):p:=h w
theorem a9 (w:q) (h:q→p:=by intro w;refine qq ?_;refine qg ?_;(iterate 2 refine oV ?_);refine oN ?_;refine qr ?_;exact w):p:=h w
theorem ba (w:q) (h:q→p:=by intro w;refine oV ?_;(iterate 2 refine oS ?_);exact w):p:=h w
theorem bb (w:q) (h:q→p:=by intro w;(iterate 4 refine oV ?_);refine oN ?_;refine qr ?_;exact w):p:=h w
theorem bc (w:q) (h:q→p:=by intro w;(iterate 6 refine rV ?_);refine rN ?_;exact w):p:=h w
theorem be (w:q) (h:q→p:=by intro w;refine oN ?_;refine qT ?_;refine qq ?_;refine qg ?_;refine oV ?_;refine oN ?_;refine qr ?_;exact w):p:=h w
theorem bf (w:q) (h:q→p:=by intro w;refine oV ?_;(iterate 5 refine oS ?_);exact w):p:=h w
theorem bg (w:q) (h:q→p:=by intro w;refine qs ?_;refine qb ?_;refine qq ?_;refine qg ?_;exact w):p:=h w
theorem bh (w:q) (h:q→p:=by intro w;refine rV ?_;(iterate 8 refine rS ?_);(iterate 3 refine rV ?_);refine rN ?_;refine qr ?_;exact w):p:=h w
theorem bi (w:q) (h:q→p:=by intro w;refine qq ?_;refine qd ?_;(iterate 2 refine rV ?_);exact w):p:=h w
theorem bj (w:q) (h:q→p:=by intro w;(iterate 3 refine rV ?_);refine rN ?_;refine qr ?_;exact w):p:=h w
theorem bk (w:q) (h:q→p:=by intro w;refine oV ?_;(iterate 4 refine oS ?_);exact w):p:=h w
theorem bl (w:q) (h:q→p:=by intro w;(iterate 5 refine oV ?_);refine oN ?_;exact w):p:=h w
theorem bm (w:q) (h:q→p:=by intro w;refine qq ?_;refine qg ?_;(iterate 3 refine oV ?_);refine oN ?_;exact w):p:=h w
theorem bo (w:q) (h:q→p:=by intro w;(iterate 4 refine rS ?_);refine rV ?_;refine rN ?_;refine qT ?_;refine qq ?_;refine qg ?_;refine oV ?_;refine oN ?_;refine qr ?_;exact w):p:=h w
theorem bp (w:q) (h:q→p:=by intro w;(iterate 2 refine rV ?_);(iterate 6 refine rS ?_);exact w):p:=h w
theorem br (w:q) (h:q→p:=by intro w;refine qg ?_;(iterate 2 refine oV ?_);exact w):p:=h w
theorem bu (w:q) (h:q→p:=by intro w;refine rV ?_;refine rN ?_;refine qF ?_;refine qk ?_;exact w):p:=h w
theorem bv (w:q) (h:q→p:=by intro w;(iterate 2 refine oV ?_);refine oN ?_;refine qF ?_;refine qk ?_;exact w):p:=h w
theorem bw (w:q) (h:q→p:=by intro w;refine rV ?_;(iterate 13 refine rS ?_);(iterate 2 refine rV ?_);refine rN ?_;refine qr ?_;exact w):p:=h w
theorem bz (w:q) (h:q→p:=by intro w;(iterate 3 refine oV ?_);refine oN ?_;refine qr ?_;exact w):p:=h w
theorem bA (w:q) (h:q→p:=by intro w;refine oN ?_;refine qT ?_;refine qq ?_;refine qd ?_;refine rV ?_;exact w):p:=h w
theorem bB (w:q) (h:q→p:=by intro w;refine oV ?_;(iterate 3 refine oS ?_);exact w):p:=h w
theorem bC (w:q) (h:q→p:=by intro w;(iterate 2 refine oV ?_);(iterate 9 refine oS ?_);exact w):p:=h w
theorem bD (w:q) (h:q→p:=by intro w;(iterate 6 refine oV ?_);refine oN ?_;refine qs ?_;refine qq ?_;refine qg ?_;refine oV ?_;exact w):p:=h w
theorem bE (w:q) (h:q→p:=by intro w;refine qs ?_;refine qb ?_;refine qq ?_;refine qg ?_;refine oV ?_;exact w):p:=h w
theorem bF (w:q) (h:q→p:=by intro w;(iterate 4 refine oV ?_);refine oN ?_;exact w):p:=h w
theorem bG (w:q) (h:q→p:=by intro w;refine rV ?_;refine rN ?_;refine qT ?_;exact w):p:=h w
theorem bH (w:q) (h:q→p:=by intro w;(iterate 2 refine oV ?_);(iterate 4 refine oS ?_);refine oV ?_;refine oN ?_;refine qT ?_;refine qq ?_;refine qg ?_;refine oV ?_;refine oN ?_;refine qr ?_;exact w):p:=h w
theorem bI (w:q) (h:q→p:=by intro w;(iterate 2 refine oV ?_);(iterate 3 refine oS ?_);exact w):p:=h w
theorem bJ (w:q) (h:q→p:=by intro w;refine oV ?_;refine oN ?_;refine qT ?_;refine qe ?_;exact w):p:=h w
theorem bL (w:q) (h:q→p:=by intro w;refine qs ?_;refine qq ?_;refine qg ?_;exact w):p:=h w
theorem bM (w:q) (h:q→p:=by intro w;refine qq ?_;refine qg ?_;(iterate 4 refine oV ?_);refine oN ?_;refine qr ?_;exact w):p:=h w
theorem bN (w:q) (h:q→p:=by intro w;(iterate 6 refine oV ?_);refine oN ?_;refine qq ?_;refine qg ?_;exact w):p:=h w
theorem bO (w:q) (h:q→p:=by intro w;refine qq ?_;refine qd ?_;(iterate 3 refine rV ?_);exact w):p:=h w
theorem bP (w:q) (h:q→p:=by intro w;refine oN ?_;refine qb ?_;refine qq ?_;refine qg ?_;exact w):p:=h w
theorem bQ (w:q) (h:q→p:=by intro w;refine oV ?_;refine oN ?_;refine qT ?_;refine qq ?_;refine qg ?_;(iterate 2 refine oV ?_);refine oN ?_;refine qr ?_;exact w):p:=h w
theorem bR (w:q) (h:q→p:=by intro w;refine oV ?_;refine oN ?_;refine qT ?_;refine qq ?_;refine qg ?_;(iterate 3 refine oV ?_);refine oN ?_;refine qr ?_;exact w):p:=h w
theorem bS (w:q) (h:q→p:=by intro w;refine qs ?_;refine qb ?_;refine qq ?_;refine qg ?_;(iterate 2 refine oV ?_);refine oN ?_;exact w):p:=h w
theorem bT (w:q) (h:q→p:=by intro w;refine qs ?_;refine qb ?_;refine qq ?_;refine qg ?_;(iterate 3 refine oV ?_);exact w):p:=h w
theorem bU (w:q) (h:q→p:=by intro w;(iterate 2 refine oV ?_);(iterate 8 refine oS ?_);exact w):p:=h w
theorem bV (w:q) (h:q→p:=by intro w;refine rN ?_;refine qF ?_;refine qk ?_;exact w):p:=h w
theorem bW (w:q) (h:q→p:=by intro w;refine oN ?_;refine qT ?_;refine qq ?_;refine qg ?_;(iterate 2 refine oV ?_);refine oN ?_;refine qr ?_;exact w):p:=h w
theorem bX (w:q) (h:q→p:=by intro w;refine oV ?_;refine oN ?_;refine qs ?_;refine qq ?_;refine qg ?_;(iterate 2 refine oV ?_);exact w):p:=h w
theorem bZ (w:q) (h:q→p:=by intro w;refine qq ?_;refine qd ?_;(iterate 5 refine rV ?_);exact w):p:=h w
theorem b5 (w:q) (h:q→p:=by intro w;(iterate 2 refine oV ?_);(iterate 5 refine oS ?_);refine oV ?_;refine oN ?_;refine qT ?_;refine qq ?_;refine qg ?_;refine oV ?_;refine oN ?_;refine qr ?_;exact w):p:=h w
theorem b8 (w:q) (h:q→p:=by intro w;refine oN ?_;refine qT ?_;refine qg ?_;(iterate 3 refine oV ?_);exact w):p:=h w
theorem ca (w:q) (h:q→p:=by intro w;(iterate 6 refine oV ?_);refine oN ?_;refine qq ?_;refine qg ?_;refine oV ?_;exact w):p:=h w
theorem cb (w:q) (h:q→p:=by intro w;refine oV ?_;(iterate 14 refine oS ?_);refine oV ?_;refine oN ?_;refine qF ?_;refine qk ?_;exact w):p:=h w
theorem ce (w:q) (h:q→p:=by intro w;refine oV ?_;refine oN ?_;refine qq ?_;refine qg ?_;refine oV ?_;exact w):p:=h w
theorem cf (w:q) (h:q→p:=by intro w;refine qq ?_;refine ql ?_;refine qs ?_;refine qb ?_;exact w):p:=h w
theorem cg (w:q) (h:q→p:=by intro w;(iterate 3 refine oV ?_);refine oN ?_;refine qq ?_;refine qg ?_;(iterate 2 refine oV ?_);exact w):p:=h w
theorem ci (w:q) (h:q→p:=by intro w;refine oN ?_;refine qr ?_;exact w):p:=h w
theorem ck (w:q) (h:q→p:=by intro w;refine rV ?_;(iterate 6 refine rS ?_);exact w):p:=h w
theorem cm (w:q) (h:q→p:=by intro w;(iterate 2 refine oV ?_);refine oN ?_;refine qF ?_;refine qq ?_;refine qg ?_;refine oV ?_;exact w):p:=h w
theorem co (w:q) (h:q→p:=by intro w;(iterate 3 refine rS ?_);(iterate 2 refine rV ?_);(iterate 3 refine rS ?_);(iterate 2 refine rV ?_);exact w):p:=h w
theorem cq (h:p:=by first | assumption | omega | (dsimp only [Row.iV]; omega) | (simp<;>omega) | exact hPre (by omega) | exact hPre | (simp_all; done) | (simp_all; omega)):p:=h
theorem cr (h:p:=by refine ⟨fun h=>?_,fun h=>?_,fun h=>?_⟩<;>first | (cases h; done) | omega | (first | (cases h; done) | exact qi (by omega) | exact u5 (by omega) | exact p9 (by omega) (by assumption) (by assumption) (by omega) | (rw [wN (by omega) (by assumption) (by assumption) (by omega)]; first | exact hA.1 rfl | exact hA.2 rfl) | (rw [xE (by omega) (by assumption) (by assumption) (by omega) (by omega) (by assumption) (by assumption)]; first | (rw [sp (by assumption)]; first | exact hA.1 rfl | exact hA.2 rfl) | (rw [rH (by assumption) (by assumption)]; done) | (rw [sb (by assumption) (by assumption)]; simp_all [Bs]; done)))):p:=h
theorem ct (h:p:=by refine ⟨fun h=>?_,fun h=>?_⟩<;>(first | (cases h; done) | exact qi (by omega) | exact u5 (by omega) | exact p9 (by omega) (by assumption) (by assumption) (by omega) | (rw [wN (by omega) (by assumption) (by assumption) (by omega)]; first | exact hA.1 rfl | exact hA.2 rfl) | (rw [xE (by omega) (by assumption) (by assumption) (by omega) (by omega) (by assumption) (by assumption)]; first | (rw [sp (by assumption)]; first | exact hA.1 rfl | exact hA.2 rfl) | (rw [rH (by assumption) (by assumption)]; done) | (rw [sb (by assumption) (by assumption)]; simp_all [Bs]; done)))):p:=h
theorem cu (h:p:=by first | (rw [(show eB 13 v11=v11 from Sep.fh (i:=0) hS14 rfl 13)]; done) | (rw [(show eB 13 v11=v11 from Sep.fh (i:=0) hS14 rfl 13)]; rfl)):p:=h
theorem cw (h:p:=by (first | omega | (simp<;>omega))):p:=h
theorem cy (h:p:=by (first | omega | (simp only [List.length_append,List.length_cons,List.length_nil,List.length_take] at *; omega))):p:=h
theorem cz (h:p:=by simp only [lO,List.length_append,List.length_cons,List.length_nil,List.length_set,List.length_take,List.length_drop,List.length_replicate]; omega):p:=h
theorem cA (h:p:=by first | omega | (simp<;>omega) | (simp_all; omega)):p:=h
theorem cB (h:p:=by omega):p:=h
theorem cC (h:p:=by assumption):p:=h
theorem cD (h:p:=by rw [← hF]; (first | (rw [hH.2 rfl]; rfl) | (rw [hH.1 rfl,xB]; first | exact (decide_eq_true ⟨by omega,by omega,by omega⟩).symm | (refine (decide_eq_false ?_).symm; rintro ⟨hz1,hz2,hz3⟩; omega)))):p:=h
theorem cE (h:p:=by intro h; first | (cases h; done) | (simp only [] at *; omega) | (refine ⟨?_,?_,?_,by omega,by omega,by omega⟩<;>first | assumption | (simp_all; done))):p:=h
theorem cF (h:p:=by simp only [oW]; first | omega | (simp<;>omega)):p:=h
theorem cG (h:p:=by decide):p:=h
theorem cH (h:p:=by first | (rw [(show eB 5 v4=v4 from Sep.fh (i:=0) hS7 rfl 5)]; done) | (rw [(show eB 5 v4=v4 from Sep.fh (i:=0) hS7 rfl 5)]; rfl)):p:=h
theorem cI (h:p:=by first | (rw [(show eB 3 v3=v3 from Sep.fh (i:=0) hS6 rfl 3)]; done) | (rw [(show eB 3 v3=v3 from Sep.fh (i:=0) hS6 rfl 3)]; rfl)):p:=h
theorem cJ (h:p:=by first | exact hRo | exact pU (P:=fun r:eF=>0<r.steps.l.length∧r.steps.l.length≤12∧r.gU.l.length≤12) hRo cB | exact pU (P:=fun r:eF=>0<r.steps.l.length∧r.steps.l.length≤12∧r.gU.l.length≤12) (pU (P:=fun r:eF=>0<r.steps.l.length∧r.steps.l.length≤12∧r.gU.l.length≤12) hRo cB) cB):p:=h
theorem cK (h:p:=by rw [← hF]; (first | rw [hA.2 rfl] | rw [hA.1 rfl]); (first | rw [hH.1 rfl] | rw [hH.2 rfl]); (first | exact (decide_eq_true ⟨by omega,pk cC⟩).symm | (refine (decide_eq_false ?_).symm; rintro ⟨hz1,rfl⟩; first | omega | (simp_all; done)) | rfl)):p:=h
theorem cL (h:p:=by first | exact (kO (AG (hL.2 rfl))).symm | exact (u1 cB rfl (by rw [← hLL cB]; omega)).symm | exact (kO (hG.2 rfl)).symm | (rw [ua (hG.1 rfl) (.inl rfl) cB rfl (by rw [← hLL cB]; omega) rfl]; simp_all [vw]; done)):p:=h
theorem cM (h:p:=by refine ⟨fun hz=>?_,?_⟩; (first | (exfalso; omega) | exact ⟨by omega,by omega,by omega,HD cC cB⟩); first | exact (kO (hG.2.2 rfl)).symm | exact (u7 (hG.2.1 rfl) cC).symm | exact (u1 cC cC cB).symm | (rw [ua (hG.2.1 rfl) (.inr cC) cC cC cC cC]; simp_all [vw]; done)):p:=h
theorem cN (h:p:=by refine ⟨fun h=>?_,fun h=>?_⟩<;>first | (cases h; done) | (refine ⟨by omega,by omega,by omega,fun h=>?_,by omega⟩; simp_all; done) | exact .inl cB | exact .inr (.inl cB) | exact .inr (.inr (.inl cB)) | (refine .inr (.inr (.inr ⟨by assumption,?_⟩)); simp_all; done) | (refine .inr (.inr (.inr ⟨by assumption,?_⟩)); simp_all; omega)):p:=h
theorem cO (h:p:=by intro h; first | (cases h; done) | (refine ⟨by omega,by omega,by omega,by omega,fun x hx=>?_⟩; obtain ⟨i,hi,rfl⟩:=List.mem_iff_getElem.mp hx; exact hI i hi cB)):p:=h
theorem cP (h:p:=by simp only [lO]; first | omega | (simp<;>omega)):p:=h
theorem cQ (h:p:=by intro h; first | omega | (cases h; done)):p:=h
theorem cR (h:p:=by first | (rw [(show eB 10 v35=v35 from Sep.fh (i:=0) hS38 rfl 10)]; done) | (rw [(show eB 10 v35=v35 from Sep.fh (i:=0) hS38 rfl 10)]; rfl)):p:=h
theorem cS (h:p:=by (first | omega | exact hPle)):p:=h
theorem cT (h:p:=by first | assumption | exact (eR.of_nil cC).symm | (simp_all; done)):p:=h
theorem cU (h:p:=by first | rfl | (cases h4; done) | exact absurd (h7.trans ((Jq hO _ _ _ _ _).trans h8.symm)) (by simp)):p:=h
theorem cV (h:p:=by intro h; first | (cases h; done) | exact ⟨DF hV cB,fun i h=>hJ i h cB⟩):p:=h
theorem cW (h:p:=by intro hz; first | (exfalso; omega) | exact BV cB hA hB cB):p:=h
theorem cX (h:p:=by intro hz; first | (exfalso; omega) | (refine ⟨fun x hx=>?_,?_⟩; (first | exact hR x (hlq▸hx) | (simp at hx)); (first | (dsimp only; omega) | simp))):p:=h
theorem cY (h:p:=by first | (rw [(show eB 5 v47=v47 from Sep.fh (i:=0) hS50 rfl 5)]; done) | (rw [(show eB 5 v47=v47 from Sep.fh (i:=0) hS50 rfl 5)]; rfl)):p:=h
theorem cZ (h:p:=by first | (rw [(show eB 5 v32=v32 from Sep.fh (i:=0) hS35 rfl 5)]; done) | (rw [(show eB 5 v32=v32 from Sep.fh (i:=0) hS35 rfl 5)]; rfl)):p:=h
theorem c3 (h:p:=by first | (rw [(show eB 5 v15=v15 from Sep.fh (i:=0) hS18 rfl 5)]; done) | (rw [(show eB 5 v15=v15 from Sep.fh (i:=0) hS18 rfl 5)]; rfl)):p:=h
theorem c6 (h:p:=by first | (rw [(show eB 3 v12=v12 from Sep.fh (i:=0) hS15 rfl 3)]; done) | (rw [(show eB 3 v12=v12 from Sep.fh (i:=0) hS15 rfl 3)]; rfl)):p:=h
theorem c7 (h:p:=by refine ⟨fun h=>?_,fun h=>?_⟩<;>first | (cases h; done) | exact C6 cB | exact HE cB cC cC):p:=h
theorem c8 (h:p:=by first | omega | (simp; done) | (simp<;>omega)):p:=h
theorem c9 (h:p:=by first | (rw [(show eB 8 v47=v47 from Sep.fh (i:=3) hS50 rfl 8)]; done) | (rw [(show eB 8 v47=v47 from Sep.fh (i:=3) hS50 rfl 8)]; rfl)):p:=h
theorem da (h:p:=by exact hTu):p:=h
theorem db (h:p:=by first | (rw [(show eB 5 v3=v3 from Sep.fh (i:=2) hS42 rfl 5),(show eB 6 v17=v17 from Sep.fh (i:=1) hS42 rfl 6),(show eB 7 v40=v40 from Sep.fh (i:=0) hS42 rfl 7)]; done) | (rw [(show eB 5 v3=v3 from Sep.fh (i:=2) hS42 rfl 5),(show eB 6 v17=v17 from Sep.fh (i:=1) hS42 rfl 6),(show eB 7 v40=v40 from Sep.fh (i:=0) hS42 rfl 7)]; rfl)):p:=h
theorem dc (h:p:=by first | (rw [(show eB 5 v3=v3 from Sep.fh (i:=2) hS34 rfl 5),(show eB 6 v17=v17 from Sep.fh (i:=1) hS34 rfl 6),(show eB 7 v31=v31 from Sep.fh (i:=0) hS34 rfl 7)]; done) | (rw [(show eB 5 v3=v3 from Sep.fh (i:=2) hS34 rfl 5),(show eB 6 v17=v17 from Sep.fh (i:=1) hS34 rfl 6),(show eB 7 v31=v31 from Sep.fh (i:=0) hS34 rfl 7)]; rfl)):p:=h
theorem de (h:p:=by first | decide | (simp; done)):p:=h
theorem dg (h:p:=by exact hKu):p:=h
theorem dh (h:p:=by exact hKd):p:=h
theorem di (h:p:=by first | exact (Bq cB).symm | exact (C8 cB cC cC).symm):p:=h
theorem dj (h:p:=by refine ⟨fun h=>?_,fun h=>?_⟩<;>first | (cases h; done) | (rw [← hI]; first | exact Av cC cC cC | exact AQ cC cC cC cC | exact BZ cB)):p:=h
theorem dk (h:p:=by exact hT):p:=h
theorem dl (h:p:=by first | (rw [(show eB 11 v30=v30 from Sep.fh (i:=0) hS34 rfl 11)]; done) | (rw [(show eB 11 v30=v30 from Sep.fh (i:=0) hS34 rfl 11)]; rfl)):p:=h
theorem dm (h:p:=by first | (rw [(show eB 8 v47=v47 from Sep.fh (i:=3) hS109 rfl 8)]; done) | (rw [(show eB 8 v47=v47 from Sep.fh (i:=3) hS109 rfl 8)]; rfl)):p:=h
theorem dn (h:p:=by first | (rw [(show eB 4 v5=v5 from Sep.fh (i:=0) hS8 rfl 4)]; done) | (rw [(show eB 4 v5=v5 from Sep.fh (i:=0) hS8 rfl 4)]; rfl)):p:=h
theorem dp (h:p:=by simp [jP,jX,jM,lh,wg]):p:=h
theorem dq (h:p:=by first | (rw [(show eB 5 v3=v3 from Sep.fh (i:=1) hS28 rfl 5),(show eB 6 v26=v26 from Sep.fh (i:=0) hS28 rfl 6)]; done) | (rw [(show eB 5 v3=v3 from Sep.fh (i:=1) hS28 rfl 5),(show eB 6 v26=v26 from Sep.fh (i:=0) hS28 rfl 6)]; rfl)):p:=h
theorem dr (h:p:=by first | (rw [(show eB 5 v3=v3 from Sep.fh (i:=1) hS20 rfl 5),(show eB 6 v17=v17 from Sep.fh (i:=0) hS20 rfl 6)]; done) | (rw [(show eB 5 v3=v3 from Sep.fh (i:=1) hS20 rfl 5),(show eB 6 v17=v17 from Sep.fh (i:=0) hS20 rfl 6)]; rfl)):p:=h
theorem dt (h:p:=by simp only [FZ]):p:=h
theorem du (h:p:=by first | (refine ⟨by simp,?_⟩; simp; done) | exact ⟨by omega,fun x hx=>hRo x (by simp_all)⟩):p:=h
theorem dv (h:p:=by simp):p:=h
theorem dw (h:p:=by first | exact ⟨by omega,fun y hy=>.inl hy⟩ | exact ⟨by simp,fun y hy=>(List.mem_append.mp hy).imp id (fun hy=>by rw [List.mem_singleton.mp hy]; exact wG cC)⟩):p:=h
theorem dx (h:p:=by first | (rw [(show eB 13 v33=v33 from Sep.fh (i:=0) hS35 rfl 13)]; done) | (rw [(show eB 13 v33=v33 from Sep.fh (i:=0) hS35 rfl 13)]; rfl)):p:=h
theorem dy (h:p:=by first | (rw [(show eB 11 v47=v47 from Sep.fh (i:=0) hS49 rfl 11)]; done) | (rw [(show eB 11 v47=v47 from Sep.fh (i:=0) hS49 rfl 11)]; rfl)):p:=h
theorem dz (h:p:=by first | (rw [(show eB 10 v67=v67 from Sep.fh (i:=0) hS69 rfl 10)]; done) | (rw [(show eB 10 v67=v67 from Sep.fh (i:=0) hS69 rfl 10)]; rfl)):p:=h
theorem dA (h:p:=by first | (rw [(show eB 10 v54=v54 from Sep.fh (i:=0) hS56 rfl 10)]; done) | (rw [(show eB 10 v54=v54 from Sep.fh (i:=0) hS56 rfl 10)]; rfl)):p:=h
theorem dB (h:p:=by first | (rw [(show eB 6 v13=v13 from Sep.fh (i:=0) hS30 rfl 6)]; done) | (rw [(show eB 6 v13=v13 from Sep.fh (i:=0) hS30 rfl 6)]; rfl)):p:=h
theorem dC (h:p:=by first | (rw [(show eB 6 v13=v13 from Sep.fh (i:=0) hS16 rfl 6)]; done) | (rw [(show eB 6 v13=v13 from Sep.fh (i:=0) hS16 rfl 6)]; rfl)):p:=h
theorem dD (h:p:=by first | (rw [(show eB 5 v58=v58 from Sep.fh (i:=0) hS60 rfl 5)]; done) | (rw [(show eB 5 v58=v58 from Sep.fh (i:=0) hS60 rfl 5)]; rfl)):p:=h
theorem dE (h:p:=by first | (rw [(show eB 5 v43=v43 from Sep.fh (i:=0) hS45 rfl 5)]; done) | (rw [(show eB 5 v43=v43 from Sep.fh (i:=0) hS45 rfl 5)]; rfl)):p:=h
theorem dF (h:p:=by first | (rw [(show eB 5 v26=v26 from Sep.fh (i:=0) hS28 rfl 5)]; done) | (rw [(show eB 5 v26=v26 from Sep.fh (i:=0) hS28 rfl 5)]; rfl)):p:=h
theorem dG (h:p:=by first | (rw [(show eB 5 v12=v12 from Sep.fh (i:=0) hS14 rfl 5)]; done) | (rw [(show eB 5 v12=v12 from Sep.fh (i:=0) hS14 rfl 5)]; rfl)):p:=h
theorem dH (h:p:=by first | (rw [(show eB 4 v13=v13 from Sep.fh (i:=0) hS15 rfl 4)]; done) | (rw [(show eB 4 v13=v13 from Sep.fh (i:=0) hS15 rfl 4)]; rfl)):p:=h
theorem dI (h:p:=by first | (rw [(show eB 3 v30=v30 from Sep.fh (i:=0) hS32 rfl 3)]; done) | (rw [(show eB 3 v30=v30 from Sep.fh (i:=0) hS32 rfl 3)]; rfl)):p:=h
theorem dJ (h:p:=by first | (rw [(show eB 3 v14=v14 from Sep.fh (i:=0) hS16 rfl 3)]; done) | (rw [(show eB 3 v14=v14 from Sep.fh (i:=0) hS16 rfl 3)]; rfl)):p:=h
theorem dK (h:p:=by first | (rw [(show eB 6 ov8=ov8 from Sep.fh (i:=0) hS6 rfl 6)]; done) | (rw [(show eB 6 ov8=ov8 from Sep.fh (i:=0) hS6 rfl 6)]; rfl)):p:=h
theorem dL (h:p:=by first | (rw [(show eB 5 v3=v3 from Sep.fh (i:=0) hS6 rfl 5)]; done) | (rw [(show eB 5 v3=v3 from Sep.fh (i:=0) hS6 rfl 5)]; rfl)):p:=h
theorem dM (h:p:=by (intro i h h2; omega)):p:=h
theorem dN (h:p:=by first | assumption | (refine ⟨by assumption,by assumption,?_,?_,?_⟩<;>first | assumption | (simp_all; done))):p:=h
theorem dP (h:p:=by intro hz; first | (cases hz; done) | (simp_all; done)):p:=h
theorem dQ (h:p:=by refine ⟨fun h=>?_,fun h=>?_⟩<;>first | (cases h; done) | exact y7 cB | exact Bk cC cC):p:=h
theorem dR (h:p:=by exact pU hTu (wG cC)):p:=h
theorem dS (h:p:=by first | (rw [(by assumption:look _ _=some _)]; rfl) | (rw [(by assumption:look _ _=none)]; rfl)):p:=h
theorem dT (h:p:=by intro h; first | assumption | (cases h; done)):p:=h
theorem dU (h:p:=by refine ⟨fun h=>?_,fun h=>?_,fun h=>?_⟩<;>first | (cases h; done) | assumption | rfl):p:=h
theorem dV (h:p:=by rw [← hI]; first | (rw [vf cC cC cC]; rfl) | (rw [vc cB]; rfl)):p:=h
theorem dW (h:p:=by first | assumption | omega | exact BJ cC q1 (hC89 cB) hD hR hN cB cB):p:=h
theorem dX (h:p:=by first | (refine ⟨by simp,?_⟩; simp; done) | exact ⟨hR,by omega⟩):p:=h
theorem dY (h:p:=by first | omega | (simp<;>omega)):p:=h
theorem dZ (h:p:=by first | rfl | exact (eR.of_nil cC).symm | (simp_all; done)):p:=h
theorem d6 (h:p:=by (first | omega | (simp only [List.length_set]; omega))):p:=h
theorem d7 (h:p:=by first | omega | (simp; done) | (simp_all; omega)):p:=h
theorem d8 (h:p:=by exact pI (P:=fun y:Bool=>y=true) hT rfl):p:=h
end
end Go.Sx
