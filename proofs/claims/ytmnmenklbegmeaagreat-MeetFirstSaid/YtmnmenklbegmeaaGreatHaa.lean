/- Proves rules for the walks and their soundness. -/
import GoSem.Core.Code
import GoSem.Core.Program
import GoSem.Core.View
import Derived.Calls
import Derived.Laws.Append
import Derived.Laws.Tables
import Derived.Laws.StructEq
import Derived.Laws.IdiomCopy
import Derived.Laws.Slices
import Derived.Laws.Rows
import Derived.Laws.Cells
import Derived.Laws.CopyRow
set_option linter.all false
namespace Go.Sx
def abs:=@Nat.le_refl
def acl:=@Nat.eq_of_beq_eq_true
def adc:=@List.getElem_mem
def aig:=@Int.toNat_of_nonneg
def alc:=@List.mem_of_getElem?
def alt:=@List.getElem?_eq_some_iff
def ane:=@Nat.lt_of_lt_of_le
def anf:=@Nat.ble_eq
def ang:=@Nat.zero_le
def anh:=@Nat.le_trans
def ani:=@Option.isSome_iff_exists
def anj:=@List.mem_map
def ank:=@List.mem_cons
def anl:=@Nat.mul_le_mul_right
def anm:=@List.mem_append
def ann:=@List.eq_nil_of_length_eq_zero
def ano:=@Array.getElem?_eq_some_iff
def anp:=@List.mem_cons_of_mem
def anq:=@List.getElem?_of_mem
def anr:=@List.getElem?_eq_getElem
def ans:=@Nat.lt_or_ge
def ant:=@List.mem_iff_getElem
def anu:=@Nat.le_of_ble_eq_true
def anv:=@Nat.ne_of_beq_eq_false
def anw:=@List.pairwise_cons
def anx:=@List.map_eq_nil_iff
def anz:=@Nat.lt_succ_iff_lt_or_eq
def anA:=@List.take_of_length_le
def anB:=@List.getElem_of_mem
def anC:=@List.mem_cons_self
def anD:=@List.all_eq_true
def anE:=@Nat.lt_trichotomy
def anF:=@Nat.le_succ
def anG:=@List.length_eq_one_iff
def anH:=@List.pairwise_append
def anI:=@Nat.eq_zero_or_pos
def anJ:=@Nat.lt_or_gt_of_ne
def anK:=@List.pairwise_iff_getElem
def anL:=@List.mem_of_mem_take
def anM:=@List.map_congr_left
def anN:=@List.mem_append_left
def anO:=@List.mem_filterMap
def anP:=@Array.mem_toList_iff
def anQ:=@Int.eq_ofNat_of_zero_le
def anR:=@List.ext_getElem?
def anS:=@Array.mem_of_getElem?
def anT:=@Nat.lt_succ_self
def anU:=@List.mem_or_eq_of_mem_set
def anV:=@List.nodup_cons
def anW:=@List.mem_take_iff_getElem
def anX:=@List.mem_append_right
def anY:=@List.eraseIdx_sublist
def anZ:=@List.length_set
def an0:=@List.length_append
inductive sg where
 |nil
 |exact(n:Nat)
 |oo
 |qJ
 deriving DecidableEq,Inhabited
inductive AV where
 |undef
 |bool (b:Bool)
 |int (k:IntKind) (n:Int)
 |str (s:List UInt8)
 |oh
 |ip (cells:List AV) (off:Nat) (sn:Bool)
 |la (d off:Nat)
 |ptr (b g i off:Nat)
 |sl (xs:List (List AV)) (cap:sg)
 |hs (b g off len:Nat)
 |ow
 |fm (es:List (AV×AV)) (sn:Bool)
 |hm (b:Nat)
 |mH (f:Nat) (first cap:List AV)
 |pC
 |agg (cells:List AV)
 |mw (vs:List AV)
 deriving Inhabited
section force
variable {β:Type}
@[inline] def fB(b:Bool)(k:Bool->β) : β:=match b with
  |true=>k true
  |false=>k false
@[inline] def fN(n:Nat)(k:Nat->β) : β:=match n with
  |0=>k 0
  |m+1=>k (m+1)
@[inline] def fI(n:Int)(k:Int->β) : β:=match n with
  |.ofNat m=>fN m λm=>k (.ofNat m)
  |.negSucc m=>fN m λm=>k (.negSucc m)
def Ev{α:Type}:List α->(List α->β)->β
 |[],k=>k []
 |a::l,k=>Ev l λl=>k (a::l)
def f1(v:AV)(k:AV->β) : β:=match v with
 |.bool b=>fB b λb=>k (.bool b)
 |.int kd n=>fI n λn=>k (.int kd n)
 |.str s=>Ev s λs=>k (.str s)
 |.ip c o s=>fN o λo=>fB s λs=>k (.ip c o s)
 |.la d o=>fN o λo=>k (.la d o)
 |.ptr b g i o=>fN b λb=>fN g λg=>fN i λi=>fN o λo=>k (.ptr b g i o)
 |.hs b g o l=>fN b λb=>fN g λg=>fN o λo=>fN l λl=>k (.hs b g o l)
 |.hm b=>fN b λb=>k (.hm b)
 |.sl a c=>Ev a λa=>k (.sl a c)
 |v=>k v
def fL:List AV->(List AV->β)->β
 |[],k=>k []
 |a::l,k=>f1 a λa=>fL l λl=>k (a::l)
def Zf:List (List AV)->(List (List AV)->β)->β
 |[],k=>k []
 |a::l,k=>fL a λa=>Zf l λl=>k (a::l)
end force
section forceEq
variable {β:Type}
@[simp] theorem Ee(b:Bool)(k:Bool->β):fB b k=k b:=by cases b<;>rfl
@[simp] theorem sj(b:Nat)(k:Nat->β):fN b k=k b:=by cases b<;>rfl
@[simp] theorem Ay(b:Int)(k:Int->β):fI b k=k b:=by cases b<;>simp[fI]
@[simp] theorem u3{α:Type}(l:List α)(k:List α->β):Ev l k=k l:=by
  induction l generalizing k with
  |nil=>rfl
  |cons a l ih=>simp[Ev,ih]
@[simp] theorem anb(v:AV)(k:AV->β):f1 v k=k v:=by cases v<;>simp[f1]
@[simp] theorem IV(l:List AV)(k:List AV->β):fL l k=k l:=by
  induction l generalizing k with
  |nil=>rfl
  |cons a l ih=>simp[fL,ih]
@[simp] theorem ana(l:List (List AV))(k:List (List AV)->β):Zf l k=k l:=by
  induction l generalizing k with
  |nil=>rfl
  |cons a l ih=>simp[Zf,ih]
end forceEq
inductive nR where
 |lU (gen esz:Nat) (xs:List (List AV))
 |map (es:List (AV×AV×Nat)) (clock:Nat)
 deriving Inhabited
inductive Tr(α:Type) where
 |leaf
 |node (l:Tr α) (v:Option α) (r:Tr α)
namespace Tr
variable {α β:Type}
def get:Tr α->Nat->Option α
 |.leaf,_=>none
 |.node l v r,n=>match n with
  |0=>v
  |m+1=>match Nat.beq (m % 2) 0 with
   |true=>get l (m / 2)
   |false=>get r (m / 2)
def ins(x : α):Nat->Nat->Tr α->(Tr α->β)->β
 |0,_,t,k=>k t
 |f+1,n,.leaf,k=>match n with
  |0=>k (.node .leaf (some x) .leaf)
  |m+1=>match Nat.beq (m % 2) 0 with
   |true=>ins x f (m / 2) .leaf λl=>k (.node l none .leaf)
   |false=>ins x f (m / 2) .leaf λr=>k (.node .leaf none r)
 |f+1,n,.node l v r,k=>match n with
  |0=>k (.node l (some x) r)
  |m+1=>match Nat.beq (m % 2) 0 with
   |true=>ins x f (m / 2) l λl=>k (.node l v r)
   |false=>ins x f (m / 2) r λr=>k (.node l v r)
end Tr
structure aT where
 tr:Tr nR
 size:Nat
 lo:Nat
 ca:List (Nat×List AV)
def aT.empty:aT:=⟨.leaf,0,0,[]⟩
def aT.get(h:aT)(b:Nat):Option nR:=match Nat.ble h.lo b with
 |true=>h.tr.get b
 |false=>none
def fO{β:Type}(o:nR)(k:nR->β) : β:=match o with
 |.lU g z a=>fN g λg=>fN z λz=>Zf a λa=>k (.lU g z a)
 |.map b c=>fN c λc=>Ev b λb=>k (.map b c)
@[simp] theorem YX{β:Type}(o:nR)(k:nR->β):fO o k=k o:=by cases o<;>simp[fO]
def aT.set(h:aT)(b:Nat)(o:nR):aT:=fO o λo=>h.tr.ins o (b+1) b λt=>⟨t,h.size,h.lo,h.ca⟩
def aT.push(h:aT)(o:nR):aT:=fO o λo=>fN (h.size+1) λs=>h.tr.ins o s h.size λt=>⟨t,s,h.lo,h.ca⟩
def fH{β:Type}(h:aT)(k:aT->β) : β:=match h with
 |⟨t,s,l,m⟩=>k ⟨t,s,l,m⟩
@[simp] theorem F6{β:Type}(h:aT)(k:aT->β):fH h k=k h:=rfl
abbrev o1:=List (Nat×List AV)
def nE:o1->Nat->Option (List AV)
 |[],_=>none
 |p::e,t=>match Nat.beq t p.1 with
  |true=>some p.2
  |false=>nE e t
def Ab:o1->Nat->List AV->o1
 |[],_,_=>[]
 |p::e,t,v=>match Nat.beq t p.1 with
  |true=>(t,v)::e
  |false=>p::Ab e t v
abbrev Env:=List (Nat×AV)
def p3:Env->Nat->AV
 |[],_=>.undef
 |p::e,t=>match Nat.beq t p.1 with
  |true=>p.2
  |false=>p3 e t
def OI(e:Env)(t:Nat)(v:AV):Env:=(t,v)::e
def AV.CO(t:Nat):AV->Bool
 |.la d o=>Nat.beq t d&&Nat.beq o 0
 |.mw _=>false
 |_=>true
def keep(t:Nat)(v:AV):AV:=match v.CO t with
 |true=>v
 |false=>.undef
def proj(live:List Nat)(e:Env):Env:=live.map λt=>(t,keep t (p3 e t))
def pt:List Nat->o1->o1
 |[],_=>[]
 |t::l,m=>match nE m t with
  |some c=>(t,c)::pt l m
  |none=>pt l m
def LA{β:Type}(t:Nat)(k:AV->β):Env->β
 |[]=>k .undef
 |(a,v)::e=>match Nat.beq t a with
  |true=>k v
  |false=>LA t k e
def Gc{β:Type}:List Nat->Env->(Env->β)->β
 |[],_,k=>k []
 |t::l,e,k=>LA t (λv=>match v.CO t with
  |true=>Gc l e λr=>k ((t,v)::r)
  |false=>Gc l e λr=>k ((t,.undef)::r)) e
def De{β:Type}:List Nat->o1->(o1->β)->β
 |[],_,k=>k []
 |t::l,m,k=>match nE m t with
  |some c=>De l m λr=>k ((t,c)::r)
  |none=>De l m k
theorem U9{β:Type}(t:Nat)(k:AV->β)(e:Env):LA t k e=k (p3 e t):=by induction e<;>grind[LA,p3]
@[simp] theorem akQ{β:Type}(l:List Nat)(e:Env)(k:Env->β):Gc l e k=k (proj l e):=by
  induction l generalizing k with
  |nil=>rfl
  |cons t l ih=>
   simp only[Gc,U9,proj,List.map_cons,keep];cases h:(p3 e t).CO t;·exact ih _
   ·exact ih _
@[simp] theorem akC{β:Type}(l:List Nat)(m:o1)(k:o1->β):De l m k=k (pt l m):=by
  induction l generalizing k with
  |nil=>rfl
  |cons t l ih=>
   simp only[De,pt];cases h:nE m t;·exact ih _
   ·exact ih _
inductive TK where
 |bool|int (k:IntKind)|str|ptr|slice (elem:Nat)|array (len elem:Nat)|map (key elem:Nat)|struct (fs:List (Nat×Nat))|func|other
structure TI where
 kind:TK
 agg:Bool
 size:Nat
 bytes:Nat
 zero:List AV
 flat:Bool
 sc:List TK
def MQ:Value->AV
 |.bool b=>.bool b
 |.int k n=>.int k n
 |.string s=>.str s.data.toList
 |.pointer none=>.oh
 |.slice none 0 0=>.sl [] .nil
 |.map none=>.ow
 |.nilFunc=>.pC
 |_=>.undef
def okS:Value->Bool
 |.bool _|.int _ _|.string _|.pointer none|.slice none 0 0|.map none|.nilFunc=>true
 |_=>false
def cv:Value->AV
 |.agg cs=>match cs.toList.all okS with
  |true=>.agg (cs.toList.map MQ)
  |false=>.undef
 |v=>MQ v
def me(e:Env):Operand->AV
 |.tmp t=>p3 e t
 |.const v=>cv v
 |.global _=>.undef
 |.func f=>.mH f [] []
def AV.oq:AV->Bool
 |.undef|.la _ _|.agg _|.mw _=>false
 |_=>true
def AV.qj:AV->Bool
 |.bool _|.int _ _|.str _|.oh|.ip _ _ false|.ow|.fm _ false|.pC=>true
 |.sl _ .qJ=>false
 |.sl _ _=>true
 |_=>false
def AV.Gb:AV->Bool
 |.mH _ a c=>a.all AV.qj&&c.all AV.qj
 |v=>v.qj
def AV.int?:AV->Option (IntKind×Int)
 |.int k n=>some (k,n)
 |_=>none
def AV.str?:AV->Option (List UInt8)
 |.str s=>some s
 |_=>none
def AV.bool?:AV->Option Bool
 |.bool s=>some s
 |_=>none
def AV.agg?:AV->Option (List AV)
 |.agg s=>some s
 |_=>none
def cellsOf(ti:TI)(v:AV):Option (List AV) :=
 match ti.agg with
 |true=>match v.agg? with
  |some l=>match Nat.beq l.length ti.size with
   |true=>some l
   |false=>none
  |none=>none
 |false=>match v.oq&&Nat.beq ti.size 1 with
  |true=>some [v]
  |false=>none
def Fv(n:Nat)(r:List AV):Option AV:=match Nat.beq r.length n with
 |true=>some (.agg r)
 |false=>none
def part(ti:TI)(cs:List AV)(o:Nat):Option AV:=match ti.agg with
 |true=>Ev ((cs.drop o).take ti.size) (Fv ti.size)
 |false=>cs[o]?
def sJ(cs:List AV)(o:Nat)(new:List AV):Option (List AV) :=
 match Nat.ble (o+new.length) cs.length with
 |true=>Ev (cs.take o++new++cs.drop (o+new.length)) some
 |false=>none
structure nu where
 T:Nat->Option TI
def MC:Int->Int->Bool
 |.ofNat a,.ofNat b=>Nat.beq a b
 |.negSucc a,.negSucc b=>Nat.beq a b
 |_,_=>false
def IX:Int->Int->Bool
 |.ofNat a,.ofNat b=>Nat.ble a b
 |.negSucc a,.negSucc b=>Nat.ble b a
 |.negSucc _,.ofNat _=>true
 |.ofNat _,.negSucc _=>false
def R7:Int->Int->Int
 |.ofNat a,.ofNat b=>.ofNat (Nat.add a b)
 |.ofNat a,.negSucc b=>match Nat.ble (Nat.succ b) a with
  |true=>.ofNat (Nat.sub a (Nat.succ b))
  |false=>.negSucc (Nat.sub b a)
 |.negSucc b,.ofNat a=>match Nat.ble (Nat.succ b) a with
  |true=>.ofNat (Nat.sub a (Nat.succ b))
  |false=>.negSucc (Nat.sub b a)
 |.negSucc a,.negSucc b=>.negSucc (Nat.succ (Nat.add a b))
def R0:Int->Int
 |.ofNat 0=>.ofNat 0
 |.ofNat (n+1)=>.negSucc n
 |.negSucc n=>.ofNat (n+1)
def zy(k:IntKind)(n:Int):Int:=match k,n with
 |.i64,.ofNat a=>match Nat.ble a 4611686018427387904 with
  |true=>.ofNat a
  |false=>IntKind.wrap .i64 (.ofNat a)
 |.i64,.negSucc a=>match Nat.ble a 4611686018427387904 with
  |true=>.negSucc a
  |false=>IntKind.wrap .i64 (.negSucc a)
 |k,n=>k.wrap n
def U2:IntKind->Nat
 |.i8=>0
 |.i16=>1
 |.i32=>2
 |.i64=>3
 |.u8=>4
 |.u16=>5
 |.u32=>6
 |.u64=>7
def ua(a b:IntKind):Bool:=Nat.beq (U2 a) (U2 b)
theorem wS(a b:IntKind):ua a b=true↔a=b:=by cases a<;>cases b<;>simp[ua,U2]
def Cl(k:IntKind)(a:Int)(y:AV):Option Bool:=match y.int? with
 |some (k',b)=>match ua k k' with
  |true=>some (MC a b)
  |false=>none
 |none=>none
def GC(a:List UInt8)(y:AV):Option Bool:=match y.str? with
 |some b=>some (a==b)
 |none=>none
def Fs(a:Bool)(y:AV):Option Bool:=match y.bool? with
 |some b=>some (a==b)
 |none=>none
def wx(_:AV):Option Bool:=none
def qV:AV->AV->Option Bool
 |.bool a=>Fs a
 |.int k a=>Cl k a
 |.str a=>GC a
 |_=>wx
def pX:List AV->List AV->Option Bool
 |[],[]=>some true
 |a::x,b::y=>match qV a b with
  |some true=>pX x y
  |some false=>match pX x y with
   |some _=>some false
   |none=>none
  |none=>none
 |_,_=>none
def Jz(x:List AV)(y:AV):Option Bool:=match y.agg? with
 |some y=>pX x y
 |none=>none
def pZ(x y:AV):Option Bool:=match x.agg? with
 |some l=>Jz l y
 |none=>qV x y
def findKey(k:AV):List (AV×AV×Nat)->Nat->Option (Option (Nat×AV))
 |[],_=>some none
 |(k',v,_)::es,i=>match pZ k k' with
  |some true=>some (some (i,v))
  |some false=>findKey k es (i+1)
  |none=>none
def xF(k:AV):List (AV×AV)->Option (Option AV)
 |[]=>some none
 |(k',v)::es=>match pZ k k' with
  |some true=>some (some v)
  |some false=>xF k es
  |none=>none
def bytesLess:List UInt8->List UInt8->Bool
 |_,[]=>false
 |[],_::_=>true
 |a::x,b::y=>a<b||(a==b&&bytesLess x y)
theorem u5(a b:Int):MC a b=(a==b):=by apply Bool.eq_iff_iff.2;cases a<;>cases b<;>simp only[MC,Nat.beq_eq,beq_iff_eq,Int.ofNat_eq_natCast,Int.negSucc_eq,Bool.false_eq_true,false_iff]<;>omega
theorem CV(a b:Int):IX a b=decide (a<=b):=by apply Bool.eq_iff_iff.2;cases a<;>cases b<;>simp only[IX,Nat.ble_eq,decide_eq_true_eq,Int.ofNat_eq_natCast,Int.negSucc_eq,Bool.false_eq_true,false_iff,true_iff]<;>omega
theorem JS(a b:Int):R7 a b=a+b:=by
 cases a<;>cases b<;>simp only[R7,Nat.add_eq,Nat.sub_eq];·rfl
 ·split;·rename_i h;simp only[Nat.ble_eq]at h;grind
  ·rename_i h;have h:=(Bool.not_eq_true _).symm.mp h;simp only[Nat.ble_eq]at h;grind
 ·split;·rename_i h;simp only[Nat.ble_eq]at h;grind
  ·rename_i h;have h:=(Bool.not_eq_true _).symm.mp h;simp only[Nat.ble_eq]at h;grind
 rfl
theorem JU(a:Int):R0 a = -a:=by rcases a with(_|n)|n<;>simp only[R0,Int.ofNat_eq_natCast,Int.negSucc_eq]<;>omega
theorem wU(n:Int)(h1 : -9223372036854775808<=n)(h2:n<=9223372036854775807):IntKind.wrap .i64 n=n:=by grind[IntKind.wrap,IntKind.bits,IntKind.signed]
theorem zd(k:IntKind)(n:Int):zy k n=k.wrap n:=by
 unfold zy;split
 ·split;·rename_i h;simp only[Nat.ble_eq]at h;grind[wU]
  ·rfl
 ·split;·rename_i h;simp only[Nat.ble_eq]at h;grind[wU]
  ·rfl
 ·rfl
def ug(k:IntKind)(n:Int):Option AV:=some (.int k n)
def Hm(b:Bool):Option AV:=some (.bool b)
def zF:Bool->Option AV
 |true=>some (.bool false)
 |false=>some (.bool true)
abbrev IB:=IntKind->Int->Int->Option AV
def RJ:IB:=λk x y=>fI (zy k (R7 x y)) (ug k)
def RT:IB:=λk x y=>fI (zy k (R7 x (R0 y))) (ug k)
def ZC:IB:=λk x y=>fI (zy k (x*y)) (ug k)
def Y5:IB:=λk x y=>if y=0 then none else fI (zy k (x.tdiv y)) (ug k)
def Zp:IB:=λk x y=>if y=0 then none else fI (x.tmod y) (ug k)
def R4:IB:=λ_ x y=>fB (MC x y) Hm
def Rx:IB:=λ_ x y=>fB (MC x y) zF
def RY:IB:=λ_ x y=>fB (IX y x) zF
def Rv:IB:=λ_ x y=>fB (IX x y) Hm
def Sm:IB:=λ_ x y=>fB (IX x y) zF
def Ri:IB:=λ_ x y=>fB (IX y x) Hm
def aaN:IB:=λk x y=>fI (k.wrap (BitVec.ofInt k.bits x &&& BitVec.ofInt k.bits y).toNat) (ug k)
def aed:IB:=λk x y=>fI (k.wrap (BitVec.ofInt k.bits x ||| BitVec.ofInt k.bits y).toNat) (ug k)
def IU:IB:=λk x y=>fI (k.wrap (BitVec.ofInt k.bits x ^^^ BitVec.ofInt k.bits y).toNat) (ug k)
def MZ:IB:=λk x y=>fI (k.wrap (BitVec.ofInt k.bits x &&& ~~~ BitVec.ofInt k.bits y).toNat) (ug k)
def agI:IB:=λk x y=>if y<0 then none else fI (zy k (x*2 ^ (min y.toNat k.bits))) (ug k)
def ahv:IB:=λk x y=>if y<0 then none else fI (x.fdiv (2 ^ (min y.toNat k.bits))) (ug k)
def afN:IB:=λ_ _ _=>none
def AU:BinOp->Bool
 |.shl|.shr=>true
 |_=>false
def qh:BinOp->IB
 |.add=>RJ
 |.sub=>RT
 |.mul=>ZC
 |.quo=>Y5
 |.rem=>Zp
 |.eql=>R4
 |.neq=>Rx
 |.lss=>RY
 |.leq=>Rv
 |.gtr=>Sm
 |.geq=>Ri
 |.and=>aaN
 |.or=>aed
 |.xor=>IU
 |.andNot=>MZ
 |.shl=>agI
 |.shr=>ahv
def Jc(op:BinOp)(x y:List UInt8):Option AV :=
 match op with
 |.add=>match Nat.ble (x.length+y.length) 1099511627776 with
  |true=>Ev (x++y) λs=>some (.str s)
  |false=>none
 |.eql=>some (.bool (x==y))
 |.neq=>some (.bool !(x==y))
 |.lss=>some (.bool (bytesLess x y))
 |.leq=>some (.bool (bytesLess x y||x==y))
 |.gtr=>some (.bool !(bytesLess x y||x==y))
 |.geq=>some (.bool !(bytesLess x y))
 |_=>none
def VH:AV->Option Bool
 |.oh=>some true
 |.ptr ..=>some false
 |.ip ..=>some false
 |.la ..=>some false
 |_=>none
def Vk:AV->Option Bool
 |.sl _ .nil=>some true
 |.sl ..=>some false
 |.hs ..=>some false
 |_=>none
def Vd:AV->Option Bool
 |.ow=>some true
 |.hm _=>some false
 |.fm ..=>some false
 |_=>none
def Vp:AV->Option Bool
 |.pC=>some true
 |.mH ..=>some false
 |_=>none
def AK(f:AV->Option Bool)(x y:AV):Option Bool:=match f x,f y with
 |some true,some b=>some b
 |some false,some true=>some false
 |_,_=>none
def yN:TK->AV->Bool
 |.int kd,.int k _=>ua kd k
 |.str,.str _=>true
 |.bool,.bool _=>true
 |_,_=>false
def Bq:AV->Bool
 |.bool _|.int ..|.str _=>true
 |_=>false
def fitAll:List TK->List AV->Bool
 |[],[]=>true
 |t::ts,a::l=>yN t a&&fitAll ts l
 |_,_=>false
def NZ(ti:TI)(x y:AV):Option Bool:=match ti.flat,x.agg?,y.agg? with
 |true,some a,some b=>match Nat.beq a.length ti.size&&Nat.beq b.length ti.size&&fitAll ti.sc a with
  |true=>pX a b
  |false=>none
 |_,_,_=>none
def T8(x y:AV):Option Bool:=match x.bool?,y.bool? with
 |some a,some b=>some (a==b)
 |_,_=>none
def Cp(ti:TI)(x y:AV):Option Bool:=match ti.kind with
 |.bool=>T8 x y
 |.ptr=>AK VH x y
 |.slice _=>AK Vk x y
 |.map _ _=>AK Vd x y
 |.func=>AK Vp x y
 |.struct _=>NZ ti x y
 |.array _ _=>NZ ti x y
 |_=>none
def C9(C:nu)(op:BinOp)(t:Nat)(x y:AV):Option AV:=match C.T t with
 |none=>none
 |some ti=>match op with
  |.eql=>match Cp ti x y with
   |some b=>some (.bool b)
   |none=>none
  |.neq=>match Cp ti x y with
   |some b=>zF b
   |none=>none
  |_=>none
def NT(op:BinOp)(p:IntKind×Int)(y:AV):Option AV:=match y.int? with
 |some (k,b)=>match ua p.1 k||AU op with
  |true=>qh op p.1 p.2 b
  |false=>none
 |none=>none
def L2(op:BinOp)(a:List UInt8)(y:AV):Option AV:=match y.str? with
 |some b=>Jc op a b
 |none=>none
def binOp(C:nu)(op:BinOp)(t:Nat)(x y:AV):Option AV:=match x.int? with
 |some p=>NT op p y
 |none=>match x.str? with
  |some a=>L2 op a y
  |none=>C9 C op t x y
def unOp(op:UnOp)(x:AV):Option AV:=match op with
 |.not=>match x.bool? with
  |some b=>zF b
  |none=>none
 |.neg=>match x.int? with
  |some (k,n)=>fI (zy k (R0 n)) (ug k)
  |none=>none
 |.xor=>match x.int? with
  |some (k,n)=>IU k (if k.signed then -1 else k.max) n
  |none=>none
 |_=>none
def min2:AV->AV->Option AV
 |.int k x,.int _ y=>some (.int k (if y<x then y else x))
 |_,_=>none
def max2:AV->AV->Option AV
 |.int k x,.int _ y=>some (.int k (if y > x then y else x))
 |_,_=>none
def Ii(f:AV->AV->Option AV):AV->List AV->Option AV
 |a,[]=>some a
 |a,b::l=>match f a b with
  |some c=>Ii f c l
  |none=>none
def elems(h:aT):AV->Option (List (List AV))
 |.sl xs _=>some xs
 |.hs b g off len=>match h.get b with
  |some (.lU g' _ xs)=>match Nat.beq g g'&&Nat.ble (off+len) xs.length with
   |true=>some ((xs.drop off).take len)
   |false=>none
  |_=>none
 |_=>none
def Gs(ys:List (List AV)):Bool:=ys.all λc=>c.all AV.oq
def ze(ys:List (List AV)):Bool:=ys.all λc=>c.all AV.Gb
def tM(n:Nat)(ys:List (List AV)):Bool:=ys.all λc=>Nat.beq c.length n
def overwrite(xs:List (List AV))(at_:Nat)(ys:List (List AV)):List (List AV):=xs.take at_++ys++xs.drop (at_+ys.length)
def xJ:Nat:=1048576
def yS(n:Nat)(h:aT)(xs ys:List (List AV)):Option (AV×aT) :=
 match tM n xs&&Nat.ble (xs.length+ys.length) xJ with
 |true=>fN (xs.length+ys.length) λm=>some (.hs h.size 0 0 m,h.push (.lU 0 n (xs++ys)))
 |false=>none
def Im(n:Nat)(h:aT)(b g off len:Nat)(ys:List (List AV)):Option (AV×aT) :=
 match h.get b with
 |some (.lU g' z xs)=>match Nat.beq g g'&&Nat.beq z n&&Nat.ble (off+len+ys.length) xJ with
  |false=>none
  |true=>match Nat.ble (off+len+ys.length) xs.length with
   |true=>fN (len+ys.length) λm=>some (.hs b g off m,h.set b (.lU g z (overwrite xs (off+len) ys)))
   |false=>match Nat.beq (off+len) xs.length with
    |true=>fN (len+ys.length) λm=>some (.hs b (g+1) 0 m,h.set b (.lU (g+1) z (xs.drop off++ys)))
    |false=>none
 |_=>none
def append(n:Nat)(h:aT)(s:AV)(ys:List (List AV)):Option (AV×aT) :=
 match ys with
 |[]=>match s with
  |.sl xs c=>some (.sl xs c,h)
  |.hs b g off len=>some (.hs b g off len,h)
  |_=>none
 |_::_=>match tM n ys with
  |false=>none
  |true=>match s with
   |.sl xs .nil=>yS n h xs ys
   |.sl xs (.exact m)=>match Nat.blt m (xs.length+ys.length)with
    |true=>yS n h xs ys
    |false=>none
   |.hs b g off len=>Im n h b g off len ys
   |_=>none
def ae4:Int->Option Nat
 |.ofNat n=>some n
 |.negSucc _=>none
def uA(v:AV):Option Nat:=match v.int? with
 |some (_,n)=>ae4 n
 |none=>none
def bound(x:Option AV)(dflt:Nat):Option Nat :=
 match x with
 |none=>some dflt
 |some v=>uA v
def Q3(s:List UInt8)(lo hi mx:Option AV):Option AV:=match bound lo 0,bound hi s.length,mx with
 |some l,some r,none=>match Nat.ble l r&&Nat.ble r s.length with
  |true=>Ev ((s.drop l).take (r - l)) λs=>some (.str s)
  |false=>none
 |_,_,_=>none
def vE(l:Nat):sg->sg
 |.exact n=>.exact (n - l)
 |c=>c
def zL(n:Nat):sg->sg
 |.nil=>.nil
 |.qJ=>.qJ
 |_=>.exact n
def uq(n:Nat):List (List AV)->Bool
 |[]=>true
 |c::_=>Nat.beq c.length n
def vY(hi:Option AV):Option AV->Option (Option Nat)
 |none=>some none
 |some m=>match hi,uA m with
  |some _,some m=>some (some m)
  |_,_=>none
def EX:sg->sg
 |.qJ=>.oo
 |c=>c
def Ij(l m:Nat)(cap:sg):List (List AV)->Option AV
 |[]=>some (.sl [] (zL (m - l) (EX cap)))
 |x::xs=>some (.sl (x::xs) (zL (m - l) cap))
def B2(n:Nat)(xs:List (List AV))(cap:sg)(lo hi mx:Option AV):Option AV:=match bound lo 0,bound hi xs.length,vY hi mx with
 |some l,some r,some none=>match Nat.ble l r&&Nat.ble r xs.length&&uq n xs with
  |true=>Ev ((xs.drop l).take (r - l)) λxs=>some (.sl xs (vE l cap))
  |false=>none
 |some l,some r,some (some m)=>match Nat.ble l r&&Nat.ble r m&&Nat.ble m xs.length&&uq n xs with
  |true=>Ev ((xs.drop l).take (r - l)) (Ij l m cap)
  |false=>none
 |_,_,_=>none
def Jo(b g off:Nat)(l r:Nat):Option Nat->Option AV
 |none=>fN (off+l) λo=>fN (r - l) λk=>some (.hs b g o k)
 |some m=>match Nat.ble r m with
  |true=>match Nat.beq l m with
   |true=>some (.sl [] (.exact 0))
   |false=>some .undef
  |false=>none
def JQ(n:Nat)(h:aT)(b g off len:Nat)(lo hi mx:Option AV):Option AV:=match h.get b with
 |some (.lU g' z xs)=>match Nat.beq g g'&&Nat.beq z n with
  |false=>none
  |true=>match bound lo 0,bound hi len,vY hi mx with
   |some l,some r,some m=>match Nat.ble l r&&Nat.ble (off+r) xs.length&&Nat.ble (off+m.getD 0) xs.length with
    |true=>Jo b g off l r m
    |false=>none
   |_,_,_=>none
 |_=>none
def slice(n:Nat)(h:aT)(x:AV)(lo hi mx:Option AV):Option AV :=
 match x with
 |.sl xs cap=>B2 n xs cap lo hi mx
 |.hs b g off len=>JQ n h b g off len lo hi mx
 |_=>none
abbrev S7:=aT->TI->Option AV
def No(d o:Nat):S7:=λh a=>match nE h.ca d with
 |some cs=>part a cs o
 |none=>none
def adr(cs:List AV)(o:Nat)(_:Bool):S7:=λ_ ti=>part ti cs o
def I1(b g i o:Nat):S7:=λh a=>match h.get b with
 |some (.lU g' _ xs)=>match Nat.beq g g' with
  |true=>match xs[i]? with
   |some cs=>part a cs o
   |none=>none
  |false=>none
 |_=>none
def adJ:S7:=λ_ _=>none
def xz:AV->S7
 |.la d o=>No d o
 |.ip cs o s=>adr cs o s
 |.ptr b g i o=>I1 b g i o
 |_=>adJ
abbrev Yb:=List AV->aT->Option aT
def Vj(d o:Nat):Yb:=λnew h=>match nE h.ca d with
 |some cs=>match sJ cs o new with
  |some cs=>some { h with ca:=Ab h.ca d cs }
  |none=>none
 |none=>none
def Lt(b g i o:Nat):Yb:=λnew h=>match h.get b with
 |some (.lU g' z xs)=>match Nat.beq g g' with
  |true=>match xs[i]? with
   |some cs=>match sJ cs o new with
    |some cs=>some (h.set b (.lU g z (xs.set i cs)))
    |none=>none
   |none=>none
  |false=>none
 |_=>none
def agd:Yb:=λ_ _=>none
def FW:AV->Yb
 |.la d o=>Vj d o
 |.ptr b g i o=>Lt b g i o
 |_=>agd
def Dr(h:aT)(ti:TI)(a v:AV):Option aT :=
 match cellsOf ti v with
 |none=>none
 |some new=>match new.all AV.oq with
  |true=>FW a new h
  |false=>none
def Vi(d o:Nat)(k:Nat):Option AV:=fN (o+k) λo=>some (.la d o)
def VI(cs:List AV)(o:Nat)(s:Bool)(k:Nat):Option AV:=fN (o+k) λo=>some (.ip cs o s)
def Ll(b g i o:Nat)(k:Nat):Option AV:=fN (o+k) λo=>some (.ptr b g i o)
def adu(_:Nat):Option AV:=none
def HP:AV->Nat->Option AV
 |.la d o=>Vi d o
 |.ip cs o s=>VI cs o s
 |.ptr b g i o=>Ll b g i o
 |_=>adu
def Ix:Bool->sg
 |true=>.qJ
 |false=>.oo
def nd(f:AV->Option AV):List AV->Option (List AV)
 |[]=>some []
 |v::l=>match f v with
  |none=>none
  |some w=>match nd f l with
   |none=>none
   |some l'=>some (w::l')
def sZ(f:AV->Option AV):List (List AV)->Option (List (List AV))
 |[]=>some []
 |v::l=>match nd f v with
  |none=>none
  |some w=>match sZ f l with
   |none=>none
   |some l'=>some (w::l')
def uY(f:AV->Option AV):List (AV×AV×Nat)->Option (List (AV×AV))
 |[]=>some []
 |(k,v,_)::l=>match f v with
  |none=>none
  |some w=>match uY f l with
   |none=>none
   |some l'=>some ((k,w)::l')
def freeze(sn:Bool)(h:aT):Nat->AV->Option AV
 |0,_=>none
 |n+1,v=>match v with
  |.bool _|.int _ _|.str _|.oh|.ow|.pC=>some v
  |.ip _ _ s=>match s&&!sn with
   |true=>none
   |false=>some v
  |.fm _ s=>match s&&!sn with
   |true=>none
   |false=>some v
  |.sl _ .qJ=>match sn with
   |true=>some v
   |false=>none
  |.sl _ _=>some v
  |.ptr b g i o=>match h.get b with
   |some (.lU g' _ xs)=>match Nat.beq g g' with
    |true=>match xs[i]? with
     |some cs=>match nd (freeze sn h n) cs with
      |some cs=>some (.ip cs o sn)
      |none=>none
     |none=>none
    |false=>none
   |_=>none
  |.hs b g off len=>match h.get b with
   |some (.lU g' _ xs)=>match Nat.beq g g'&&Nat.ble (off+len) xs.length with
    |true=>match sZ (freeze sn h n) ((xs.drop off).take len)with
     |some xs=>some (.sl xs (Ix sn))
     |none=>none
    |false=>none
   |_=>none
  |.hm b=>match h.get b with
   |some (.map es _)=>match uY (freeze sn h n) es with
    |some es=>some (.fm es sn)
    |none=>none
   |_=>none
  |.mH f a c=>match nd (freeze sn h n) a,nd (freeze sn h n) c with
   |some a,some c=>some (.mH f a c)
   |_,_=>none
  |.agg l=>match nd (freeze sn h n) l with
   |some l=>some (.agg l)
   |none=>none
  |.mw l=>match nd (freeze sn h n) l with
   |some l=>some (.mw l)
   |none=>none
  |.undef|.la _ _=>none
def AV.xK:AV->Bool
 |.ptr ..|.hs ..|.hm _=>true
 |.agg l=>l.any λ|.ptr ..|.hs ..|.hm _=>true|.mH _ a c=>!(a.all AV.qj&&c.all AV.qj)|_=>false
 |.mH _ a c=>!(a.all AV.qj&&c.all AV.qj)
 |_=>false
def AV.sR:AV->Bool
 |.la ..|.mw _=>false
 |_=>true
abbrev lS:AV:=.int .i64 0
abbrev lV:AV:=.sl [] .nil
abbrev lz:AV:=.bool false
inductive mS where
 |nil
 |seq (live:List Nat) (a b:mS)
 |sq (a b:mS)
 |two (a b:mS)
 |loop (live:List Nat) (a:mS)
 |zO (sch:List (Nat×List Nat))
 deriving Inhabited
def rl{α:Type}(f : α->α->Bool):List α->List α->Bool
 |[],[]=>true
 |a::x,b::y=>f a b&&rl f x y
 |_,_=>false
def vc:sg->sg->Bool
 |.nil,.nil=>true
 |.exact n,.exact m=>Nat.beq n m
 |.oo,.oo=>true
 |.qJ,.qJ=>true
 |_,_=>false
def Jn:Bool->Bool->Bool
 |true,b=>b
 |false,true=>false
 |false,false=>true
def pk:Nat->AV->AV->Bool
 |0,_,_=>false
 |n+1,a,b=>match a,b with
  |.undef,.undef=>true
  |.bool x,.bool y=>Jn x y
  |.int k x,.int l y=>ua k l&&MC x y
  |.str x,.str y=>x==y
  |.oh,.oh=>true
  |.ip c o s,.ip d p t=>rl (pk n) c d&&Nat.beq o p&&Jn s t
  |.la d o,.la e p=>Nat.beq d e&&Nat.beq o p
  |.ptr b g i o,.ptr b' g' i' o'=>Nat.beq b b'&&Nat.beq g g'&&Nat.beq i i'&&Nat.beq o o'
  |.sl xs c,.sl ys d=>rl (rl (pk n)) xs ys&&vc c d
  |.hs b g i o,.hs b' g' i' o'=>Nat.beq b b'&&Nat.beq g g'&&Nat.beq i i'&&Nat.beq o o'
  |.ow,.ow=>true
  |.hm b,.hm c=>Nat.beq b c
  |.fm x s,.fm y t=>rl (λp q=>pk n p.1 q.1&&pk n p.2 q.2) x y&&Jn s t
  |.pC,.pC=>true
  |.agg x,.agg y=>rl (pk n) x y
  |_,_=>false
structure lg where
 body:Code
 qC:mS
 ca:List Nat
 yX:List Nat
 mP:List Nat
 res:List ResultVar
 iter:Bool
inductive Ex where
 |oa
 |ext (id:Nat)
 |ret
 deriving DecidableEq
abbrev xC:=Bool->Nat->List AV->aT->Option (AV×aT)
def I4(C:nu)(ti:TI):List (Nat×AV)->List AV->Option (List AV)
 |[],cs=>some cs
 |(i,v)::rest,cs=>
  match (match ti.kind with
   |.struct fs=>fs[i]?
   |.array n el=>match C.T el with
    |some t=>if i<n then some (i*t.size,el)else none
    |none=>none
   |_=>none)with
  |none=>none
  |some (off,ft)=>match C.T ft with
   |none=>none
   |some t=>match cellsOf t v with
    |none=>none
    |some new=>if new.all AV.oq then match sJ cs off new with
     |none=>none
     |some cs=>I4 C ti rest cs else none
def AN(t:TI):List (Nat×AV)->List (List AV)->Option (List (List AV))
 |[],xs=>some xs
 |(i,v)::rest,xs=>match cellsOf t v with
  |none=>none
  |some new=>match new.all AV.oq&&Nat.blt i xs.length with
   |true=>AN t rest (xs.set i new)
   |false=>none
def Hn(fa:lg)(n:Nat)(dst:Option Nat)(h:aT)(xs:List (List AV)):Option (AV×aT) :=
 match dst with
 |none=>none
 |some d=>match fa.yX.elem d||!(ze xs)with
  |true=>some (.hs h.size 0 0 xs.length,h.push (.lU 0 n xs))
  |false=>some (.sl xs (.exact xs.length),h)
def BH(C:nu)(t:Nat):Option TI :=
 match C.T t with
 |some ti=>match ti.kind with
  |.slice el=>C.T el
  |_=>none
 |none=>none
def F4(k v:AV)(es:List (AV×AV×Nat))(clock:Nat):Option (List (AV×AV×Nat)×Nat) :=
 match findKey k es 0 with
 |none=>none
 |some none=>some (es++[(k,v,clock)],clock+1)
 |some (some (i,_))=>some (es.modify i (λe=>(k,v,e.2.2)),clock)
def PV(k:AV)(es:List (AV×AV×Nat)):Option (List (AV×AV×Nat)) :=
 match findKey k es 0 with
 |none=>none
 |some none=>some es
 |some (some (i,_))=>some (es.eraseIdx i)
def wm(n:Int)(v:AV):List (AV×AV×Nat)->Option (List (AV×AV×Nat))
 |[]=>none
 |(k,w,b)::es=>if(b:Int)==n then some ((k,v,b)::es)else match wm n v es with
  |none=>none
  |some es=>some ((k,w,b)::es)
def AV.vU:AV->Bool
 |.bool _|.int ..|.str _=>true
 |.agg l=>l.all λ|.bool _|.int ..|.str _=>true|_=>false
 |_=>false
def wh(tk:TI)(k:AV):Bool:=match tk.agg with
 |false=>yN tk.kind k
 |true=>match k.agg? with
  |some l=>tk.flat&&Nat.beq l.length tk.size&&fitAll tk.sc l
  |none=>false
def xx(C:nu)(kt:Nat)(k:AV):Bool:=match C.T kt with
 |some tk=>wh tk k
 |none=>false
def mapKey(C:nu)(t:Nat)(k:AV):Bool:=match C.T t with
 |some tm=>match tm.kind with
  |.map kt _=>xx C kt k
  |_=>false
 |none=>false
def AV.Gx:AV->Bool
 |.la ..|.mw _=>false
 |.agg l=>l.all AV.oq
 |_=>true
abbrev R2:=Option (AV×aT)
def oz(h:aT):Option AV->R2
 |some v=>some (v,h)
 |none=>none
def T3(x:AV):Option Nat:=match x.str? with
 |some s=>some s.length
 |none=>none
def AF:AV->Option Nat
 |.sl xs _=>some xs.length
 |.hs _ _ _ len=>some len
 |_=>none
def Mg(h:aT):AV->Option Nat
 |.ow=>some 0
 |.fm es _=>some es.length
 |.hm b=>match h.get b with
  |some (.map es _)=>some es.length
  |_=>none
 |_=>none
def Ba(h:aT)(x:AV):TK->Option Nat
 |.array n _=>some n
 |.str=>T3 x
 |.slice _=>AF x
 |.map _ _=>Mg h x
 |_=>none
def uZ(h:aT):Option Nat->R2
 |some n=>some (.int .i64 n,h)
 |none=>none
def Aa(C:nu)(ats:List Nat)(args:List AV)(h:aT):R2:=match ats,args with
 |t::_,[x]=>match C.T t with
  |some ti=>uZ h (Ba h x ti.kind)
  |none=>none
 |_,_=>none
def YF:AV->Option Nat
 |.sl _ .nil=>some 0
 |.sl _ (.exact n)=>some n
 |_=>none
def wM(C:nu):List Nat->Option TI
 |t::_=>BH C t
 |[]=>none
def Kj(C:nu)(ats:List Nat)(args:List AV)(h:aT):R2:=match wM C ats,args with
 |some _,[x]=>uZ h (YF x)
 |_,_=>none
def vm(h:aT)(x:AV):Option (List (List AV)):=match x.str? with
 |some l=>some (l.map λc=>[AV.int .u8 c.toNat])
 |none=>elems h x
def Gg:TK->Bool
 |.slice _=>true
 |.str=>true
 |_=>false
def JX(C:nu):List Nat->Bool
 |[_,t]=>match C.T t with
  |some ti=>Gg ti.kind
  |none=>false
 |_=>false
def y6(C:nu)(ats:List Nat)(args:List AV)(h:aT):R2:=match wM C ats,args with
 |some ti,[s,x]=>match JX C ats with
  |true=>match vm h x with
   |none=>none
   |some ys=>match Gs ys with
    |true=>append ti.size h s ys
    |false=>none
  |false=>none
 |_,_=>none
def Of(n:Nat)(h:aT)(ys:List (List AV)):AV->R2
 |.hs b g off len=>match h.get b with
  |some (.lU g' z xs)=>match Nat.beq g g'&&Nat.beq z n&&Nat.ble (off+len) xs.length&&Gs ys&&tM n ys with
   |true=>some (.int .i64 ((min ys.length len:Nat):Int),h.set b (.lU g z (overwrite xs off (ys.take (min ys.length len)))))
   |false=>none
  |_=>none
 |.sl [] _=>some (.int .i64 0,h)
 |_=>none
def Ic(C:nu)(ats:List Nat)(args:List AV)(h:aT):R2:=match wM C ats,args with
 |some ti,[d,x]=>match elems h x with
  |some ys=>Of ti.size h ys d
  |none=>none
 |_,_=>none
def F9(C:nu)(k:AV):List Nat->Bool
 |t::_=>mapKey C t k
 |[]=>false
def Dm(C:nu)(ats:List Nat)(args:List AV)(h:aT):R2:=match args with
 |[.ow,k]=>match F9 C k ats with
  |true=>some (.mw [],h)
  |false=>none
 |[.hm b,k]=>match h.get b with
  |some (.map es c)=>match F9 C k ats with
   |true=>match PV k es with
    |some es=>some (.mw [],h.set b (.map es c))
    |none=>none
   |false=>none
  |_=>none
 |_=>none
def M5(ti:TI)(h:aT):AV->R2
 |.sl [] _=>some (.mw [],h)
 |.hs b g off len=>match h.get b with
  |some (.lU g' z xs)=>match Nat.beq g g'&&Nat.beq z ti.size&&Nat.ble (off+len) xs.length with
   |true=>some (.mw [],h.set b (.lU g z (overwrite xs off (List.replicate len ti.zero))))
   |false=>none
  |_=>none
 |_=>none
def Da(C:nu)(ats:List Nat)(args:List AV)(h:aT):R2:=match wM C ats,args with
 |some ti,[x]=>M5 ti h x
 |_,_=>none
def xX(f:AV->AV->Option AV)(args:List AV)(h:aT):R2:=match args with
 |x::rest=>oz h (Ii f x rest)
 |[]=>none
abbrev Hb:=nu->List Nat->List AV->aT->R2
def BX:Hb:=Aa
def Zm:Hb:=Kj
def HU:Hb:=y6
def afI:Hb:=Ic
def Ww:Hb:=λC ats a h=>Dm C ats a h
def QB:Hb:=Da
def Z5:Hb:=λ_ _ a h=>xX max2 a h
def YG:Hb:=λ_ _ a h=>xX min2 a h
def aeD:Hb:=λ_ _ _ _=>none
def qS:Builtin->Hb
 |.len=>BX
 |.cap=>Zm
 |.append=>HU
 |.copy=>afI
 |.delete=>Ww
 |.clear=>QB
 |.max=>Z5
 |.min=>YG
 |_=>aeD
def sX(f:Operand->AV):Option Operand->Option AV
 |none=>none
 |some x=>some (f x)
def asAgg(ti:TI)(cs:List AV):Option AV:=match ti.agg with
 |true=>some (.agg cs)
 |false=>match cs with
  |[v]=>some v
  |_=>none
def xd(h:aT)(k:AV):AV->Option (Option AV)
 |.ow=>some none
 |.fm es _=>xF k es
 |.hm b=>match h.get b with
  |some (.map es _)=>match findKey k es 0 with
   |none=>none
   |some none=>some none
   |some (some (_,v))=>some (some v)
  |_=>none
 |_=>none
def Gp(ok b:Bool)(v:AV):Option AV:=match ok with
 |true=>some (.mw [v,.bool b])
 |false=>some v
def yc(C:nu)(t:Nat)(h:aT)(m k:AV)(ok:Bool):Option AV:=match C.T t with
 |none=>none
 |some tm=>match tm.kind with
  |.map kt el=>match C.T el with
   |none=>none
   |some ti=>match xx C kt k with
    |false=>none
    |true=>match xd h k m with
     |none=>none
     |some (some v)=>Gp ok true v
     |some none=>match asAgg ti ti.zero with
      |none=>none
      |some z=>Gp ok false z
  |_=>none
def Lw(h:aT)(c a b:AV):R2:=match c.bool? with
 |some true=>some (a,h)
 |some false=>some (b,h)
 |none=>none
def newVar(fa:lg)(d:Nat)(h:aT)(cs:List AV):R2:=match fa.ca.elem d with
 |true=>match nE h.ca d with
  |none=>some (.la d 0,{ h with ca:=(d,cs)::h.ca })
  |some _=>none
 |false=>some (.ptr h.size 0 0 0,h.push (.lU 0 cs.length [cs]))
def I7(C:nu)(fa:lg)(dst:Option Nat)(h:aT)(t:Nat):R2:=match C.T t with
 |some ti=>match dst with
  |some d=>newVar fa d h ti.zero
  |none=>none
 |none=>none
def Rg(C:nu)(fa:lg)(dst:Option Nat)(h:aT)(t:Nat)(x:AV):R2:=match C.T t with
 |some ti=>match dst with
  |some d=>match cellsOf ti x with
   |some cs=>match cs.all AV.oq with
    |true=>newVar fa d h cs
    |false=>none
   |none=>none
  |none=>none
 |none=>none
def vI(e:Env)(ps:Array (Nat×Operand)):List (Nat×AV):=ps.toList.map λp=>(p.1,me e p.2)
def buildable(C:nu):TK->Bool
 |.struct _=>true
 |.array _ el=>(C.T el).isSome
 |_=>false
def IQ(C:nu)(h:aT)(t:Nat)(ps:List (Nat×AV)):R2:=match C.T t with
 |some ti=>match buildable C ti.kind with
  |true=>match I4 C ti ps ti.zero with
   |some cs=>some (.agg cs,h)
   |none=>none
  |false=>none
 |none=>none
def zC(C:nu)(fa:lg)(dst:Option Nat)(h:aT)(t n:Nat)(ps:List (Nat×AV)):R2:=match BH C t with
 |some ti=>match Nat.ble (n*ti.size) 16777216 with
  |true=>match AN ti ps (List.replicate n ti.zero)with
   |some xs=>Hn fa ti.size dst h xs
   |none=>none
  |false=>none
 |none=>none
def Au(C:nu)(h:aT)(t:Nat)(a:AV):R2:=match C.T t with
 |some ti=>oz h (xz a h ti)
 |none=>none
def Dj(C:nu)(h:aT)(t:Nat)(a x:AV):R2:=match C.T t with
 |some ti=>match Dr h ti a x with
  |some h=>some (.undef,h)
  |none=>none
 |none=>none
def If:AV->Option AV
 |.ptr b g i o=>some (.ptr b g i o)
 |.ip cs o s=>some (.ip cs o s)
 |.la d o=>some (.la d o)
 |.mH f a c=>some (.mH f a c)
 |_=>none
def DO(C:nu)(h:aT)(s d:Nat)(x:AV):R2:=match C.T s,C.T d with
 |some _,some ti=>match ti.kind with
  |.int k=>match x.int? with
   |some (_,n)=>oz h (fI (zy k n) (ug k))
   |none=>none
  |.str=>match x.str? with
   |some s=>some (.str s,h)
   |none=>none
  |_=>none
 |_,_=>none
def zQ(h:aT)(fn:Fn)(a c:List AV):R2:=match fn with
 |.func f=>match a.all AV.oq&&c.all AV.oq with
  |true=>some (.mH f a c,h)
  |false=>none
 |_=>none
def DF(C:nu)(h:aT)(t:Nat)(l c:AV):R2:=match BH C t,l.int?,c.int? with
 |some ti,some (_,l),some (_,c)=>
  match IX 0 l&&IX l c&&IX c 4294967295&&Nat.ble (c.toNat*ti.bytes) 140737488355328 with
  |true=>some (.hs h.size 0 0 l.toNat,h.push (.lU 0 ti.size (List.replicate c.toNat ti.zero)))
  |false=>none
 |_,_,_=>none
def uX(C:nu)(h:aT)(t:Nat)(x:AV)(lo hi mx:Option AV):R2:=match C.T t with
 |none=>none
 |some ti=>match ti.kind with
  |.slice el=>match C.T el with
   |some ti=>oz h (slice ti.size h x lo hi mx)
   |none=>none
  |.str=>match x.str? with
   |some s=>oz h (Q3 s lo hi mx)
   |none=>none
  |_=>none
def wV(C:nu)(h:aT)(t:Nat)(x:AV)(f:Nat):R2:=match C.T t with
 |none=>none
 |some ti=>match ti.kind with
  |.struct fs=>match fs[f]? with
   |some (off,_)=>oz h (HP x off)
   |none=>none
  |_=>none
def IJ(C:nu)(h:aT)(t:Nat)(x:AV)(f:Nat):R2:=match C.T t with
 |none=>none
 |some ti=>match ti.kind with
  |.struct fs=>match fs[f]? with
   |some (off,ft)=>match x.agg? with
    |some cs=>match C.T ft with
     |some ti=>oz h (part ti cs off)
     |none=>none
    |none=>none
   |none=>none
  |_=>none
def vF:sg->Bool
 |.qJ=>true
 |_=>false
def wI(n:Nat)(h:aT)(x:AV)(i:Nat):R2:=match x with
 |.sl xs c=>match xs[i]? with
  |some cs=>match Nat.beq cs.length n with
   |true=>some (.ip cs 0 (vF c),h)
   |false=>none
  |none=>none
 |.hs b g off len=>match h.get b with
  |some (.lU _ z _)=>match Nat.blt i len&&Nat.beq z n with
   |true=>fN (off+i) λk=>some (.ptr b g k 0,h)
   |false=>none
  |_=>none
 |_=>none
def tB(C:nu)(h:aT)(t:Nat)(x i:AV):R2:=match C.T t with
 |none=>none
 |some ti=>match uA i with
  |none=>none
  |some i=>match ti.kind with
   |.slice el=>match C.T el with
    |some ti=>wI ti.size h x i
    |none=>none
   |.array n el=>match C.T el with
    |some ti=>match Nat.blt i n with
     |true=>oz h (HP x (i*ti.size))
     |false=>none
    |none=>none
   |_=>none
def C3(C:nu)(h:aT)(t:Nat)(x i:AV):R2:=match C.T t with
 |none=>none
 |some ti=>match uA i with
  |none=>none
  |some i=>match ti.kind with
   |.str=>match x.str? with
    |some s=>match s[i]? with
     |some c=>some (.int .u8 c.toNat,h)
     |none=>none
    |none=>none
   |.array n el=>match C.T el with
    |some ti=>match x.agg? with
     |some cs=>match Nat.blt i n with
      |true=>oz h (part ti cs (i*ti.size))
      |false=>none
     |none=>none
    |none=>none
   |_=>none
def AO(C:nu)(h:aT)(t:Nat)(m k x:AV):R2:=match m with
 |.hm b=>match h.get b with
  |some (.map es c)=>match mapKey C t k&&x.Gx with
   |true=>match F4 k x es c with
    |some (es,c)=>some (.undef,h.set b (.map es c))
    |none=>none
   |false=>none
  |_=>none
 |_=>none
def CS(es:List (AV×AV×Nat))(i:Nat):Nat:=match es[i]? with
 |some x=>x.2.2
 |none=>0
def zW(C:nu)(h:aT)(t:Nat)(m k:AV):R2:=match C.T t with
 |none=>none
 |some tm=>match tm.kind,m with
  |.map kt el,.hm b=>match C.T el,h.get b with
   |some ti,some (.map es c)=>match xx C kt k with
    |false=>none
    |true=>match findKey k es 0 with
     |some (some (i,v))=>some (.mw [v,.int .i64 (CS es i)],h.set b (.map (es.modify i λx=>(k,x.2)) c))
     |some none=>match asAgg ti ti.zero with
      |some z=>some (.mw [z,.int .i64 c],h.set b (.map (es++[(k,z,c)]) (c+1)))
      |none=>none
     |none=>none
   |_,_=>none
  |_,_=>none
def zx(h:aT)(m s x:AV):R2:=match m,s.int? with
 |.hm b,some (_,n)=>match h.get b with
  |some (.map es c)=>match x.Gx with
   |true=>match wm n x es with
    |some es=>some (.undef,h.set b (.map es c))
    |none=>none
   |false=>none
  |_=>none
 |_,_=>none
def DX(h:aT)(t:AV)(i:Nat):R2:=match t with
 |.mw vs=>oz h vs[i]?
 |_=>none
def Dc(m:o1):R2->R2
 |some (v,h)=>some (v,{ h with ca:=m })
 |none=>none
def By(fa:lg)(call:xC)(h:aT)(f:AV)(args:List AV):R2:=match f with
 |.mH g a cp=>fL (a++args++cp) λargs=>match args.all AV.sR with
  |true=>Dc h.ca (call (fa.mP.elem g) g args { h with ca:=[] })
  |false=>none
 |_=>none
def tW(C:nu)(fa:lg)(call:xC)(e:Env)(h:aT)(c:Call):R2:=match c.callee with
 |.builtin b=>qS b C c.argTypes.toList (c.args.toList.map (me e)) h
 |.value f=>By fa call h (me e f) (c.args.toList.map (me e))
 |.invoke ..=>none
structure Ctx where
 C:nu
 fa:lg
 call:xC
abbrev uM:=Ctx->Env->aT->Option Nat->R2
def Re(x:Operand):uM:=λ_ e h _=>some (me e x,h)
def Rj(c a b:Operand):uM:=λ_ e h _=>Lw h (me e c) (me e a) (me e b)
def TR(t:Nat):uM:=λX e h d=>I7 X.C X.fa d h t
def Xt(t:Nat)(x:Operand):uM:=λX e h d=>Rg X.C X.fa d h t (me e x)
def M0(t:Nat)(ps:Array (Nat×Operand)):uM:=λX e h _=>IQ X.C h t (vI e ps)
def Cr(t n:Nat)(ps:Array (Nat×Operand)):uM:=λX e h d=>zC X.C X.fa d h t n (vI e ps)
def BM(t:Nat)(a:Operand):uM:=λX e h _=>Au X.C h t (me e a)
def Fz(t:Nat)(a x:Operand):uM:=λX e h _=>Dj X.C h t (me e a) (me e x)
def BL(x:Operand):uM:=λ_ e h _=>oz h (If (me e x))
def Dy(op:BinOp)(t:Nat)(x y:Operand)(_:Nat):uM:=λX e h _=>oz h (binOp X.C op t (me e x) (me e y))
def oUn(op:UnOp)(_:Nat)(x:Operand):uM:=λ_ e h _=>oz h (unOp op (me e x))
def Hh(s d:Nat)(x:Operand):uM:=λX e h _=>DO X.C h s d (me e x)
def B3(fn:Fn)(a c:Array Operand):uM:=λ_ e h _=>zQ h fn (a.toList.map (me e)) (c.toList.map (me e))
def Oe(_:Nat):Option Operand->uM
 |none=>λ_ _ h _=>some (.hm h.size,h.push (.map [] 0))
 |some _=>λ_ _ _ _=>none
def IE(t:Nat)(l c:Operand):uM:=λX e h d=>DF X.C h t (me e l) (me e c)
def vD(t:Nat)(x:Operand)(lo hi mx:Option Operand):uM:=λX e h _=>uX X.C h t (me e x) (sX (me e) lo) (sX (me e) hi) (sX (me e) mx)
def yI(t:Nat)(x:Operand)(f:Nat):uM:=λX e h _=>wV X.C h t (me e x) f
def NH(t:Nat)(x:Operand)(f:Nat):uM:=λX e h _=>IJ X.C h t (me e x) f
def uB(t:Nat)(x i:Operand):uM:=λX e h _=>tB X.C h t (me e x) (me e i)
def EN(t:Nat)(x i:Operand):uM:=λX e h _=>C3 X.C h t (me e x) (me e i)
def A0(t:Nat)(m k:Operand)(ok:Bool):uM:=λX e h _=>oz h (yc X.C t h (me e m) (me e k) ok)
def AP(t:Nat)(m k x:Operand):uM:=λX e h _=>AO X.C h t (me e m) (me e k) (me e x)
def Cd(t:Nat)(m k:Operand):uM:=λX e h _=>zW X.C h t (me e m) (me e k)
def Cz(_:Nat)(m s x:Operand):uM:=λ_ e h _=>zx h (me e m) (me e s) (me e x)
def HW(t:Operand)(i:Nat):uM:=λ_ e h _=>DX h (me e t) i
def uQ(c:Call):uM:=λX e h _=>tW X.C X.fa X.call e h c
def aiD:uM:=λ_ _ _ _=>none
def mT:Op->uM
 |.move x=>Re x
 |.assign x=>Re x
 |.pick c a b=>Rj c a b
 |.alloc t=>TR t
 |.box t x=>Xt t x
 |.build t ps=>M0 t ps
 |.buildSlice t n ps=>Cr t n ps
 |.load t a=>BM t a
 |.store t a x=>Fz t a x
 |.nilCheck x=>BL x
 |.binOp op t x y u=>Dy op t x y u
 |.unOp op t x=>oUn op t x
 |.convert s d x=>Hh s d x
 |.makeFunc fn a c=>B3 fn a c
 |.makeMap t r=>Oe t r
 |.makeSlice t l c=>IE t l c
 |.slice t x lo hi mx=>vD t x lo hi mx
 |.fieldAddr t x f=>yI t x f
 |.field t x f=>NH t x f
 |.indexAddr t x i=>uB t x i
 |.index t x i=>EN t x i
 |.lookup t m k ok=>A0 t m k ok
 |.mapUpdate t m k x=>AP t m k x
 |.insert t m k x=>AP t m k x
 |.mapEntry t m k=>Cd t m k
 |.entryStore t m s x=>Cz t m s x
 |.extract t i=>HW t i
 |.call c=>uQ c
 |_=>aiD
def Pf(want:Bool):AV->Option Bool
 |.bool b=>some (Jn b want)
 |.mw []=>some false
 |_=>none
def mF(all:List Oper)(e:Env)(o:Oper):Option Bool :=
 match o.guard with
 |none=>some true
 |some (j,want)=>match all[j]? with
  |some o'=>match o'.dst with
   |some d=>Pf want (p3 e d)
   |none=>none
  |none=>none
def my(e:Env)(o:Oper)(v:AV):Env :=
 match o.dst with
 |some d=>OI e d v
 |none=>e
abbrev RE:=Option (Env×aT)
def wi(X:Ctx)(k:Env->aT->RE)(o:Oper)(e:Env)(h:aT):Option Bool->RE
 |none=>none
 |some true=>match mT o.op X e h o.dst with
  |some (v,h)=>fH h λh=>k (my e o v) h
  |none=>none
 |some false=>k (my e o (.mw [])) h
def Fu(X:Ctx)(all:List Oper):List Oper->Env->aT->RE
 |[],e,h=>some (e,h)
 |o::rest,e,h=>wi X (Fu X all rest) o e h (mF all e o)
def OD(e:Env)(d:Nat):Option (AV×aT)->Bool
 |some (v,_)=>pk 8 v (p3 e d)
 |none=>false
def again(X:Ctx)(all:List Oper)(e:Env)(h:aT)(i:Nat):Bool:=match all[i]? with
 |none=>false
 |some o=>match mF all e o with
  |none=>false
  |some false=>true
  |some true=>match o.dst with
   |none=>false
   |some d=>OD e d (mT o.op X e h (some d))
def Ak(X:Ctx)(all:List Oper):List (Nat×List Nat)->Env->aT->RE
 |[],e,h=>some (e,h)
 |(i,chk)::rest,e,h=>match all[i]? with
  |none=>none
  |some o=>wi X (λe h=>match chk.all (again X all e h)with
   |true=>Ak X all rest e h
   |false=>none) o e h (mF all e o)
abbrev F8:=(Env->aT->Option (Ex×Env×aT))->Env->aT->Option (Ex×Env×aT)
def oU:Nat->F8
 |0,_,_,_=>none
 |n+1,f,e,h=>match f e h with
  |some (.oa,e,h)=>oU n f e h
  |r=>r
abbrev RC:=Option (Ex×Env×aT)
abbrev xu:=mS->Env->aT->RC
def D2:RE->RC
 |some (e,h)=>some (.oa,e,h)
 |none=>none
def FP(X:Ctx)(ops:Array Oper):xu:=λa e h=>match a with
 |.zO sch=>D2 (Ak X ops.toList sch e h)
 |_=>none
def Q2(X:Ctx)(ops:Array Oper):xu:=λ_ e h=>D2 (Fu X ops.toList ops.toList e h)
def Dp(X:Ctx)(ops:Array Oper):Bool->xu
 |true=>FP X ops
 |false=>Q2 X ops
def andThen(k:Env->aT->RC):RC->RC
 |some (.oa,e,h)=>k e h
 |r=>r
def qm(live:List Nat)(k:Env->aT->RC)(e:Env)(h:aT):RC:=Gc live e λe=>De live h.ca λm=>k e { h with ca:=m }
def Fl(a b:xu):xu:=λc e h=>match c with
 |.seq live x y=>andThen (λe h=>qm live (b y) e h) (a x e h)
 |.sq x y=>andThen (b y) (a x e h)
 |_=>none
def Lp(x y:Env->aT->RC)(e:Env)(h:aT)(c:AV):RC:=match c.bool? with
 |some true=>x e h
 |some false=>y e h
 |none=>none
def Lo(c:Operand)(a b:xu):xu:=λd e h=>match d with
 |.two x y=>Lp (a x) (b y) e h (me e c)
 |_=>none
def atEnd(id:Nat):RC->RC
 |some (.ext id',e,h)=>match Nat.beq id' id with
  |true=>some (.oa,e,h)
  |false=>some (.ext id',e,h)
 |r=>r
def C2(id:Nat)(a:xu):xu:=λan e h=>atEnd id (a an e h)
def XC(lp:F8)(a:xu):xu:=λb e h=>match b with
 |.loop live x=>lp (qm live (a x)) e h
 |_=>none
def nP(X:Ctx)(lp:F8):Code->xu
 |.skip=>λ_ e h=>some (.oa,e,h)
 |.region _ ops draw=>Dp X ops draw
 |.seq a b=>Fl (nP X lp a) (nP X lp b)
 |.cond c a b=>Lo c (nP X lp a) (nP X lp b)
 |.block id a=>C2 id (nP X lp a)
 |.loop a=>XC lp (nP X lp a)
 |.exit id=>λ_ e h=>some (.ext id,e,h)
 |.scope a=>nP X lp a
 |.label _=>λ_ e h=>some (.oa,e,h)
 |.ret=>λ_ e h=>some (.ret,e,h)
 |_=>λ_ _ _=>none
inductive GV where
 |nil
 |fix (last:Option (AV×AV)) (left:List (AV×AV))
 |Is (b clk:Nat) (seen:Option Nat)
structure It where
 d:Nat
 k:GV
def PZ(h:aT):AV->Option GV
 |.ow=>some .nil
 |.fm [] _=>some (.fix none [])
 |.fm [x] _=>some (.fix none [x])
 |.hm b=>match h.get b with
  |some (.map [] c)=>some (.Is b c none)
  |some (.map [_] c)=>some (.Is b c none)
  |_=>none
 |_=>none
def Ny(C:nu)(h:aT)(t:Nat)(x:AV):Option GV:=match C.T t with
 |some ti=>match ti.kind with
  |.map _ _=>PZ h x
  |_=>none
 |none=>none
def Bh(h:aT):GV->Option (Option (AV×AV)×GV)
 |.nil=>some (none,.nil)
 |.fix last []=>some (none,.fix last [])
 |.fix _ (x::l)=>some (some x,.fix (some x) l)
 |.Is b clk seen=>match h.get b with
  |some (.map es c)=>match Nat.beq c clk,es,seen with
   |true,[],s=>some (none,.Is b clk s)
   |true,[(k,v,n)],none=>some (some (k,v),.Is b clk (some n))
   |true,[(_,_,n)],some n'=>match Nat.beq n n' with
    |true=>some (none,.Is b clk (some n'))
    |false=>none
   |_,_,_=>none
  |_=>none
def Ge(h:aT):GV->Option (AV×AV)
 |.fix (some x) _=>some x
 |.Is b clk (some n)=>match h.get b with
  |some (.map [(k,v,n')] c)=>match Nat.beq c clk&&Nat.beq n' n with
   |true=>some (k,v)
   |false=>none
  |_=>none
 |_=>none
abbrev RI:=Option (Option It×Env×aT)
def C8(o:Oper):Bool:=match o.guard with
 |none=>true
 |some _=>false
def y7(it:Option It)(o:Oper):Bool:=match it,o.dst with
 |some i,some d=>!(Nat.beq i.d d)
 |_,_=>true
def Gy:Option (AV×AV)->AV
 |none=>.mw [.bool false]
 |some x=>.mw [.bool true,x.1,x.2]
def S5(h:aT)(o:Oper)(t:Nat)(k:Option It->Env->RI)(e:Env)(it:Option It):RI:=match it with
 |some i=>match Nat.beq i.d t&&y7 (some i) o&&C8 o with
  |true=>match Bh h i.k with
   |some (r,k')=>k (some ⟨i.d,k'⟩) (my e o (Gy r))
   |none=>none
  |false=>none
 |none=>none
def Po(h:aT)(o:Oper)(t:Nat)(k:Option It->Env->RI)(e:Env)(it:Option It):RI:=match it with
 |some i=>match Nat.beq i.d t&&y7 (some i) o&&C8 o with
  |true=>match Ge h i.k with
   |some x=>k (some i) (my e o (.mw [x.1,x.2]))
   |none=>none
  |false=>none
 |none=>none
def Qy(o:Oper)(x:Option GV)(k:Option It->Env->RI)(e:Env):RI:=match x,o.dst,C8 o with
 |some l,some d,true=>k (some ⟨d,l⟩) (OI e d .undef)
 |_,_,_=>none
inductive OpK where
 |range (t:Nat) (x:Operand)
 |next (t:Nat)
 |entry (t:Nat)
 |plain
 |bad
def Nb:Op->OpK
 |.range t x=>.range t x
 |.next (.tmp t) false=>.next t
 |.next _ _=>.bad
 |.entry (.tmp t)=>.entry t
 |.entry _=>.bad
 |_=>.plain
def L8(X:Ctx)(it:Option It)(k:Env->aT->RI)(o:Oper)(e:Env)(h:aT):Option Bool->RI
 |none=>none
 |some true=>match mT o.op X e h o.dst with
  |some (v,h)=>fH h λh=>k (my e o v) h
  |none=>none
 |some false=>k (my e o (.mw [])) h
def EO(X:Ctx)(all:List Oper):List Oper->Option It->Env->aT->RI
 |[],a,e,h=>some (a,e,h)
 |o::rest,a,e,h=>match Nb o.op with
  |.range t x=>Qy o (Ny X.C h t (me e x)) (λa e=>EO X all rest a e h) e
  |.next t=>S5 h o t (λa e=>EO X all rest a e h) e a
  |.entry t=>Po h o t (λa e=>EO X all rest a e h) e a
  |.plain=>match y7 a o with
   |true=>L8 X a (λe h=>EO X all rest a e h) o e h (mF all e o)
   |false=>none
  |.bad=>none
abbrev Bw:=Option (Ex×Option It×Env×aT)
def aeV:RI->Bw
 |some (it,e,h)=>some (.oa,it,e,h)
 |none=>none
def LH(k:Option It->Env->aT->Bw):Bw->Bw
 |some (.oa,it,e,h)=>k it e h
 |r=>r
def CP(live:List Nat)(k:Env->aT->Bw)(e:Env)(h:aT):Bw:=Gc live e λe=>De live h.ca λm=>k e { h with ca:=m }
def acj(id:Nat):Bw->Bw
 |some (.ext id',it,e,h)=>match Nat.beq id' id with
  |true=>some (.oa,it,e,h)
  |false=>some (.ext id',it,e,h)
 |r=>r
def Ji:Nat->(Option It->Env->aT->Bw)->Option It->Env->aT->Bw
 |0,_,_,_,_=>none
 |n+1,f,it,e,h=>match f it e h with
  |some (.oa,it,e,h)=>Ji n f it e h
  |r=>r
abbrev Fo:=mS->Option It->Env->aT->Bw
def acS(a b:Fo):Fo:=λd c e h=>match d with
 |.seq live x y=>LH (λc e h=>CP live (b y c) e h) (a x c e h)
 |.sq x y=>LH (b y) (a x c e h)
 |_=>none
def Yj(c:Operand)(a b:Fo):Fo:=λf d e h=>match f with
 |.two x y=>match (me e c).bool? with
  |some true=>a x d e h
  |some false=>b y d e h
  |none=>none
 |_=>none
def Tl(it:Option It):RC->Bw
 |some (x,e,h)=>some (x,it,e,h)
 |none=>none
def rR(X:Ctx)(n:Nat):Code->Fo
 |.skip=>λ_ d e h=>some (.oa,d,e,h)
 |.region _ ops false=>λ_ d e h=>aeV (EO X ops.toList ops.toList d e h)
 |.region _ ops true=>λf d e h=>match ops.toList.all (y7 d)with
  |true=>Tl d (FP X ops f e h)
  |false=>none
 |.seq a b=>acS (rR X n a) (rR X n b)
 |.cond c a b=>Yj c (rR X n a) (rR X n b)
 |.block id a=>λf d e h=>acj id (rR X n a f d e h)
 |.loop a=>λf d e h=>match f with
  |.loop live x=>Ji n (λd e h=>CP live (rR X n a x d) e h) d e h
  |_=>none
 |.exit id=>λ_ d e h=>some (.ext id,d,e,h)
 |.scope a=>rR X n a
 |.label _=>λ_ d e h=>some (.oa,d,e,h)
 |.ret=>λ_ d e h=>some (.ret,d,e,h)
 |_=>λ_ _ _ _=>none
def UY:Bw->RC
 |some (x,_,e,h)=>some (x,e,h)
 |none=>none
def I2(X:Ctx)(n:Nat)(c:Code)(an:mS)(e:Env)(h:aT):Bool->RC
 |true=>UY (rR X n c an none e h)
 |false=>nP X (oU n) c an e h
def RU(C:nu)(e:Env)(h:aT):ResultVar->Option AV
 |.tmp t=>some (me e (.tmp t))
 |.cell a t=>match C.T t with
  |some ti=>xz (me e (.tmp a)) h ti
  |none=>none
def J6(C:nu)(e:Env)(h:aT):List ResultVar->Option (List AV)
 |[]=>some []
 |r::l=>match RU C e h r with
  |none=>none
  |some v=>match J6 C e h l with
   |none=>none
   |some l=>some (v::l)
def params:Nat->List AV->Env
 |_,[]=>[]
 |i,v::l=>(i,v)::params (i+1) l
def result:List AV->AV
 |[v]=>v
 |vs=>.mw vs
def leave(C:nu)(res:List ResultVar):RC->R2
 |some (.oa,e,h)=>leave1 e h
 |some (.ret,e,h)=>leave1 e h
 |_=>none
where
 leave1 (e:Env) (h:aT):R2:=match J6 C e h res with
  |some vs=>match vs.all AV.sR with
   |true=>some (result vs,h)
   |false=>none
  |none=>none
def Aw(C:nu)(fa:lg)(call:xC)(n:Nat)(args:List AV)(h:aT):Option (AV×aT) :=
 leave C fa.res (I2 ⟨C,fa,call⟩ n fa.body fa.qC (params 0 args) h fa.iter)
abbrev oP:=Nat->Option lg
abbrev om:=Nat->Option (Bool->List AV->aT->Option (AV×aT))
def pb(h:aT)(args:List AV):Option (List AV):=match args.any AV.xK with
 |true=>nd (freeze true h 8) args
 |false=>some args
def frozen:aT->R2->R2
 |h,some (v,h')=>match freeze false h' 8 v with
  |none=>none
  |some v=>some (v,h)
 |_,none=>none
def zA(C:nu)(fa:lg)(call:xC)(lp:Nat)(shd:Bool)(args:List AV)(h:aT):Option (AV×aT) :=
 match shd with
 |true=>Aw C fa call lp args h
 |false=>match pb h args with
  |none=>none
  |some args'=>frozen h (Aw C fa call lp args' aT.empty)
def qi(C:nu)(F:oP)(P:om):Nat->xC
 |0,_,_,_,_=>none
 |n+1,shd,f,args,h=>match P f with
  |some p=>p shd args h
  |none=>match F f with
   |none=>none
   |some fa=>zA C fa (qi C F P n) n shd args h
open Go
def uu:sg->Nat->Nat->Prop
 |.nil,_,_=>False
 |.exact n,_,c=>c=n
 |.oo,l,c=>l<=c
 |.qJ,l,c=>l<=c
def vK:sg->Bool
 |.qJ=>true
 |_=>false
def Vy(ents:Array MapEntry)(clk:Nat):Prop:=(∀(i:Nat)(e:MapEntry),ents[i]?=some e->e.born<clk)/\(ents.toList.map (·.born)).Nodup
inductive PR(w:World)(T:Bool->Nat->Prop):Bool->AV->Value->Prop
 |undef (m:Bool) (v:Value) (h:v.oneCell'=true):PR w T m .undef v
 |bool (m b:Bool):PR w T m (.bool b) (.bool b)
 |int (m:Bool) (k:IntKind) (n:Int):PR w T m (.int k n) (.int k n)
 |str (m:Bool) (s:List UInt8) (b:ByteArray) (h:b.data.toList=s):PR w T m (.str s) (.string b)
 |oh (m:Bool):PR w T m .oh (.pointer none)
 |ip (m:Bool) (cells:List AV) (off:Nat) (sn:Bool) (B base:Nat) (c:Array Value) (e:TypeId) (fr:Nat×Nat) (f:Nat->Value) (hm:sn=true->m=true)
   (hB:w.heap[B]?=some (.cells c e fr)) (hI:T sn B)
   (hc:∀(i:Nat) (x:AV),cells[i]?=some x->c[base+i]?=some (f i)) (h1:∀(i:Nat) (x:AV),cells[i]?=some x->(f i).oneCell'=true)
   (hr:∀(i:Nat) (x:AV),cells[i]?=some x->PR w T sn x (f i)):PR w T m (.ip cells off sn) (.pointer (some ⟨B,base+off,none⟩))
 |slnil (m:Bool):PR w T m (.sl [] .nil) (.slice none 0 0)
 |sy (m:Bool) (cap:sg) (a:Addr) (c:Nat) (hm:vK cap=true->m=true) (h:uu cap 0 c):PR w T m (.sl [] cap) (.slice (some a) 0 c)
 |sl (m:Bool) (xs:List (List AV)) (cap:sg) (B base:Nat) (c:Array Value) (e:TypeId) (fr:Nat×Nat) (cap' esz:Nat) (f:Nat->Nat->Value)
   (hm:vK cap=true->m=true)
   (hB:w.heap[B]?=some (.cells c e fr)) (hI:T (vK cap) B) (hcap:uu cap xs.length cap') (hle:xs.length<=cap')
   (hz:∀(i:Nat) (cs:List AV),xs[i]?=some cs->cs.length=esz)
   (hc:∀(i:Nat) (cs:List AV) (j:Nat) (x:AV),xs[i]?=some cs->cs[j]?=some x->c[base+i*esz+j]?=some (f i j))
   (h1:∀(i:Nat) (cs:List AV) (j:Nat) (x:AV),xs[i]?=some cs->cs[j]?=some x->(f i j).oneCell'=true)
   (hr:∀(i:Nat) (cs:List AV) (j:Nat) (x:AV),xs[i]?=some cs->cs[j]?=some x->PR w T (vK cap) x (f i j)) :
   PR w T m (.sl xs cap) (.slice (some ⟨B,base,none⟩) xs.length cap')
 |ow (m:Bool):PR w T m .ow (.map none)
 |fm (m:Bool) (es:List (AV×AV)) (sn:Bool) (r:Nat) (ents:Array MapEntry) (clk:Nat) (hm:sn=true->m=true) (hB:w.heap[r]?=some (.map ents clk)) (hI:T sn r)
   (hl:es.length=ents.size) (hy:Vy ents clk) (hko:∀(i:Nat) (p:AV×AV),es[i]?=some p->p.1.vU=true)
   (hk:∀(i:Nat) (p:AV×AV) (e:MapEntry),es[i]?=some p->ents[i]?=some e->PR w T sn p.1 e.key)
   (hv:∀(i:Nat) (p:AV×AV) (e:MapEntry),es[i]?=some p->ents[i]?=some e->PR w T sn p.2 e.val):PR w T m (.fm es sn) (.map (some r))
 |pC (m:Bool):PR w T m .pC .nilFunc
 |mH (m:Bool) (g:Nat) (a c:List AV) (a' c':Array Value) (ha:a.length=a'.size) (hc:c.length=c'.size)
   (hra:∀(i:Nat) (x:AV) (y:Value),a[i]?=some x->a'[i]?=some y->PR w T m x y) (hrc:∀(i:Nat) (x:AV) (y:Value),c[i]?=some x->c'[i]?=some y->PR w T m x y) :
   PR w T m (.mH g a c) (.func (.func g) a' c')
 |agg (m:Bool) (l:List AV) (vs:Array Value) (hl:l.length=vs.size) (h1:∀(i:Nat) (y:Value),vs[i]?=some y->y.oneCell'=true)
   (hr:∀(i:Nat) (x:AV) (y:Value),l[i]?=some x->vs[i]?=some y->PR w T m x y):PR w T m (.agg l) (.agg vs)
def PR.mono{w w':World}{T T':Bool->Nat->Prop}{m:Bool}{v:AV}{u:Value}(h:PR w T m v u)
  (hI:∀s B,T s B->T' s B) (hw:∀s B,T s B->w'.heap[B]?=w.heap[B]?):PR w' T' m v u:=by
 induction h with
 |undef m v h=>exact .undef m v h
 |bool m b=>exact .bool m b
 |int m k n=>exact .int m k n
 |str m s b h=>exact .str m s b h
 |oh m=>exact .oh m
 |ip m cells off sn B base c e fr f hm hB hB' hc h1 hr ih=>exact .ip m cells off sn B base c e fr f hm (by grind) (hI _ B hB') hc h1 ih
 |slnil m=>exact .slnil m
 |sy m cap a c hm h=>exact .sy m cap a c hm h
 |sl m xs cap B base c e fr cap' esz f hm hB hB' hcap hle hz hc h1 hr ih=>exact .sl m xs cap B base c e fr cap' esz f hm (by grind) (hI _ B hB') hcap hle hz hc h1 ih
 |ow m=>exact .ow m
 |fm m es sn r ents clk hm hB hB' hl hy hko hk hv ihk ihv=>exact .fm m es sn r ents clk hm (by grind) (hI _ r hB') hl hy hko ihk ihv
 |pC m=>exact .pC m
 |mH m g a c a' c' ha hc hra hrc iha ihc=>exact .mH m g a c a' c' ha hc iha ihc
 |agg m l vs hl h1 hr ih=>exact .agg m l vs hl h1 ih
def PR.up{w:World}{T:Bool->Nat->Prop}{m:Bool}{v:AV}{u:Value}(h:PR w T m v u)(hm:m=false):PR w T true v u:=by
 induction h with
 |undef m v h=>exact .undef _ v h
 |bool m b=>exact .bool _ b
 |int m k n=>exact .int _ k n
 |str m s b h=>exact .str _ s b h
 |oh m=>exact .oh _
 |ip m cells off sn B base c e fr f hm hB hB' hc h1 hr ih=>exact .ip _ cells off sn B base c e fr f (λ_=>rfl) hB hB' hc h1 hr
 |slnil m=>exact .slnil _
 |sy m cap a c hm h=>exact .sy _ cap a c (λ_=>rfl) h
 |sl m xs cap B base c e fr cap' esz f hm hB hB' hcap hle hz hc h1 hr ih=>exact .sl _ xs cap B base c e fr cap' esz f (λ_=>rfl) hB hB' hcap hle hz hc h1 hr
 |ow m=>exact .ow _
 |fm m es sn r ents clk hm hB hB' hl d hko hk hv ihk ihv=>exact .fm _ es sn r ents clk (λ_=>rfl) hB hB' hl d hko hk hv
 |pC m=>exact .pC _
 |mH m g a c a' c' ha hc hra hrc iha ihc=>exact .mH _ g a c a' c' ha hc (λi x y j d=>iha i x y j d hm) (λi x y j d=>ihc i x y j d hm)
 |agg m l vs hl h1 hr ih=>exact .agg _ l vs hl h1 (λi x y j d=>ih i x y j d hm)
def PR.QP{w:World}{T:Bool->Nat->Prop}{m:Bool}{v:AV}{u:Value}(h:PR w T m v u):PR w T true v u:=by
 cases m;·exact h.up rfl
 ·exact h
structure Loc where
 B:Nat
 base:Nat
 cap:Nat
structure Ga where
 w:World
 T:Bool->Nat->Prop
 h:aT
 pi:Nat->Option Loc
 L:Nat->Option Nat
def AV.oI:AV->Bool
 |.bool _|.int _ _|.str _|.oh|.ip _ _ _|.sl _ _|.ow|.fm _ _|.pC=>true
 |_=>false
def AV.rX:AV->Bool
 |.la _ _|.mw _=>false
 |_=>true
inductive VR(G:Ga):AV->Value->Prop
 |undef (v:Value):VR G .undef v
 |mR {v:AV} {u:Value} (hp:v.oI=true) (h:PR G.w G.T true v u):VR G v u
 |ptr (b g i o:Nat) (a:Addr) (hb:b<G.h.size) (hg:∀g0 z xs,G.h.get b=some (.lU g0 z xs)->g<=g0)
   (h:∀z xs,G.h.get b=some (.lU g z xs)->∃l,G.pi b=some l/\a=⟨l.B,l.base+i*z+o,none⟩) :
   VR G (.ptr b g i o) (.pointer (some a))
 |hs (b g off len:Nat) (a:Addr) (cap':Nat) (hb:b<G.h.size) (hg:∀g0 z xs,G.h.get b=some (.lU g0 z xs)->g<=g0) (hle:len<=cap')
   (h:∀z xs,G.h.get b=some (.lU g z xs)->∃l,G.pi b=some l/\off+cap'=l.cap/\(0<cap'->a=⟨l.B,l.base+off*z,none⟩)) :
   VR G (.hs b g off len) (.slice (some a) len cap')
 |hm (b r:Nat) (hb:b<G.h.size) (h:∀es c,G.h.get b=some (.map es c)->∃l,G.pi b=some l/\r=l.B):VR G (.hm b) (.map (some r))
 |la (d o B:Nat) (hd:G.L d=some B):VR G (.la d o) (.pointer (some ⟨B,o,none⟩))
 |mH (g:Nat) (a c:List AV) (a' c':Array Value) (ha:a.length=a'.size) (hc:c.length=c'.size) (hna:∀x∈a,x.rX=true) (hnc:∀x∈c,x.rX=true)
   (hra:∀(i:Nat) (x:AV) (y:Value),a[i]?=some x->a'[i]?=some y->VR G x y) (hrc:∀(i:Nat) (x:AV) (y:Value),c[i]?=some x->c'[i]?=some y->VR G x y) :
   VR G (.mH g a c) (.func (.func g) a' c')
 |agg (l:List AV) (vs:Array Value) (hl:l.length=vs.size) (hn:∀x∈l,x.rX=true) (h1:∀(i:Nat) (y:Value),vs[i]?=some y->y.oneCell'=true)
   (hr:∀(i:Nat) (x:AV) (y:Value),l[i]?=some x->vs[i]?=some y->VR G x y):VR G (.agg l) (.agg vs)
 |mw (l:List AV) (vs:Array Value) (hl:l.length=vs.size) (hr:∀(i:Nat) (x:AV) (y:Value),l[i]?=some x->vs[i]?=some y->VR G x y):VR G (.mw l) (.tuple vs)
structure Ext(G G':Ga):Prop where
 T:∀s B,G.T s B->G'.T s B
 keep:∀s B,G.T s B->G'.w.heap[B]?=G.w.heap[B]?
 size:G.h.size<=G'.h.size
 lU:∀b,b<G.h.size->∀g' z' xs',G'.h.get b=some (.lU g' z' xs') ->
  ∃g z xs,G.h.get b=some (.lU g z xs)/\g<=g'/\(g=g'->z=z'/\∀l,G.pi b=some l->G'.pi b=some l)
 map:∀b,b<G.h.size->∀es' c',G'.h.get b=some (.map es' c')->∃es c,G.h.get b=some (.map es c)/\∀l,G.pi b=some l->G'.pi b=some l
 ca:∀d B,G.L d=some B->G'.L d=some B
def VR.mono{G G':Ga}(E:Ext G G'){v:AV}{u:Value}(h:VR G v u):VR G' v u:=by
 induction h with
 |undef v=>exact .undef v
 |mR t h=>exact .mR t (h.mono E.T E.keep)
 |ptr b g i o a hb hg h=>
  refine .ptr b g i o a (ane hb E.size) ?_ ?_;·intro n z f e;obtain⟨p,q,j,m,k,_⟩:=E.lU b hb n z f e;grind
  ·intro z f e;obtain⟨p,q,j,m,k,s⟩:=E.lU b hb g z f e;grind
 |hs b g off len a cap' hb hg hle' h=>
  refine .hs b g off len a cap' (ane hb E.size) ?_ hle' ?_;·intro n z f e;obtain⟨p,q,j,m,k,_⟩:=E.lU b hb n z f e;grind
  ·intro z f e;obtain⟨p,q,j,m,k,s⟩:=E.lU b hb g z f e;grind
 |hm b r hb h=>refine .hm b r (ane hb E.size) ?_;intro w c e;obtain⟨x,y,m,t⟩:=E.map b hb w c e;grind
 |la d o B hd=>exact .la d o B (E.ca d B hd)
 |mH g a c a' c' ha hc hna hnc hra hrc iha ihc=>exact .mH g a c a' c' ha hc hna hnc iha ihc
 |agg l vs hl hn m hr ih=>exact .agg l vs hl hn m ih
 |mw l vs hl hr ih=>exact .mw l vs hl ih
def Ext.refl(G:Ga):Ext G G where
 T:=λ_ _ h=>h
 keep:=λ_ _ _=>rfl
 size:=abs _
 lU:=λ_ _ g z a h=>⟨g,z,a,h,abs _,λ_=>⟨rfl,λ_ h=>h⟩⟩
 map:=λ_ _ b c h=>⟨b,c,h,λ_ h=>h⟩
 ca:=λ_ _ h=>h
theorem Ext.trans{A B C:Ga}(h:Ext A B)(k:Ext B C):Ext A C where
 T:=λs b a=>k.T s b (h.T s b a)
 keep:=λs b a=>(k.keep s b (h.T s b a)).trans (h.keep s b a)
 size:=anh h.size k.size
 lU:=by intro b a g z m e;obtain⟨n,o,f,i,p,D⟩:=k.lU b (ane a h.size) g z m e;obtain⟨E,F,q,r,l,t⟩:=h.lU b a n o f i;grind
 map:=by intro b a u c e;obtain⟨j,w,i,G⟩:=k.map b (ane a h.size) u c e;obtain⟨x,H,r,J⟩:=h.map b a j w i;grind
 ca:=λd B y=>k.ca d B (h.ca d B y)
theorem PR.rX{w:World}{T:Bool->Nat->Prop}{m:Bool}{v:AV}{u:Value}(h:PR w T m v u):v.rX=true:=by cases h<;>rfl
def PR.FX{w:World}{T:Bool->Nat->Prop}{m:Bool}{l:List AV}{vs:Array Value}(hl:l.length=vs.size)(h:∀(i:Nat)(x:AV) (y:Value),l[i]?=some x->vs[i]?=some y->PR w T m x y):∀x∈l,x.rX=true:=by
 intro x a;obtain⟨i,b⟩:=anq a;have c:i<vs.size:=by grind
 exact(h i x vs[i] b (by simp)).rX
structure VC(G:Ga)(x:AV)(v:Value):Prop where
 vr:VR G x v
 na:x.rX=true
def VC.mono{G G':Ga}(E:Ext G G'){x:AV}{v:Value}(h:VC G x v):VC G' x v:=⟨h.vr.mono E,h.na⟩
def tc(G:Ga)(l:Loc)(z:Nat)(xs:List (List AV)):Prop :=
 ∃c e,G.w.heap[l.B]?=some (.cells c e (0,0))/\xs.length<=l.cap/\l.base+l.cap*z<=c.size/\(∀(i:Nat) (cs:List AV),xs[i]?=some cs->cs.length=z) /\
  (∀(i:Nat) (cs:List AV) (j:Nat) (x:AV),xs[i]?=some cs->cs[j]?=some x->∃v,c[l.base+i*z+j]?=some v/\v.oneCell'=true/\VC G x v)
def vX(es:List (AV×AV×Nat))(clk:Nat):Prop:=(∀p∈es,p.2.2<clk)/\(es.map (·.2.2)).Nodup
def vX.ach{es:List (AV×AV×Nat)}{ents:Array MapEntry}{clk:Nat}(h:vX es clk)(hlen:es.length=ents.size)(hb:∀(i:Nat)(p:AV×AV×Nat) (e:MapEntry),es[i]?=some p->ents[i]?=some e->p.2.2=e.born):Vy ents clk:=by
 have f:es.map (·.2.2)=ents.toList.map (·.born):=by
  apply anR;intro i;simp only[List.getElem?_map,Array.getElem?_toList];cases b:es[i]? with
  |none=>rw[Array.getElem?_eq_none (by rw[<- hlen];exact List.getElem?_eq_none_iff.1 b)];rfl
  |some p=>
   (have d:i<ents.size:=by rw[<- hlen];exact(alt.1 b).1);have a:ents[i]?=some ents[i]:=by simp
   rw[a];exact congrArg some (hb i p _ b a)
 refine⟨λi e a=>?_,f▸h.2⟩;have d:i<es.length:=by rw[hlen];exact(ano.1 a).1
 have c:es[i]?=some es[i]:=by simp
 rw[<- hb i _ e c a];exact h.1 _ (adc d)
def yE(G:Ga)(r:Nat)(es:List (AV×AV×Nat))(clk:Nat):Prop :=
 ∃ents,G.w.heap[r]?=some (.map ents clk)/\es.length=ents.size/\vX es clk /\
  ∀(i:Nat) (p:AV×AV×Nat) (e:MapEntry),es[i]?=some p->ents[i]?=some e->p.1.vU=true/\PR G.w G.T false p.1 e.key/\VC G p.2.1 e.val/\p.2.2=e.born
def Cc(G:Ga)(B:Nat)(cs:List AV):Prop :=
 ∃c e,G.w.heap[B]?=some (.cells c e (0,0))/\c.size=cs.length/\(∀(i:Nat) (x:AV) (v:Value),cs[i]?=some x->c[i]?=some v->VC G x v)/\(∀(i:Nat) (v:Value),c[i]?=some v->v.oneCell'=true)
structure WR(G:Ga):Prop where
 lU:∀b l g z xs,G.pi b=some l->G.h.get b=some (.lU g z xs)->tc G l z xs
 map:∀b l es c,G.pi b=some l->G.h.get b=some (.map es c)->yE G l.B es c
 loc:∀d B cs,G.L d=some B->nE G.h.ca d=some cs->Cc G B cs
 oW:∀b l,G.pi b=some l->l.B<G.w.heap.size/\b<G.h.size
 rY:∀b b' l l',G.pi b=some l->G.pi b'=some l'->l.B=l'.B->b=b'
 w0:∀s b l,G.pi b=some l->¬G.T s l.B
 uI:∀d d' B,G.L d=some B->G.L d'=some B->d=d'
 LT:∀s d B,G.L d=some B->¬G.T s B
 u7:∀d B b l,G.L d=some B->G.pi b=some l->B≠l.B
 qL:∀d B,G.L d=some B->B<G.w.heap.size/\(nE G.h.ca d).isSome=true
 sB:∀s B,G.T s B->B<G.w.heap.size
 lo:G.h.lo<=G.h.size
 lt:∀b o,G.h.get b=some o->b<G.h.size
def PR.Fe{G:Ga}{m:Bool}{v:AV}{u:Value}(h:PR G.w G.T m v u):VR G v u:=by
 have h':=h.QP;clear h;generalize o:true=m' at h';induction h' with
 |undef m v h=>exact .undef v
 |bool m b=>exact .mR rfl (.bool _ b)
 |int m k n=>exact .mR rfl (.int _ k n)
 |str m s b h=>exact .mR rfl (.str _ s b h)
 |oh m=>exact .mR rfl (.oh _)
 |ip m cells off sn B base c e fr f hm' hB hB' hc h1 hr ih=>exact .mR rfl (.ip _ cells off sn B base c e fr f (λ_=>rfl) hB hB' hc h1 hr)
 |slnil m=>exact .mR rfl (.slnil _)
 |sy m cap a c hm' h=>exact .mR rfl (.sy _ cap a c (λ_=>rfl) h)
 |sl m xs cap B base c e fr cap' esz f hm' hB hB' hcap hle hz hc h1 hr ih=>exact .mR rfl (.sl _ xs cap B base c e fr cap' esz f (λ_=>rfl) hB hB' hcap hle hz hc h1 hr)
 |ow m=>exact .mR rfl (.ow _)
 |fm m es sn r ents clk hm' hB hB' hl d hko hk hv ihk ihv=>exact .mR rfl (.fm _ es sn r ents clk (λ_=>rfl) hB hB' hl d hko hk hv)
 |pC m=>exact .mR rfl (.pC _)
 |mH m g a c a' c' ha hc hra hrc iha ihc=>exact .mH g a c a' c' ha hc (PR.FX ha hra) (PR.FX hc hrc) (λi x y j d=>iha i x y j d o) (λi x y j d=>ihc i x y j d o)
 |agg m l vs hl h1 hr ih=>exact .agg l vs hl (PR.FX hl hr) h1 (λi x y j d=>ih i x y j d o)
def PR.CL{G:Ga}{m:Bool}{v:AV}{u:Value}(h:PR G.w G.T m v u):VC G v u:=⟨h.Fe,h.rX⟩
def QZ:TypeDesc->Bool
 |.struct _|.array _ _=>true
 |_=>false
def aeE(P:Program)(d:TypeDesc):TK->Prop
 |.bool=>d=.bool
 |.int k=>d=.int k
 |.str=>d=.string
 |.ptr=>∃e,d=.pointer e
 |.slice e=>d=.slice e
 |.array n e=>d=.array n e
 |.map k e=>d=.map k e
 |.struct fs=>∃F,d=.struct F/\fs=F.toList.map (λf=>(f.offset,f.type))/\∀f∈F.toList,∃i,P.info? f.type=some i/\i.size≠0
 |.func=>∃a b c,d=.func a b c
 |.other=>True
def Wv{t:TK}{a:AV}(h:yN t a=true):Bq a=true:=by cases t<;>cases a<;>simp_all[yN,Bq]
def Fk:∀{ts:List TK} {l:List AV},fitAll ts l=true->∀x∈l,Bq x=true
 |[],[],_,x,b=>by cases b
 |t::ts,a::l,h,x,b=>by
  simp only[fitAll,Bool.and_eq_true]at h;rcases ank.1 b with rfl|b
  ·exact Wv h.1
  ·exact Fk h.2 x b
 |[],_::_,h,_,_=>by cases h
 |_::_,[],h,_,_=>by cases h
structure sO(P:Program)(t:Nat)(ti:TI):Prop where
 info:∃i z,P.info? t=some i/\i.size=ti.size/\i.bytes=ti.bytes/\i.zero=some z/\ti.zero=z.cells.toList.map MQ/\z.cells.size=ti.size /\
  (∀c∈z.cells.toList,c.oneCell'=true)/\(ti.agg=true->∃cs,z=.agg cs)/\(ti.agg=false->z.oneCell'=true)
 desc:∃d,P.underlying t=some d/\QZ d=ti.agg/\aeE P d ti.kind
 bytes:ti.bytes<=1048576
 guard:ti.flat=true->P.eqGuardType P.depth t=false
 flat:ti.flat=true->ti.agg=true->∀(l m:List AV) (xs ys:Array Value) (b:Bool) (w:World) (T:Bool->Nat->Prop),fitAll ti.sc l=true->l.length=ti.size->m.length=ti.size ->
  PR w T true (.agg l) (.agg xs)->PR w T true (.agg m) (.agg ys)->pX l m=some b->(Op.equalIn 10000 t (.agg xs) (.agg ys)).run P w=.ok b w
 key:ti.flat=true->ti.agg=true->∀(e:Bool) (xs:Array Value) (w:World),xs.size=ti.size->(Instr.checkKey e 10000 t (.agg xs)).run P w=.ok () w
structure nV(P:Program)(C:nu):Prop where
 ty:∀t ti,C.T t=some ti->sO P t ti
section runs
variable {P:Program}{t:Nat}{ti:TI}
theorem sO.isAgg(h:sO P t ti)(w:World):(isAgg t).run P w=.ok ti.agg w:=by obtain⟨d,a,b,_⟩:=h.desc;unfold Go.isAgg;rw[Sem.run_bind,run_underlying a w];rw[<- b];cases d<;>rfl
theorem sO.sizeOf(h:sO P t ti)(w:World):(sizeOf t).run P w=.ok ti.size w:=by obtain⟨i,z,a,b,_⟩:=h.info;simp[Go.sizeOf,typeInfo,a,b]
def sO.Xe(h:sO P t ti):(P.info? t).map (·.size)=some ti.size:=by obtain⟨i,z,a,b,_⟩:=h.info;grind
def Gq(R:AV->Value->Prop)(cs:List AV)(c:Array Value)(base:Nat):Prop :=
 ∀i x,cs[i]?=some x->∃u,c[base+i]?=some u/\u.oneCell'=true/\R x u
theorem vy(B o n:Nat):(⟨B,o,none⟩:Addr).add n=⟨B,o+n,none⟩:=by grind[Addr.add]
theorem KF(w:World)(B base:Nat)(c:Array Value)(e:TypeId)(fr:Nat×Nat)(hB:w.heap[B]?=some (.cells c e fr))(n:Nat)(hn:base+n<=c.size) :
  (loadCells ⟨B,base,none⟩ n).run P w=.ok (c.extract base (base+n)) w:=by
 have h:=run_loadCells_list (P:=P) w ⟨B,base,none⟩ (c.extract base (base+n)).toList (λj v b=>by
  rw[vy,cell_of_row w B (base+j) c e fr hB]
  grind)
 have a:(c.extract base (base+n)).toList.length=n:=by grind
 rw[a,Array.toArray_toList]at h;exact h
def Hg{cs:List AV}{o:Nat}{l:List AV}(ha:ti.agg=true)(hp:part ti cs o=some (.agg l)):l=(cs.drop o).take ti.size/\l.length=ti.size/\(ti.size=0\/o+ti.size<=cs.length):=by
 simp only[part,ha,u3,Fv]at hp;split at hp;·rename_i a;simp only[Option.some.injEq,AV.agg.injEq]at hp;subst hp;simp only[Nat.beq_eq]at a;grind
 grind
def O2(hT:sO P t ti){w:World}{B base o:Nat}{c:Array Value}{e:TypeId}{fr:Nat×Nat}{R:AV->Value->Prop}{cs:List AV}{v:AV}
  (hB:w.heap[B]?=some (.cells c e fr)) (hU:Gq R cs c base) (hp:part ti cs o=some v) :
  ∃u,(loadVar t ⟨B,base+o,none⟩).run P w=.ok u w /\
   ((∃l vs,ti.agg=true/\v=.agg l/\u=.agg vs/\l.length=ti.size/\l.length=vs.size/\(∀(i:Nat) (y:Value),vs[i]?=some y->y.oneCell'=true)/\∀(i:Nat) (x:AV) (y:Value),l[i]?=some x->vs[i]?=some y->R x y)
     \/ (ti.agg=false/\u.oneCell'=true/\R v u)):=by
 cases b:ti.agg with
 |false=>simp only[part,b]at hp;obtain⟨u,h,k,q⟩:=hU o v hp;refine⟨u,?_,.inr ⟨rfl,k,q⟩⟩;unfold loadVar;rw[Sem.run_bind,hT.isAgg,b];simp[cell_of_row w B (base+o) c e fr hB,h]
 |true=>
  have r:∃l,v=.agg l:=by grind[part,u3,Fv]
  obtain⟨l,rfl⟩:=r;obtain⟨s,d,f⟩:=Hg b hp
  have a:ti.size=0\/base+o+ti.size<=c.size:=by
   (rcases f with C|f);·omega
   ·by_cases j:ti.size=0;·omega
    ·right;have m:o+ti.size - 1<cs.length:=by omega
     obtain⟨u,h,_⟩:=hU (o+ti.size - 1) cs[o+ti.size - 1] (by simp[m]);grind
  by_cases j:ti.size=0;·(have n:l=[]:=by grind);subst n;refine⟨.agg #[],?_,.inl ⟨[],#[],rfl,rfl,rfl,by simp[j],rfl,by simp,by simp⟩⟩;unfold loadVar;rw[Sem.run_bind,hT.isAgg,b];simp[hT.sizeOf,j,loadCells,loadCellsFrom]
  ·have z:=a.resolve_left j;refine⟨.agg (c.extract (base+o) (base+o+ti.size)),?_,.inl ⟨l,_,rfl,rfl,rfl,d,?_,?_,?_⟩⟩;·unfold loadVar;rw[Sem.run_bind,hT.isAgg,b];simp[hT.sizeOf,KF w B (base+o) c e fr hB ti.size z]
   ·grind
   ·intro i y g;rw[Array.getElem?_extract]at g;split at g
    ·rename_i m;have A:o+i<cs.length:=by omega
     obtain⟨u,h,k,_⟩:=hU (o+i) cs[o+i] (by simp);grind
    grind
   ·intro i x y p g;rw[Array.getElem?_extract]at g;split at g
    ·rename_i m;rw[s,List.getElem?_take,List.getElem?_drop]at p;split at p;·obtain⟨u,h,k,q⟩:=hU (o+i) x p;grind
     omega
    grind
end runs
section
variable {P:Program}{C:nu}{G:Ga}{t:Nat}{ti:TI}
def VR.Bi{l:List AV}{u:Value}(h:VR G (.agg l) u):∃vs,u=.agg vs/\l.length=vs.size/\(∀(i:Nat)(y:Value),vs[i]?=some y->y.oneCell'=true) /\
  ∀(i:Nat) (x:AV) (y:Value),l[i]?=some x->vs[i]?=some y->VC G x y:=by
 cases h with
 |mR hp _=>simp[AV.oI]at hp
 |agg l vs hl hn h1 hr=>exact⟨vs,rfl,hl,h1,λi x y a b=>⟨hr i x y a b,hn x (alc a)⟩⟩
theorem VR.of_int{k:IntKind}{n:Int}{u:Value}(h:VR G (.int k n) u):u=.int k n:=by
 cases h with
 |mR _ h=>cases h;rfl
theorem VR.of_bool{b:Bool}{u:Value}(h:VR G (.bool b) u):u=.bool b:=by
 cases h with
 |mR _ h=>cases h;rfl
def VR.zV{s:List UInt8}{u:Value}(h:VR G (.str s) u):∃b,u=.string b/\b.data.toList=s:=by
 cases h with
 |mR _ h=>cases h<;>grind
theorem VR.int(k:IntKind)(n:Int):VR G (.int k n) (.int k n):=.mR rfl (.int _ k n)
theorem VR.bool(b:Bool):VR G (.bool b) (.bool b):=.mR rfl (.bool _ b)
theorem VR.str{s:List UInt8}{b:ByteArray}(h:b.data.toList=s):VR G (.str s) (.string b):=.mR rfl (.str _ s b h)
def int?_eq{v:AV}{k:IntKind}{n:Int}(h:v.int?=some (k,n)):v=.int k n:=by cases v<;>simp[AV.int?]at h;grind
theorem bool?_eq{v:AV}{b:Bool}(h:v.bool?=some b):v=.bool b:=by cases v<;>simp[AV.bool?]at h;grind
def str?_eq{v:AV}{b:List UInt8}(h:v.str?=some b):v=.str b:=by cases v<;>simp[AV.str?]at h;grind
def agg?_eq{v:AV}{b:List AV}(h:v.agg?=some b):v=.agg b:=by cases v<;>simp[AV.agg?]at h;grind
def D4{v:AV}{n:Nat}(h:uA v=some n):∃k,v=.int k (n:Int):=by
 unfold uA at h;split at h;·rename_i k m a;have:=int?_eq a;subst this;cases m<;>grind[ae4]
 ·cases h
def VC.FX{l:List AV}{vs:Array Value}(hl:l.length=vs.size)(h:∀(i:Nat)(x:AV) (y:Value),l[i]?=some x->vs[i]?=some y->VC G x y):∀x∈l,x.rX=true:=by
 intro x a;obtain⟨i,b⟩:=anq a;have c:i<vs.size:=by grind
 exact(h i x vs[i] b (by simp)).na
def VR.Lr{l:List AV}{vs:Array Value}{R:AV->Value->Prop}(hR:∀x y,R x y->VC G x y)(hl:l.length=vs.size)
  (h1:∀(i:Nat) (y:Value),vs[i]?=some y->y.oneCell'=true) (hr:∀(i:Nat) (x:AV) (y:Value),l[i]?=some x->vs[i]?=some y->R x y):VR G (.agg l) (.agg vs) :=
 .agg l vs hl (VC.FX hl λi x y a b=>hR x y (hr i x y a b)) h1 λi x y a b=>(hR x y (hr i x y a b)).vr
def Shaped(ti:TI)(v:AV)(u:Value):Prop :=
 (ti.agg=true/\∃l vs,v=.agg l/\u=.agg vs/\l.length=ti.size/\vs.size=ti.size)\/(ti.agg=false/\u.oneCell'=true)
def DJ{R:AV->Value->Prop}(hR:∀x y,R x y->VC G x y)(hT:sO P t ti){B base o:Nat}{c:Array Value}{e:TypeId}{fr:Nat×Nat}{cs:List AV}{v:AV}
  (hB:G.w.heap[B]?=some (.cells c e fr)) (hU:Gq R cs c base) (hp:part ti cs o=some v) :
  ∃u,(loadVar t ⟨B,base+o,none⟩).run P G.w=.ok u G.w/\VR G v u/\Shaped ti v u:=by
 obtain⟨u,g,h|h⟩:=O2 hT hB hU hp;·obtain⟨l,i,b,rfl,rfl,a,j,d,f⟩:=h;exact⟨_,g,VR.Lr hR j d f,.inl ⟨b,l,i,rfl,rfl,a,by omega⟩⟩
 ·obtain⟨b,d,f⟩:=h;exact⟨u,g,(hR _ _ f).vr,.inr ⟨b,d⟩⟩
def IA(hW:WR G)(hT:sO P t ti){av v:AV}{a:Value}(hv:VR G av a)(h:xz av G.h ti=some v) :
  ∃u,(Instr.loadAt t a).run P G.w=.ok u G.w/\VR G v u/\Shaped ti v u:=by
 unfold xz at h;split at h
 ·
  rename_i d o;cases hv with
  |mR hp _=>simp[AV.oI]at hp
  |la _ _ B hd=>
   unfold No at h;split at h
   ·rename_i n p;obtain⟨c,e,q,C,D,J⟩:=hW.loc d B n hd p
    have r:Gq (VC G) n c 0:=by
     intro i x E;have F:i<c.size:=by grind
     refine⟨c[i],by simp[F],J i c[i] (by simp[F]),D i x c[i] E (by simp[F])⟩
    obtain⟨u,K,A,C⟩:=DJ (P:=P) (λ_ _ h=>h) hT q r h;grind[Instr.loadAt,Instr.sureAddr]
   ·cases h
 ·
  rename_i n o s;cases hv with
  |mR _ h'=>
   cases h' with
   |ip _ _ _ _ B base c e fr f hm q hI hc J D=>(have r:Gq (λx y=>PR G.w G.T s x y) n c base:=by intro i x E;grind);obtain⟨u,K,A,C⟩:=DJ (P:=P) (λ_ _ h=>PR.CL h) hT q r h;grind[Instr.loadAt,Instr.sureAddr]
 ·
  rename_i b g i o;cases hv with
  |mR hp _=>simp[AV.oI]at hp
  |ptr _ _ _ _ a hb hg hl=>
   unfold I1 at h;split at h
   ·rename_i g' z L k;split at h
    ·rename_i m;have m:=acl m;subst m;split at h
     ·rename_i n p;obtain⟨l,H,N⟩:=hl z L k;subst N;obtain⟨c,e,q,M,O,Q,D⟩:=hW.lU b l g z L H k;have r:Gq (VC G) n c (l.base+i*z):=by intro j x E;grind
      obtain⟨u,K,A,C⟩:=DJ (P:=P) (λ_ _ h=>h) hT q r h;grind[Instr.loadAt,Instr.sureAddr]
     ·cases h
    ·cases h
   ·cases h
 ·cases h
def Jx{av v:AV}{a:Value}{k:Nat}(hv:VR G av a)(h:HP av k=some v):∃x,a=.pointer (some x)/\VR G v (.pointer (some (x.add k))):=by
 unfold HP at h;split at h
 ·rename_i d o;simp only[Vi,sj,Option.some.injEq]at h;subst h;cases hv with
  |mR hp _=>simp[AV.oI]at hp
  |la _ _ B hd=>exact⟨_,rfl,by rw[vy];exact .la d (o+k) B hd⟩
 ·rename_i j o s;simp only[VI,sj,Option.some.injEq]at h;subst h;cases hv with
  |mR _ h'=>
   cases h' with
   |ip _ _ _ _ B base c e fr f hm hB hI hc h1 hr=>refine⟨_,rfl,?_⟩;rw[vy,Nat.add_assoc];exact .mR rfl (.ip _ j (o+k) s B base c e fr f hm hB hI hc h1 hr)
 ·rename_i b g i o;simp only[Ll,sj,Option.some.injEq]at h;subst h;cases hv with
  |mR hp _=>simp[AV.oI]at hp
  |ptr _ _ _ _ a hb hg hl=>refine⟨_,rfl,.ptr b g i (o+k) _ hb hg ?_⟩;grind[vy]
 ·cases h
def IC(hC:nV P C){av:AV}{a:Value}{f:Nat}{r:AV×aT}(hv:VR G av a)(h:wV C G.h t av f=some r) :
  r.2=G.h/\∃u,(Instr.fieldAt t a f).run P G.w=.ok u G.w/\VR G r.1 u/\u.oneCell'=true:=by
 unfold wV at h;split at h;·cases h
 ·rename_i ti c;split at h
  ·rename_i y n;split at h
   ·rename_i o z k;unfold oz at h;split at h
    ·rename_i v e;simp only[Option.some.injEq]at h;subst h;obtain⟨d,A,B,b⟩:=(hC.ty t ti c).desc;rw[n]at b;obtain⟨F,rfl,g,j⟩:=b;subst g;simp only[List.getElem?_map,Array.getElem?_toList,Option.map_eq_some_iff]at k;obtain⟨l,p,m⟩:=k;simp only[Prod.mk.injEq]at m;obtain⟨rfl,rfl⟩:=m;obtain⟨x,rfl,q⟩:=Jx hv e;refine⟨rfl,.pointer (some (x.add l.offset)),?_,q,rfl⟩
     obtain⟨i,D,s⟩:=j l (by
      grind)
     simp_all[Instr.fieldAt,run_underlying,Instr.sureAddr,fieldPlace,Go.sizeOf,typeInfo]
    ·cases h
   ·cases h
  ·cases h
end
def rT(P:Program)(G:Ga)(s:Sem Value)(r:AV×aT):Prop :=
 r.2=G.h/\∃u,s.run P G.w=.ok u G.w/\VR G r.1 u
section
variable {P:Program}{C:nu}{G:Ga}{t:Nat}{ti:TI}
theorem qU{h:aT}{o:Option AV}{r:AV×aT}(e:oz h o=some r):∃v,o=some v/\r=(v,h):=by unfold oz at e;grind
def RL{c a b:AV}{c' a' b':Value}{r:AV×aT}(hc:VR G c c')(ha:VR G a a')(hb:VR G b b')(h:Lw G.h c a b=some r) :
  rT P G (do pure (if <- asBool c' then a' else b')) r:=by
 unfold Lw at h;split at h;·rename_i d;cases h;have:=bool?_eq d;subst this;have:=hc.of_bool;subst this;exact⟨rfl,a',by rfl,ha⟩
 ·rename_i d;cases h;have:=bool?_eq d;subst this;have:=hc.of_bool;subst this;exact⟨rfl,b',by rfl,hb⟩
 ·cases h
def JA{l:List AV}{vs:Array Value}{o:Nat}{v:AV}(hT:sO P t ti)(hl:l.length=vs.size)(h1:∀(i:Nat)(y:Value),vs[i]?=some y->y.oneCell'=true)
  (hr:∀(i:Nat) (x:AV) (y:Value),l[i]?=some x->vs[i]?=some y->VC G x y) (hp:Sx.part ti l o=some v) :
  ∃u,(Go.part t vs o).run P G.w=.ok u G.w/\VR G v u:=by
 have e:Gq (VC G) l vs 0:=by
  intro i x b;have c:i<vs.size:=by grind
  exact⟨vs[i],by simp[c],h1 i _ (by simp[c]),hr i x _ b (by simp[c])⟩
 cases a:ti.agg with
 |false=>simp only[Sx.part,a]at hp;obtain⟨u,k,_,b⟩:=e o v hp;refine⟨u,?_,b.vr⟩;unfold Go.part;rw[Sem.run_bind,hT.isAgg,a];simp_all
 |true=>
  have f:∃m,v=.agg m:=by grind[Sx.part,u3,Fv]
  obtain⟨m,rfl⟩:=f;obtain⟨n,d,g⟩:=Hg a hp;refine⟨.agg (vs.extract o (o+ti.size)),?_,?_⟩;·unfold Go.part;rw[Sem.run_bind,hT.isAgg,a];simp[hT.sizeOf]
  ·refine VR.Lr (R:=VC G) (λ_ _ h=>h) ?_ ?_ ?_;·grind
   ·intro i y j;rw[Array.getElem?_extract]at j;grind
   grind
def Pd(hC:nV P C){x:AV}{x':Value}{f:Nat}{r:AV×aT}(hx:VR G x x')(h:IJ C G.h t x f=some r):rT P G (Instr.field t x' f) r:=by
 unfold IJ at h;split at h;·cases h
 ·rename_i ti b;split at h
  ·rename_i z l;split at h
   ·rename_i m A j;split at h
    ·rename_i B c;split at h;·rename_i n e;obtain⟨v,o,rfl⟩:=qU h;have:=agg?_eq c;subst this;obtain⟨D,rfl,p,q,s⟩:=hx.Bi;obtain⟨d,E,H,a⟩:=(hC.ty t ti b).desc;rw[l]at a;obtain⟨F,rfl,g,w⟩:=a;subst g;simp only[List.getElem?_map,Array.getElem?_toList,Option.map_eq_some_iff]at j;obtain⟨J,y,k⟩:=j;simp only[Prod.mk.injEq]at k;obtain⟨rfl,rfl⟩:=k;obtain⟨u,K,i⟩:=JA (hC.ty _ n e) p q s o;refine⟨rfl,u,?_,i⟩;simp_all[Instr.field,run_underlying,Go.asAgg]
     ·cases h
    ·cases h
   ·cases h
  ·cases h
def Le{x:AV}{x':Value}{i:Nat}{r:AV×aT}(hx:VR G x x')(h:DX G.h x i=some r):rT P G (Instr.extract x' i) r:=by
 unfold DX at h;split at h
 ·rename_i c;obtain⟨v,b,rfl⟩:=qU h;cases hx with
  |mR hp _=>simp[AV.oI]at hp
  |mw _ vs' hl hr=>(have a:i<vs'.size:=by grind);exact⟨rfl,vs'[i],by simp[Instr.extract,a],hr i v _ b (by simp[a])⟩
 ·cases h
def Nv{x v:AV}{x':Value}(hx:VR G x x')(h:If x=some v) :
  VR G v x'/\((∃a,x'=.pointer (some a))\/∃g a c,x'=.func (.func g) a c):=by
 unfold If at h;split at h
 ·cases h;cases hx with
  |mR hp _=>simp[AV.oI]at hp
  |ptr _ _ _ _ a hb hg hl=>exact⟨.ptr _ _ _ _ a hb hg hl,.inl ⟨_,rfl⟩⟩
 ·cases h;refine⟨hx,.inl ?_⟩;cases hx with
  |mR _ h'=>cases h'<;>grind
 ·cases h;refine⟨hx,.inl ?_⟩;cases hx<;>grind[AV.oI]
 ·cases h;refine⟨hx,.inr ?_⟩;cases hx<;>grind[AV.oI]
 ·cases h
theorem HM(b:Bool):zF b=some (.bool !b):=by cases b<;>rfl
theorem Hr{op:BinOp}{k:IntKind}{x y:Int}(xT:TypeId)(h:op=.add\/op=.sub\/op=.mul) :
  (Go.binOp op xT (.int k x) (.int k y)).run P G.w=(Op.intArith op k x y).run P G.w:=by
 grind[Go.binOp]
theorem SS{op:BinOp}{k:IntKind}{x y:Int}(xT:TypeId)(h:op=.quo\/op=.rem) :
  (Go.binOp op xT (.int k x) (.int k y)).run P G.w=(Op.intDiv op k x y).run P G.w:=by
 grind[Go.binOp]
theorem Gh{op:BinOp}{k:IntKind}{x y:Int}(xT:TypeId)(h:op=.and\/op=.or\/op=.xor\/op=.andNot) :
  (Go.binOp op xT (.int k x) (.int k y)).run P G.w=(Op.intBits op k x y).run P G.w:=by
 grind[Go.binOp]
theorem C6{op:BinOp}{k:IntKind}{x y:Int}(xT:TypeId)(h:op=.eql\/op=.neq\/op=.lss\/op=.leq\/op=.gtr\/op=.geq) :
  (Go.binOp op xT (.int k x) (.int k y)).run P G.w=(Op.intCmp op x y).run P G.w:=by
 grind[Go.binOp]
def OF{op:BinOp}{k:IntKind}{x y:Int}{v:AV}(h:qh op k x y=some v)(hs:AU op=false)(xT:TypeId) :
  ∃u,(Go.binOp op xT (.int k x) (.int k y)).run P G.w=.ok u G.w/\VR G v u:=by
 cases op<;>simp only[AU,Bool.true_eq_false]at hs<;>simp only[qh,RJ,RT,ZC,Y5,Zp,R4,Rx,RY,Rv,Sm,Ri,aaN,aed,IU,MZ,afN,Ay,Ee,ug,Hm,HM,zd,JS,JU,u5,CV,reduceCtorEq]at h;case add=>cases h;rw[Hr xT (by simp)];exact⟨_,rfl,VR.int _ _⟩
 case sub=>cases h;rw[Hr xT (by simp)];exact⟨_,rfl,by grind[VR.int]⟩
 case mul=>cases h;rw[Hr xT (by simp)];exact⟨_,rfl,VR.int _ _⟩
 case quo=>
  split at h;·cases h
  ·rename_i a;cases h;simp_all[SS,Op.intDiv,VR.int]
 case rem=>
  split at h;·cases h
  ·rename_i a;cases h;simp_all[SS,Op.intDiv,VR.int]
 case and=>cases h;rw[Gh xT (by simp)];exact⟨_,rfl,VR.int _ _⟩
 case or=>cases h;rw[Gh xT (by simp)];exact⟨_,rfl,VR.int _ _⟩
 case xor=>cases h;rw[Gh xT (by simp)];exact⟨_,rfl,VR.int _ _⟩
 case andNot=>cases h;rw[Gh xT (by simp)];exact⟨_,rfl,VR.int _ _⟩
 case eql=>cases h;rw[C6 xT (by simp)];exact⟨_,rfl,VR.bool _⟩
 case neq=>cases h;rw[C6 xT (by simp)];exact⟨_,rfl,VR.bool _⟩
 case lss=>
  cases h;rw[C6 xT (by simp)];refine⟨_,rfl,?_⟩;have e:(!decide (y<=x))=decide (x<y):=by grind
  rw[e];exact VR.bool _
 case leq=>cases h;rw[C6 xT (by simp)];exact⟨_,rfl,VR.bool _⟩
 case gtr=>
  cases h;rw[C6 xT (by simp)];refine⟨_,rfl,?_⟩;have e:(!decide (x<=y))=decide (x > y):=by grind
  rw[e];exact VR.bool _
 case geq=>cases h;rw[C6 xT (by simp)];exact⟨_,rfl,VR.bool _⟩
theorem aaT(k k':IntKind)(x y:Int)(xT:TypeId)(w:World)(hy:¬y<0) :
  (Go.binOp .shl xT (.int k x) (.int k' y)).run P w=.ok (.int k (k.wrap (x*2 ^ (min y.toNat k.bits)))) w:=by
 show(Op.shift .shl k x k' y).run P w = _;unfold Op.shift;rw[if_neg hy];rfl
theorem abe(k k':IntKind)(x y:Int)(xT:TypeId)(w:World)(hy:¬y<0) :
  (Go.binOp .shr xT (.int k x) (.int k' y)).run P w=.ok (.int k (x.fdiv (2 ^ (min y.toNat k.bits)))) w:=by
 show(Op.shift .shr k x k' y).run P w = _;unfold Op.shift;rw[if_neg hy];rfl
def O1{op:BinOp}{k k':IntKind}{x y:Int}{v:AV}(h:qh op k x y=some v)(hs:AU op=true)(xT:TypeId) :
  ∃u,(Go.binOp op xT (.int k x) (.int k' y)).run P G.w=.ok u G.w/\VR G v u:=by
 cases op<;>simp only[AU,Bool.false_eq_true]at hs
 ·have h:(if y<0 then none else fI (zy k (x*2 ^ (min y.toNat k.bits))) (ug k))=some v:=h;rw[Ay,zd]at h;split at h;·cases h
  ·rename_i a;cases h;simp_all[aaT,VR.int]
 ·have h:(if y<0 then none else fI (x.fdiv (2 ^ (min y.toNat k.bits))) (ug k))=some v:=h;rw[Ay]at h;split at h;·cases h
  ·rename_i a;cases h;simp_all[abe,VR.int]
theorem bytesLess_eq:∀(x y:List UInt8),bytesLess x y=Op.bytesLess x y
 |_,[]=>by simp[bytesLess,Op.bytesLess]
 |[],_::_=>by rfl
 |a::x,b::y=>by simp[bytesLess,Op.bytesLess,bytesLess_eq x y]
theorem Bx{b:ByteArray}{s:List UInt8}(h:b.data.toList=s):b.size=s.length:=by subst h;rfl
theorem toList_data(b:ByteArray):b.toList=b.data.toList:=ByteArray.toList_eq b
def MH{op:BinOp}{x y:List UInt8}{bx by':ByteArray}{v:AV}(hx:bx.data.toList=x)(hy:by'.data.toList=y)
  (h:Jc op x y=some v) (xT:TypeId):∃u,(Go.binOp op xT (.string bx) (.string by')).run P G.w=.ok u G.w/\VR G v u:=by
 have b:∀o:BinOp,(Go.binOp o xT (.string bx) (.string by')).run P G.w=(Op.stringOp o bx by').run P G.w:=by intro o;cases o<;>rfl
 rw[b];unfold Op.stringOp;simp only[toList_data,hx,hy,<- bytesLess_eq];cases op<;>simp only[Jc,reduceCtorEq,u3]at h
 case add=>
  split at h
  ·rename_i a;cases h;have a:=anu a;have c:IntKind.i64.max=9223372036854775807:=by decide
   rw[if_neg (by grind[Bx])];simp_all[VR.str]
  ·cases h
 all_goals
  cases h;exact⟨_,rfl,VR.bool _⟩
def BR{x:AV}{x':Value}{b:Bool}(h:VH x=some b)(hx:VR G x x'):∃a,x'=.pointer a/\a.isNone=b:=by
 unfold VH at h;split at h<;>simp only[Option.some.injEq,reduceCtorEq]at h<;>subst h
 ·cases hx with
  |mR _ h=>cases h<;>grind
 ·cases hx<;>grind[AV.oI]
 ·cases hx with
  |mR _ h=>cases h<;>grind
 ·cases hx<;>grind[AV.oI]
def Ca{x:AV}{x':Value}{b:Bool}(h:Vk x=some b)(hx:VR G x x'):∃a n c,x'=.slice a n c/\a.isNone=b:=by
 unfold Vk at h;split at h<;>simp only[Option.some.injEq,reduceCtorEq]at h<;>subst h
 ·cases hx with
  |mR _ h=>cases h with
   |slnil=>simp
   |sy _ _ _ _ _ hc=>cases hc
   |sl _ _ _ _ _ _ _ _ _ _ _ _ _ _ hc=>cases hc
 ·rename_i d;cases hx with
  |mR _ h=>cases h<;>grind
 ·cases hx<;>grind[AV.oI]
def BW{x:AV}{x':Value}{b:Bool}(h:Vd x=some b)(hx:VR G x x'):∃a,x'=.map a/\a.isNone=b:=by
 unfold Vd at h;split at h<;>simp only[Option.some.injEq,reduceCtorEq]at h<;>subst h
 ·cases hx with
  |mR _ h=>cases h<;>grind
 ·cases hx<;>grind[AV.oI]
 ·cases hx with
  |mR _ h=>cases h<;>grind
def BN{x:AV}{x':Value}{b:Bool}(h:Vp x=some b)(hx:VR G x x'):(b=true/\x'=.nilFunc)\/(b=false/\∃f a c,x'=.func f a c):=by
 unfold Vp at h;split at h<;>simp only[Option.some.injEq,reduceCtorEq]at h<;>subst h
 ·cases hx with
  |mR _ h=>cases h<;>grind
 ·cases hx<;>grind[AV.oI]
def VR.Qz{l:List AV}{vs:Array Value}(h:VR G (.agg l) (.agg vs))(hs:∀x∈l,∃b,qV x x=some b):PR G.w G.T true (.agg l) (.agg vs):=by
 obtain⟨d,e,f,g,j⟩:=h.Bi;cases e;refine .agg _ l vs f g ?_;intro i x y c k;obtain⟨b,a⟩:=hs x (alc c);have:=(j i x y c k).vr;cases this with
 |mR _ h=>exact h
 |undef=>simp[qV,wx]at a
 |ptr=>simp[qV,wx]at a
 |hs=>simp[qV,wx]at a
 |hm=>simp[qV,wx]at a
 |la=>simp[qV,wx]at a
 |mH=>simp[qV,wx]at a
 |agg=>simp[qV,wx]at a
 |mw=>simp[qV,wx]at a
def Ue{x y:AV}{b:Bool}(h:qV x y=some b):(∃b,qV x x=some b)/\∃b,qV y y=some b:=by
 cases x<;>simp only[qV,wx,Fs,Cl,GC,reduceCtorEq]at h<;>cases y<;>simp only[AV.bool?,AV.int?,AV.str?,reduceCtorEq]at h;·exact⟨⟨_,rfl⟩,⟨_,rfl⟩⟩
 ·refine⟨?_,?_⟩<;>simp[qV,Cl,AV.int?,(wS _ _).2 rfl]
 ·exact⟨⟨_,rfl⟩,⟨_,rfl⟩⟩
def KT:∀{l m:List AV} {b:Bool},pX l m=some b->(∀x∈l,∃b,qV x x=some b)/\∀x∈m,∃b,qV x x=some b
 |[],[],_,_=>by simp
 |[],_::_,_,h=>by cases h
 |_::_,[],_,h=>by cases h
 |a::x,b::y,c,h=>by
  simp only[pX]at h
  have f:∃d,pX x y=some d/\∃e,qV a b=some e:=by
   split at h;·rename_i i;exact⟨_,h,_,i⟩
   ·rename_i i;split at h;·rename_i j;exact⟨_,j,_,i⟩
    ·cases h
   ·cases h
  obtain⟨d,j,e,i⟩:=f;obtain⟨k,n⟩:=KT j;obtain⟨k1,k2⟩:=Ue i;constructor
  ·intro z g;rcases ank.1 g with rfl|g
   ·exact k1
   ·exact k z g
  ·intro z g;rcases ank.1 g with rfl|g
   ·exact k2
   ·exact n z g
end
section
variable {P:Program}{C:nu}{G:Ga}{t:Nat}{ti:TI}
theorem WJ(op:BinOp)(ox oy:Operand)(k k':IntKind)(a b:Int)(w:World):(eqGuard op t ox oy (.int k a) (.int k' b)).run P w=.ok () w:=by cases op<;>rfl
theorem Wm(op:BinOp)(ox oy:Operand)(a b:ByteArray)(w:World):(eqGuard op t ox oy (.string a) (.string b)).run P w=.ok () w:=by cases op<;>rfl
def Vn(op:BinOp)(ox oy:Operand)(a b:Bool)(w:World):(eqGuard op t ox oy (.bool a) (.bool b)).run P w=.ok () w:=by cases op<;>rfl
def Ml(op:BinOp)(ox oy:Operand)(a b:Option Addr)(w:World):(eqGuard op t ox oy (.pointer a) (.pointer b)).run P w=.ok () w:=by cases op<;>rfl
def Ot(op:BinOp)(ox oy:Operand)(a b:Option Nat)(w:World):(eqGuard op t ox oy (.map a) (.map b)).run P w=.ok () w:=by cases op<;>rfl
def L5(op:BinOp)(ox oy:Operand)(a b:Option Addr)(n c m d:Nat)(w:World):(eqGuard op t ox oy (.slice a n c) (.slice b m d)).run P w=.ok () w:=by cases op<;>rfl
def Mc(op:BinOp)(ox oy:Operand)(y:Value)(w:World):(eqGuard op t ox oy .nilFunc y).run P w=.ok () w:=by cases op<;>rfl
def WD(op:BinOp)(ox oy:Operand)(f:Fn)(a c:Array Value)(y:Value)(w:World):(eqGuard op t ox oy (.func f a c) y).run P w=.ok () w:=by cases op<;>rfl
theorem ac2(d:Nat){e:TypeId}(h:P.underlying t=some (.pointer e))(b:Option Addr)(w:World):(Op.equalIn (d+1) t (.pointer none) (.pointer b)).run P w=.ok b.isNone w:=by simp[Op.equalIn,run_underlying h]
theorem acm(d:Nat){e:TypeId}(h:P.underlying t=some (.pointer e))(a:Addr)(w:World):(Op.equalIn (d+1) t (.pointer (some a)) (.pointer none)).run P w=.ok false w:=by simp[Op.equalIn,run_underlying h]
theorem af3(d:Nat){e:TypeId}(h:P.underlying t=some (.slice e))(b:Option Addr)(n c m k:Nat)(w:World):(Op.equalIn (d+1) t (.slice none n c) (.slice b m k)).run P w=.ok b.isNone w:=by simp[Op.equalIn,run_underlying h]
theorem adY(d:Nat){e:TypeId}(h:P.underlying t=some (.slice e))(a:Addr)(n c m k:Nat)(w:World):(Op.equalIn (d+1) t (.slice (some a) n c) (.slice none m k)).run P w=.ok false w:=by simp[Op.equalIn,run_underlying h]
theorem afD(d:Nat){e e':TypeId}(h:P.underlying t=some (.map e e'))(b:Option Nat)(w:World):(Op.equalIn (d+1) t (.map none) (.map b)).run P w=.ok b.isNone w:=by simp[Op.equalIn,run_underlying h]
theorem ae5(d:Nat){e e':TypeId}(h:P.underlying t=some (.map e e'))(a:Nat)(w:World):(Op.equalIn (d+1) t (.map (some a)) (.map none)).run P w=.ok false w:=by simp[Op.equalIn,run_underlying h]
def acN(d:Nat){p q:Array TypeId}{r:Bool}(h:P.underlying t=some (.func p q r))(w:World):(Op.equalIn (d+1) t .nilFunc .nilFunc).run P w=.ok true w:=by simp[Op.equalIn,run_underlying h]
def ae1(d:Nat){p q:Array TypeId}{r:Bool}(h:P.underlying t=some (.func p q r))(f:Fn)(a c:Array Value)(w:World):(Op.equalIn (d+1) t .nilFunc (.func f a c)).run P w=.ok false w:=by simp[Op.equalIn,run_underlying h]
def ab7(d:Nat){p q:Array TypeId}{r:Bool}(h:P.underlying t=some (.func p q r))(f:Fn)(a c:Array Value)(w:World):(Op.equalIn (d+1) t (.func f a c) .nilFunc).run P w=.ok false w:=by simp[Op.equalIn,run_underlying h]
def uU{x y:Value}{b:Bool}{w:World}(he:(Op.equalIn 10000 t x y).run P w=.ok b w)(hn:∀o:BinOp,o=.eql\/o=.neq->Go.binOp o t x y=(if o=.eql then do pure (.bool (<- Op.equal t x y))else do pure (.bool (!(<- Op.equal t x y))))) :
  (Go.binOp .eql t x y).run P w=.ok (.bool b) w/\(Go.binOp .neq t x y).run P w=.ok (.bool !b) w:=by
 rw[hn .eql (by simp),hn .neq (by simp)];have a:(Op.equal t x y).run P w=.ok b w:=he;simp_all
def GU(hT:sO P t ti){x y:AV}{x' y':Value}{b:Bool}(hx:VR G x x')(hy:VR G y y')(h:Cp ti x y=some b)(ox oy:Operand) :
  (∀o:BinOp,(eqGuard o t ox oy x' y').run P G.w=.ok () G.w)/\(Go.binOp .eql t x' y').run P G.w=.ok (.bool b) G.w/\(Go.binOp .neq t x' y').run P G.w=.ok (.bool !b) G.w:=by
 obtain⟨d,s,C,k⟩:=hT.desc;unfold Cp at h;split at h
 ·
  rename_i j;rw[j]at k;have k:d=.bool:=k;subst k;unfold T8 at h;split at h;·rename_i a c g i;cases h;have:=bool?_eq g;subst this;have:=bool?_eq i;subst this;rw[hx.of_bool,hy.of_bool];exact⟨λo=>Vn o ox oy _ _ _,uU (run_equalIn_bool' G.w 9999 t _ _ s) (by rintro o (rfl|rfl)<;>rfl)⟩
  ·cases h
 ·
  rename_i j;rw[j]at k;obtain⟨e,rfl⟩:=k;unfold AK at h;split at h;·rename_i c g i;cases h;obtain⟨a,rfl,g⟩:=BR g hx;obtain⟨a',rfl,i⟩:=BR i hy;refine⟨λo=>Ml o ox oy _ _ _,uU ?_ (by rintro o (rfl|rfl)<;>rfl)⟩;simp_all[ac2]
  ·rename_i g i;cases h;obtain⟨a,rfl,g⟩:=BR g hx;obtain⟨a',rfl,i⟩:=BR i hy;refine⟨λo=>Ml o ox oy _ _ _,uU ?_ (by rintro o (rfl|rfl)<;>rfl)⟩;cases a with
   |none=>simp at g
   |some a=>simp_all[acm]
  ·cases h
 ·
  rename_i j;rw[j]at k;have k:d=.slice _:=k;subst k;unfold AK at h;split at h;·rename_i c g i;cases h;obtain⟨a,n,c,rfl,g⟩:=Ca g hx;obtain⟨a',n',c',rfl,i⟩:=Ca i hy;refine⟨λo=>L5 o ox oy _ _ _ _ _ _ _,uU ?_ (by rintro o (rfl|rfl)<;>rfl)⟩;simp_all[af3]
  ·rename_i g i;cases h;obtain⟨a,n,c,rfl,g⟩:=Ca g hx;obtain⟨a',n',c',rfl,i⟩:=Ca i hy;refine⟨λo=>L5 o ox oy _ _ _ _ _ _ _,uU ?_ (by rintro o (rfl|rfl)<;>rfl)⟩;cases a with
   |none=>simp at g
   |some a=>simp_all[adY]
  ·cases h
 ·
  rename_i j;rw[j]at k;have k:d=.map _ _:=k;subst k;unfold AK at h;split at h;·rename_i c g i;cases h;obtain⟨a,rfl,g⟩:=BW g hx;obtain⟨a',rfl,i⟩:=BW i hy;refine⟨λo=>Ot o ox oy _ _ _,uU ?_ (by rintro o (rfl|rfl)<;>rfl)⟩;cases a<;>grind[afD]
  ·rename_i g i;cases h;obtain⟨a,rfl,g⟩:=BW g hx;obtain⟨a',rfl,i⟩:=BW i hy;refine⟨λo=>Ot o ox oy _ _ _,uU ?_ (by rintro o (rfl|rfl)<;>rfl)⟩;cases a with
   |none=>simp at g
   |some a=>cases a'<;>grind[ae5]
  ·cases h
 ·
  rename_i j;rw[j]at k;obtain⟨p,q,r,rfl⟩:=k;unfold AK at h;split at h
  ·rename_i c g i;cases h;rcases BN g hx with⟨_,rfl⟩|⟨u,_⟩
   ·rcases BN i hy with⟨rfl,rfl⟩|⟨rfl,f,a,c,rfl⟩
    ·exact⟨λo=>Mc o ox oy _ _,uU (acN 9999 s _) (by rintro o (rfl|rfl)<;>rfl)⟩
    ·exact⟨λo=>Mc o ox oy _ _,uU (ae1 9999 s _ _ _ _) (by rintro o (rfl|rfl)<;>rfl)⟩
   grind
  ·rename_i g i;cases h;rcases BN g hx with⟨u,_⟩|⟨_,f,a,c,rfl⟩
   ·cases u
   ·rcases BN i hy with⟨_,rfl⟩|⟨u,_⟩
    ·exact⟨λo=>WD o ox oy _ _ _ _ _,uU (ab7 9999 s _ _ _ _) (by rintro o (rfl|rfl)<;>rfl)⟩
    grind
  ·cases h
 all_goals first
  |(cases h;done)
  |(rename_i j
    have m:ti.agg=true:=by
     rw[j]at k;rw[<- C]
     first
      |(obtain⟨F,rfl,_⟩:=k;rfl)
      |(have k:d=.array _ _:=k;subst k;rfl)
    unfold NZ at h;split at h
    ·rename_i a c z g i;split at h;·rename_i l;simp only[Bool.and_eq_true,Nat.beq_eq]at l;have:=agg?_eq g;subst this;have:=agg?_eq i;subst this;obtain⟨A,rfl,D,E,H⟩:=hx.Bi;obtain⟨B,rfl,J,K,L⟩:=hy.Bi;obtain⟨M,N⟩:=KT h;have e:=hT.flat z m _ _ A B b G.w G.T l.2 l.1.1 l.1.2 (hx.Qz M) (hy.Qz N) h;exact⟨λo=>run_eqGuard_agg G.w o t ox oy A B (hT.guard z),uU e (by rintro o (rfl|rfl)<;>rfl)⟩
     ·cases h
    ·cases h)
def O9(hC:nV P C){op:BinOp}{x y v:AV}{x' y':Value}(hx:VR G x x')(hy:VR G y y')(h:binOp C op t x y=some v)(ox oy:Operand) :
  ∃u,(do eqGuard op t ox oy x' y';Go.binOp op t x' y':Sem Value).run P G.w=.ok u G.w/\VR G v u:=by
 unfold binOp at h;split at h
 ·rename_i p j;obtain⟨k,a⟩:=p;have:=int?_eq j;subst this;rw[hx.of_int];unfold NT at h;split at h
  ·rename_i k' b c;have:=int?_eq c;subst this;rw[hy.of_int];simp only[Sem.run_bind,WJ,Result.andThen_ok];split at h
   ·rename_i i;cases e:AU op with
    |true=>exact O1 h e t
    |false=>rw[e,Bool.or_false]at i;have:=(wS _ _).1 i;simp only at this;subst this;exact OF h e t
   ·cases h
  ·cases h
 ·split at h
  ·rename_i a l;have:=str?_eq l;subst this;obtain⟨r,rfl,f⟩:=hx.zV;unfold L2 at h;split at h;·rename_i b c;have:=str?_eq c;subst this;obtain⟨m,rfl,g⟩:=hy.zV;simp only[Sem.run_bind,Wm,Result.andThen_ok];exact MH f g h t
   ·cases h
  ·unfold C9 at h;split at h;·cases h
   ·rename_i ti d;split at h
    ·split at h;·rename_i b c;cases h;obtain⟨n,o,q⟩:=GU (hC.ty t ti d) hx hy c ox oy;simp_all[VR.bool]
     ·cases h
    ·split at h;·rename_i b c;rw[HM]at h;cases h;obtain⟨n,o,q⟩:=GU (hC.ty t ti d) hx hy c ox oy;simp_all[VR.bool]
     ·cases h
    ·cases h
def RK{op:UnOp}{x v:AV}{x':Value}(hx:VR G x x')(h:unOp op x=some v):∃u,(Op.unary op x').run P G.w=.ok u G.w/\VR G v u:=by
 unfold unOp at h;split at h
 ·split at h;·rename_i b a;have:=bool?_eq a;subst this;rw[hx.of_bool];rw[HM]at h;cases h;exact⟨_,rfl,VR.bool _⟩
  ·cases h
 ·split at h;·rename_i k n a;have:=int?_eq a;subst this;rw[hx.of_int];simp only[Ay,ug,zd,JU]at h;cases h;refine⟨_,rfl,?_⟩;grind[VR.int]
  ·cases h
 ·split at h;·rename_i k n a;have:=int?_eq a;subst this;rw[hx.of_int];simp only[IU,Ay,ug]at h;cases h;exact⟨_,rfl,VR.int _ _⟩
  ·cases h
 ·cases h
def R6{x y v:AV}{x' y':Value}(hx:VR G x x')(hy:VR G y y')(h:min2 x y=some v):∃u,(Builtin.min2 x' y').run P G.w=.ok u G.w/\VR G v u:=by
 unfold min2 at h;split at h;·cases h;rw[hx.of_int,hy.of_int];exact⟨_,rfl,VR.int _ _⟩
 ·cases h
def Sh{x y v:AV}{x' y':Value}(hx:VR G x x')(hy:VR G y y')(h:max2 x y=some v):∃u,(Builtin.max2 x' y').run P G.w=.ok u G.w/\VR G v u:=by
 unfold max2 at h;split at h;·cases h;rw[hx.of_int,hy.of_int];exact⟨_,rfl,VR.int _ _⟩
 ·cases h
def Dx{f:AV->AV->Option AV}{g:Value->Value->Sem Value}(hfg:∀{x y v:AV} {x' y':Value},VR G x x'->VR G y y'->f x y=some v->∃u,(g x' y').run P G.w=.ok u G.w/\VR G v u) :
  ∀{l:List AV} {l':List Value} {x v:AV} {x':Value},VR G x x'->l.length=l'.length->(∀(i:Nat) a b,l[i]?=some a->l'[i]?=some b->VR G a b)->Ii f x l=some v ->
   ∃u,(l'.foldlM g x').run P G.w=.ok u G.w/\VR G v u
 |[],[],x,v,x',hx,_,_,h=>by simp_all[Ii]
 |[],_::_,_,_,_,_,hl,_,_=>by simp at hl
 |_::_,[],_,_,_,_,hl,_,_=>by simp at hl
 |a::l,b::l',x,v,x',hx,hl,hr,h=>by
  simp only[Ii]at h;split at h;·rename_i c e;obtain⟨u,n,d⟩:=hfg hx (hr 0 a b rfl rfl) e;obtain⟨z,o,j⟩:=Dx hfg d (by grind) (λi p q k m=>hr (i+1) p q k m) h;simp_all
  ·cases h
end
section
variable {P:Program}{C:nu}{G:Ga}{t:Nat}{ti:TI}
def Lg(hC:nV P C){s d:Nat}{x:AV}{x':Value}{r:AV×aT}(hx:VR G x x')(h:DO C G.h s d x=some r):rT P G (Go.convert s d x') r:=by
 unfold DO at h;split at h
 ·rename_i l m o p;obtain⟨w,e,_⟩:=(hC.ty s l o).desc;obtain⟨i,f,_,a⟩:=(hC.ty d m p).desc;split at h
  ·rename_i k c;rw[c]at a;have a:i=.int k:=a;subst a;split at h;·rename_i k' n q;have:=int?_eq q;subst this;rw[hx.of_int];obtain⟨v,j,rfl⟩:=qU h;simp only[Ay,ug,zd,Option.some.injEq]at j;subst j;refine⟨rfl,_,?_,VR.int _ _⟩;unfold Go.convert;rw[Sem.run_bind,run_underlying e];simp only[Result.andThen_ok];rw[Sem.run_bind,run_underlying f];rfl
   ·cases h
  ·rename_i c;rw[c]at a;have a:i=.string:=a;subst a;split at h;·rename_i b t;cases h;have:=str?_eq t;subst this;obtain⟨u,rfl,g⟩:=hx.zV;refine⟨rfl,.string u,?_,VR.str g⟩;simp_all[Go.convert,Sem.run_bind,run_underlying,Result.andThen_ok]
   ·cases h
  ·cases h
 ·cases h
def J3{fn:Fn}{a c:List AV}{a' c':Array Value}{r:AV×aT}(hal:a.length=a'.size)(hcl:c.length=c'.size)
  (ha:∀(i:Nat) (x:AV) (y:Value),a[i]?=some x->a'[i]?=some y->VR G x y) (hc:∀(i:Nat) (x:AV) (y:Value),c[i]?=some x->c'[i]?=some y->VR G x y)
  (h:zQ G.h fn a c=some r):rT P G (Instr.makeFunc fn a' c') r:=by
 unfold zQ at h;split at h
 ·split at h
  ·rename_i b;simp only[Bool.and_eq_true,List.all_eq_true]at b;cases h;have d:∀x:AV,x.oq=true->x.rX=true:=by intro x e;cases x<;>simp_all[AV.oq,AV.rX]
   exact⟨rfl,_,rfl,.mH _ _ _ _ _ hal hcl (λx e=>d x (b.1 x e)) (λx e=>d x (b.2 x e)) ha hc⟩
  ·cases h
 ·cases h
def O0{x:AV}{x':Value}{n:Nat}(hx:VR G x x')(h:AF x=some n):∃a c,x'=.slice a n c:=by
 unfold AF at h;split at h
 ·cases h;cases hx with
  |mR _ h=>cases h<;>exact⟨_,_,rfl⟩
 ·cases h;cases hx<;>grind[AV.oI]
 ·cases h
theorem Je{w:World}{r:Nat}{ents:Array MapEntry}{c:Nat}(h:w.heap[r]?=some (.map ents c)):(getObj r).run P w=.ok (.map ents c) w:=by simp[getObj,Sem.run,h]
def Tz(hW:WR G)(hC:nV P C){ats:Array Nat}{x:AV}{x':Value}{ty:Nat}{r:AV×aT}(hx:VR G x x')(h:Aa C ats.toList [x] G.h=some r) :
  rT P G (Builtin.len_ ats ty #[x']) r:=by
 unfold Aa at h;split at h
 ·rename_i t B y q u;simp only[List.cons.injEq,and_true]at u;subst u;have o:ats[0]?=some t:=by rw[<- Array.getElem?_toList,q];rfl
  split at h
  ·rename_i ti w;obtain⟨d,p,_,f⟩:=(hC.ty t ti w).desc;unfold uZ at h;split at h
   ·rename_i n i;cases h;unfold Ba at i;split at i;·rename_i m e g;cases i;rw[g]at f;have f:d=.array _ _:=f;subst f;exact⟨rfl,_,by simp[Builtin.len_,o,run_underlying p,goInt],VR.int _ _⟩
    ·rename_i g;rw[g]at f;have f:d=.string:=f;subst f;unfold T3 at i;split at i;·rename_i s E;cases i;have:=str?_eq E;subst this;obtain⟨b,rfl,F⟩:=hx.zV;refine⟨rfl,.int .i64 b.size,by simp[Builtin.len_,o,run_underlying p,goInt],?_⟩;grind[Bx,VR.int]
     grind
    ·rename_i e g;rw[g]at f;have f:d=.slice _:=f;subst f;obtain⟨a,c,rfl⟩:=O0 hx i;exact⟨rfl,_,by simp[Builtin.len_,o,run_underlying p,goInt],VR.int _ _⟩
    ·rename_i H J g;rw[g]at f;have f:d=.map _ _:=f;subst f;unfold Mg at i;split at i
     ·cases i;cases hx with
      |mR _ h=>cases h;exact⟨rfl,.int .i64 0,by simp[Builtin.len_,o,run_underlying p,goInt],VR.int _ _⟩
     ·cases i;cases hx with
      |mR _ h=>cases h with
       |fm _ _ _ r j clk hm z hI hl u hko f hv=>refine⟨rfl,.int .i64 j.size,by simp[Builtin.len_,o,run_underlying p,goInt,Je z],?_⟩;grind[VR.int]
     ·split at i
      ·rename_i b K c k;cases i;cases hx with
       |mR hp _=>simp[AV.oI]at hp
       |hm _ r F hl=>obtain⟨l,A,rfl⟩:=hl _ _ k;obtain⟨j,z,D,_⟩:=hW.map _ _ _ _ A k;refine⟨rfl,.int .i64 j.size,by simp[Builtin.len_,o,run_underlying p,goInt,Je z],?_⟩;grind[VR.int]
      grind
     grind
    grind
   ·cases h
  ·cases h
 ·cases h
def U0{C:nu}{t:Nat}{ti:TI}(h:BH C t=some ti):∃tt el,C.T t=some tt/\tt.kind=.slice el/\C.T el=some ti:=by grind[BH]
def xj(hC:nV P C){t:Nat}{ti:TI}(h:BH C t=some ti):∃el,P.underlying t=some (.slice el)/\C.T el=some ti/\sO P el ti:=by obtain⟨c,el,e,f,b⟩:=U0 h;obtain⟨d,g,_,a⟩:=(hC.ty t c e).desc;rw[f]at a;have a:d=.slice el:=a;subst a;exact⟨el,g,b,hC.ty el ti b⟩
def UH(hC:nV P C){ats:Array Nat}{x:AV}{x':Value}{ty:Nat}{r:AV×aT}(hx:VR G x x')(h:Kj C ats.toList [x] G.h=some r) :
  rT P G (Builtin.cap_ ats ty #[x']) r:=by
 unfold Kj at h;split at h
 ·rename_i ti y e i;simp only[List.cons.injEq,and_true]at i;subst i;unfold wM at e;split at e
  ·rename_i t j b;have f:ats[0]?=some t:=by rw[<- Array.getElem?_toList,b];rfl
   obtain⟨k,g,_,_⟩:=xj hC e;unfold uZ at h;split at h
   ·rename_i n d;cases h;unfold YF at d;split at d
    ·cases d;cases hx with
     |mR _ h=>cases h with
      |slnil=>exact⟨rfl,.int .i64 0,by simp[Builtin.cap_,f,run_underlying g,goInt],VR.int _ _⟩
      |sy _ _ _ _ _ a=>cases a
      |sl _ _ _ _ _ _ _ _ _ _ _ _ _ _ a=>cases a
    ·cases d;cases hx with
     |mR _ h=>cases h with
      |sy _ _ _ c _ a=>have a:c = _:=a;subst a;exact⟨rfl,_,by simp[Builtin.cap_,f,run_underlying g,goInt],VR.int _ _⟩
      |sl _ _ _ _ _ _ _ _ c _ _ _ _ _ a=>have a:c = _:=a;subst a;exact⟨rfl,_,by simp[Builtin.cap_,f,run_underlying g,goInt],VR.int _ _⟩
    grind
   ·cases h
  grind
 ·cases h
theorem xZ(k:IntKind)(n:Int)(w:World):(asIntOf (.int k n)).run P w=.ok (k,n) w:=rfl
def I6(hW:WR G)(hC:nV P C){x i:AV}{x' i':Value}{r:AV×aT}(hx:VR G x x')(hi:VR G i i')(h:tB C G.h t x i=some r) :
  rT P G (Instr.indexAt t x' i') r:=by
 unfold tB at h;split at h;·cases h
 ·rename_i ti F;obtain⟨d,H,_,q⟩:=(hC.ty t ti F).desc;split at h;·cases h
  ·rename_i n O;obtain⟨k,rfl⟩:=D4 O;rw[hi.of_int];split at h
   ·rename_i el w;rw[w]at q;have q:d=.slice el:=q;subst q;split at h
    ·rename_i s y;have p:=hC.ty el s y;unfold wI at h;split at h
     ·rename_i J c;split at h
      ·rename_i A o;split at h
       ·rename_i u;have u:=acl u;cases h;have l:n<J.length:=(alt.1 o).1;cases hx with
        |mR _ h=>
         cases h with
         |slnil=>grind
         |sy=>grind
         |sl _ _ _ B base cc e fr cap' esz f hm hB hI hcap hle M hc h1 hr=>
          have Q:=M n A o;refine⟨rfl,.pointer (some ⟨B,base+n*s.size,none⟩),?_,?_⟩;·(have K:(0:Int)<=(n:Int)/\(n:Int)<(J.length:Int):=by omega);simp[Instr.indexAt,xZ,run_underlying H,p.sizeOf,vy,l]
          ·(have R:esz=s.size:=by omega);subst R;refine .mR rfl (.ip _ A 0 (vF c) B (base+n*s.size) cc e fr (f n) (λ_=>rfl) hB ?_ (λj x D=>hc n A j x o D) (λj x D=>h1 n A j x o D) ?_);·cases c<;>exact hI
           ·intro j x D;have:=hr n A j x o D;cases c<;>exact this
       ·cases h
      ·cases h
     ·rename_i b g L len;split at h
      ·rename_i g' z J N;split at h
       ·rename_i E;simp only[Bool.and_eq_true,Nat.beq_eq,Nat.blt_eq]at E;obtain⟨l,M⟩:=E;simp only[sj,Option.some.injEq]at h;subst h;cases hx with
        |mR hp _=>simp[AV.oI]at hp
        |hs _ _ _ _ a cap' E hg hle hl=>
         refine⟨rfl,.pointer (some (a.add (n*s.size))),?_,?_⟩;·simp[Instr.indexAt,xZ,run_underlying H,p.sizeOf,l]
         ·refine .ptr b g (L+n) 0 _ E hg ?_;grind[vy]
       ·cases h
      ·cases h
     ·cases h
    ·cases h
   ·rename_i m el w;rw[w]at q;have q:d=.array m el:=q;subst q;split at h
    ·rename_i s y;have p:=hC.ty el s y;split at h;·rename_i l;simp only[Nat.blt_eq]at l;obtain⟨v,S,rfl⟩:=qU h;obtain⟨a,rfl,T⟩:=Jx hx S;refine⟨rfl,.pointer (some (a.add (n*s.size))),?_,T⟩;simp[Instr.indexAt,xZ,run_underlying H,p.sizeOf,Instr.sureAddr,l]
     ·cases h
    ·cases h
   ·cases h
def OZ(hC:nV P C){x i:AV}{x' i':Value}{r:AV×aT}(hx:VR G x x')(hi:VR G i i')(h:C3 C G.h t x i=some r) :
  rT P G (Instr.index t x' i') r:=by
 unfold C3 at h;split at h;·cases h
 ·rename_i ti j;obtain⟨d,w,_,e⟩:=(hC.ty t ti j).desc;split at h;·cases h
  ·rename_i n z;obtain⟨k,rfl⟩:=D4 z;rw[hi.of_int];split at h
   ·rename_i f;rw[f]at e;have e:d=.string:=e;subst e;split at h
    ·rename_i s A;have:=str?_eq A;subst this;obtain⟨b,rfl,B⟩:=hx.zV;split at h
     ·rename_i c y;cases h;refine⟨rfl,.int .u8 c.toNat,?_,VR.int _ _⟩;have l:b[n]?=some c:=by subst B;rw[Array.getElem?_toList]at y;obtain⟨a,D⟩:=ano.1 y;rw[getElem?_pos b n a];exact congrArg some D
      simp[Instr.index,xZ,run_underlying w,l]
     ·cases h
    ·cases h
   ·rename_i m el f;rw[f]at e;have e:d=.array m el:=e;subst e;split at h
    ·rename_i E o;have g:=hC.ty el E o;split at h
     ·rename_i M p;split at h;·rename_i a;simp only[Nat.blt_eq]at a;obtain⟨v,F,rfl⟩:=qU h;have:=agg?_eq p;subst this;obtain⟨N,rfl,H,J,K⟩:=hx.Bi;obtain⟨u,L,q⟩:=JA g H J K F;refine⟨rfl,u,?_,q⟩;simp[Instr.index,xZ,run_underlying w,g.sizeOf,a,L]
      ·cases h
     ·cases h
    ·cases h
   ·cases h
end
end Go.Sx
