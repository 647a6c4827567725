/- Proves rules for the walks and their soundness. -/
import GoSem.Core.Code
import GoSem.Core.Program
import GoSem.Core.View
import Derived.Calls
import Derived.Laws.Append
import Derived.Laws.Tables
import Derived.Laws.StructEq
import Derived.Laws.IdiomCopy
import Derived.Laws.Slices
import Derived.Laws.Rows
import Derived.Laws.Cells
import Derived.Laws.CopyRow
set_option linter.all false
namespace Go.Sx
inductive mV where
 | nil
 | exact (n:Nat)
 | j6
 | lP
 deriving DecidableEq,Inhabited
inductive AV where
 | undef
 | bool (b:Bool)
 | int (k:IntKind) (n:Int)
 | str (s:List UInt8)
 | jV
 | ip (cells:List AV) (off:Nat) (sn:Bool)
 | la (d off:Nat)
 | ptr (b g i off:Nat)
 | sl (xs:List (List AV)) (cap:mV)
 | hs (b g off len:Nat)
 | ka
 | fm (es:List (AV×AV)) (sn:Bool)
 | hm (b:Nat)
 | jz (f:Nat) (first cap:List AV)
 | kX
 | agg (cells:List AV)
 | je (vs:List AV)
 deriving Inhabited
section force
variable {β:Type}
@[inline] def fB (b:Bool) (k:Bool->β) : β:=match b with
  | true=>k true
  | false=>k false
@[inline] def fN (n:Nat) (k:Nat->β) : β:=match n with
  | 0=>k 0
  | m+1=>k (m+1)
@[inline] def fI (n:Int) (k:Int->β) : β:=match n with
  | .ofNat m=>fN m λm=>k (.ofNat m)
  | .negSucc m=>fN m λm=>k (.negSucc m)
def xY {α:Type}:List α->(List α->β)->β
 | [],k=>k []
 | a::l,k=>xY l λl=>k (a::l)
def f1 (v:AV) (k:AV->β) : β:=match v with
 | .bool b=>fB b λb=>k (.bool b)
 | .int kd n=>fI n λn=>k (.int kd n)
 | .str s=>xY s λs=>k (.str s)
 | .ip c o s=>fN o λo=>fB s λs=>k (.ip c o s)
 | .la d o=>fN o λo=>k (.la d o)
 | .ptr b g i o=>fN b λb=>fN g λg=>fN i λi=>fN o λo=>k (.ptr b g i o)
 | .hs b g o l=>fN b λb=>fN g λg=>fN o λo=>fN l λl=>k (.hs b g o l)
 | .hm b=>fN b λb=>k (.hm b)
 | .sl xs c=>xY xs λxs=>k (.sl xs c)
 | v=>k v
def fL:List AV->(List AV->β)->β
 | [],k=>k []
 | a::l,k=>f1 a λa=>fL l λl=>k (a::l)
def SK:List (List AV)->(List (List AV)->β)->β
 | [],k=>k []
 | a::l,k=>fL a λa=>SK l λl=>k (a::l)
end force
section forceEq
variable {β:Type}
@[simp] theorem w7 (b:Bool) (k:Bool->β):fB b k=k b:=by cases b<;>rfl
@[simp] theorem nf (b:Nat) (k:Nat->β):fN b k=k b:=by cases b<;>rfl
@[simp] theorem u6 (b:Int) (k:Int->β):fI b k=k b:=by cases b<;>simp [fI]
@[simp] theorem pS {α:Type} (l:List α) (k:List α->β):xY l k=k l:=by
  induction l generalizing k with
  | nil=>rfl
  | cons a l ih=>simp [xY,ih]
@[simp] theorem ahx (v:AV) (k:AV->β):f1 v k=k v:=by cases v<;>simp [f1]
@[simp] theorem B5 (l:List AV) (k:List AV->β):fL l k=k l:=by
  induction l generalizing k with
  | nil=>rfl
  | cons a l ih=>simp [fL,ih]
@[simp] theorem ahu (l:List (List AV)) (k:List (List AV)->β):SK l k=k l:=by
  induction l generalizing k with
  | nil=>rfl
  | cons a l ih=>simp [SK,ih]
end forceEq
inductive jP where
 | iH (gen esz:Nat) (xs:List (List AV))
 | map (es:List (AV×AV×Nat)) (clock:Nat)
 deriving Inhabited
inductive Tr (α:Type) where
 | leaf
 | node (l:Tr α) (v:Option α) (r:Tr α)
namespace Tr
variable {α β:Type}
def get:Tr α->Nat->Option α
 | .leaf,_=>none
 | .node l v r,n=>match n with
   | 0=>v
   | m+1=>match Nat.beq (m % 2) 0 with
     | true=>get l (m / 2)
     | false=>get r (m / 2)
def ins (x : α):Nat->Nat->Tr α->(Tr α->β)->β
 | 0,_,t,k=>k t
 | f+1,n,.leaf,k=>match n with
   | 0=>k (.node .leaf (some x) .leaf)
   | m+1=>match Nat.beq (m % 2) 0 with
     | true=>ins x f (m / 2) .leaf λl=>k (.node l none .leaf)
     | false=>ins x f (m / 2) .leaf λr=>k (.node .leaf none r)
 | f+1,n,.node l v r,k=>match n with
   | 0=>k (.node l (some x) r)
   | m+1=>match Nat.beq (m % 2) 0 with
     | true=>ins x f (m / 2) l λl=>k (.node l v r)
     | false=>ins x f (m / 2) r λr=>k (.node l v r)
end Tr
structure aT where
 tr:Tr jP
 size:Nat
 lo:Nat
 iq:List (Nat×List AV)
def aT.empty:aT:=⟨.leaf,0,0,[]⟩
def aT.get (h:aT) (b:Nat):Option jP:=match Nat.ble h.lo b with
 | true=>h.tr.get b
 | false=>none
def fO {β:Type} (o:jP) (k:jP->β) : β:=match o with
 | .iH g z xs=>fN g λg=>fN z λz=>SK xs λxs=>k (.iH g z xs)
 | .map es c=>fN c λc=>xY es λes=>k (.map es c)
@[simp] theorem RA {β:Type} (o:jP) (k:jP->β):fO o k=k o:=by cases o<;>simp [fO]
def aT.set (h:aT) (b:Nat) (o:jP):aT:=fO o λo=>h.tr.ins o (b+1) b λt=>⟨t,h.size,h.lo,h.iq⟩
def aT.push (h:aT) (o:jP):aT:=fO o λo=>fN (h.size+1) λs=>h.tr.ins o s h.size λt=>⟨t,s,h.lo,h.iq⟩
def fH {β:Type} (h:aT) (k:aT->β) : β:=match h with
 | ⟨t,s,l,m⟩=>k ⟨t,s,l,m⟩
@[simp] theorem zn {β:Type} (h:aT) (k:aT->β):fH h k=k h:=rfl
abbrev kI:=List (Nat×List AV)
def jM:kI->Nat->Option (List AV)
 | [],_=>none
 | p::e,t=>match Nat.beq t p.1 with
   | true=>some p.2
   | false=>jM e t
def uH:kI->Nat->List AV->kI
 | [],_,_=>[]
 | p::e,t,v=>match Nat.beq t p.1 with
   | true=>(t,v)::e
   | false=>p::uH e t v
abbrev Env:=List (Nat×AV)
def lE:Env->Nat->AV
 | [],_=>.undef
 | p::e,t=>match Nat.beq t p.1 with
   | true=>p.2
   | false=>lE e t
def FI (e:Env) (t:Nat) (v:AV):Env:=(t,v)::e
def AV.wO (t:Nat):AV->Bool
 | .la d o=>Nat.beq t d&&Nat.beq o 0
 | .je _=>false
 | _=>true
def keep (t:Nat) (v:AV):AV:=match v.wO t with
 | true=>v
 | false=>.undef
def proj (live:List Nat) (e:Env):Env:=live.map λt=>(t,keep t (lE e t))
def kS:List Nat->kI->kI
 | [],_=>[]
 | t::l,m=>match jM m t with
   | some c=>(t,c)::kS l m
   | none=>kS l m
def DP {β:Type} (t:Nat) (k:AV->β):Env->β
 | []=>k .undef
 | (a,v)::e=>match Nat.beq t a with
   | true=>k v
   | false=>DP t k e
def zN {β:Type}:List Nat->Env->(Env->β)->β
 | [],_,k=>k []
 | t::l,e,k=>DP t (λv=>match v.wO t with
   | true=>zN l e λr=>k ((t,v)::r)
   | false=>zN l e λr=>k ((t,.undef)::r)) e
def wF {β:Type}:List Nat->kI->(kI->β)->β
 | [],_,k=>k []
 | t::l,m,k=>match jM m t with
   | some c=>wF l m λr=>k ((t,c)::r)
   | none=>wF l m k
theorem Oz {β:Type} (t:Nat) (k:AV->β) (e:Env):DP t k e=k (lE e t):=by
 induction e<;>grind [DP,lE]
@[simp] theorem ahe {β:Type} (l:List Nat) (e:Env) (k:Env->β):zN l e k=k (proj l e):=by
  induction l generalizing k with
  | nil=>rfl
  | cons t l ih =>
    simp only [zN,Oz,proj,List.map_cons,keep]
    cases h:(lE e t).wO t
    ·exact ih _
    ·exact ih _
@[simp] theorem adB {β:Type} (l:List Nat) (m:kI) (k:kI->β):wF l m k=k (kS l m):=by
  induction l generalizing k with
  | nil=>rfl
  | cons t l ih =>
    simp only [wF,kS]
    cases h:jM m t
    ·exact ih _
    ·exact ih _
inductive TK where
 | bool | int (k:IntKind) | str | ptr | slice (elem:Nat) | array (len elem:Nat) | map (key elem:Nat) | struct (fs:List (Nat×Nat)) | func | other
structure TI where
 kind:TK
 agg:Bool
 size:Nat
 bytes:Nat
 zero:List AV
 flat:Bool
 sc:List TK
def EF:Value->AV
 | .bool b=>.bool b
 | .int k n=>.int k n
 | .string s=>.str s.data.toList
 | .pointer none=>.jV
 | .slice none 0 0=>.sl [] .nil
 | .map none=>.ka
 | .nilFunc=>.kX
 | _=>.undef
def WN:Value->Bool
 | .bool _ | .int _ _ | .string _ | .pointer none | .slice none 0 0 | .map none | .nilFunc=>true
 | _=>false
def cv:Value->AV
 | .agg cs=>match cs.toList.all WN with
   | true=>.agg (cs.toList.map EF)
   | false=>.undef
 | v=>EF v
def iP (e:Env):Operand->AV
 | .tmp t=>lE e t
 | .const v=>cv v
 | .global _=>.undef
 | .func f=>.jz f [] []
def AV.j5:AV->Bool
 | .undef | .la _ _ | .agg _ | .je _=>false
 | _=>true
def AV.lG:AV->Bool
 | .bool _ | .int _ _ | .str _ | .jV | .ip _ _ false | .ka | .fm _ false | .kX=>true
 | .sl _ .lP=>false
 | .sl _ _=>true
 | _=>false
def AV.zx:AV->Bool
 | .jz _ a c=>a.all AV.lG&&c.all AV.lG
 | v=>v.lG
def AV.int?:AV->Option (IntKind×Int)
 | .int k n=>some (k,n)
 | _=>none
def AV.str?:AV->Option (List UInt8)
 | .str s=>some s
 | _=>none
def AV.bool?:AV->Option Bool
 | .bool s=>some s
 | _=>none
def AV.agg?:AV->Option (List AV)
 | .agg s=>some s
 | _=>none
def cellsOf (ti:TI) (v:AV):Option (List AV) :=
 match ti.agg with
 | true=>match v.agg? with
   | some l=>match Nat.beq l.length ti.size with
     | true=>some l
     | false=>none
   | none=>none
 | false=>match v.j5&&Nat.beq ti.size 1 with
   | true=>some [v]
   | false=>none
def B3 (n:Nat) (r:List AV):Option AV:=match Nat.beq r.length n with
 | true=>some (.agg r)
 | false=>none
def part (ti:TI) (cs:List AV) (o:Nat):Option AV:=match ti.agg with
 | true=>xY ((cs.drop o).take ti.size) (B3 ti.size)
 | false=>cs[o]?
def nv (cs:List AV) (o:Nat) (new:List AV):Option (List AV) :=
 match Nat.ble (o+new.length) cs.length with
 | true=>xY (cs.take o++new++cs.drop (o+new.length)) some
 | false=>none
structure jE where
 T:Nat->Option TI
def G6:Int->Int->Bool
 | .ofNat a,.ofNat b=>Nat.beq a b
 | .negSucc a,.negSucc b=>Nat.beq a b
 | _,_=>false
def BN:Int->Int->Bool
 | .ofNat a,.ofNat b=>Nat.ble a b
 | .negSucc a,.negSucc b=>Nat.ble b a
 | .negSucc _,.ofNat _=>true
 | .ofNat _,.negSucc _=>false
def Iu:Int->Int->Int
 | .ofNat a,.ofNat b=>.ofNat (Nat.add a b)
 | .ofNat a,.negSucc b=>match Nat.ble (Nat.succ b) a with
   | true=>.ofNat (Nat.sub a (Nat.succ b))
   | false=>.negSucc (Nat.sub b a)
 | .negSucc b,.ofNat a=>match Nat.ble (Nat.succ b) a with
   | true=>.ofNat (Nat.sub a (Nat.succ b))
   | false=>.negSucc (Nat.sub b a)
 | .negSucc a,.negSucc b=>.negSucc (Nat.succ (Nat.add a b))
def JC:Int->Int
 | .ofNat 0=>.ofNat 0
 | .ofNat (n+1)=>.negSucc n
 | .negSucc n=>.ofNat (n+1)
def sH (k:IntKind) (n:Int):Int:=match k,n with
 | .i64,.ofNat a=>match Nat.ble a 4611686018427387904 with
   | true=>.ofNat a
   | false=>IntKind.wrap .i64 (.ofNat a)
 | .i64,.negSucc a=>match Nat.ble a 4611686018427387904 with
   | true=>.negSucc a
   | false=>IntKind.wrap .i64 (.negSucc a)
 | k,n=>k.wrap n
def Mb:IntKind->Nat
 | .i8=>0
 | .i16=>1
 | .i32=>2
 | .i64=>3
 | .u8=>4
 | .u16=>5
 | .u32=>6
 | .u64=>7
def oA (a b:IntKind):Bool:=Nat.beq (Mb a) (Mb b)
theorem qX (a b:IntKind):oA a b=true↔a=b:=by cases a<;>cases b<;>simp [oA,Mb]
def vK (k:IntKind) (a:Int) (y:AV):Option Bool:=match y.int? with
 | some (k',b)=>match oA k k' with
   | true=>some (G6 a b)
   | false=>none
 | none=>none
def zH (a:List UInt8) (y:AV):Option Bool:=match y.str? with
 | some b=>some (a==b)
 | none=>none
def yS (a:Bool) (y:AV):Option Bool:=match y.bool? with
 | some b=>some (a==b)
 | none=>none
def pF (_:AV):Option Bool:=none
def mu:AV->AV->Option Bool
 | .bool a=>yS a
 | .int k a=>vK k a
 | .str a=>zH a
 | _=>pF
def lU:List AV->List AV->Option Bool
 | [],[]=>some true
 | a::x,b::y=>match mu a b with
   | some true=>lU x y
   | some false=>match lU x y with
     | some _=>some false
     | none=>none
   | none=>none
 | _,_=>none
def BO (x:List AV) (y:AV):Option Bool:=match y.agg? with
 | some y=>lU x y
 | none=>none
def lC (x y:AV):Option Bool:=match x.agg? with
 | some l=>BO l y
 | none=>mu x y
def findKey (k:AV):List (AV×AV×Nat)->Nat->Option (Option (Nat×AV))
 | [],_=>some none
 | (k',v,_)::es,i=>match lC k k' with
   | some true=>some (some (i,v))
   | some false=>findKey k es (i+1)
   | none=>none
def qI (k:AV):List (AV×AV)->Option (Option AV)
 | []=>some none
 | (k',v)::es=>match lC k k' with
   | some true=>some (some v)
   | some false=>qI k es
   | none=>none
def bytesLess:List UInt8->List UInt8->Bool
 | _,[]=>false
 | [],_::_=>true
 | a::x,b::y=>a<b||(a==b&&bytesLess x y)
theorem pH (a b:Int):G6 a b=(a==b):=by
 apply Bool.eq_iff_iff.2
 cases a<;>cases b<;>simp only [G6,Nat.beq_eq,beq_iff_eq,Int.ofNat_eq_natCast,Int.negSucc_eq,Bool.false_eq_true,false_iff]<;>omega
theorem wX (a b:Int):BN a b=decide (a<=b):=by
 apply Bool.eq_iff_iff.2
 cases a<;>cases b<;>simp only [BN,Nat.ble_eq,decide_eq_true_eq,Int.ofNat_eq_natCast,Int.negSucc_eq,Bool.false_eq_true,false_iff,true_iff]<;>omega
theorem CS (a b:Int):Iu a b=a+b:=by
 cases a<;>cases b<;>simp only [Iu,Nat.add_eq,Nat.sub_eq]
 ·rfl
 ·split
  ·rename_i h; simp only [Nat.ble_eq] at h; grind
  ·rename_i h
   have h:=(Bool.not_eq_true _).symm.mp h
   simp only [Nat.ble_eq] at h; grind
 ·split
  ·rename_i h; simp only [Nat.ble_eq] at h; grind
  ·rename_i h
   have h:=(Bool.not_eq_true _).symm.mp h
   simp only [Nat.ble_eq] at h; grind
 rfl
theorem CI (a:Int):JC a = -a:=by
 rcases a with (_ | n) | n<;>simp only [JC,Int.ofNat_eq_natCast,Int.negSucc_eq]<;>omega
theorem ug (n:Int) (h1 : -9223372036854775808<=n) (h2:n<=9223372036854775807):IntKind.wrap .i64 n=n:=by
 grind [IntKind.wrap,IntKind.bits,IntKind.signed]
theorem sf (k:IntKind) (n:Int):sH k n=k.wrap n:=by
 unfold sH
 split
 ·split
  ·rename_i h
   simp only [Nat.ble_eq] at h
   grind [ug]
  ·rfl
 ·split
  ·rename_i h
   simp only [Nat.ble_eq] at h
   grind [ug]
  ·rfl
 ·rfl
def oc (k:IntKind) (n:Int):Option AV:=some (.int k n)
def AP (b:Bool):Option AV:=some (.bool b)
def sF:Bool->Option AV
 | true=>some (.bool false)
 | false=>some (.bool true)
abbrev IB:=IntKind->Int->Int->Option AV
def Jk:IB:=λk x y=>fI (sH k (Iu x y)) (oc k)
def Kb:IB:=λk x y=>fI (sH k (Iu x (JC y))) (oc k)
def QW:IB:=λk x y=>fI (sH k (x*y)) (oc k)
def RN:IB:=λk x y=>if y=0 then none else fI (sH k (x.tdiv y)) (oc k)
def PF:IB:=λk x y=>if y=0 then none else fI (x.tmod y) (oc k)
def Io:IB:=λ_ x y=>fB (G6 x y) AP
def IJ:IB:=λ_ x y=>fB (G6 x y) sF
def Jy:IB:=λ_ x y=>fB (BN y x) sF
def IQ:IB:=λ_ x y=>fB (BN x y) AP
def JW:IB:=λ_ x y=>fB (BN x y) sF
def HH:IB:=λ_ x y=>fB (BN y x) AP
def Sd:IB:=λk x y=>fI (k.wrap (BitVec.ofInt k.bits x &&& BitVec.ofInt k.bits y).toNat) (oc k)
def VN:IB:=λk x y=>fI (k.wrap (BitVec.ofInt k.bits x ||| BitVec.ofInt k.bits y).toNat) (oc k)
def DQ:IB:=λk x y=>fI (k.wrap (BitVec.ofInt k.bits x ^^^ BitVec.ofInt k.bits y).toNat) (oc k)
def EZ:IB:=λk x y=>fI (k.wrap (BitVec.ofInt k.bits x &&& ~~~ BitVec.ofInt k.bits y).toNat) (oc k)
def abA:IB:=λk x y=>if y<0 then none else fI (sH k (x*2 ^ (min y.toNat k.bits))) (oc k)
def aa1:IB:=λk x y=>if y<0 then none else fI (x.fdiv (2 ^ (min y.toNat k.bits))) (oc k)
def VX:IB:=λ_ _ _=>none
def ua:BinOp->Bool
 | .shl | .shr=>true
 | _=>false
def lQ:BinOp->IB
 | .add=>Jk
 | .sub=>Kb
 | .mul=>QW
 | .quo=>RN
 | .rem=>PF
 | .eql=>Io
 | .neq=>IJ
 | .lss=>Jy
 | .leq=>IQ
 | .gtr=>JW
 | .geq=>HH
 | .and=>Sd
 | .or=>VN
 | .xor=>DQ
 | .andNot=>EZ
 | .shl=>abA
 | .shr=>aa1
def BB (op:BinOp) (x y:List UInt8):Option AV :=
 match op with
 | .add=>match Nat.ble (x.length+y.length) 1099511627776 with
   | true=>xY (x++y) λs=>some (.str s)
   | false=>none
 | .eql=>some (.bool (x==y))
 | .neq=>some (.bool !(x==y))
 | .lss=>some (.bool (bytesLess x y))
 | .leq=>some (.bool (bytesLess x y||x==y))
 | .gtr=>some (.bool !(bytesLess x y||x==y))
 | .geq=>some (.bool !(bytesLess x y))
 | _=>none
def NN:AV->Option Bool
 | .jV=>some true
 | .ptr ..=>some false
 | .ip ..=>some false
 | .la ..=>some false
 | _=>none
def NR:AV->Option Bool
 | .sl _ .nil=>some true
 | .sl ..=>some false
 | .hs ..=>some false
 | _=>none
def Me:AV->Option Bool
 | .ka=>some true
 | .hm _=>some false
 | .fm ..=>some false
 | _=>none
def NK:AV->Option Bool
 | .kX=>some true
 | .jz ..=>some false
 | _=>none
def tF (f:AV->Option Bool) (x y:AV):Option Bool:=match f x,f y with
 | some true,some b=>some b
 | some false,some true=>some false
 | _,_=>none
def rR:TK->AV->Bool
 | .int kd,.int k _=>oA kd k
 | .str,.str _=>true
 | .bool,.bool _=>true
 | _,_=>false
def uF:AV->Bool
 | .bool _ | .int .. | .str _=>true
 | _=>false
def fitAll:List TK->List AV->Bool
 | [],[]=>true
 | t::ts,a::l=>rR t a&&fitAll ts l
 | _,_=>false
def F7 (ti:TI) (x y:AV):Option Bool:=match ti.flat,x.agg?,y.agg? with
 | true,some a,some b=>match Nat.beq a.length ti.size&&Nat.beq b.length ti.size&&fitAll ti.sc a with
   | true=>lU a b
   | false=>none
 | _,_,_=>none
def LC (x y:AV):Option Bool:=match x.bool?,y.bool? with
 | some a,some b=>some (a==b)
 | _,_=>none
def xh (ti:TI) (x y:AV):Option Bool:=match ti.kind with
 | .bool=>LC x y
 | .ptr=>tF NN x y
 | .slice _=>tF NR x y
 | .map _ _=>tF Me x y
 | .func=>tF NK x y
 | .struct _=>F7 ti x y
 | .array _ _=>F7 ti x y
 | _=>none
def yv (C:jE) (op:BinOp) (t:Nat) (x y:AV):Option AV:=match C.T t with
 | none=>none
 | some ti=>match op with
   | .eql=>match xh ti x y with
     | some b=>some (.bool b)
     | none=>none
   | .neq=>match xh ti x y with
     | some b=>sF b
     | none=>none
   | _=>none
def FF (op:BinOp) (p:IntKind×Int) (y:AV):Option AV:=match y.int? with
 | some (k,b)=>match oA p.1 k||ua op with
   | true=>lQ op p.1 p.2 b
   | false=>none
 | none=>none
def Fw (op:BinOp) (a:List UInt8) (y:AV):Option AV:=match y.str? with
 | some b=>BB op a b
 | none=>none
def binOp (C:jE) (op:BinOp) (t:Nat) (x y:AV):Option AV:=match x.int? with
 | some p=>FF op p y
 | none=>match x.str? with
   | some a=>Fw op a y
   | none=>yv C op t x y
def unOp (op:UnOp) (x:AV):Option AV:=match op with
 | .not=>match x.bool? with
   | some b=>sF b
   | none=>none
 | .neg=>match x.int? with
   | some (k,n)=>fI (sH k (JC n)) (oc k)
   | none=>none
 | .xor=>match x.int? with
   | some (k,n)=>DQ k (if k.signed then -1 else k.max) n
   | none=>none
 | _=>none
def min2:AV->AV->Option AV
 | .int k x,.int _ y=>some (.int k (if y<x then y else x))
 | _,_=>none
def max2:AV->AV->Option AV
 | .int k x,.int _ y=>some (.int k (if y > x then y else x))
 | _,_=>none
def Bn (f:AV->AV->Option AV):AV->List AV->Option AV
 | a,[]=>some a
 | a,b::l=>match f a b with
   | some c=>Bn f c l
   | none=>none
def elems (h:aT):AV->Option (List (List AV))
 | .sl xs _=>some xs
 | .hs b g off len=>match h.get b with
   | some (.iH g' _ xs)=>match Nat.beq g g'&&Nat.ble (off+len) xs.length with
     | true=>some ((xs.drop off).take len)
     | false=>none
   | _=>none
 | _=>none
def zE (ys:List (List AV)):Bool:=ys.all λc=>c.all AV.j5
def sw (ys:List (List AV)):Bool:=ys.all λc=>c.all AV.zx
def nM (n:Nat) (ys:List (List AV)):Bool:=ys.all λc=>Nat.beq c.length n
def overwrite (xs:List (List AV)) (at_:Nat) (ys:List (List AV)):List (List AV):=xs.take at_++ys++xs.drop (at_+ys.length)
def qQ:Nat:=1048576
def rn (n:Nat) (h:aT) (xs ys:List (List AV)):Option (AV×aT) :=
 match nM n xs&&Nat.ble (xs.length+ys.length) qQ with
 | true=>fN (xs.length+ys.length) λm=>some (.hs h.size 0 0 m,h.push (.iH 0 n (xs++ys)))
 | false=>none
def BX (n:Nat) (h:aT) (b g off len:Nat) (ys:List (List AV)):Option (AV×aT) :=
 match h.get b with
 | some (.iH g' z xs)=>match Nat.beq g g'&&Nat.beq z n&&Nat.ble (off+len+ys.length) qQ with
   | false=>none
   | true=>match Nat.ble (off+len+ys.length) xs.length with
     | true=>fN (len+ys.length) λm=>some (.hs b g off m,h.set b (.iH g z (overwrite xs (off+len) ys)))
     | false=>match Nat.beq (off+len) xs.length with
       | true=>fN (len+ys.length) λm=>some (.hs b (g+1) 0 m,h.set b (.iH (g+1) z (xs.drop off++ys)))
       | false=>none
 | _=>none
def append (n:Nat) (h:aT) (s:AV) (ys:List (List AV)):Option (AV×aT) :=
 match ys with
 | []=>match s with
   | .sl xs c=>some (.sl xs c,h)
   | .hs b g off len=>some (.hs b g off len,h)
   | _=>none
 | _::_=>match nM n ys with
   | false=>none
   | true=>match s with
     | .sl xs .nil=>rn n h xs ys
     | .sl xs (.exact m)=>match Nat.blt m (xs.length+ys.length) with
       | true=>rn n h xs ys
       | false=>none
     | .hs b g off len=>BX n h b g off len ys
     | _=>none
def VB:Int->Option Nat
 | .ofNat n=>some n
 | .negSucc _=>none
def oX (v:AV):Option Nat:=match v.int? with
 | some (_,n)=>VB n
 | none=>none
def bound (x:Option AV) (dflt:Nat):Option Nat :=
 match x with
 | none=>some dflt
 | some v=>oX v
def HV (s:List UInt8) (lo hi mx:Option AV):Option AV:=match bound lo 0,bound hi s.length,mx with
 | some l,some r,none=>match Nat.ble l r&&Nat.ble r s.length with
   | true=>xY ((s.drop l).take (r - l)) λs=>some (.str s)
   | false=>none
 | _,_,_=>none
def pa (l:Nat):mV->mV
 | .exact n=>.exact (n - l)
 | c=>c
def sV (n:Nat):mV->mV
 | .nil=>.nil
 | .lP=>.lP
 | _=>.exact n
def nW (n:Nat):List (List AV)->Bool
 | []=>true
 | c::_=>Nat.beq c.length n
def pB (hi:Option AV):Option AV->Option (Option Nat)
 | none=>some none
 | some m=>match hi,oX m with
   | some _,some m=>some (some m)
   | _,_=>none
def yy:mV->mV
 | .lP=>.j6
 | c=>c
def A2 (l m:Nat) (cap:mV):List (List AV)->Option AV
 | []=>some (.sl [] (sV (m - l) (yy cap)))
 | x::xs=>some (.sl (x::xs) (sV (m - l) cap))
def vC (n:Nat) (xs:List (List AV)) (cap:mV) (lo hi mx:Option AV):Option AV:=match bound lo 0,bound hi xs.length,pB hi mx with
 | some l,some r,some none=>match Nat.ble l r&&Nat.ble r xs.length&&nW n xs with
   | true=>xY ((xs.drop l).take (r - l)) λxs=>some (.sl xs (pa l cap))
   | false=>none
 | some l,some r,some (some m)=>match Nat.ble l r&&Nat.ble r m&&Nat.ble m xs.length&&nW n xs with
   | true=>xY ((xs.drop l).take (r - l)) (A2 l m cap)
   | false=>none
 | _,_,_=>none
def Bo (b g off:Nat) (l r:Nat):Option Nat->Option AV
 | none=>fN (off+l) λo=>fN (r - l) λk=>some (.hs b g o k)
 | some m=>match Nat.ble r m with
   | true=>match Nat.beq l m with
     | true=>some (.sl [] (.exact 0))
     | false=>some .undef
   | false=>none
def Cx (n:Nat) (h:aT) (b g off len:Nat) (lo hi mx:Option AV):Option AV:=match h.get b with
 | some (.iH g' z xs)=>match Nat.beq g g'&&Nat.beq z n with
   | false=>none
   | true=>match bound lo 0,bound hi len,pB hi mx with
     | some l,some r,some m=>match Nat.ble l r&&Nat.ble (off+r) xs.length&&Nat.ble (off+m.getD 0) xs.length with
       | true=>Bo b g off l r m
       | false=>none
     | _,_,_=>none
 | _=>none
def slice (n:Nat) (h:aT) (x:AV) (lo hi mx:Option AV):Option AV :=
 match x with
 | .sl xs cap=>vC n xs cap lo hi mx
 | .hs b g off len=>Cx n h b g off len lo hi mx
 | _=>none
abbrev LS:=aT->TI->Option AV
def Nw (d o:Nat):LS:=λh ti=>match jM h.iq d with
 | some cs=>part ti cs o
 | none=>none
def Vn (cs:List AV) (o:Nat) (_:Bool):LS:=λ_ ti=>part ti cs o
def BG (b g i o:Nat):LS:=λh ti=>match h.get b with
 | some (.iH g' _ xs)=>match Nat.beq g g' with
   | true=>match xs[i]? with
     | some cs=>part ti cs o
     | none=>none
   | false=>none
 | _=>none
def Us:LS:=λ_ _=>none
def sD:AV->LS
 | .la d o=>Nw d o
 | .ip cs o s=>Vn cs o s
 | .ptr b g i o=>BG b g i o
 | _=>Us
abbrev Re:=List AV->aT->Option aT
def NY (d o:Nat):Re:=λnew h=>match jM h.iq d with
 | some cs=>match nv cs o new with
   | some cs=>some { h with iq:=uH h.iq d cs }
   | none=>none
 | none=>none
def D8 (b g i o:Nat):Re:=λnew h=>match h.get b with
 | some (.iH g' z xs)=>match Nat.beq g g' with
   | true=>match xs[i]? with
     | some cs=>match nv cs o new with
       | some cs=>some (h.set b (.iH g z (xs.set i cs)))
       | none=>none
     | none=>none
   | false=>none
 | _=>none
def Wl:Re:=λ_ _=>none
def y4:AV->Re
 | .la d o=>NY d o
 | .ptr b g i o=>D8 b g i o
 | _=>Wl
def wv (h:aT) (ti:TI) (a v:AV):Option aT :=
 match cellsOf ti v with
 | none=>none
 | some new=>match new.all AV.j5 with
   | true=>y4 a new h
   | false=>none
def VU (d o:Nat) (k:Nat):Option AV:=fN (o+k) λo=>some (.la d o)
def MM (cs:List AV) (o:Nat) (s:Bool) (k:Nat):Option AV:=fN (o+k) λo=>some (.ip cs o s)
def DU (b g i o:Nat) (k:Nat):Option AV:=fN (o+k) λo=>some (.ptr b g i o)
def UD (_:Nat):Option AV:=none
def Cz:AV->Nat->Option AV
 | .la d o=>VU d o
 | .ip cs o s=>MM cs o s
 | .ptr b g i o=>DU b g i o
 | _=>UD
def BT:Bool->mV
 | true=>.lP
 | false=>.j6
def js (f:AV->Option AV):List AV->Option (List AV)
 | []=>some []
 | v::l=>match f v with
   | none=>none
   | some w=>match js f l with
     | none=>none
     | some l'=>some (w::l')
def ns (f:AV->Option AV):List (List AV)->Option (List (List AV))
 | []=>some []
 | v::l=>match js f v with
   | none=>none
   | some w=>match ns f l with
     | none=>none
     | some l'=>some (w::l')
def oE (f:AV->Option AV):List (AV×AV×Nat)->Option (List (AV×AV))
 | []=>some []
 | (k,v,_)::l=>match f v with
   | none=>none
   | some w=>match oE f l with
     | none=>none
     | some l'=>some ((k,w)::l')
def freeze (sn:Bool) (h:aT):Nat->AV->Option AV
 | 0,_=>none
 | n+1,v=>match v with
   | .bool _ | .int _ _ | .str _ | .jV | .ka | .kX=>some v
   | .ip _ _ s=>match s&&!sn with
     | true=>none
     | false=>some v
   | .fm _ s=>match s&&!sn with
     | true=>none
     | false=>some v
   | .sl _ .lP=>match sn with
     | true=>some v
     | false=>none
   | .sl _ _=>some v
   | .ptr b g i o=>match h.get b with
     | some (.iH g' _ xs)=>match Nat.beq g g' with
       | true=>match xs[i]? with
         | some cs=>match js (freeze sn h n) cs with
           | some cs=>some (.ip cs o sn)
           | none=>none
         | none=>none
       | false=>none
     | _=>none
   | .hs b g off len=>match h.get b with
     | some (.iH g' _ xs)=>match Nat.beq g g'&&Nat.ble (off+len) xs.length with
       | true=>match ns (freeze sn h n) ((xs.drop off).take len) with
         | some xs=>some (.sl xs (BT sn))
         | none=>none
       | false=>none
     | _=>none
   | .hm b=>match h.get b with
     | some (.map es _)=>match oE (freeze sn h n) es with
       | some es=>some (.fm es sn)
       | none=>none
     | _=>none
   | .jz f a c=>match js (freeze sn h n) a,js (freeze sn h n) c with
     | some a,some c=>some (.jz f a c)
     | _,_=>none
   | .agg l=>match js (freeze sn h n) l with
     | some l=>some (.agg l)
     | none=>none
   | .je l=>match js (freeze sn h n) l with
     | some l=>some (.je l)
     | none=>none
   | .undef | .la _ _=>none
def AV.qL:AV->Bool
 | .ptr .. | .hs .. | .hm _=>true
 | .agg l=>l.any λ| .ptr .. | .hs .. | .hm _=>true | .jz _ a c=>!(a.all AV.lG&&c.all AV.lG) | _=>false
 | .jz _ a c=>!(a.all AV.lG&&c.all AV.lG)
 | _=>false
def AV.nA:AV->Bool
 | .la .. | .je _=>false
 | _=>true
abbrev iJ:AV:=.sl [] .nil
abbrev iF:AV:=.bool false
end Go.Sx
namespace Go.Sx
inductive lz where
 | nil
 | seq (live:List Nat) (a b:lz)
 | sq (a b:lz)
 | two (a b:lz)
 | loop (live:List Nat) (a:lz)
 | pV (sch:List (Nat×List Nat))
 deriving Inhabited
def nq {α:Type} (f : α->α->Bool):List α->List α->Bool
 | [],[]=>true
 | a::x,b::y=>f a b&&nq f x y
 | _,_=>false
def zM:mV->mV->Bool
 | .nil,.nil=>true
 | .exact n,.exact m=>Nat.beq n m
 | .j6,.j6=>true
 | .lP,.lP=>true
 | _,_=>false
def CZ:Bool->Bool->Bool
 | true,b=>b
 | false,true=>false
 | false,false=>true
def lM:Nat->AV->AV->Bool
 | 0,_,_=>false
 | n+1,a,b=>match a,b with
   | .undef,.undef=>true
   | .bool x,.bool y=>CZ x y
   | .int k x,.int l y=>oA k l&&G6 x y
   | .str x,.str y=>x==y
   | .jV,.jV=>true
   | .ip c o s,.ip d p t=>nq (lM n) c d&&Nat.beq o p&&CZ s t
   | .la d o,.la e p=>Nat.beq d e&&Nat.beq o p
   | .ptr b g i o,.ptr b' g' i' o'=>Nat.beq b b'&&Nat.beq g g'&&Nat.beq i i'&&Nat.beq o o'
   | .sl xs c,.sl ys d=>nq (nq (lM n)) xs ys&&zM c d
   | .hs b g i o,.hs b' g' i' o'=>Nat.beq b b'&&Nat.beq g g'&&Nat.beq i i'&&Nat.beq o o'
   | .ka,.ka=>true
   | .hm b,.hm c=>Nat.beq b c
   | .fm x s,.fm y t=>nq (λp q=>lM n p.1 q.1&&lM n p.2 q.2) x y&&CZ s t
   | .kX,.kX=>true
   | .agg x,.agg y=>nq (lM n) x y
   | _,_=>false
structure iC where
 body:Code
 mv:lz
 iq:List Nat
 p7:List Nat
 jl:List Nat
 res:List ResultVar
 iter:Bool
inductive Ex where
 | j1
 | ext (id:Nat)
 | ret
 deriving DecidableEq
abbrev qA:=Bool->Nat->List AV->aT->Option (AV×aT)
def Bs (C:jE) (ti:TI):List (Nat×AV)->List AV->Option (List AV)
 | [],cs=>some cs
 | (i,v)::rest,cs =>
   match (match ti.kind with
    | .struct fs=>fs[i]?
    | .array n el=>match C.T el with
      | some t=>if i<n then some (i*t.size,el) else none
      | none=>none
    | _=>none) with
   | none=>none
   | some (off,ft)=>match C.T ft with
     | none=>none
     | some t=>match cellsOf t v with
       | none=>none
       | some new=>if new.all AV.j5 then match nv cs off new with
         | none=>none
         | some cs=>Bs C ti rest cs else none
def tE (t:TI):List (Nat×AV)->List (List AV)->Option (List (List AV))
 | [],xs=>some xs
 | (i,v)::rest,xs=>match cellsOf t v with
   | none=>none
   | some new=>match new.all AV.j5&&Nat.blt i xs.length with
     | true=>tE t rest (xs.set i new)
     | false=>none
def AA (fa:iC) (n:Nat) (dst:Option Nat) (h:aT) (xs:List (List AV)):Option (AV×aT) :=
 match dst with
 | none=>none
 | some d=>match fa.p7.elem d||!(sw xs) with
   | true=>some (.hs h.size 0 0 xs.length,h.push (.iH 0 n xs))
   | false=>some (.sl xs (.exact xs.length),h)
def uM (C:jE) (t:Nat):Option TI :=
 match C.T t with
 | some ti=>match ti.kind with
   | .slice el=>C.T el
   | _=>none
 | none=>none
def yz (k v:AV) (es:List (AV×AV×Nat)) (clock:Nat):Option (List (AV×AV×Nat)×Nat) :=
 match findKey k es 0 with
 | none=>none
 | some none=>some (es++[(k,v,clock)],clock+1)
 | some (some (i,_))=>some (es.modify i (λe=>(k,v,e.2.2)),clock)
def GP (k:AV) (es:List (AV×AV×Nat)):Option (List (AV×AV×Nat)) :=
 match findKey k es 0 with
 | none=>none
 | some none=>some es
 | some (some (i,_))=>some (es.eraseIdx i)
def pG (n:Int) (v:AV):List (AV×AV×Nat)->Option (List (AV×AV×Nat))
 | []=>none
 | (k,w,b)::es=>if (b:Int)==n then some ((k,v,b)::es) else match pG n v es with
   | none=>none
   | some es=>some ((k,w,b)::es)
def AV.pt:AV->Bool
 | .bool _ | .int .. | .str _=>true
 | .agg l=>l.all λ| .bool _ | .int .. | .str _=>true | _=>false
 | _=>false
def pR (tk:TI) (k:AV):Bool:=match tk.agg with
 | false=>rR tk.kind k
 | true=>match k.agg? with
   | some l=>tk.flat&&Nat.beq l.length tk.size&&fitAll tk.sc l
   | none=>false
def qD (C:jE) (kt:Nat) (k:AV):Bool:=match C.T kt with
 | some tk=>pR tk k
 | none=>false
def mapKey (C:jE) (t:Nat) (k:AV):Bool:=match C.T t with
 | some tm=>match tm.kind with
   | .map kt _=>qD C kt k
   | _=>false
 | none=>false
def AV.zX:AV->Bool
 | .la .. | .je _=>false
 | .agg l=>l.all AV.j5
 | _=>true
abbrev R2:=Option (AV×aT)
def kB (h:aT):Option AV->R2
 | some v=>some (v,h)
 | none=>none
def KE (x:AV):Option Nat:=match x.str? with
 | some s=>some s.length
 | none=>none
def tI:AV->Option Nat
 | .sl xs _=>some xs.length
 | .hs _ _ _ len=>some len
 | _=>none
def FY (h:aT):AV->Option Nat
 | .ka=>some 0
 | .fm es _=>some es.length
 | .hm b=>match h.get b with
   | some (.map es _)=>some es.length
   | _=>none
 | _=>none
def uy (h:aT) (x:AV):TK->Option Nat
 | .array n _=>some n
 | .str=>KE x
 | .slice _=>tI x
 | .map _ _=>FY h x
 | _=>none
def oG (h:aT):Option Nat->R2
 | some n=>some (.int .i64 n,h)
 | none=>none
def tl (C:jE) (ats:List Nat) (args:List AV) (h:aT):R2:=match ats,args with
 | t::_,[x]=>match C.T t with
   | some ti=>oG h (uy h x ti.kind)
   | none=>none
 | _,_=>none
def QF:AV->Option Nat
 | .sl _ .nil=>some 0
 | .sl _ (.exact n)=>some n
 | _=>none
def pX (C:jE):List Nat->Option TI
 | t::_=>uM C t
 | []=>none
def CP (C:jE) (ats:List Nat) (args:List AV) (h:aT):R2:=match pX C ats,args with
 | some _,[x]=>oG h (QF x)
 | _,_=>none
def o1 (h:aT) (x:AV):Option (List (List AV)):=match x.str? with
 | some l=>some (l.map λc=>[AV.int .u8 c.toNat])
 | none=>elems h x
def zJ:TK->Bool
 | .slice _=>true
 | .str=>true
 | _=>false
def CG (C:jE):List Nat->Bool
 | [_,t]=>match C.T t with
   | some ti=>zJ ti.kind
   | none=>false
 | _=>false
def sx (C:jE) (ats:List Nat) (args:List AV) (h:aT):R2:=match pX C ats,args with
 | some ti,[s,x]=>match CG C ats with
   | true=>match o1 h x with
     | none=>none
     | some ys=>match zE ys with
       | true=>append ti.size h s ys
       | false=>none
   | false=>none
 | _,_=>none
def FM (n:Nat) (h:aT) (ys:List (List AV)):AV->R2
 | .hs b g off len=>match h.get b with
   | some (.iH g' z xs)=>match Nat.beq g g'&&Nat.beq z n&&Nat.ble (off+len) xs.length&&zE ys&&nM n ys with
     | true=>some (.int .i64 ((min ys.length len:Nat):Int),h.set b (.iH g z (overwrite xs off (ys.take (min ys.length len)))))
     | false=>none
   | _=>none
 | .sl [] _=>some (.int .i64 0,h)
 | _=>none
def BE (C:jE) (ats:List Nat) (args:List AV) (h:aT):R2:=match pX C ats,args with
 | some ti,[d,x]=>match elems h x with
   | some ys=>FM ti.size h ys d
   | none=>none
 | _,_=>none
def zB (C:jE) (k:AV):List Nat->Bool
 | t::_=>mapKey C t k
 | []=>false
def wV (C:jE) (ats:List Nat) (args:List AV) (h:aT):R2:=match args with
 | [.ka,k]=>match zB C k ats with
   | true=>some (.je [],h)
   | false=>none
 | [.hm b,k]=>match h.get b with
   | some (.map es c)=>match zB C k ats with
     | true=>match GP k es with
       | some es=>some (.je [],h.set b (.map es c))
       | none=>none
     | false=>none
   | _=>none
 | _=>none
def Et (ti:TI) (h:aT):AV->R2
 | .sl [] _=>some (.je [],h)
 | .hs b g off len=>match h.get b with
   | some (.iH g' z xs)=>match Nat.beq g g'&&Nat.beq z ti.size&&Nat.ble (off+len) xs.length with
     | true=>some (.je [],h.set b (.iH g z (overwrite xs off (List.replicate len ti.zero))))
     | false=>none
   | _=>none
 | _=>none
def vZ (C:jE) (ats:List Nat) (args:List AV) (h:aT):R2:=match pX C ats,args with
 | some ti,[x]=>Et ti h x
 | _,_=>none
def qU (f:AV->AV->Option AV) (args:List AV) (h:aT):R2:=match args with
 | x::rest=>kB h (Bn f x rest)
 | []=>none
abbrev Aa:=jE->List Nat->List AV->aT->R2
def u9:Aa:=tl
def PH:Aa:=CP
def AL:Aa:=sx
def Vj:Aa:=BE
def Oq:Aa:=λC ats a h=>wV C ats a h
def GO:Aa:=vZ
def Ri:Aa:=λ_ _ a h=>qU max2 a h
def Pp:Aa:=λ_ _ a h=>qU min2 a h
def V2:Aa:=λ_ _ _ _=>none
def l3:Builtin->Aa
 | .len=>u9
 | .cap=>PH
 | .append=>AL
 | .copy=>Vj
 | .delete=>Oq
 | .clear=>GO
 | .max=>Ri
 | .min=>Pp
 | _=>V2
def np (f:Operand->AV):Option Operand->Option AV
 | none=>none
 | some x=>some (f x)
def asAgg (ti:TI) (cs:List AV):Option AV:=match ti.agg with
 | true=>some (.agg cs)
 | false=>match cs with
   | [v]=>some v
   | _=>none
def qo (h:aT) (k:AV):AV->Option (Option AV)
 | .ka=>some none
 | .fm es _=>qI k es
 | .hm b=>match h.get b with
   | some (.map es _)=>match findKey k es 0 with
     | none=>none
     | some none=>some none
     | some (some (_,v))=>some (some v)
   | _=>none
 | _=>none
def zP (ok b:Bool) (v:AV):Option AV:=match ok with
 | true=>some (.je [v,.bool b])
 | false=>some v
def qY (C:jE) (t:Nat) (h:aT) (m k:AV) (ok:Bool):Option AV:=match C.T t with
 | none=>none
 | some tm=>match tm.kind with
   | .map kt el=>match C.T el with
     | none=>none
     | some ti=>match qD C kt k with
       | false=>none
       | true=>match qo h k m with
         | none=>none
         | some (some v)=>zP ok true v
         | some none=>match asAgg ti ti.zero with
           | none=>none
           | some z=>zP ok false z
   | _=>none
def DN (h:aT) (c a b:AV):R2:=match c.bool? with
 | some true=>some (a,h)
 | some false=>some (b,h)
 | none=>none
def newVar (fa:iC) (d:Nat) (h:aT) (cs:List AV):R2:=match fa.iq.elem d with
 | true=>match jM h.iq d with
   | none=>some (.la d 0,{ h with iq:=(d,cs)::h.iq })
   | some _=>none
 | false=>some (.ptr h.size 0 0 0,h.push (.iH 0 cs.length [cs]))
def B9 (C:jE) (fa:iC) (dst:Option Nat) (h:aT) (t:Nat):R2:=match C.T t with
 | some ti=>match dst with
   | some d=>newVar fa d h ti.zero
   | none=>none
 | none=>none
def J3 (C:jE) (fa:iC) (dst:Option Nat) (h:aT) (t:Nat) (x:AV):R2:=match C.T t with
 | some ti=>match dst with
   | some d=>match cellsOf ti x with
     | some cs=>match cs.all AV.j5 with
       | true=>newVar fa d h cs
       | false=>none
     | none=>none
   | none=>none
 | none=>none
def pk (e:Env) (ps:Array (Nat×Operand)):List (Nat×AV):=ps.toList.map λp=>(p.1,iP e p.2)
def buildable (C:jE):TK->Bool
 | .struct _=>true
 | .array _ el=>(C.T el).isSome
 | _=>false
def BY (C:jE) (h:aT) (t:Nat) (ps:List (Nat×AV)):R2:=match C.T t with
 | some ti=>match buildable C ti.kind with
   | true=>match Bs C ti ps ti.zero with
     | some cs=>some (.agg cs,h)
     | none=>none
   | false=>none
 | none=>none
def sO (C:jE) (fa:iC) (dst:Option Nat) (h:aT) (t n:Nat) (ps:List (Nat×AV)):R2:=match uM C t with
 | some ti=>match Nat.ble (n*ti.size) 16777216 with
   | true=>match tE ti ps (List.replicate n ti.zero) with
     | some xs=>AA fa ti.size dst h xs
     | none=>none
   | false=>none
 | none=>none
def xp (C:jE) (h:aT) (t:Nat) (a:AV):R2:=match C.T t with
 | some ti=>kB h (sD a h ti)
 | none=>none
def wG (C:jE) (h:aT) (t:Nat) (a x:AV):R2:=match C.T t with
 | some ti=>match wv h ti a x with
   | some h=>some (.undef,h)
   | none=>none
 | none=>none
def A6:AV->Option AV
 | .ptr b g i o=>some (.ptr b g i o)
 | .ip cs o s=>some (.ip cs o s)
 | .la d o=>some (.la d o)
 | .jz f a c=>some (.jz f a c)
 | _=>none
def xb (C:jE) (h:aT) (s d:Nat) (x:AV):R2:=match C.T s,C.T d with
 | some _,some ti=>match ti.kind with
   | .int k=>match x.int? with
     | some (_,n)=>kB h (fI (sH k n) (oc k))
     | none=>none
   | .str=>match x.str? with
     | some s=>some (.str s,h)
     | none=>none
   | _=>none
 | _,_=>none
def sR (h:aT) (fn:Fn) (a c:List AV):R2:=match fn with
 | .func f=>match a.all AV.j5&&c.all AV.j5 with
   | true=>some (.jz f a c,h)
   | false=>none
 | _=>none
def xo (C:jE) (h:aT) (t:Nat) (l c:AV):R2:=match uM C t,l.int?,c.int? with
 | some ti,some (_,l),some (_,c) =>
   match BN 0 l&&BN l c&&BN c 4294967295&&Nat.ble (c.toNat*ti.bytes) 140737488355328 with
   | true=>some (.hs h.size 0 0 l.toNat,h.push (.iH 0 ti.size (List.replicate c.toNat ti.zero)))
   | false=>none
 | _,_,_=>none
def oI (C:jE) (h:aT) (t:Nat) (x:AV) (lo hi mx:Option AV):R2:=match C.T t with
 | none=>none
 | some ti=>match ti.kind with
   | .slice el=>match C.T el with
     | some ti=>kB h (slice ti.size h x lo hi mx)
     | none=>none
   | .str=>match x.str? with
     | some s=>kB h (HV s lo hi mx)
     | none=>none
   | _=>none
def pY (C:jE) (h:aT) (t:Nat) (x:AV) (f:Nat):R2:=match C.T t with
 | none=>none
 | some ti=>match ti.kind with
   | .struct fs=>match fs[f]? with
     | some (off,_)=>kB h (Cz x off)
     | none=>none
   | _=>none
def Bq (C:jE) (h:aT) (t:Nat) (x:AV) (f:Nat):R2:=match C.T t with
 | none=>none
 | some ti=>match ti.kind with
   | .struct fs=>match fs[f]? with
     | some (off,ft)=>match x.agg? with
       | some cs=>match C.T ft with
         | some ti=>kB h (part ti cs off)
         | none=>none
       | none=>none
     | none=>none
   | _=>none
def pU:mV->Bool
 | .lP=>true
 | _=>false
def pQ (n:Nat) (h:aT) (x:AV) (i:Nat):R2:=match x with
 | .sl xs c=>match xs[i]? with
   | some cs=>match Nat.beq cs.length n with
     | true=>some (.ip cs 0 (pU c),h)
     | false=>none
   | none=>none
 | .hs b g off len=>match h.get b with
   | some (.iH _ z _)=>match Nat.blt i len&&Nat.beq z n with
     | true=>fN (off+i) λk=>some (.ptr b g k 0,h)
     | false=>none
   | _=>none
 | _=>none
def nZ (C:jE) (h:aT) (t:Nat) (x i:AV):R2:=match C.T t with
 | none=>none
 | some ti=>match oX i with
   | none=>none
   | some i=>match ti.kind with
     | .slice el=>match C.T el with
       | some ti=>pQ ti.size h x i
       | none=>none
     | .array n el=>match C.T el with
       | some ti=>match Nat.blt i n with
         | true=>kB h (Cz x (i*ti.size))
         | false=>none
       | none=>none
     | _=>none
def yX (C:jE) (h:aT) (t:Nat) (x i:AV):R2:=match C.T t with
 | none=>none
 | some ti=>match oX i with
   | none=>none
   | some i=>match ti.kind with
     | .str=>match x.str? with
       | some s=>match s[i]? with
         | some c=>some (.int .u8 c.toNat,h)
         | none=>none
       | none=>none
     | .array n el=>match C.T el with
       | some ti=>match x.agg? with
         | some cs=>match Nat.blt i n with
           | true=>kB h (part ti cs (i*ti.size))
           | false=>none
         | none=>none
       | none=>none
     | _=>none
def tP (C:jE) (h:aT) (t:Nat) (m k x:AV):R2:=match m with
 | .hm b=>match h.get b with
   | some (.map es c)=>match mapKey C t k&&x.zX with
     | true=>match yz k x es c with
       | some (es,c)=>some (.undef,h.set b (.map es c))
       | none=>none
     | false=>none
   | _=>none
 | _=>none
def wm (es:List (AV×AV×Nat)) (i:Nat):Nat:=match es[i]? with
 | some x=>x.2.2
 | none=>0
def sT (C:jE) (h:aT) (t:Nat) (m k:AV):R2:=match C.T t with
 | none=>none
 | some tm=>match tm.kind,m with
   | .map kt el,.hm b=>match C.T el,h.get b with
     | some ti,some (.map es c)=>match qD C kt k with
       | false=>none
       | true=>match findKey k es 0 with
         | some (some (i,v))=>some (.je [v,.int .i64 (wm es i)],h.set b (.map (es.modify i λx=>(k,x.2)) c))
         | some none=>match asAgg ti ti.zero with
           | some z=>some (.je [z,.int .i64 c],h.set b (.map (es++[(k,z,c)]) (c+1)))
           | none=>none
         | none=>none
     | _,_=>none
   | _,_=>none
def sI (h:aT) (m s x:AV):R2:=match m,s.int? with
 | .hm b,some (_,n)=>match h.get b with
   | some (.map es c)=>match x.zX with
     | true=>match pG n x es with
       | some es=>some (.undef,h.set b (.map es c))
       | none=>none
     | false=>none
   | _=>none
 | _,_=>none
def xj (h:aT) (t:AV) (i:Nat):R2:=match t with
 | .je vs=>kB h vs[i]?
 | _=>none
def wM (m:kI):R2->R2
 | some (v,h)=>some (v,{ h with iq:=m })
 | none=>none
def uw (fa:iC) (call:qA) (h:aT) (f:AV) (args:List AV):R2:=match f with
 | .jz g a cp=>fL (a++args++cp) λargs=>match args.all AV.nA with
   | true=>wM h.iq (call (fa.jl.elem g) g args { h with iq:=[] })
   | false=>none
 | _=>none
def nO (C:jE) (fa:iC) (call:qA) (e:Env) (h:aT) (c:Call):R2:=match c.callee with
 | .builtin b=>l3 b C c.argTypes.toList (c.args.toList.map (iP e)) h
 | .value f=>uw fa call h (iP e f) (c.args.toList.map (iP e))
 | .invoke ..=>none
structure Ctx where
 C:jE
 fa:iC
 call:qA
abbrev oq:=Ctx->Env->aT->Option Nat->R2
def Is (x:Operand):oq:=λ_ e h _=>some (iP e x,h)
def Iq (c a b:Operand):oq:=λ_ e h _=>DN h (iP e c) (iP e a) (iP e b)
def LW (t:Nat):oq:=λX e h d=>B9 X.C X.fa d h t
def Mn (t:Nat) (x:Operand):oq:=λX e h d=>J3 X.C X.fa d h t (iP e x)
def En (t:Nat) (ps:Array (Nat×Operand)):oq:=λX e h _=>BY X.C h t (pk e ps)
def vU (t n:Nat) (ps:Array (Nat×Operand)):oq:=λX e h d=>sO X.C X.fa d h t n (pk e ps)
def zL (t:Nat) (a:Operand):oq:=λX e h _=>xp X.C h t (iP e a)
def yA (t:Nat) (a x:Operand):oq:=λX e h _=>wG X.C h t (iP e a) (iP e x)
def vF (x:Operand):oq:=λ_ e h _=>kB h (A6 (iP e x))
def y8 (op:BinOp) (t:Nat) (x y:Operand) (_:Nat):oq:=λX e h _=>kB h (binOp X.C op t (iP e x) (iP e y))
def VS (op:UnOp) (_:Nat) (x:Operand):oq:=λ_ e h _=>kB h (unOp op (iP e x))
def AX (s d:Nat) (x:Operand):oq:=λX e h _=>xb X.C h s d (iP e x)
def vm (fn:Fn) (a c:Array Operand):oq:=λ_ e h _=>sR h fn (a.toList.map (iP e)) (c.toList.map (iP e))
def Em (_:Nat):Option Operand->oq
 | none=>λ_ _ h _=>some (.hm h.size,h.push (.map [] 0))
 | some _=>λ_ _ _ _=>none
def BQ (t:Nat) (l c:Operand):oq:=λX e h d=>xo X.C h t (iP e l) (iP e c)
def pd (t:Nat) (x:Operand) (lo hi mx:Option Operand):oq:=λX e h _=>oI X.C h t (iP e x) (np (iP e) lo) (np (iP e) hi) (np (iP e) mx)
def ru (t:Nat) (x:Operand) (f:Nat):oq:=λX e h _=>pY X.C h t (iP e x) f
def Eb (t:Nat) (x:Operand) (f:Nat):oq:=λX e h _=>Bq X.C h t (iP e x) f
def oT (t:Nat) (x i:Operand):oq:=λX e h _=>nZ X.C h t (iP e x) (iP e i)
def Bh (t:Nat) (x i:Operand):oq:=λX e h _=>yX X.C h t (iP e x) (iP e i)
def uc (t:Nat) (m k:Operand) (ok:Bool):oq:=λX e h _=>kB h (qY X.C t h (iP e m) (iP e k) ok)
def tU (t:Nat) (m k x:Operand):oq:=λX e h _=>tP X.C h t (iP e m) (iP e k) (iP e x)
def uY (t:Nat) (m k:Operand):oq:=λX e h _=>sT X.C h t (iP e m) (iP e k)
def vQ (_:Nat) (m s x:Operand):oq:=λ_ e h _=>sI h (iP e m) (iP e s) (iP e x)
def AE (t:Operand) (i:Nat):oq:=λ_ e h _=>xj h (iP e t) i
def ow (c:Call):oq:=λX e h _=>nO X.C X.fa X.call e h c
def YB:oq:=λ_ _ _ _=>none
def jq:Op->oq
 | .move x=>Is x
 | .assign x=>Is x
 | .pick c a b=>Iq c a b
 | .alloc t=>LW t
 | .box t x=>Mn t x
 | .build t ps=>En t ps
 | .buildSlice t n ps=>vU t n ps
 | .load t a=>zL t a
 | .store t a x=>yA t a x
 | .nilCheck x=>vF x
 | .binOp op t x y u=>y8 op t x y u
 | .unOp op t x=>VS op t x
 | .convert s d x=>AX s d x
 | .makeFunc fn a c=>vm fn a c
 | .makeMap t r=>Em t r
 | .makeSlice t l c=>BQ t l c
 | .slice t x lo hi mx=>pd t x lo hi mx
 | .fieldAddr t x f=>ru t x f
 | .field t x f=>Eb t x f
 | .indexAddr t x i=>oT t x i
 | .index t x i=>Bh t x i
 | .lookup t m k ok=>uc t m k ok
 | .mapUpdate t m k x=>tU t m k x
 | .insert t m k x=>tU t m k x
 | .mapEntry t m k=>uY t m k
 | .entryStore t m s x=>vQ t m s x
 | .extract t i=>AE t i
 | .call c=>ow c
 | _=>YB
def Ho (want:Bool):AV->Option Bool
 | .bool b=>some (CZ b want)
 | .je []=>some false
 | _=>none
def jg (all:List Oper) (e:Env) (o:Oper):Option Bool :=
 match o.guard with
 | none=>some true
 | some (j,want)=>match all[j]? with
   | some o'=>match o'.dst with
     | some d=>Ho want (lE e d)
     | none=>none
   | none=>none
def iW (e:Env) (o:Oper) (v:AV):Env :=
 match o.dst with
 | some d=>FI e d v
 | none=>e
abbrev RE:=Option (Env×aT)
def pL (X:Ctx) (k:Env->aT->RE) (o:Oper) (e:Env) (h:aT):Option Bool->RE
 | none=>none
 | some true=>match jq o.op X e h o.dst with
   | some (v,h)=>fH h λh=>k (iW e o v) h
   | none=>none
 | some false=>k (iW e o (.je [])) h
def ya (X:Ctx) (all:List Oper):List Oper->Env->aT->RE
 | [],e,h=>some (e,h)
 | o::rest,e,h=>pL X (ya X all rest) o e h (jg all e o)
def FD (e:Env) (d:Nat):Option (AV×aT)->Bool
 | some (v,_)=>lM 8 v (lE e d)
 | none=>false
def again (X:Ctx) (all:List Oper) (e:Env) (h:aT) (i:Nat):Bool:=match all[i]? with
 | none=>false
 | some o=>match jg all e o with
   | none=>false
   | some false=>true
   | some true=>match o.dst with
     | none=>false
     | some d=>FD e d (jq o.op X e h (some d))
def tg (X:Ctx) (all:List Oper):List (Nat×List Nat)->Env->aT->RE
 | [],e,h=>some (e,h)
 | (i,chk)::rest,e,h=>match all[i]? with
   | none=>none
   | some o=>pL X (λe h=>match chk.all (again X all e h) with
     | true=>tg X all rest e h
     | false=>none) o e h (jg all e o)
abbrev zO:=(Env->aT->Option (Ex×Env×aT))->Env->aT->Option (Ex×Env×aT)
def kA:Nat->zO
 | 0,_,_,_=>none
 | n+1,f,e,h=>match f e h with
   | some (.j1,e,h)=>kA n f e h
   | r=>r
abbrev RC:=Option (Ex×Env×aT)
abbrev qC:=lz->Env->aT->RC
def xz:RE->RC
 | some (e,h)=>some (.j1,e,h)
 | none=>none
def ym (X:Ctx) (ops:Array Oper):qC:=λan e h=>match an with
 | .pV sch=>xz (tg X ops.toList sch e h)
 | _=>none
def Ir (X:Ctx) (ops:Array Oper):qC:=λ_ e h=>xz (ya X ops.toList ops.toList e h)
def wa (X:Ctx) (ops:Array Oper):Bool->qC
 | true=>ym X ops
 | false=>Ir X ops
def andThen (k:Env->aT->RC):RC->RC
 | some (.j1,e,h)=>k e h
 | r=>r
def lH (live:List Nat) (k:Env->aT->RC) (e:Env) (h:aT):RC:=zN live e λe=>wF live h.iq λm=>k e { h with iq:=m }
def yV (a b:qC):qC:=λan e h=>match an with
 | .seq live x y=>andThen (λe h=>lH live (b y) e h) (a x e h)
 | .sq x y=>andThen (b y) (a x e h)
 | _=>none
def D5 (x y:Env->aT->RC) (e:Env) (h:aT) (c:AV):RC:=match c.bool? with
 | some true=>x e h
 | some false=>y e h
 | none=>none
def DY (c:Operand) (a b:qC):qC:=λan e h=>match an with
 | .two x y=>D5 (a x) (b y) e h (iP e c)
 | _=>none
def atEnd (id:Nat):RC->RC
 | some (.ext id',e,h)=>match Nat.beq id' id with
   | true=>some (.j1,e,h)
   | false=>some (.ext id',e,h)
 | r=>r
def wR (id:Nat) (a:qC):qC:=λan e h=>atEnd id (a an e h)
def PU (lp:zO) (a:qC):qC:=λan e h=>match an with
 | .loop live x=>lp (lH live (a x)) e h
 | _=>none
def jN (X:Ctx) (lp:zO):Code->qC
 | .skip=>λ_ e h=>some (.j1,e,h)
 | .region _ ops draw=>wa X ops draw
 | .seq a b=>yV (jN X lp a) (jN X lp b)
 | .cond c a b=>DY c (jN X lp a) (jN X lp b)
 | .block id a=>wR id (jN X lp a)
 | .loop a=>PU lp (jN X lp a)
 | .exit id=>λ_ e h=>some (.ext id,e,h)
 | .scope a=>jN X lp a
 | .label _=>λ_ e h=>some (.j1,e,h)
 | .ret=>λ_ e h=>some (.ret,e,h)
 | _=>λ_ _ _=>none
inductive Aq where
 | nil
 | fix (last:Option (AV×AV)) (left:List (AV×AV))
 | Cl (b clk:Nat) (seen:Option Nat)
structure It where
 d:Nat
 k:Aq
def HA (h:aT):AV->Option Aq
 | .ka=>some .nil
 | .fm [] _=>some (.fix none [])
 | .fm [x] _=>some (.fix none [x])
 | .hm b=>match h.get b with
   | some (.map [] c)=>some (.Cl b c none)
   | some (.map [_] c)=>some (.Cl b c none)
   | _=>none
 | _=>none
def FG (C:jE) (h:aT) (t:Nat) (x:AV):Option Aq:=match C.T t with
 | some ti=>match ti.kind with
   | .map _ _=>HA h x
   | _=>none
 | none=>none
def uJ (h:aT):Aq->Option (Option (AV×AV)×Aq)
 | .nil=>some (none,.nil)
 | .fix last []=>some (none,.fix last [])
 | .fix _ (x::l)=>some (some x,.fix (some x) l)
 | .Cl b clk seen=>match h.get b with
   | some (.map es c)=>match Nat.beq c clk,es,seen with
     | true,[],s=>some (none,.Cl b clk s)
     | true,[(k,v,n)],none=>some (some (k,v),.Cl b clk (some n))
     | true,[(_,_,n)],some n'=>match Nat.beq n n' with
       | true=>some (none,.Cl b clk (some n'))
       | false=>none
     | _,_,_=>none
   | _=>none
def zU (h:aT):Aq->Option (AV×AV)
 | .fix (some x) _=>some x
 | .Cl b clk (some n)=>match h.get b with
   | some (.map [(k,v,n')] c)=>match Nat.beq c clk&&Nat.beq n' n with
     | true=>some (k,v)
     | false=>none
   | _=>none
 | _=>none
abbrev RI:=Option (Option It×Env×aT)
def wN (o:Oper):Bool:=match o.guard with
 | none=>true
 | some _=>false
def sk (it:Option It) (o:Oper):Bool:=match it,o.dst with
 | some i,some d=>!(Nat.beq i.d d)
 | _,_=>true
def zr:Option (AV×AV)->AV
 | none=>.je [.bool false]
 | some x=>.je [.bool true,x.1,x.2]
def Kj (h:aT) (o:Oper) (t:Nat) (k:Option It->Env->RI) (e:Env) (it:Option It):RI:=match it with
 | some i=>match Nat.beq i.d t&&sk (some i) o&&wN o with
   | true=>match uJ h i.k with
     | some (r,k')=>k (some ⟨i.d,k'⟩) (iW e o (zr r))
     | none=>none
   | false=>none
 | none=>none
def G9 (h:aT) (o:Oper) (t:Nat) (k:Option It->Env->RI) (e:Env) (it:Option It):RI:=match it with
 | some i=>match Nat.beq i.d t&&sk (some i) o&&wN o with
   | true=>match zU h i.k with
     | some x=>k (some i) (iW e o (.je [x.1,x.2]))
     | none=>none
   | false=>none
 | none=>none
def Hx (o:Oper) (x:Option Aq) (k:Option It->Env->RI) (e:Env):RI:=match x,o.dst,wN o with
 | some l,some d,true=>k (some ⟨d,l⟩) (FI e d .undef)
 | _,_,_=>none
inductive OpK where
 | range (t:Nat) (x:Operand)
 | next (t:Nat)
 | entry (t:Nat)
 | plain
 | bad
def F9:Op->OpK
 | .range t x=>.range t x
 | .next (.tmp t) false=>.next t
 | .next _ _=>.bad
 | .entry (.tmp t)=>.entry t
 | .entry _=>.bad
 | _=>.plain
def Fj (X:Ctx) (it:Option It) (k:Env->aT->RI) (o:Oper) (e:Env) (h:aT):Option Bool->RI
 | none=>none
 | some true=>match jq o.op X e h o.dst with
   | some (v,h)=>fH h λh=>k (iW e o v) h
   | none=>none
 | some false=>k (iW e o (.je [])) h
def yk (X:Ctx) (all:List Oper):List Oper->Option It->Env->aT->RI
 | [],it,e,h=>some (it,e,h)
 | o::rest,it,e,h=>match F9 o.op with
   | .range t x=>Hx o (FG X.C h t (iP e x)) (λit e=>yk X all rest it e h) e
   | .next t=>Kj h o t (λit e=>yk X all rest it e h) e it
   | .entry t=>G9 h o t (λit e=>yk X all rest it e h) e it
   | .plain=>match sk it o with
     | true=>Fj X it (λe h=>yk X all rest it e h) o e h (jg all e o)
     | false=>none
   | .bad=>none
abbrev uG:=Option (Ex×Option It×Env×aT)
def VK:RI->uG
 | some (it,e,h)=>some (.j1,it,e,h)
 | none=>none
def D6 (k:Option It->Env->aT->uG):uG->uG
 | some (.j1,it,e,h)=>k it e h
 | r=>r
def wi (live:List Nat) (k:Env->aT->uG) (e:Env) (h:aT):uG:=zN live e λe=>wF live h.iq λm=>k e { h with iq:=m }
def Wf (id:Nat):uG->uG
 | some (.ext id',it,e,h)=>match Nat.beq id' id with
   | true=>some (.j1,it,e,h)
   | false=>some (.ext id',it,e,h)
 | r=>r
def Cc:Nat->(Option It->Env->aT->uG)->Option It->Env->aT->uG
 | 0,_,_,_,_=>none
 | n+1,f,it,e,h=>match f it e h with
   | some (.j1,it,e,h)=>Cc n f it e h
   | r=>r
abbrev y7:=lz->Option It->Env->aT->uG
def Uj (a b:y7):y7:=λan it e h=>match an with
 | .seq live x y=>D6 (λit e h=>wi live (b y it) e h) (a x it e h)
 | .sq x y=>D6 (b y) (a x it e h)
 | _=>none
def PW (c:Operand) (a b:y7):y7:=λan it e h=>match an with
 | .two x y=>match (iP e c).bool? with
   | some true=>a x it e h
   | some false=>b y it e h
   | none=>none
 | _=>none
def K8 (it:Option It):RC->uG
 | some (x,e,h)=>some (x,it,e,h)
 | none=>none
def mN (X:Ctx) (n:Nat):Code->y7
 | .skip=>λ_ it e h=>some (.j1,it,e,h)
 | .region _ ops false=>λ_ it e h=>VK (yk X ops.toList ops.toList it e h)
 | .region _ ops true=>λan it e h=>match ops.toList.all (sk it) with
   | true=>K8 it (ym X ops an e h)
   | false=>none
 | .seq a b=>Uj (mN X n a) (mN X n b)
 | .cond c a b=>PW c (mN X n a) (mN X n b)
 | .block id a=>λan it e h=>Wf id (mN X n a an it e h)
 | .loop a=>λan it e h=>match an with
   | .loop live x=>Cc n (λit e h=>wi live (mN X n a x it) e h) it e h
   | _=>none
 | .exit id=>λ_ it e h=>some (.ext id,it,e,h)
 | .scope a=>mN X n a
 | .label _=>λ_ it e h=>some (.j1,it,e,h)
 | .ret=>λ_ it e h=>some (.ret,it,e,h)
 | _=>λ_ _ _ _=>none
def L5:uG->RC
 | some (x,_,e,h)=>some (x,e,h)
 | none=>none
def A8 (X:Ctx) (n:Nat) (c:Code) (an:lz) (e:Env) (h:aT):Bool->RC
 | true=>L5 (mN X n c an none e h)
 | false=>jN X (kA n) c an e h
def IS (C:jE) (e:Env) (h:aT):ResultVar->Option AV
 | .tmp t=>some (iP e (.tmp t))
 | .cell a t=>match C.T t with
   | some ti=>sD (iP e (.tmp a)) h ti
   | none=>none
def CL (C:jE) (e:Env) (h:aT):List ResultVar->Option (List AV)
 | []=>some []
 | r::l=>match IS C e h r with
   | none=>none
   | some v=>match CL C e h l with
     | none=>none
     | some l=>some (v::l)
def params:Nat->List AV->Env
 | _,[]=>[]
 | i,v::l=>(i,v)::params (i+1) l
def result:List AV->AV
 | [v]=>v
 | vs=>.je vs
def leave (C:jE) (res:List ResultVar):RC->R2
 | some (.j1,e,h)=>leave1 e h
 | some (.ret,e,h)=>leave1 e h
 | _=>none
where
 leave1 (e:Env) (h:aT):R2:=match CL C e h res with
  | some vs=>match vs.all AV.nA with
    | true=>some (result vs,h)
    | false=>none
  | none=>none
def tJ (C:jE) (fa:iC) (call:qA) (n:Nat) (args:List AV) (h:aT):Option (AV×aT) :=
 leave C fa.res (A8 ⟨C,fa,call⟩ n fa.body fa.mv (params 0 args) h fa.iter)
abbrev kJ:=Nat->Option iC
abbrev ko:=Nat->Option (Bool->List AV->aT->Option (AV×aT))
def kR (h:aT) (args:List AV):Option (List AV):=match args.any AV.qL with
 | true=>js (freeze true h 8) args
 | false=>some args
def frozen:aT->R2->R2
 | h,some (v,h')=>match freeze false h' 8 v with
   | none=>none
   | some v=>some (v,h)
 | _,none=>none
def sE (C:jE) (fa:iC) (call:qA) (lp:Nat) (shd:Bool) (args:List AV) (h:aT):Option (AV×aT) :=
 match shd with
 | true=>tJ C fa call lp args h
 | false=>match kR h args with
   | none=>none
   | some args'=>frozen h (tJ C fa call lp args' aT.empty)
def mg (C:jE) (F:kJ) (P:ko):Nat->qA
 | 0,_,_,_,_=>none
 | n+1,shd,f,args,h=>match P f with
   | some p=>p shd args h
   | none=>match F f with
     | none=>none
     | some fa=>sE C fa (mg C F P n) n shd args h
end Go.Sx
namespace Go.Sx
open Go
def nY:mV->Nat->Nat->Prop
 | .nil,_,_=>False
 | .exact n,_,c=>c=n
 | .j6,l,c=>l<=c
 | .lP,l,c=>l<=c
def pr:mV->Bool
 | .lP=>true
 | _=>false
def MJ (ents:Array MapEntry) (clk:Nat):Prop:=(∀ (i:Nat) (e:MapEntry),ents[i]?=some e->e.born<clk)/\(ents.toList.map (·.born)).Nodup
inductive PR (w:World) (T:Bool->Nat->Prop):Bool->AV->Value->Prop
 | undef (m:Bool) (v:Value) (h:v.oneCell'=true):PR w T m .undef v
 | bool (m b:Bool):PR w T m (.bool b) (.bool b)
 | int (m:Bool) (k:IntKind) (n:Int):PR w T m (.int k n) (.int k n)
 | str (m:Bool) (s:List UInt8) (b:ByteArray) (h:b.data.toList=s):PR w T m (.str s) (.string b)
 | jV (m:Bool):PR w T m .jV (.pointer none)
 | ip (m:Bool) (cells:List AV) (off:Nat) (sn:Bool) (B base:Nat) (c:Array Value) (e:TypeId) (fr:Nat×Nat) (f:Nat->Value) (hm:sn=true->m=true)
    (hB:w.heap[B]?=some (.cells c e fr)) (hI:T sn B)
    (hc:∀ (i:Nat) (x:AV),cells[i]?=some x->c[base+i]?=some (f i)) (h1:∀ (i:Nat) (x:AV),cells[i]?=some x->(f i).oneCell'=true)
    (hr:∀ (i:Nat) (x:AV),cells[i]?=some x->PR w T sn x (f i)):PR w T m (.ip cells off sn) (.pointer (some ⟨B,base+off,none⟩))
 | slnil (m:Bool):PR w T m (.sl [] .nil) (.slice none 0 0)
 | ng (m:Bool) (cap:mV) (a:Addr) (c:Nat) (hm:pr cap=true->m=true) (h:nY cap 0 c):PR w T m (.sl [] cap) (.slice (some a) 0 c)
 | sl (m:Bool) (xs:List (List AV)) (cap:mV) (B base:Nat) (c:Array Value) (e:TypeId) (fr:Nat×Nat) (cap' esz:Nat) (f:Nat->Nat->Value)
    (hm:pr cap=true->m=true)
    (hB:w.heap[B]?=some (.cells c e fr)) (hI:T (pr cap) B) (hcap:nY cap xs.length cap') (hle:xs.length<=cap')
    (hz:∀ (i:Nat) (cs:List AV),xs[i]?=some cs->cs.length=esz)
    (hc:∀ (i:Nat) (cs:List AV) (j:Nat) (x:AV),xs[i]?=some cs->cs[j]?=some x->c[base+i*esz+j]?=some (f i j))
    (h1:∀ (i:Nat) (cs:List AV) (j:Nat) (x:AV),xs[i]?=some cs->cs[j]?=some x->(f i j).oneCell'=true)
    (hr:∀ (i:Nat) (cs:List AV) (j:Nat) (x:AV),xs[i]?=some cs->cs[j]?=some x->PR w T (pr cap) x (f i j)) :
    PR w T m (.sl xs cap) (.slice (some ⟨B,base,none⟩) xs.length cap')
 | ka (m:Bool):PR w T m .ka (.map none)
 | fm (m:Bool) (es:List (AV×AV)) (sn:Bool) (r:Nat) (ents:Array MapEntry) (clk:Nat) (hm:sn=true->m=true) (hB:w.heap[r]?=some (.map ents clk)) (hI:T sn r)
    (hl:es.length=ents.size) (hy:MJ ents clk) (hko:∀ (i:Nat) (p:AV×AV),es[i]?=some p->p.1.pt=true)
    (hk:∀ (i:Nat) (p:AV×AV) (e:MapEntry),es[i]?=some p->ents[i]?=some e->PR w T sn p.1 e.key)
    (hv:∀ (i:Nat) (p:AV×AV) (e:MapEntry),es[i]?=some p->ents[i]?=some e->PR w T sn p.2 e.val):PR w T m (.fm es sn) (.map (some r))
 | kX (m:Bool):PR w T m .kX .nilFunc
 | jz (m:Bool) (g:Nat) (a c:List AV) (a' c':Array Value) (ha:a.length=a'.size) (hc:c.length=c'.size)
    (hra:∀ (i:Nat) (x:AV) (y:Value),a[i]?=some x->a'[i]?=some y->PR w T m x y) (hrc:∀ (i:Nat) (x:AV) (y:Value),c[i]?=some x->c'[i]?=some y->PR w T m x y) :
    PR w T m (.jz g a c) (.func (.func g) a' c')
 | agg (m:Bool) (l:List AV) (vs:Array Value) (hl:l.length=vs.size) (h1:∀ (i:Nat) (y:Value),vs[i]?=some y->y.oneCell'=true)
    (hr:∀ (i:Nat) (x:AV) (y:Value),l[i]?=some x->vs[i]?=some y->PR w T m x y):PR w T m (.agg l) (.agg vs)
def PR.mono {w w':World} {T T':Bool->Nat->Prop} {m:Bool} {v:AV} {u:Value} (h:PR w T m v u)
  (hI:∀ s B,T s B->T' s B) (hw:∀ s B,T s B->w'.heap[B]?=w.heap[B]?):PR w' T' m v u:=by
 induction h with
 | undef m v h=>exact .undef m v h
 | bool m b=>exact .bool m b
 | int m k n=>exact .int m k n
 | str m s b h=>exact .str m s b h
 | jV m=>exact .jV m
 | ip m cells off sn B base c e fr f hm hB hB' hc h1 hr ih=>exact .ip m cells off sn B base c e fr f hm (by grind) (hI _ B hB') hc h1 ih
 | slnil m=>exact .slnil m
 | ng m cap a c hm h=>exact .ng m cap a c hm h
 | sl m xs cap B base c e fr cap' esz f hm hB hB' hcap hle hz hc h1 hr ih =>
   exact .sl m xs cap B base c e fr cap' esz f hm (by grind) (hI _ B hB') hcap hle hz hc h1 ih
 | ka m=>exact .ka m
 | fm m es sn r ents clk hm hB hB' hl hy hko hk hv ihk ihv=>exact .fm m es sn r ents clk hm (by grind) (hI _ r hB') hl hy hko ihk ihv
 | kX m=>exact .kX m
 | jz m g a c a' c' ha hc hra hrc iha ihc=>exact .jz m g a c a' c' ha hc iha ihc
 | agg m l vs hl h1 hr ih=>exact .agg m l vs hl h1 ih
def PR.up {w:World} {T:Bool->Nat->Prop} {m:Bool} {v:AV} {u:Value} (h:PR w T m v u) (hm:m=false):PR w T true v u:=by
 induction h with
 | undef m v h=>exact .undef _ v h
 | bool m b=>exact .bool _ b
 | int m k n=>exact .int _ k n
 | str m s b h=>exact .str _ s b h
 | jV m=>exact .jV _
 | ip m cells off sn B base c e fr f hm hB hB' hc h1 hr ih=>exact .ip _ cells off sn B base c e fr f (λ_=>rfl) hB hB' hc h1 hr
 | slnil m=>exact .slnil _
 | ng m cap a c hm h=>exact .ng _ cap a c (λ_=>rfl) h
 | sl m xs cap B base c e fr cap' esz f hm hB hB' hcap hle hz hc h1 hr ih=>exact .sl _ xs cap B base c e fr cap' esz f (λ_=>rfl) hB hB' hcap hle hz hc h1 hr
 | ka m=>exact .ka _
 | fm m es sn r ents clk hm hB hB' hl hy hko hk hv ihk ihv=>exact .fm _ es sn r ents clk (λ_=>rfl) hB hB' hl hy hko hk hv
 | kX m=>exact .kX _
 | jz m g a c a' c' ha hc hra hrc iha ihc=>exact .jz _ g a c a' c' ha hc (λi x y hx hy=>iha i x y hx hy hm) (λi x y hx hy=>ihc i x y hx hy hm)
 | agg m l vs hl h1 hr ih=>exact .agg _ l vs hl h1 (λi x y hx hy=>ih i x y hx hy hm)
def PR.GZ {w:World} {T:Bool->Nat->Prop} {m:Bool} {v:AV} {u:Value} (h:PR w T m v u):PR w T true v u:=by
 cases m
 ·exact h.up rfl
 ·exact h
structure Loc where
 B:Nat
 base:Nat
 cap:Nat
structure Ga where
 w:World
 T:Bool->Nat->Prop
 h:aT
 pi:Nat->Option Loc
 L:Nat->Option Nat
def AV.kg:AV->Bool
 | .bool _ | .int _ _ | .str _ | .jV | .ip _ _ _ | .sl _ _ | .ka | .fm _ _ | .kX=>true
 | _=>false
def AV.mJ:AV->Bool
 | .la _ _ | .je _=>false
 | _=>true
inductive VR (G:Ga):AV->Value->Prop
 | undef (v:Value):VR G .undef v
 | jm {v:AV} {u:Value} (hp:v.kg=true) (h:PR G.w G.T true v u):VR G v u
 | ptr (b g i o:Nat) (a:Addr) (hb:b<G.h.size) (hg:∀ g0 z xs,G.h.get b=some (.iH g0 z xs)->g<=g0)
    (h:∀ z xs,G.h.get b=some (.iH g z xs)->∃ l,G.pi b=some l/\a=⟨l.B,l.base+i*z+o,none⟩) :
    VR G (.ptr b g i o) (.pointer (some a))
 | hs (b g off len:Nat) (a:Addr) (cap':Nat) (hb:b<G.h.size) (hg:∀ g0 z xs,G.h.get b=some (.iH g0 z xs)->g<=g0) (hle:len<=cap')
    (h:∀ z xs,G.h.get b=some (.iH g z xs)->∃ l,G.pi b=some l/\off+cap'=l.cap/\(0<cap'->a=⟨l.B,l.base+off*z,none⟩)) :
    VR G (.hs b g off len) (.slice (some a) len cap')
 | hm (b r:Nat) (hb:b<G.h.size) (h:∀ es c,G.h.get b=some (.map es c)->∃ l,G.pi b=some l/\r=l.B):VR G (.hm b) (.map (some r))
 | la (d o B:Nat) (hd:G.L d=some B):VR G (.la d o) (.pointer (some ⟨B,o,none⟩))
 | jz (g:Nat) (a c:List AV) (a' c':Array Value) (ha:a.length=a'.size) (hc:c.length=c'.size) (hna:∀ x∈a,x.mJ=true) (hnc:∀ x∈c,x.mJ=true)
    (hra:∀ (i:Nat) (x:AV) (y:Value),a[i]?=some x->a'[i]?=some y->VR G x y) (hrc:∀ (i:Nat) (x:AV) (y:Value),c[i]?=some x->c'[i]?=some y->VR G x y) :
    VR G (.jz g a c) (.func (.func g) a' c')
 | agg (l:List AV) (vs:Array Value) (hl:l.length=vs.size) (hn:∀ x∈l,x.mJ=true) (h1:∀ (i:Nat) (y:Value),vs[i]?=some y->y.oneCell'=true)
    (hr:∀ (i:Nat) (x:AV) (y:Value),l[i]?=some x->vs[i]?=some y->VR G x y):VR G (.agg l) (.agg vs)
 | je (l:List AV) (vs:Array Value) (hl:l.length=vs.size) (hr:∀ (i:Nat) (x:AV) (y:Value),l[i]?=some x->vs[i]?=some y->VR G x y):VR G (.je l) (.tuple vs)
structure Ext (G G':Ga):Prop where
 T:∀ s B,G.T s B->G'.T s B
 keep:∀ s B,G.T s B->G'.w.heap[B]?=G.w.heap[B]?
 size:G.h.size<=G'.h.size
 iH:∀ b,b<G.h.size->∀ g' z' xs',G'.h.get b=some (.iH g' z' xs') ->
  ∃ g z xs,G.h.get b=some (.iH g z xs)/\g<=g'/\(g=g'->z=z'/\∀ l,G.pi b=some l->G'.pi b=some l)
 map:∀ b,b<G.h.size->∀ es' c',G'.h.get b=some (.map es' c')->∃ es c,G.h.get b=some (.map es c)/\∀ l,G.pi b=some l->G'.pi b=some l
 iq:∀ d B,G.L d=some B->G'.L d=some B
def VR.mono {G G':Ga} (E:Ext G G') {v:AV} {u:Value} (h:VR G v u):VR G' v u:=by
 induction h with
 | undef v=>exact .undef v
 | jm hp h=>exact .jm hp (h.mono E.T E.keep)
 | ptr b g i o a hb hg h =>
   refine .ptr b g i o a (Nat.lt_of_lt_of_le hb E.size) ?_ ?_
   ·intro g0 z xs hx
    obtain ⟨g1,z1,xs1,h1,hle,_⟩:=E.iH b hb g0 z xs hx
    grind
   ·intro z xs hx
    obtain ⟨g1,z1,xs1,h1,hle,heq⟩:=E.iH b hb g z xs hx
    grind
 | hs b g off len a cap' hb hg hle' h =>
   refine .hs b g off len a cap' (Nat.lt_of_lt_of_le hb E.size) ?_ hle' ?_
   ·intro g0 z xs hx
    obtain ⟨g1,z1,xs1,h1,hle,_⟩:=E.iH b hb g0 z xs hx
    grind
   ·intro z xs hx
    obtain ⟨g1,z1,xs1,h1,hle,heq⟩:=E.iH b hb g z xs hx
    grind
 | hm b r hb h =>
   refine .hm b r (Nat.lt_of_lt_of_le hb E.size) ?_
   intro es c hx
   obtain ⟨es1,c1,h1,hp⟩:=E.map b hb es c hx
   grind
 | la d o B hd=>exact .la d o B (E.iq d B hd)
 | jz g a c a' c' ha hc hna hnc hra hrc iha ihc=>exact .jz g a c a' c' ha hc hna hnc iha ihc
 | agg l vs hl hn h1 hr ih=>exact .agg l vs hl hn h1 ih
 | je l vs hl hr ih=>exact .je l vs hl ih
def Ext.refl (G:Ga):Ext G G where
 T:=λ_ _ h=>h
 keep:=λ_ _ _=>rfl
 size:=Nat.le_refl _
 iH:=λ_ _ g z xs h=>⟨g,z,xs,h,Nat.le_refl _,λ_=>⟨rfl,λ_ h=>h⟩⟩
 map:=λ_ _ es c h=>⟨es,c,h,λ_ h=>h⟩
 iq:=λ_ _ h=>h
theorem Ext.trans {A B C:Ga} (h:Ext A B) (k:Ext B C):Ext A C where
 T:=λs b hb=>k.T s b (h.T s b hb)
 keep:=λs b hb=>(k.keep s b (h.T s b hb)).trans (h.keep s b hb)
 size:=Nat.le_trans h.size k.size
 iH:=by
  intro b hb g z xs hx
  obtain ⟨g1,z1,xs1,h1,hle,he⟩:=k.iH b (Nat.lt_of_lt_of_le hb h.size) g z xs hx
  obtain ⟨g2,z2,xs2,h2,hle2,he2⟩:=h.iH b hb g1 z1 xs1 h1
  grind
 map:=by
  intro b hb es c hx
  obtain ⟨es1,c1,h1,p1⟩:=k.map b (Nat.lt_of_lt_of_le hb h.size) es c hx
  obtain ⟨es2,c2,h2,p2⟩:=h.map b hb es1 c1 h1
  grind
 iq:=λd B hd=>k.iq d B (h.iq d B hd)
theorem PR.mJ {w:World} {T:Bool->Nat->Prop} {m:Bool} {v:AV} {u:Value} (h:PR w T m v u):v.mJ=true:=by cases h<;>rfl
def PR.zg {w:World} {T:Bool->Nat->Prop} {m:Bool} {l:List AV} {vs:Array Value} (hl:l.length=vs.size) (h:∀ (i:Nat) (x:AV) (y:Value),l[i]?=some x->vs[i]?=some y->PR w T m x y):∀ x∈l,x.mJ=true:=by
 intro x hx
 obtain ⟨i,hi⟩:=List.getElem?_of_mem hx
 have hlt:i<vs.size:=by grind
 exact (h i x vs[i] hi (by simp)).mJ
structure VC (G:Ga) (x:AV) (v:Value):Prop where
 vr:VR G x v
 na:x.mJ=true
def VC.mono {G G':Ga} (E:Ext G G') {x:AV} {v:Value} (h:VC G x v):VC G' x v:=⟨h.vr.mono E,h.na⟩
def ny (G:Ga) (l:Loc) (z:Nat) (xs:List (List AV)):Prop :=
 ∃ c e,G.w.heap[l.B]?=some (.cells c e (0,0))/\xs.length<=l.cap/\l.base+l.cap*z<=c.size/\(∀ (i:Nat) (cs:List AV),xs[i]?=some cs->cs.length=z) /\
   (∀ (i:Nat) (cs:List AV) (j:Nat) (x:AV),xs[i]?=some cs->cs[j]?=some x->∃ v,c[l.base+i*z+j]?=some v/\v.oneCell'=true/\VC G x v)
def px (es:List (AV×AV×Nat)) (clk:Nat):Prop:=(∀ p∈es,p.2.2<clk)/\(es.map (·.2.2)).Nodup
def px.UF {es:List (AV×AV×Nat)} {ents:Array MapEntry} {clk:Nat} (h:px es clk) (hlen:es.length=ents.size) (hb:∀ (i:Nat) (p:AV×AV×Nat) (e:MapEntry),es[i]?=some p->ents[i]?=some e->p.2.2=e.born):MJ ents clk:=by
 have hm:es.map (·.2.2)=ents.toList.map (·.born):=by
  apply List.ext_getElem?
  intro i
  simp only [List.getElem?_map,Array.getElem?_toList]
  cases hp:es[i]? with
  | none=>rw [Array.getElem?_eq_none (by rw [<- hlen]; exact List.getElem?_eq_none_iff.1 hp)]; rfl
  | some p =>
    have hi:i<ents.size:=by rw [<- hlen]; exact (List.getElem?_eq_some_iff.1 hp).1
    have he:ents[i]?=some ents[i]:=by simp
    rw [he]
    exact congrArg some (hb i p _ hp he)
 refine ⟨λi e he=>?_,hm▸h.2⟩
 have hi:i<es.length:=by rw [hlen]; exact (Array.getElem?_eq_some_iff.1 he).1
 have hei:es[i]?=some es[i]:=by simp
 rw [<- hb i _ e hei he]
 exact h.1 _ (List.getElem_mem hi)
def rL (G:Ga) (r:Nat) (es:List (AV×AV×Nat)) (clk:Nat):Prop :=
 ∃ ents,G.w.heap[r]?=some (.map ents clk)/\es.length=ents.size/\px es clk /\
   ∀ (i:Nat) (p:AV×AV×Nat) (e:MapEntry),es[i]?=some p->ents[i]?=some e->p.1.pt=true/\PR G.w G.T false p.1 e.key/\VC G p.2.1 e.val/\p.2.2=e.born
def vH (G:Ga) (B:Nat) (cs:List AV):Prop :=
 ∃ c e,G.w.heap[B]?=some (.cells c e (0,0))/\c.size=cs.length/\(∀ (i:Nat) (x:AV) (v:Value),cs[i]?=some x->c[i]?=some v->VC G x v)/\(∀ (i:Nat) (v:Value),c[i]?=some v->v.oneCell'=true)
structure WR (G:Ga):Prop where
 iH:∀ b l g z xs,G.pi b=some l->G.h.get b=some (.iH g z xs)->ny G l z xs
 map:∀ b l es c,G.pi b=some l->G.h.get b=some (.map es c)->rL G l.B es c
 loc:∀ d B cs,G.L d=some B->jM G.h.iq d=some cs->vH G B cs
 kC:∀ b l,G.pi b=some l->l.B<G.w.heap.size/\b<G.h.size
 mL:∀ b b' l l',G.pi b=some l->G.pi b'=some l'->l.B=l'.B->b=b'
 p6:∀ s b l,G.pi b=some l->¬ G.T s l.B
 oh:∀ d d' B,G.L d=some B->G.L d'=some B->d=d'
 LT:∀ s d B,G.L d=some B->¬ G.T s B
 oO:∀ d B b l,G.L d=some B->G.pi b=some l->B≠l.B
 lT:∀ d B,G.L d=some B->B<G.w.heap.size/\(jM G.h.iq d).isSome=true
 nb:∀ s B,G.T s B->B<G.w.heap.size
 lo:G.h.lo<=G.h.size
 lt:∀ b o,G.h.get b=some o->b<G.h.size
def PR.ye {G:Ga} {m:Bool} {v:AV} {u:Value} (h:PR G.w G.T m v u):VR G v u:=by
 have h':=h.GZ
 clear h
 generalize hm:true=m' at h'
 induction h' with
 | undef m v h=>exact .undef v
 | bool m b=>exact .jm rfl (.bool _ b)
 | int m k n=>exact .jm rfl (.int _ k n)
 | str m s b h=>exact .jm rfl (.str _ s b h)
 | jV m=>exact .jm rfl (.jV _)
 | ip m cells off sn B base c e fr f hm' hB hB' hc h1 hr ih=>exact .jm rfl (.ip _ cells off sn B base c e fr f (λ_=>rfl) hB hB' hc h1 hr)
 | slnil m=>exact .jm rfl (.slnil _)
 | ng m cap a c hm' h=>exact .jm rfl (.ng _ cap a c (λ_=>rfl) h)
 | sl m xs cap B base c e fr cap' esz f hm' hB hB' hcap hle hz hc h1 hr ih=>exact .jm rfl (.sl _ xs cap B base c e fr cap' esz f (λ_=>rfl) hB hB' hcap hle hz hc h1 hr)
 | ka m=>exact .jm rfl (.ka _)
 | fm m es sn r ents clk hm' hB hB' hl hy hko hk hv ihk ihv=>exact .jm rfl (.fm _ es sn r ents clk (λ_=>rfl) hB hB' hl hy hko hk hv)
 | kX m=>exact .jm rfl (.kX _)
 | jz m g a c a' c' ha hc hra hrc iha ihc=>exact .jz g a c a' c' ha hc (PR.zg ha hra) (PR.zg hc hrc) (λi x y hx hy=>iha i x y hx hy hm) (λi x y hx hy=>ihc i x y hx hy hm)
 | agg m l vs hl h1 hr ih=>exact .agg l vs hl (PR.zg hl hr) h1 (λi x y hx hy=>ih i x y hx hy hm)
def PR.vR {G:Ga} {m:Bool} {v:AV} {u:Value} (h:PR G.w G.T m v u):VC G v u:=⟨h.ye,h.mJ⟩
end Go.Sx
namespace Go.Sx
open Go
def Ie:TypeDesc->Bool
 | .struct _ | .array _ _=>true
 | _=>false
def Vu (P:Program) (d:TypeDesc):TK->Prop
 | .bool=>d=.bool
 | .int k=>d=.int k
 | .str=>d=.string
 | .ptr=>∃ e,d=.pointer e
 | .slice e=>d=.slice e
 | .array n e=>d=.array n e
 | .map k e=>d=.map k e
 | .struct fs=>∃ F,d=.struct F/\fs=F.toList.map (λf=>(f.offset,f.type))/\∀ f∈F.toList,∃ i,P.info? f.type=some i/\i.size≠0
 | .func=>∃ a b c,d=.func a b c
 | .other=>True
def NC {t:TK} {a:AV} (h:rR t a=true):uF a=true:=by
 cases t<;>cases a<;>simp_all [rR,uF]
def yR:∀ {ts:List TK} {l:List AV},fitAll ts l=true->∀ x∈l,uF x=true
 | [],[],_,x,hx=>by cases hx
 | t::ts,a::l,h,x,hx=>by
   simp only [fitAll,Bool.and_eq_true] at h
   rcases List.mem_cons.1 hx with rfl | hx
   ·exact NC h.1
   ·exact yR h.2 x hx
 | [],_::_,h,_,_=>by cases h
 | _::_,[],h,_,_=>by cases h
structure nj (P:Program) (t:Nat) (ti:TI):Prop where
 info:∃ i z,P.info? t=some i/\i.size=ti.size/\i.bytes=ti.bytes/\i.zero=some z/\ti.zero=z.cells.toList.map EF/\z.cells.size=ti.size /\
  (∀ c∈z.cells.toList,c.oneCell'=true)/\(ti.agg=true->∃ cs,z=.agg cs)/\(ti.agg=false->z.oneCell'=true)
 desc:∃ d,P.underlying t=some d/\Ie d=ti.agg/\Vu P d ti.kind
 bytes:ti.bytes<=1048576
 guard:ti.flat=true->P.eqGuardType P.depth t=false
 flat:ti.flat=true->ti.agg=true->∀ (l m:List AV) (xs ys:Array Value) (b:Bool) (w:World) (T:Bool->Nat->Prop),fitAll ti.sc l=true->l.length=ti.size->m.length=ti.size ->
  PR w T true (.agg l) (.agg xs)->PR w T true (.agg m) (.agg ys)->lU l m=some b->(Op.equalIn 10000 t (.agg xs) (.agg ys)).run P w=.ok b w
 key:ti.flat=true->ti.agg=true->∀ (e:Bool) (xs:Array Value) (w:World),xs.size=ti.size->(Instr.checkKey e 10000 t (.agg xs)).run P w=.ok () w
structure jR (P:Program) (C:jE):Prop where
 ty:∀ t ti,C.T t=some ti->nj P t ti
section runs
variable {P:Program} {t:Nat} {ti:TI}
theorem nj.isAgg (h:nj P t ti) (w:World):(isAgg t).run P w=.ok ti.agg w:=by
 obtain ⟨d,hd,ha,_⟩:=h.desc
 unfold Go.isAgg
 rw [Sem.run_bind,run_underlying hd w]
 rw [<- ha]
 cases d<;>rfl
theorem nj.sizeOf (h:nj P t ti) (w:World):(sizeOf t).run P w=.ok ti.size w:=by
 obtain ⟨i,z,hi,hs,_⟩:=h.info
 simp [Go.sizeOf,typeInfo,hi,hs]
def nj.Nx (h:nj P t ti):(P.info? t).map (·.size)=some ti.size:=by
 obtain ⟨i,z,hi,hs,_⟩:=h.info
 grind
def zC (R:AV->Value->Prop) (cs:List AV) (c:Array Value) (base:Nat):Prop :=
 ∀ i x,cs[i]?=some x->∃ u,c[base+i]?=some u/\u.oneCell'=true/\R x u
theorem oY (B o n:Nat):(⟨B,o,none⟩:Addr).add n=⟨B,o+n,none⟩:=by
 grind [Addr.add]
theorem Dg (w:World) (B base:Nat) (c:Array Value) (e:TypeId) (fr:Nat×Nat) (hB:w.heap[B]?=some (.cells c e fr)) (n:Nat) (hn:base+n<=c.size) :
  (loadCells ⟨B,base,none⟩ n).run P w=.ok (c.extract base (base+n)) w:=by
 have h:=run_loadCells_list (P:=P) w ⟨B,base,none⟩ (c.extract base (base+n)).toList (λj v hv=>by
  rw [oY,cell_of_row w B (base+j) c e fr hB]
  grind)
 have hl:(c.extract base (base+n)).toList.length=n:=by grind
 rw [hl,Array.toArray_toList] at h
 exact h
def Ac {cs:List AV} {o:Nat} {l:List AV} (ha:ti.agg=true) (hp:part ti cs o=some (.agg l)):l=(cs.drop o).take ti.size/\l.length=ti.size/\(ti.size=0\/o+ti.size<=cs.length):=by
 simp only [part,ha,pS,B3] at hp
 split at hp
 ·rename_i hb
  simp only [Option.some.injEq,AV.agg.injEq] at hp
  subst hp
  simp only [Nat.beq_eq] at hb
  grind
 grind
def GD (hT:nj P t ti) {w:World} {B base o:Nat} {c:Array Value} {e:TypeId} {fr:Nat×Nat} {R:AV->Value->Prop} {cs:List AV} {v:AV}
  (hB:w.heap[B]?=some (.cells c e fr)) (hU:zC R cs c base) (hp:part ti cs o=some v) :
  ∃ u,(loadVar t ⟨B,base+o,none⟩).run P w=.ok u w /\
    ((∃ l vs,ti.agg=true/\v=.agg l/\u=.agg vs/\l.length=ti.size/\l.length=vs.size/\(∀ (i:Nat) (y:Value),vs[i]?=some y->y.oneCell'=true)/\∀ (i:Nat) (x:AV) (y:Value),l[i]?=some x->vs[i]?=some y->R x y)
      \/ (ti.agg=false/\u.oneCell'=true/\R v u)):=by
 cases ha:ti.agg with
 | false =>
   simp only [part,ha] at hp
   obtain ⟨u,hu,h1,hr⟩:=hU o v hp
   refine ⟨u,?_,.inr ⟨rfl,h1,hr⟩⟩
   unfold loadVar
   rw [Sem.run_bind,hT.isAgg,ha]
   simp [cell_of_row w B (base+o) c e fr hB,hu]
 | true =>
   have hv:∃ l,v=.agg l:=by
    grind [part,pS,B3]
   obtain ⟨l,rfl⟩:=hv
   obtain ⟨hl,hlen,hle⟩:=Ac ha hp
   have hbase:ti.size=0\/base+o+ti.size<=c.size:=by
    rcases hle with h0 | hle
    ·omega
    ·by_cases hz:ti.size=0
     ·omega
     ·right
      have hi:o+ti.size - 1<cs.length:=by omega
      obtain ⟨u,hu,_⟩:=hU (o+ti.size - 1) cs[o+ti.size - 1] (by simp [hi])
      grind
   by_cases hz:ti.size=0
   ·have hl0:l=[]:=by grind
    subst hl0
    refine ⟨.agg #[],?_,.inl ⟨[],#[],rfl,rfl,rfl,by simp [hz],rfl,by simp,by simp⟩⟩
    unfold loadVar
    rw [Sem.run_bind,hT.isAgg,ha]
    simp [hT.sizeOf,hz,loadCells,loadCellsFrom]
   ·have hb:=hbase.resolve_left hz
    refine ⟨.agg (c.extract (base+o) (base+o+ti.size)),?_,.inl ⟨l,_,rfl,rfl,rfl,hlen,?_,?_,?_⟩⟩
    ·unfold loadVar
     rw [Sem.run_bind,hT.isAgg,ha]
     simp [hT.sizeOf,Dg w B (base+o) c e fr hB ti.size hb]
    ·grind
    ·intro i y hy
     rw [Array.getElem?_extract] at hy
     split at hy
     ·rename_i hi
      have hi':o+i<cs.length:=by omega
      obtain ⟨u,hu,h1,_⟩:=hU (o+i) cs[o+i] (by simp)
      grind
     grind
    ·intro i x y hx hy
     rw [Array.getElem?_extract] at hy
     split at hy
     ·rename_i hi
      rw [hl,List.getElem?_take,List.getElem?_drop] at hx
      split at hx
      ·obtain ⟨u,hu,h1,hr⟩:=hU (o+i) x hx
       grind
      omega
     grind
end runs
end Go.Sx
namespace Go.Sx
open Go
section
variable {P:Program} {C:jE} {G:Ga} {t:Nat} {ti:TI}
def VR.uo {l:List AV} {u:Value} (h:VR G (.agg l) u):∃ vs,u=.agg vs/\l.length=vs.size/\(∀ (i:Nat) (y:Value),vs[i]?=some y->y.oneCell'=true) /\
  ∀ (i:Nat) (x:AV) (y:Value),l[i]?=some x->vs[i]?=some y->VC G x y:=by
 cases h with
 | jm hp _=>simp [AV.kg] at hp
 | agg l vs hl hn h1 hr=>exact ⟨vs,rfl,hl,h1,λi x y hx hy=>⟨hr i x y hx hy,hn x (List.mem_of_getElem? hx)⟩⟩
theorem VR.of_int {k:IntKind} {n:Int} {u:Value} (h:VR G (.int k n) u):u=.int k n:=by
 cases h with
 | jm _ h=>cases h; rfl
theorem VR.of_bool {b:Bool} {u:Value} (h:VR G (.bool b) u):u=.bool b:=by
 cases h with
 | jm _ h=>cases h; rfl
def VR.sU {s:List UInt8} {u:Value} (h:VR G (.str s) u):∃ b,u=.string b/\b.data.toList=s:=by
 cases h with
 | jm _ h=>cases h<;>grind
theorem VR.int (k:IntKind) (n:Int):VR G (.int k n) (.int k n):=.jm rfl (.int _ k n)
theorem VR.bool (b:Bool):VR G (.bool b) (.bool b):=.jm rfl (.bool _ b)
theorem VR.str {s:List UInt8} {b:ByteArray} (h:b.data.toList=s):VR G (.str s) (.string b):=.jm rfl (.str _ s b h)
def int?_eq {v:AV} {k:IntKind} {n:Int} (h:v.int?=some (k,n)):v=.int k n:=by
 cases v<;>simp [AV.int?] at h
 grind
theorem bool?_eq {v:AV} {b:Bool} (h:v.bool?=some b):v=.bool b:=by
 cases v<;>simp [AV.bool?] at h
 grind
def str?_eq {v:AV} {b:List UInt8} (h:v.str?=some b):v=.str b:=by
 cases v<;>simp [AV.str?] at h
 grind
def agg?_eq {v:AV} {b:List AV} (h:v.agg?=some b):v=.agg b:=by
 cases v<;>simp [AV.agg?] at h
 grind
def w5 {v:AV} {n:Nat} (h:oX v=some n):∃ k,v=.int k (n:Int):=by
 unfold oX at h
 split at h
 ·rename_i k m hm
  have:=int?_eq hm
  subst this
  cases m<;>grind [VB]
 ·cases h
def VC.zg {l:List AV} {vs:Array Value} (hl:l.length=vs.size) (h:∀ (i:Nat) (x:AV) (y:Value),l[i]?=some x->vs[i]?=some y->VC G x y):∀ x∈l,x.mJ=true:=by
 intro x hx
 obtain ⟨i,hi⟩:=List.getElem?_of_mem hx
 have hlt:i<vs.size:=by grind
 exact (h i x vs[i] hi (by simp)).na
def VR.DL {l:List AV} {vs:Array Value} {R:AV->Value->Prop} (hR:∀ x y,R x y->VC G x y) (hl:l.length=vs.size)
  (h1:∀ (i:Nat) (y:Value),vs[i]?=some y->y.oneCell'=true) (hr:∀ (i:Nat) (x:AV) (y:Value),l[i]?=some x->vs[i]?=some y->R x y):VR G (.agg l) (.agg vs) :=
 .agg l vs hl (VC.zg hl λi x y hx hy=>hR x y (hr i x y hx hy)) h1 λi x y hx hy=>(hR x y (hr i x y hx hy)).vr
def Shaped (ti:TI) (v:AV) (u:Value):Prop :=
 (ti.agg=true/\∃ l vs,v=.agg l/\u=.agg vs/\l.length=ti.size/\vs.size=ti.size)\/(ti.agg=false/\u.oneCell'=true)
def xA {R:AV->Value->Prop} (hR:∀ x y,R x y->VC G x y) (hT:nj P t ti) {B base o:Nat} {c:Array Value} {e:TypeId} {fr:Nat×Nat} {cs:List AV} {v:AV}
  (hB:G.w.heap[B]?=some (.cells c e fr)) (hU:zC R cs c base) (hp:part ti cs o=some v) :
  ∃ u,(loadVar t ⟨B,base+o,none⟩).run P G.w=.ok u G.w/\VR G v u/\Shaped ti v u:=by
 obtain ⟨u,hu,h | h⟩:=GD hT hB hU hp
 ·obtain ⟨l,vs,ha,rfl,rfl,hlen,hl,h1,hr⟩:=h
  exact ⟨_,hu,VR.DL hR hl h1 hr,.inl ⟨ha,l,vs,rfl,rfl,hlen,by omega⟩⟩
 ·obtain ⟨ha,h1,hr⟩:=h
  exact ⟨u,hu,(hR _ _ hr).vr,.inr ⟨ha,h1⟩⟩
def B7 (hW:WR G) (hT:nj P t ti) {av v:AV} {a:Value} (hv:VR G av a) (h:sD av G.h ti=some v) :
  ∃ u,(Instr.loadAt t a).run P G.w=.ok u G.w/\VR G v u/\Shaped ti v u:=by
 unfold sD at h
 split at h
 ·
  rename_i d o
  cases hv with
  | jm hp _=>simp [AV.kg] at hp
  | la _ _ B hd =>
    unfold Nw at h
    split at h
    ·rename_i cs hcs
     obtain ⟨c,e,hB,hs,hr,h1⟩:=hW.loc d B cs hd hcs
     have hU:zC (VC G) cs c 0:=by
      intro i x hx
      have hi:i<c.size:=by grind
      refine ⟨c[i],by simp [hi],h1 i c[i] (by simp [hi]),hr i x c[i] hx (by simp [hi])⟩
     obtain ⟨u,hu,hvu,hs⟩:=xA (P:=P) (λ_ _ h=>h) hT hB hU h
     grind [Instr.loadAt,Instr.sureAddr]
    ·cases h
 ·
  rename_i cs o s
  cases hv with
  | jm _ h' =>
    cases h' with
    | ip _ _ _ _ B base c e fr f hm hB hI hc h1 hr =>
      have hU:zC (λx y=>PR G.w G.T s x y) cs c base:=by
       intro i x hx
       grind
      obtain ⟨u,hu,hvu,hs⟩:=xA (P:=P) (λ_ _ h=>PR.vR h) hT hB hU h
      grind [Instr.loadAt,Instr.sureAddr]
 ·
  rename_i b g i o
  cases hv with
  | jm hp _=>simp [AV.kg] at hp
  | ptr _ _ _ _ a hb hg hl =>
    unfold BG at h
    split at h
    ·rename_i g' z xs hget
     split at h
     ·rename_i hgg
      have hgg:=Nat.eq_of_beq_eq_true hgg
      subst hgg
      split at h
      ·rename_i cs hcs
       obtain ⟨l,hpi,ha⟩:=hl z xs hget
       subst ha
       obtain ⟨c,e,hB,hcap,hsz,hz,hr⟩:=hW.iH b l g z xs hpi hget
       have hU:zC (VC G) cs c (l.base+i*z):=by
        intro j x hx
        grind
       obtain ⟨u,hu,hvu,hs⟩:=xA (P:=P) (λ_ _ h=>h) hT hB hU h
       grind [Instr.loadAt,Instr.sureAddr]
      ·cases h
     ·cases h
    ·cases h
 ·cases h
def BP {av v:AV} {a:Value} {k:Nat} (hv:VR G av a) (h:Cz av k=some v):∃ x,a=.pointer (some x)/\VR G v (.pointer (some (x.add k))):=by
 unfold Cz at h
 split at h
 ·rename_i d o
  simp only [VU,nf,Option.some.injEq] at h
  subst h
  cases hv with
  | jm hp _=>simp [AV.kg] at hp
  | la _ _ B hd=>exact ⟨_,rfl,by rw [oY]; exact .la d (o+k) B hd⟩
 ·rename_i cs o s
  simp only [MM,nf,Option.some.injEq] at h
  subst h
  cases hv with
  | jm _ h' =>
    cases h' with
    | ip _ _ _ _ B base c e fr f hm hB hI hc h1 hr =>
      refine ⟨_,rfl,?_⟩
      rw [oY,Nat.add_assoc]
      exact .jm rfl (.ip _ cs (o+k) s B base c e fr f hm hB hI hc h1 hr)
 ·rename_i b g i o
  simp only [DU,nf,Option.some.injEq] at h
  subst h
  cases hv with
  | jm hp _=>simp [AV.kg] at hp
  | ptr _ _ _ _ a hb hg hl =>
    refine ⟨_,rfl,.ptr b g i (o+k) _ hb hg ?_⟩
    grind [oY]
 ·cases h
def BU (hC:jR P C) {av:AV} {a:Value} {f:Nat} {r:AV×aT} (hv:VR G av a) (h:pY C G.h t av f=some r) :
  r.2=G.h/\∃ u,(Instr.fieldAt t a f).run P G.w=.ok u G.w/\VR G r.1 u/\u.oneCell'=true:=by
 unfold pY at h
 split at h
 ·cases h
 ·rename_i ti hti
  split at h
  ·rename_i fs hk
   split at h
   ·rename_i off ft hf
    unfold kB at h
    split at h
    ·rename_i v hv'
     simp only [Option.some.injEq] at h
     subst h
     obtain ⟨d,hd,ha,hko⟩:=(hC.ty t ti hti).desc
     rw [hk] at hko
     obtain ⟨F,rfl,hfs,hsz⟩:=hko
     subst hfs
     simp only [List.getElem?_map,Array.getElem?_toList,Option.map_eq_some_iff] at hf
     obtain ⟨fl,hfl,he⟩:=hf
     simp only [Prod.mk.injEq] at he
     obtain ⟨rfl,rfl⟩:=he
     obtain ⟨x,rfl,hx⟩:=BP hv hv'
     refine ⟨rfl,.pointer (some (x.add fl.offset)),?_,hx,rfl⟩
     obtain ⟨i,hi,hne⟩:=hsz fl (by
      grind)
     simp_all [Instr.fieldAt,run_underlying,Instr.sureAddr,fieldPlace,Go.sizeOf,typeInfo]
    ·cases h
   ·cases h
  ·cases h
end
end Go.Sx
namespace Go.Sx
open Go
def mK (P:Program) (G:Ga) (s:Sem Value) (r:AV×aT):Prop :=
 r.2=G.h/\∃ u,s.run P G.w=.ok u G.w/\VR G r.1 u
section
variable {P:Program} {C:jE} {G:Ga} {t:Nat} {ti:TI}
theorem l9 {h:aT} {o:Option AV} {r:AV×aT} (e:kB h o=some r):∃ v,o=some v/\r=(v,h):=by
 unfold kB at e
 grind
def Jt {c a b:AV} {c' a' b':Value} {r:AV×aT} (hc:VR G c c') (ha:VR G a a') (hb:VR G b b') (h:DN G.h c a b=some r) :
  mK P G (do pure (if <- asBool c' then a' else b')) r:=by
 unfold DN at h
 split at h
 ·rename_i hb'
  cases h
  have:=bool?_eq hb'; subst this
  have:=hc.of_bool; subst this
  exact ⟨rfl,a',by rfl,ha⟩
 ·rename_i hb'
  cases h
  have:=bool?_eq hb'; subst this
  have:=hc.of_bool; subst this
  exact ⟨rfl,b',by rfl,hb⟩
 ·cases h
def Ch {l:List AV} {vs:Array Value} {o:Nat} {v:AV} (hT:nj P t ti) (hl:l.length=vs.size) (h1:∀ (i:Nat) (y:Value),vs[i]?=some y->y.oneCell'=true)
  (hr:∀ (i:Nat) (x:AV) (y:Value),l[i]?=some x->vs[i]?=some y->VC G x y) (hp:Sx.part ti l o=some v) :
  ∃ u,(Go.part t vs o).run P G.w=.ok u G.w/\VR G v u:=by
 have hU:zC (VC G) l vs 0:=by
  intro i x hx
  have hi:i<vs.size:=by grind
  exact ⟨vs[i],by simp [hi],h1 i _ (by simp [hi]),hr i x _ hx (by simp [hi])⟩
 cases ha:ti.agg with
 | false =>
   simp only [Sx.part,ha] at hp
   obtain ⟨u,hu,_,hx⟩:=hU o v hp
   refine ⟨u,?_,hx.vr⟩
   unfold Go.part
   rw [Sem.run_bind,hT.isAgg,ha]
   simp_all
 | true =>
   have hv:∃ m,v=.agg m:=by
    grind [Sx.part,pS,B3]
   obtain ⟨m,rfl⟩:=hv
   obtain ⟨hm,hlen,hle⟩:=Ac ha hp
   refine ⟨.agg (vs.extract o (o+ti.size)),?_,?_⟩
   ·unfold Go.part
    rw [Sem.run_bind,hT.isAgg,ha]
    simp [hT.sizeOf]
   ·refine VR.DL (R:=VC G) (λ_ _ h=>h) ?_ ?_ ?_
    ·grind
    ·intro i y hy
     rw [Array.getElem?_extract] at hy
     grind
    grind
def Gh (hC:jR P C) {x:AV} {x':Value} {f:Nat} {r:AV×aT} (hx:VR G x x') (h:Bq C G.h t x f=some r):mK P G (Instr.field t x' f) r:=by
 unfold Bq at h
 split at h
 ·cases h
 ·rename_i ti hti
  split at h
  ·rename_i fs hk
   split at h
   ·rename_i off ft hf
    split at h
    ·rename_i cs hcs
     split at h
     ·rename_i tf htf
      obtain ⟨v,hv,rfl⟩:=l9 h
      have:=agg?_eq hcs; subst this
      obtain ⟨vs,rfl,hl,h1,hr⟩:=hx.uo
      obtain ⟨d,hd,ha,hko⟩:=(hC.ty t ti hti).desc
      rw [hk] at hko
      obtain ⟨F,rfl,hfs,hsz⟩:=hko
      subst hfs
      simp only [List.getElem?_map,Array.getElem?_toList,Option.map_eq_some_iff] at hf
      obtain ⟨fl,hfl,he⟩:=hf
      simp only [Prod.mk.injEq] at he
      obtain ⟨rfl,rfl⟩:=he
      obtain ⟨u,hu,hvu⟩:=Ch (hC.ty _ tf htf) hl h1 hr hv
      refine ⟨rfl,u,?_,hvu⟩
      simp_all [Instr.field,run_underlying,Go.asAgg]
     ·cases h
    ·cases h
   ·cases h
  ·cases h
def DA {x:AV} {x':Value} {i:Nat} {r:AV×aT} (hx:VR G x x') (h:xj G.h x i=some r):mK P G (Instr.extract x' i) r:=by
 unfold xj at h
 split at h
 ·rename_i vs
  obtain ⟨v,hv,rfl⟩:=l9 h
  cases hx with
  | jm hp _=>simp [AV.kg] at hp
  | je _ vs' hl hr =>
    have hi:i<vs'.size:=by grind
    exact ⟨rfl,vs'[i],by simp [Instr.extract,hi],hr i v _ hv (by simp [hi])⟩
 ·cases h
def Eg {x v:AV} {x':Value} (hx:VR G x x') (h:A6 x=some v) :
  VR G v x'/\((∃ a,x'=.pointer (some a))\/∃ g a c,x'=.func (.func g) a c):=by
 unfold A6 at h
 split at h
 ·cases h
  cases hx with
  | jm hp _=>simp [AV.kg] at hp
  | ptr _ _ _ _ a hb hg hl=>exact ⟨.ptr _ _ _ _ a hb hg hl,.inl ⟨_,rfl⟩⟩
 ·cases h
  refine ⟨hx,.inl ?_⟩
  cases hx with
  | jm _ h'=>cases h'<;>grind
 ·cases h
  refine ⟨hx,.inl ?_⟩
  cases hx<;>grind [AV.kg]
 ·cases h
  refine ⟨hx,.inr ?_⟩
  cases hx<;>grind [AV.kg]
 ·cases h
theorem Ay (b:Bool):sF b=some (.bool !b):=by cases b<;>rfl
theorem Az {op:BinOp} {k:IntKind} {x y:Int} (xT:TypeId) (h:op=.add\/op=.sub\/op=.mul) :
  (Go.binOp op xT (.int k x) (.int k y)).run P G.w=(Op.intArith op k x y).run P G.w:=by
 grind [Go.binOp]
theorem KC {op:BinOp} {k:IntKind} {x y:Int} (xT:TypeId) (h:op=.quo\/op=.rem) :
  (Go.binOp op xT (.int k x) (.int k y)).run P G.w=(Op.intDiv op k x y).run P G.w:=by
 grind [Go.binOp]
theorem zS {op:BinOp} {k:IntKind} {x y:Int} (xT:TypeId) (h:op=.and\/op=.or\/op=.xor\/op=.andNot) :
  (Go.binOp op xT (.int k x) (.int k y)).run P G.w=(Op.intBits op k x y).run P G.w:=by
 grind [Go.binOp]
theorem v8 {op:BinOp} {k:IntKind} {x y:Int} (xT:TypeId) (h:op=.eql\/op=.neq\/op=.lss\/op=.leq\/op=.gtr\/op=.geq) :
  (Go.binOp op xT (.int k x) (.int k y)).run P G.w=(Op.intCmp op x y).run P G.w:=by
 grind [Go.binOp]
def F2 {op:BinOp} {k:IntKind} {x y:Int} {v:AV} (h:lQ op k x y=some v) (hs:ua op=false) (xT:TypeId) :
  ∃ u,(Go.binOp op xT (.int k x) (.int k y)).run P G.w=.ok u G.w/\VR G v u:=by
 cases op<;>simp only [ua,Bool.true_eq_false] at hs<;>simp only [lQ,Jk,Kb,QW,RN,PF,Io,IJ,Jy,IQ,JW,HH,Sd,VN,DQ,EZ,VX,u6,w7,oc,AP,Ay,sf,CS,CI,pH,wX,reduceCtorEq] at h
 case add=>cases h; rw [Az xT (by simp)]; exact ⟨_,rfl,VR.int _ _⟩
 case sub=>cases h; rw [Az xT (by simp)]; exact ⟨_,rfl,by grind [VR.int]⟩
 case mul=>cases h; rw [Az xT (by simp)]; exact ⟨_,rfl,VR.int _ _⟩
 case quo =>
  split at h
  ·cases h
  ·rename_i hy
   cases h; simp_all [KC,Op.intDiv,VR.int]
 case rem =>
  split at h
  ·cases h
  ·rename_i hy
   cases h; simp_all [KC,Op.intDiv,VR.int]
 case and=>cases h; rw [zS xT (by simp)]; exact ⟨_,rfl,VR.int _ _⟩
 case or=>cases h; rw [zS xT (by simp)]; exact ⟨_,rfl,VR.int _ _⟩
 case xor=>cases h; rw [zS xT (by simp)]; exact ⟨_,rfl,VR.int _ _⟩
 case andNot=>cases h; rw [zS xT (by simp)]; exact ⟨_,rfl,VR.int _ _⟩
 case eql=>cases h; rw [v8 xT (by simp)]; exact ⟨_,rfl,VR.bool _⟩
 case neq=>cases h; rw [v8 xT (by simp)]; exact ⟨_,rfl,VR.bool _⟩
 case lss =>
  cases h; rw [v8 xT (by simp)]
  refine ⟨_,rfl,?_⟩
  have e:(!decide (y<=x))=decide (x<y):=by grind
  rw [e]; exact VR.bool _
 case leq=>cases h; rw [v8 xT (by simp)]; exact ⟨_,rfl,VR.bool _⟩
 case gtr =>
  cases h; rw [v8 xT (by simp)]
  refine ⟨_,rfl,?_⟩
  have e:(!decide (x<=y))=decide (x > y):=by grind
  rw [e]; exact VR.bool _
 case geq=>cases h; rw [v8 xT (by simp)]; exact ⟨_,rfl,VR.bool _⟩
theorem To (k k':IntKind) (x y:Int) (xT:TypeId) (w:World) (hy:¬ y<0) :
  (Go.binOp .shl xT (.int k x) (.int k' y)).run P w=.ok (.int k (k.wrap (x*2 ^ (min y.toNat k.bits)))) w:=by
 show (Op.shift .shl k x k' y).run P w = _
 unfold Op.shift
 rw [if_neg hy]
 rfl
theorem T0 (k k':IntKind) (x y:Int) (xT:TypeId) (w:World) (hy:¬ y<0) :
  (Go.binOp .shr xT (.int k x) (.int k' y)).run P w=.ok (.int k (x.fdiv (2 ^ (min y.toNat k.bits)))) w:=by
 show (Op.shift .shr k x k' y).run P w = _
 unfold Op.shift
 rw [if_neg hy]
 rfl
def Gi {op:BinOp} {k k':IntKind} {x y:Int} {v:AV} (h:lQ op k x y=some v) (hs:ua op=true) (xT:TypeId) :
  ∃ u,(Go.binOp op xT (.int k x) (.int k' y)).run P G.w=.ok u G.w/\VR G v u:=by
 cases op<;>simp only [ua,Bool.false_eq_true] at hs
 ·have h:(if y<0 then none else fI (sH k (x*2 ^ (min y.toNat k.bits))) (oc k))=some v:=h
  rw [u6,sf] at h
  split at h
  ·cases h
  ·rename_i hy
   cases h
   simp_all [To,VR.int]
 ·have h:(if y<0 then none else fI (x.fdiv (2 ^ (min y.toNat k.bits))) (oc k))=some v:=h
  rw [u6] at h
  split at h
  ·cases h
  ·rename_i hy
   cases h
   simp_all [T0,VR.int]
theorem bytesLess_eq:∀ (x y:List UInt8),bytesLess x y=Op.bytesLess x y
 | _,[]=>by simp [bytesLess,Op.bytesLess]
 | [],_::_=>by rfl
 | a::x,b::y=>by simp [bytesLess,Op.bytesLess,bytesLess_eq x y]
theorem uL {b:ByteArray} {s:List UInt8} (h:b.data.toList=s):b.size=s.length:=by
 subst h; rfl
theorem toList_data (b:ByteArray):b.toList=b.data.toList:=ByteArray.toList_eq b
def F8 {op:BinOp} {x y:List UInt8} {bx by':ByteArray} {v:AV} (hx:bx.data.toList=x) (hy:by'.data.toList=y)
  (h:BB op x y=some v) (xT:TypeId):∃ u,(Go.binOp op xT (.string bx) (.string by')).run P G.w=.ok u G.w/\VR G v u:=by
 have hb:∀ o:BinOp,(Go.binOp o xT (.string bx) (.string by')).run P G.w=(Op.stringOp o bx by').run P G.w:=by
  intro o; cases o<;>rfl
 rw [hb]
 unfold Op.stringOp
 simp only [toList_data,hx,hy,<- bytesLess_eq]
 cases op<;>simp only [BB,reduceCtorEq,pS] at h
 case add =>
  split at h
  ·rename_i hle
   cases h
   have hle:=Nat.le_of_ble_eq_true hle
   have hm:IntKind.i64.max=9223372036854775807:=by decide
   rw [if_neg (by grind [uL])]
   simp_all [VR.str]
  ·cases h
 all_goals
  cases h
  exact ⟨_,rfl,VR.bool _⟩
def u0 {x:AV} {x':Value} {b:Bool} (h:NN x=some b) (hx:VR G x x'):∃ a,x'=.pointer a/\a.isNone=b:=by
 unfold NN at h
 split at h<;>simp only [Option.some.injEq,reduceCtorEq] at h<;>subst h
 ·cases hx with
  | jm _ h=>cases h<;>grind
 ·cases hx<;>grind [AV.kg]
 ·cases hx with
  | jm _ h=>cases h<;>grind
 ·cases hx<;>grind [AV.kg]
def vc {x:AV} {x':Value} {b:Bool} (h:NR x=some b) (hx:VR G x x'):∃ a n c,x'=.slice a n c/\a.isNone=b:=by
 unfold NR at h
 split at h<;>simp only [Option.some.injEq,reduceCtorEq] at h<;>subst h
 ·cases hx with
  | jm _ h=>cases h with
    | slnil=>simp
    | ng _ _ _ _ _ hc=>cases hc
    | sl _ _ _ _ _ _ _ _ _ _ _ _ _ _ hc=>cases hc
 ·rename_i hne
  cases hx with
  | jm _ h=>cases h<;>grind
 ·cases hx<;>grind [AV.kg]
def vk {x:AV} {x':Value} {b:Bool} (h:Me x=some b) (hx:VR G x x'):∃ a,x'=.map a/\a.isNone=b:=by
 unfold Me at h
 split at h<;>simp only [Option.some.injEq,reduceCtorEq] at h<;>subst h
 ·cases hx with
  | jm _ h=>cases h<;>grind
 ·cases hx<;>grind [AV.kg]
 ·cases hx with
  | jm _ h=>cases h<;>grind
def vL {x:AV} {x':Value} {b:Bool} (h:NK x=some b) (hx:VR G x x'):(b=true/\x'=.nilFunc)\/(b=false/\∃ f a c,x'=.func f a c):=by
 unfold NK at h
 split at h<;>simp only [Option.some.injEq,reduceCtorEq] at h<;>subst h
 ·cases hx with
  | jm _ h=>cases h<;>grind
 ·cases hx<;>grind [AV.kg]
def VR.Ha {l:List AV} {vs:Array Value} (h:VR G (.agg l) (.agg vs)) (hs:∀ x∈l,∃ b,mu x x=some b):PR G.w G.T true (.agg l) (.agg vs):=by
 obtain ⟨vs',e,hl,h1,hr⟩:=h.uo
 cases e
 refine .agg _ l vs hl h1 ?_
 intro i x y hx hy
 obtain ⟨b,hb⟩:=hs x (List.mem_of_getElem? hx)
 have:=(hr i x y hx hy).vr
 cases this with
 | jm _ h=>exact h
 | undef=>simp [mu,pF] at hb
 | ptr=>simp [mu,pF] at hb
 | hs=>simp [mu,pF] at hb
 | hm=>simp [mu,pF] at hb
 | la=>simp [mu,pF] at hb
 | jz=>simp [mu,pF] at hb
 | agg=>simp [mu,pF] at hb
 | je=>simp [mu,pF] at hb
def KR {x y:AV} {b:Bool} (h:mu x y=some b):(∃ b,mu x x=some b)/\∃ b,mu y y=some b:=by
 cases x<;>simp only [mu,pF,yS,vK,zH,reduceCtorEq] at h<;>cases y<;>simp only [AV.bool?,AV.int?,AV.str?,reduceCtorEq] at h
 ·exact ⟨⟨_,rfl⟩,⟨_,rfl⟩⟩
 ·refine ⟨?_,?_⟩<;>simp [mu,vK,AV.int?,(qX _ _).2 rfl]
 ·exact ⟨⟨_,rfl⟩,⟨_,rfl⟩⟩
def Dl:∀ {l m:List AV} {b:Bool},lU l m=some b->(∀ x∈l,∃ b,mu x x=some b)/\∀ x∈m,∃ b,mu x x=some b
 | [],[],_,_=>by simp
 | [],_::_,_,h=>by cases h
 | _::_,[],_,h=>by cases h
 | a::x,b::y,c,h=>by
   simp only [lU] at h
   have hrest:∃ d,lU x y=some d/\∃ e,mu a b=some e:=by
    split at h
    ·rename_i he; exact ⟨_,h,_,he⟩
    ·rename_i he
     split at h
     ·rename_i hd; exact ⟨_,hd,_,he⟩
     ·cases h
    ·cases h
   obtain ⟨d,hd,e,he⟩:=hrest
   obtain ⟨h1,h2⟩:=Dl hd
   obtain ⟨k1,k2⟩:=KR he
   constructor
   ·intro z hz
    rcases List.mem_cons.1 hz with rfl | hz
    ·exact k1
    ·exact h1 z hz
   ·intro z hz
    rcases List.mem_cons.1 hz with rfl | hz
    ·exact k2
    ·exact h2 z hz
end
end Go.Sx
namespace Go.Sx
open Go
section
variable {P:Program} {C:jE} {G:Ga} {t:Nat} {ti:TI}
theorem MG (op:BinOp) (ox oy:Operand) (k k':IntKind) (a b:Int) (w:World):(eqGuard op t ox oy (.int k a) (.int k' b)).run P w=.ok () w:=by cases op<;>rfl
theorem Nq (op:BinOp) (ox oy:Operand) (a b:ByteArray) (w:World):(eqGuard op t ox oy (.string a) (.string b)).run P w=.ok () w:=by cases op<;>rfl
def NH (op:BinOp) (ox oy:Operand) (a b:Bool) (w:World):(eqGuard op t ox oy (.bool a) (.bool b)).run P w=.ok () w:=by cases op<;>rfl
def E4 (op:BinOp) (ox oy:Operand) (a b:Option Addr) (w:World):(eqGuard op t ox oy (.pointer a) (.pointer b)).run P w=.ok () w:=by cases op<;>rfl
def EH (op:BinOp) (ox oy:Operand) (a b:Option Nat) (w:World):(eqGuard op t ox oy (.map a) (.map b)).run P w=.ok () w:=by cases op<;>rfl
def EO (op:BinOp) (ox oy:Operand) (a b:Option Addr) (n c m d:Nat) (w:World):(eqGuard op t ox oy (.slice a n c) (.slice b m d)).run P w=.ok () w:=by cases op<;>rfl
def FE (op:BinOp) (ox oy:Operand) (y:Value) (w:World):(eqGuard op t ox oy .nilFunc y).run P w=.ok () w:=by cases op<;>rfl
def Na (op:BinOp) (ox oy:Operand) (f:Fn) (a c:Array Value) (y:Value) (w:World):(eqGuard op t ox oy (.func f a c) y).run P w=.ok () w:=by cases op<;>rfl
theorem Vh (d:Nat) {e:TypeId} (h:P.underlying t=some (.pointer e)) (b:Option Addr) (w:World):(Op.equalIn (d+1) t (.pointer none) (.pointer b)).run P w=.ok b.isNone w:=by
 simp [Op.equalIn,run_underlying h]
theorem U2 (d:Nat) {e:TypeId} (h:P.underlying t=some (.pointer e)) (a:Addr) (w:World):(Op.equalIn (d+1) t (.pointer (some a)) (.pointer none)).run P w=.ok false w:=by
 simp [Op.equalIn,run_underlying h]
theorem Wr (d:Nat) {e:TypeId} (h:P.underlying t=some (.slice e)) (b:Option Addr) (n c m k:Nat) (w:World):(Op.equalIn (d+1) t (.slice none n c) (.slice b m k)).run P w=.ok b.isNone w:=by
 simp [Op.equalIn,run_underlying h]
theorem VQ (d:Nat) {e:TypeId} (h:P.underlying t=some (.slice e)) (a:Addr) (n c m k:Nat) (w:World):(Op.equalIn (d+1) t (.slice (some a) n c) (.slice none m k)).run P w=.ok false w:=by
 simp [Op.equalIn,run_underlying h]
theorem UN (d:Nat) {e e':TypeId} (h:P.underlying t=some (.map e e')) (b:Option Nat) (w:World):(Op.equalIn (d+1) t (.map none) (.map b)).run P w=.ok b.isNone w:=by
 simp [Op.equalIn,run_underlying h]
theorem U8 (d:Nat) {e e':TypeId} (h:P.underlying t=some (.map e e')) (a:Nat) (w:World):(Op.equalIn (d+1) t (.map (some a)) (.map none)).run P w=.ok false w:=by
 simp [Op.equalIn,run_underlying h]
def UG (d:Nat) {p q:Array TypeId} {r:Bool} (h:P.underlying t=some (.func p q r)) (w:World):(Op.equalIn (d+1) t .nilFunc .nilFunc).run P w=.ok true w:=by
 simp [Op.equalIn,run_underlying h]
def UI (d:Nat) {p q:Array TypeId} {r:Bool} (h:P.underlying t=some (.func p q r)) (f:Fn) (a c:Array Value) (w:World):(Op.equalIn (d+1) t .nilFunc (.func f a c)).run P w=.ok false w:=by
 simp [Op.equalIn,run_underlying h]
def Ua (d:Nat) {p q:Array TypeId} {r:Bool} (h:P.underlying t=some (.func p q r)) (f:Fn) (a c:Array Value) (w:World):(Op.equalIn (d+1) t (.func f a c) .nilFunc).run P w=.ok false w:=by
 simp [Op.equalIn,run_underlying h]
def oB {x y:Value} {b:Bool} {w:World} (he:(Op.equalIn 10000 t x y).run P w=.ok b w) (hn:∀ o:BinOp,o=.eql\/o=.neq->Go.binOp o t x y=(if o=.eql then do pure (.bool (<- Op.equal t x y)) else do pure (.bool (!(<- Op.equal t x y))))) :
  (Go.binOp .eql t x y).run P w=.ok (.bool b) w/\(Go.binOp .neq t x y).run P w=.ok (.bool !b) w:=by
 rw [hn .eql (by simp),hn .neq (by simp)]
 have he':(Op.equal t x y).run P w=.ok b w:=he
 simp_all
def Ae (hT:nj P t ti) {x y:AV} {x' y':Value} {b:Bool} (hx:VR G x x') (hy:VR G y y') (h:xh ti x y=some b) (ox oy:Operand) :
  (∀ o:BinOp,(eqGuard o t ox oy x' y').run P G.w=.ok () G.w)/\(Go.binOp .eql t x' y').run P G.w=.ok (.bool b) G.w/\(Go.binOp .neq t x' y').run P G.w=.ok (.bool !b) G.w:=by
 obtain ⟨d,hd,ha,hk⟩:=hT.desc
 unfold xh at h
 split at h
 ·
  rename_i hki
  rw [hki] at hk
  have hk:d=.bool:=hk
  subst hk
  unfold LC at h
  split at h
  ·rename_i a c h1 h2
   cases h
   have:=bool?_eq h1; subst this
   have:=bool?_eq h2; subst this
   rw [hx.of_bool,hy.of_bool]
   exact ⟨λo=>NH o ox oy _ _ _,oB (run_equalIn_bool' G.w 9999 t _ _ hd) (by rintro o (rfl | rfl)<;>rfl)⟩
  ·cases h
 ·
  rename_i hki
  rw [hki] at hk
  obtain ⟨e,rfl⟩:=hk
  unfold tF at h
  split at h
  ·rename_i c h1 h2
   cases h
   obtain ⟨a,rfl,h1⟩:=u0 h1 hx
   obtain ⟨a',rfl,h2⟩:=u0 h2 hy
   refine ⟨λo=>E4 o ox oy _ _ _,oB ?_ (by rintro o (rfl | rfl)<;>rfl)⟩
   simp_all [Vh]
  ·rename_i h1 h2
   cases h
   obtain ⟨a,rfl,h1⟩:=u0 h1 hx
   obtain ⟨a',rfl,h2⟩:=u0 h2 hy
   refine ⟨λo=>E4 o ox oy _ _ _,oB ?_ (by rintro o (rfl | rfl)<;>rfl)⟩
   cases a with
   | none=>simp at h1
   | some a=>simp_all [U2]
  ·cases h
 ·
  rename_i hki
  rw [hki] at hk
  have hk:d=.slice _:=hk
  subst hk
  unfold tF at h
  split at h
  ·rename_i c h1 h2
   cases h
   obtain ⟨a,n,c,rfl,h1⟩:=vc h1 hx
   obtain ⟨a',n',c',rfl,h2⟩:=vc h2 hy
   refine ⟨λo=>EO o ox oy _ _ _ _ _ _ _,oB ?_ (by rintro o (rfl | rfl)<;>rfl)⟩
   simp_all [Wr]
  ·rename_i h1 h2
   cases h
   obtain ⟨a,n,c,rfl,h1⟩:=vc h1 hx
   obtain ⟨a',n',c',rfl,h2⟩:=vc h2 hy
   refine ⟨λo=>EO o ox oy _ _ _ _ _ _ _,oB ?_ (by rintro o (rfl | rfl)<;>rfl)⟩
   cases a with
   | none=>simp at h1
   | some a=>simp_all [VQ]
  ·cases h
 ·
  rename_i hki
  rw [hki] at hk
  have hk:d=.map _ _:=hk
  subst hk
  unfold tF at h
  split at h
  ·rename_i c h1 h2
   cases h
   obtain ⟨a,rfl,h1⟩:=vk h1 hx
   obtain ⟨a',rfl,h2⟩:=vk h2 hy
   refine ⟨λo=>EH o ox oy _ _ _,oB ?_ (by rintro o (rfl | rfl)<;>rfl)⟩
   cases a<;>grind [UN]
  ·rename_i h1 h2
   cases h
   obtain ⟨a,rfl,h1⟩:=vk h1 hx
   obtain ⟨a',rfl,h2⟩:=vk h2 hy
   refine ⟨λo=>EH o ox oy _ _ _,oB ?_ (by rintro o (rfl | rfl)<;>rfl)⟩
   cases a with
   | none=>simp at h1
   | some a=>cases a'<;>grind [U8]
  ·cases h
 ·
  rename_i hki
  rw [hki] at hk
  obtain ⟨p,q,r,rfl⟩:=hk
  unfold tF at h
  split at h
  ·rename_i c h1 h2
   cases h
   rcases vL h1 hx with ⟨_,rfl⟩ | ⟨h0,_⟩
   ·rcases vL h2 hy with ⟨rfl,rfl⟩ | ⟨rfl,f,a,c,rfl⟩
    ·exact ⟨λo=>FE o ox oy _ _,oB (UG 9999 hd _) (by rintro o (rfl | rfl)<;>rfl)⟩
    ·exact ⟨λo=>FE o ox oy _ _,oB (UI 9999 hd _ _ _ _) (by rintro o (rfl | rfl)<;>rfl)⟩
   grind
  ·rename_i h1 h2
   cases h
   rcases vL h1 hx with ⟨h0,_⟩ | ⟨_,f,a,c,rfl⟩
   ·cases h0
   ·rcases vL h2 hy with ⟨_,rfl⟩ | ⟨h0,_⟩
    ·exact ⟨λo=>Na o ox oy _ _ _ _ _,oB (Ua 9999 hd _ _ _ _) (by rintro o (rfl | rfl)<;>rfl)⟩
    grind
  ·cases h
 all_goals first
  | (cases h; done)
  | (rename_i hki
     have hagg:ti.agg=true:=by
      rw [hki] at hk
      rw [<- ha]
      first
       | (obtain ⟨F,rfl,_⟩:=hk; rfl)
       | (have hk:d=.array _ _:=hk; subst hk; rfl)
     unfold F7 at h
     split at h
     ·rename_i a c hf h1 h2
      split at h
      ·rename_i hlen
       simp only [Bool.and_eq_true,Nat.beq_eq] at hlen
       have:=agg?_eq h1; subst this
       have:=agg?_eq h2; subst this
       obtain ⟨vs,rfl,hl1,h11,hr1⟩:=hx.uo
       obtain ⟨us,rfl,hl2,h12,hr2⟩:=hy.uo
       obtain ⟨s1,s2⟩:=Dl h
       have e:=hT.flat hf hagg _ _ vs us b G.w G.T hlen.2 hlen.1.1 hlen.1.2 (hx.Ha s1) (hy.Ha s2) h
       exact ⟨λo=>run_eqGuard_agg G.w o t ox oy vs us (hT.guard hf),oB e (by rintro o (rfl | rfl)<;>rfl)⟩
      ·cases h
     ·cases h)
def Gc (hC:jR P C) {op:BinOp} {x y v:AV} {x' y':Value} (hx:VR G x x') (hy:VR G y y') (h:binOp C op t x y=some v) (ox oy:Operand) :
  ∃ u,(do eqGuard op t ox oy x' y'; Go.binOp op t x' y':Sem Value).run P G.w=.ok u G.w/\VR G v u:=by
 unfold binOp at h
 split at h
 ·rename_i p hp
  obtain ⟨k,a⟩:=p
  have:=int?_eq hp; subst this
  rw [hx.of_int]
  unfold FF at h
  split at h
  ·rename_i k' b hb
   have:=int?_eq hb; subst this
   rw [hy.of_int]
   simp only [Sem.run_bind,MG,Result.andThen_ok]
   split at h
   ·rename_i hk
    cases hs:ua op with
    | true=>exact Gi h hs t
    | false =>
      rw [hs,Bool.or_false] at hk
      have:=(qX _ _).1 hk
      simp only at this
      subst this
      exact F2 h hs t
   ·cases h
  ·cases h
 ·split at h
  ·rename_i a ha
   have:=str?_eq ha; subst this
   obtain ⟨bx,rfl,hbx⟩:=hx.sU
   unfold Fw at h
   split at h
   ·rename_i b hb
    have:=str?_eq hb; subst this
    obtain ⟨by',rfl,hby⟩:=hy.sU
    simp only [Sem.run_bind,Nq,Result.andThen_ok]
    exact F8 hbx hby h t
   ·cases h
  ·unfold yv at h
   split at h
   ·cases h
   ·rename_i ti hti
    split at h
    ·split at h
     ·rename_i b hb
      cases h
      obtain ⟨h1,h2,h3⟩:=Ae (hC.ty t ti hti) hx hy hb ox oy
      simp_all [VR.bool]
     ·cases h
    ·split at h
     ·rename_i b hb
      rw [Ay] at h
      cases h
      obtain ⟨h1,h2,h3⟩:=Ae (hC.ty t ti hti) hx hy hb ox oy
      simp_all [VR.bool]
     ·cases h
    ·cases h
def IW {op:UnOp} {x v:AV} {x':Value} (hx:VR G x x') (h:unOp op x=some v):∃ u,(Op.unary op x').run P G.w=.ok u G.w/\VR G v u:=by
 unfold unOp at h
 split at h
 ·split at h
  ·rename_i b hb
   have:=bool?_eq hb; subst this
   rw [hx.of_bool]
   rw [Ay] at h
   cases h
   exact ⟨_,rfl,VR.bool _⟩
  ·cases h
 ·split at h
  ·rename_i k n hb
   have:=int?_eq hb; subst this
   rw [hx.of_int]
   simp only [u6,oc,sf,CI] at h
   cases h
   refine ⟨_,rfl,?_⟩
   grind [VR.int]
  ·cases h
 ·split at h
  ·rename_i k n hb
   have:=int?_eq hb; subst this
   rw [hx.of_int]
   simp only [DQ,u6,oc] at h
   cases h
   exact ⟨_,rfl,VR.int _ _⟩
  ·cases h
 ·cases h
def J9 {x y v:AV} {x' y':Value} (hx:VR G x x') (hy:VR G y y') (h:min2 x y=some v):∃ u,(Builtin.min2 x' y').run P G.w=.ok u G.w/\VR G v u:=by
 unfold min2 at h
 split at h
 ·cases h
  rw [hx.of_int,hy.of_int]
  exact ⟨_,rfl,VR.int _ _⟩
 ·cases h
def Im {x y v:AV} {x' y':Value} (hx:VR G x x') (hy:VR G y y') (h:max2 x y=some v):∃ u,(Builtin.max2 x' y').run P G.w=.ok u G.w/\VR G v u:=by
 unfold max2 at h
 split at h
 ·cases h
  rw [hx.of_int,hy.of_int]
  exact ⟨_,rfl,VR.int _ _⟩
 ·cases h
def xn {f:AV->AV->Option AV} {g:Value->Value->Sem Value} (hfg:∀ {x y v:AV} {x' y':Value},VR G x x'->VR G y y'->f x y=some v->∃ u,(g x' y').run P G.w=.ok u G.w/\VR G v u) :
  ∀ {l:List AV} {l':List Value} {x v:AV} {x':Value},VR G x x'->l.length=l'.length->(∀ (i:Nat) a b,l[i]?=some a->l'[i]?=some b->VR G a b)->Bn f x l=some v ->
    ∃ u,(l'.foldlM g x').run P G.w=.ok u G.w/\VR G v u
 | [],[],x,v,x',hx,_,_,h=>by
   simp_all [Bn]
 | [],_::_,_,_,_,_,hl,_,_=>by simp at hl
 | _::_,[],_,_,_,_,hl,_,_=>by simp at hl
 | a::l,b::l',x,v,x',hx,hl,hr,h=>by
   simp only [Bn] at h
   split at h
   ·rename_i c hc
    obtain ⟨u,hu,hcu⟩:=hfg hx (hr 0 a b rfl rfl) hc
    obtain ⟨z,hz,hvz⟩:=xn hfg hcu (by grind) (λi p q hp hq=>hr (i+1) p q hp hq) h
    simp_all
   ·cases h
end
end Go.Sx
