/- Proves rules for the walks and their soundness. -/
import GoSem.Core.Code
import GoSem.Core.Program
import GoSem.Core.View
import Derived.Calls
import Derived.Laws.Append
import Derived.Laws.Tables
import Derived.Laws.StructEq
import Derived.Laws.IdiomCopy
import Derived.Laws.Slices
import Derived.Laws.Rows
import Derived.Laws.Cells
import Derived.Laws.CopyRow
set_option linter.all false
namespace Go.Sx
inductive pb where
 | nil
 | exact (n:Nat)
 | oH
 | qM
 deriving DecidableEq,Inhabited
inductive AV where
 | undef
 | bool (b:Bool)
 | int (k:IntKind) (n:Int)
 | str (s:List UInt8)
 | mn
 | ip (cells:List AV) (off:Nat) (sn:Bool)
 | la (d off:Nat)
 | ptr (b g i off:Nat)
 | sl (xs:List (List AV)) (cap:pb)
 | hs (b g off len:Nat)
 | mD
 | fm (es:List (AV×AV)) (sn:Bool)
 | hm (b:Nat)
 | kY (f:Nat) (first cap:List AV)
 | nL
 | agg (cells:List AV)
 | kq (vs:List AV)
 deriving Inhabited
section force
variable {β:Type}
@[inline] def fB (b:Bool) (k:Bool->β) : β:=match b with
  | true=>k true
  | false=>k false
@[inline] def fN (n:Nat) (k:Nat->β) : β:=match n with
  | 0=>k 0
  | m+1=>k (m+1)
@[inline] def fI (n:Int) (k:Int->β) : β:=match n with
  | .ofNat m=>fN m λm=>k (.ofNat m)
  | .negSucc m=>fN m λm=>k (.negSucc m)
def yb {α:Type}:List α->(List α->β)->β
 | [],k=>k []
 | a::l,k=>yb l λl=>k (a::l)
def f1 (v:AV) (k:AV->β) : β:=match v with
 | .bool b=>fB b λb=>k (.bool b)
 | .int kd n=>fI n λn=>k (.int kd n)
 | .str s=>yb s λs=>k (.str s)
 | .ip c o s=>fN o λo=>fB s λs=>k (.ip c o s)
 | .la d o=>fN o λo=>k (.la d o)
 | .ptr b g i o=>fN b λb=>fN g λg=>fN i λi=>fN o λo=>k (.ptr b g i o)
 | .hs b g o l=>fN b λb=>fN g λg=>fN o λo=>fN l λl=>k (.hs b g o l)
 | .hm b=>fN b λb=>k (.hm b)
 | .sl xs c=>yb xs λxs=>k (.sl xs c)
 | v=>k v
def fL:List AV->(List AV->β)->β
 | [],k=>k []
 | a::l,k=>f1 a λa=>fL l λl=>k (a::l)
def OK:List (List AV)->(List (List AV)->β)->β
 | [],k=>k []
 | a::l,k=>fL a λa=>OK l λl=>k (a::l)
end force
section forceEq
variable {β:Type}
@[simp] theorem xL (b:Bool) (k:Bool->β):fB b k=k b:=by cases b<;>rfl
@[simp] theorem pk (b:Nat) (k:Nat->β):fN b k=k b:=by cases b<;>rfl
@[simp] theorem sB (b:Int) (k:Int->β):fI b k=k b:=by cases b<;>simp [fI]
@[simp] theorem qB {α:Type} (l:List α) (k:List α->β):yb l k=k l:=by
  induction l generalizing k with
  | nil=>rfl
  | cons a l ih=>simp [yb,ih]
@[simp] theorem abm (v:AV) (k:AV->β):f1 v k=k v:=by cases v<;>simp [f1]
@[simp] theorem BE (l:List AV) (k:List AV->β):fL l k=k l:=by
  induction l generalizing k with
  | nil=>rfl
  | cons a l ih=>simp [fL,ih]
@[simp] theorem abj (l:List (List AV)) (k:List (List AV)->β):OK l k=k l:=by
  induction l generalizing k with
  | nil=>rfl
  | cons a l ih=>simp [OK,ih]
end forceEq
inductive oR where
 | lN (gen esz:Nat) (xs:List (List AV))
 | map (es:List (AV×AV×Nat)) (clock:Nat)
 deriving Inhabited
inductive Tr (α:Type) where
 | leaf
 | node (l:Tr α) (v:Option α) (r:Tr α)
namespace Tr
variable {α β:Type}
def get:Tr α->Nat->Option α
 | .leaf,_=>none
 | .node l v r,n=>match n with
   | 0=>v
   | m+1=>match Nat.beq (m % 2) 0 with
     | true=>get l (m / 2)
     | false=>get r (m / 2)
def ins (x : α):Nat->Nat->Tr α->(Tr α->β)->β
 | 0,_,t,k=>k t
 | f+1,n,.leaf,k=>match n with
   | 0=>k (.node .leaf (some x) .leaf)
   | m+1=>match Nat.beq (m % 2) 0 with
     | true=>ins x f (m / 2) .leaf λl=>k (.node l none .leaf)
     | false=>ins x f (m / 2) .leaf λr=>k (.node .leaf none r)
 | f+1,n,.node l v r,k=>match n with
   | 0=>k (.node l (some x) r)
   | m+1=>match Nat.beq (m % 2) 0 with
     | true=>ins x f (m / 2) l λl=>k (.node l v r)
     | false=>ins x f (m / 2) r λr=>k (.node l v r)
end Tr
structure aT where
 tr:Tr oR
 size:Nat
 lo:Nat
 cH:List (Nat×List AV)
def aT.empty:aT:=⟨.leaf,0,0,[]⟩
def aT.get (h:aT) (b:Nat):Option oR:=match Nat.ble h.lo b with
 | true=>h.tr.get b
 | false=>none
def fO {β:Type} (o:oR) (k:oR->β) : β:=match o with
 | .lN g z xs=>fN g λg=>fN z λz=>OK xs λxs=>k (.lN g z xs)
 | .map es c=>fN c λc=>yb es λes=>k (.map es c)
@[simp] theorem Oy {β:Type} (o:oR) (k:oR->β):fO o k=k o:=by cases o<;>simp [fO]
def aT.set (h:aT) (b:Nat) (o:oR):aT:=fO o λo=>h.tr.ins o (b+1) b λt=>⟨t,h.size,h.lo,h.cH⟩
def aT.push (h:aT) (o:oR):aT:=fO o λo=>fN (h.size+1) λs=>h.tr.ins o s h.size λt=>⟨t,s,h.lo,h.cH⟩
def fH {β:Type} (h:aT) (k:aT->β) : β:=match h with
 | ⟨t,s,l,m⟩=>k ⟨t,s,l,m⟩
@[simp] theorem zh {β:Type} (h:aT) (k:aT->β):fH h k=k h:=rfl
abbrev mW:=List (Nat×List AV)
def l8:mW->Nat->Option (List AV)
 | [],_=>none
 | p::e,t=>match Nat.beq t p.1 with
   | true=>some p.2
   | false=>l8 e t
def u2:mW->Nat->List AV->mW
 | [],_,_=>[]
 | p::e,t,v=>match Nat.beq t p.1 with
   | true=>(t,v)::e
   | false=>p::u2 e t v
abbrev Env:=List (Nat×AV)
def nJ:Env->Nat->AV
 | [],_=>.undef
 | p::e,t=>match Nat.beq t p.1 with
   | true=>p.2
   | false=>nJ e t
def Eo (e:Env) (t:Nat) (v:AV):Env:=(t,v)::e
def AV.wX (t:Nat):AV->Bool
 | .la d o=>Nat.beq t d&&Nat.beq o 0
 | .kq _=>false
 | _=>true
def mw (t:Nat) (v:AV):AV:=match v.wX t with
 | true=>v
 | false=>.undef
def proj (live:List Nat) (e:Env):Env:=live.map λt=>(t,mw t (nJ e t))
def nv:List Nat->mW->mW
 | [],_=>[]
 | t::l,m=>match l8 m t with
   | some c=>(t,c)::nv l m
   | none=>nv l m
def CJ {β:Type} (t:Nat) (k:AV->β):Env->β
 | []=>k .undef
 | (a,v)::e=>match Nat.beq t a with
   | true=>k v
   | false=>CJ t k e
def zi {β:Type}:List Nat->Env->(Env->β)->β
 | [],_,k=>k []
 | t::l,e,k=>CJ t (λv=>match v.wX t with
   | true=>zi l e λr=>k ((t,v)::r)
   | false=>zi l e λr=>k ((t,.undef)::r)) e
def xg {β:Type}:List Nat->mW->(mW->β)->β
 | [],_,k=>k []
 | t::l,m,k=>match l8 m t with
   | some c=>xg l m λr=>k ((t,c)::r)
   | none=>xg l m k
theorem MK {β:Type} (t:Nat) (k:AV->β) (e:Env):CJ t k e=k (nJ e t):=by
 induction e<;>grind [CJ,nJ]
@[simp] theorem YL {β:Type} (l:List Nat) (e:Env) (k:Env->β):zi l e k=k (proj l e):=by
  induction l generalizing k with
  | nil=>rfl
  | cons t l ih =>
    simp only [zi,MK,proj,List.map_cons,mw]
    cases h:(nJ e t).wX t
    ·exact ih _
    ·exact ih _
@[simp] theorem V7 {β:Type} (l:List Nat) (m:mW) (k:mW->β):xg l m k=k (nv l m):=by
  induction l generalizing k with
  | nil=>rfl
  | cons t l ih =>
    simp only [xg,nv]
    cases h:l8 m t
    ·exact ih _
    ·exact ih _
inductive TK where
 | bool | int (k:IntKind) | str | ptr | slice (elem:Nat) | array (len elem:Nat) | map (key elem:Nat) | struct (fs:List (Nat×Nat)) | func | other
structure TI where
 kind:TK
 agg:Bool
 size:Nat
 bytes:Nat
 zero:List AV
 flat:Bool
 sc:List TK
def D4:Value->AV
 | .bool b=>.bool b
 | .int k n=>.int k n
 | .string s=>.str s.data.toList
 | .pointer none=>.mn
 | .slice none 0 0=>.sl [] .nil
 | .map none=>.mD
 | .nilFunc=>.nL
 | _=>.undef
def Q9:Value->Bool
 | .bool _ | .int _ _ | .string _ | .pointer none | .slice none 0 0 | .map none | .nilFunc=>true
 | _=>false
def cv:Value->AV
 | .agg cs=>match cs.toList.all Q9 with
   | true=>.agg (cs.toList.map D4)
   | false=>.undef
 | v=>D4 v
def ky (e:Env):Operand->AV
 | .tmp t=>nJ e t
 | .const v=>cv v
 | .global _=>.undef
 | .func f=>.kY f [] []
def AV.mC:AV->Bool
 | .undef | .la _ _ | .agg _ | .kq _=>false
 | _=>true
def AV.nO:AV->Bool
 | .bool _ | .int _ _ | .str _ | .mn | .ip _ _ false | .mD | .fm _ false | .nL=>true
 | .sl _ .qM=>false
 | .sl _ _=>true
 | _=>false
def AV.zw:AV->Bool
 | .kY _ a c=>a.all AV.nO&&c.all AV.nO
 | v=>v.nO
def AV.int?:AV->Option (IntKind×Int)
 | .int k n=>some (k,n)
 | _=>none
def AV.str?:AV->Option (List UInt8)
 | .str s=>some s
 | _=>none
def AV.bool?:AV->Option Bool
 | .bool s=>some s
 | _=>none
def AV.agg?:AV->Option (List AV)
 | .agg s=>some s
 | _=>none
def cellsOf (ti:TI) (v:AV):Option (List AV) :=
 match ti.agg with
 | true=>match v.agg? with
   | some l=>match Nat.beq l.length ti.size with
     | true=>some l
     | false=>none
   | none=>none
 | false=>match v.mC&&Nat.beq ti.size 1 with
   | true=>some [v]
   | false=>none
def AG (n:Nat) (r:List AV):Option AV:=match Nat.beq r.length n with
 | true=>some (.agg r)
 | false=>none
def part (ti:TI) (cs:List AV) (o:Nat):Option AV:=match ti.agg with
 | true=>yb ((cs.drop o).take ti.size) (AG ti.size)
 | false=>cs[o]?
def pe (cs:List AV) (o:Nat) (new:List AV):Option (List AV) :=
 match Nat.ble (o+new.length) cs.length with
 | true=>yb (cs.take o++new++cs.drop (o+new.length)) some
 | false=>none
structure lW where
 T:Nat->Option TI
def CW:Int->Int->Bool
 | .ofNat a,.ofNat b=>Nat.beq a b
 | .negSucc a,.negSucc b=>Nat.beq a b
 | _,_=>false
def yg:Int->Int->Bool
 | .ofNat a,.ofNat b=>Nat.ble a b
 | .negSucc a,.negSucc b=>Nat.ble b a
 | .negSucc _,.ofNat _=>true
 | .ofNat _,.negSucc _=>false
def GJ:Int->Int->Int
 | .ofNat a,.ofNat b=>.ofNat (Nat.add a b)
 | .ofNat a,.negSucc b=>match Nat.ble (Nat.succ b) a with
   | true=>.ofNat (Nat.sub a (Nat.succ b))
   | false=>.negSucc (Nat.sub b a)
 | .negSucc b,.ofNat a=>match Nat.ble (Nat.succ b) a with
   | true=>.ofNat (Nat.sub a (Nat.succ b))
   | false=>.negSucc (Nat.sub b a)
 | .negSucc a,.negSucc b=>.negSucc (Nat.succ (Nat.add a b))
def Jl:Int->Int
 | .ofNat 0=>.ofNat 0
 | .ofNat (n+1)=>.negSucc n
 | .negSucc n=>.ofNat (n+1)
def pt (k:IntKind) (n:Int):Int:=match k,n with
 | .i64,.ofNat a=>match Nat.ble a 4611686018427387904 with
   | true=>.ofNat a
   | false=>IntKind.wrap .i64 (.ofNat a)
 | .i64,.negSucc a=>match Nat.ble a 4611686018427387904 with
   | true=>.negSucc a
   | false=>IntKind.wrap .i64 (.negSucc a)
 | k,n=>k.wrap n
def Lz:IntKind->Nat
 | .i8=>0
 | .i16=>1
 | .i32=>2
 | .i64=>3
 | .u8=>4
 | .u16=>5
 | .u32=>6
 | .u64=>7
def pZ (a b:IntKind):Bool:=Nat.beq (Lz a) (Lz b)
theorem rJ (a b:IntKind):pZ a b=true↔a=b:=by cases a<;>cases b<;>simp [pZ,Lz]
def wh (k:IntKind) (a:Int) (y:AV):Option Bool:=match y.int? with
 | some (k',b)=>match pZ k k' with
   | true=>some (CW a b)
   | false=>none
 | none=>none
def zq (a:List UInt8) (y:AV):Option Bool:=match y.str? with
 | some b=>some (a==b)
 | none=>none
def zf (a:Bool) (y:AV):Option Bool:=match y.bool? with
 | some b=>some (a==b)
 | none=>none
def rn (_:AV):Option Bool:=none
def og:AV->AV->Option Bool
 | .bool a=>zf a
 | .int k a=>wh k a
 | .str a=>zq a
 | _=>rn
def nR:List AV->List AV->Option Bool
 | [],[]=>some true
 | a::x,b::y=>match og a b with
   | some true=>nR x y
   | some false=>match nR x y with
     | some _=>some false
     | none=>none
   | none=>none
 | _,_=>none
def Bi (x:List AV) (y:AV):Option Bool:=match y.agg? with
 | some y=>nR x y
 | none=>none
def nG (x y:AV):Option Bool:=match x.agg? with
 | some l=>Bi l y
 | none=>og x y
def findKey (k:AV):List (AV×AV×Nat)->Nat->Option (Option (Nat×AV))
 | [],_=>some none
 | (k',v,_)::es,i=>match nG k k' with
   | some true=>some (some (i,v))
   | some false=>findKey k es (i+1)
   | none=>none
def si (k:AV):List (AV×AV)->Option (Option AV)
 | []=>some none
 | (k',v)::es=>match nG k k' with
   | some true=>some (some v)
   | some false=>si k es
   | none=>none
def bytesLess:List UInt8->List UInt8->Bool
 | _,[]=>false
 | [],_::_=>true
 | a::x,b::y=>a<b||(a==b&&bytesLess x y)
theorem qV (a b:Int):CW a b=(a==b):=by
 apply Bool.eq_iff_iff.2
 cases a<;>cases b<;>simp only [CW,Nat.beq_eq,beq_iff_eq,Int.ofNat_eq_natCast,Int.negSucc_eq,Bool.false_eq_true,false_iff]<;>omega
theorem tV (a b:Int):yg a b=decide (a<=b):=by
 apply Bool.eq_iff_iff.2
 cases a<;>cases b<;>simp only [yg,Nat.ble_eq,decide_eq_true_eq,Int.ofNat_eq_natCast,Int.negSucc_eq,Bool.false_eq_true,false_iff,true_iff]<;>omega
theorem BT (a b:Int):GJ a b=a+b:=by
 cases a<;>cases b<;>simp only [GJ,Nat.add_eq,Nat.sub_eq]
 ·rfl
 ·split
  ·rename_i h; simp only [Nat.ble_eq] at h; grind
  ·rename_i h
   have h:=(Bool.not_eq_true _).symm.mp h
   simp only [Nat.ble_eq] at h; grind
 ·split
  ·rename_i h; simp only [Nat.ble_eq] at h; grind
  ·rename_i h
   have h:=(Bool.not_eq_true _).symm.mp h
   simp only [Nat.ble_eq] at h; grind
 rfl
theorem BR (a:Int):Jl a = -a:=by
 rcases a with (_ | n) | n<;>simp only [Jl,Int.ofNat_eq_natCast,Int.negSucc_eq]<;>omega
theorem zv (n:Int) (h1 : -9223372036854775808<=n) (h2:n<=9223372036854775807):IntKind.wrap .i64 n=n:=by
 grind [IntKind.wrap,IntKind.bits,IntKind.signed]
theorem qR (k:IntKind) (n:Int):pt k n=k.wrap n:=by
 unfold pt
 split
 ·split
  ·rename_i h
   simp only [Nat.ble_eq] at h
   grind [zv]
  ·rfl
 ·split
  ·rename_i h
   simp only [Nat.ble_eq] at h
   grind [zv]
  ·rfl
 ·rfl
def pH (k:IntKind) (n:Int):Option AV:=some (.int k n)
def Ac (b:Bool):Option AV:=some (.bool b)
def tz:Bool->Option AV
 | true=>some (.bool false)
 | false=>some (.bool true)
abbrev IB:=IntKind->Int->Int->Option AV
def I9:IB:=λk x y=>fI (pt k (GJ x y)) (pH k)
def HW:IB:=λk x y=>fI (pt k (GJ x (Jl y))) (pH k)
def Ot:IB:=λk x y=>fI (pt k (x*y)) (pH k)
def Oe:IB:=λk x y=>if y=0 then none else fI (pt k (x.tdiv y)) (pH k)
def O1:IB:=λk x y=>if y=0 then none else fI (x.tmod y) (pH k)
def Hi:IB:=λ_ x y=>fB (CW x y) Ac
def Je:IB:=λ_ x y=>fB (CW x y) tz
def Ji:IB:=λ_ x y=>fB (yg y x) tz
def F9:IB:=λ_ x y=>fB (yg x y) Ac
def Iu:IB:=λ_ x y=>fB (yg x y) tz
def Gv:IB:=λ_ x y=>fB (yg y x) Ac
def Ou:IB:=λk x y=>fI (k.wrap (BitVec.ofInt k.bits x &&& BitVec.ofInt k.bits y).toNat) (pH k)
def Qi:IB:=λk x y=>fI (k.wrap (BitVec.ofInt k.bits x ||| BitVec.ofInt k.bits y).toNat) (pH k)
def CN:IB:=λk x y=>fI (k.wrap (BitVec.ofInt k.bits x ^^^ BitVec.ofInt k.bits y).toNat) (pH k)
def DX:IB:=λk x y=>fI (k.wrap (BitVec.ofInt k.bits x &&& ~~~ BitVec.ofInt k.bits y).toNat) (pH k)
def HQ:IB:=λk x y=>if y<0 then none else fI (pt k (x*2 ^ (min y.toNat k.bits))) (pH k)
def Og:IB:=λk x y=>if y<0 then none else fI (x.fdiv (2 ^ (min y.toNat k.bits))) (pH k)
def Ra:IB:=λ_ _ _=>none
def sX:BinOp->Bool
 | .shl | .shr=>true
 | _=>false
def m3:BinOp->IB
 | .add=>I9
 | .sub=>HW
 | .mul=>Ot
 | .quo=>Oe
 | .rem=>O1
 | .eql=>Hi
 | .neq=>Je
 | .lss=>Ji
 | .leq=>F9
 | .gtr=>Iu
 | .geq=>Gv
 | .and=>Ou
 | .or=>Qi
 | .xor=>CN
 | .andNot=>DX
 | .shl=>HQ
 | .shr=>Og
def A0 (op:BinOp) (x y:List UInt8):Option AV :=
 match op with
 | .add=>match Nat.ble (x.length+y.length) 1099511627776 with
   | true=>yb (x++y) λs=>some (.str s)
   | false=>none
 | .eql=>some (.bool (x==y))
 | .neq=>some (.bool !(x==y))
 | .lss=>some (.bool (bytesLess x y))
 | .leq=>some (.bool (bytesLess x y||x==y))
 | .gtr=>some (.bool !(bytesLess x y||x==y))
 | .geq=>some (.bool !(bytesLess x y))
 | _=>none
def Mg:AV->Option Bool
 | .mn=>some true
 | .ptr ..=>some false
 | .ip ..=>some false
 | .la ..=>some false
 | _=>none
def Lx:AV->Option Bool
 | .sl _ .nil=>some true
 | .sl ..=>some false
 | .hs ..=>some false
 | _=>none
def Lp:AV->Option Bool
 | .mD=>some true
 | .hm _=>some false
 | .fm ..=>some false
 | _=>none
def Mk:AV->Option Bool
 | .nL=>some true
 | .kY ..=>some false
 | _=>none
def uE (f:AV->Option Bool) (x y:AV):Option Bool:=match f x,f y with
 | some true,some b=>some b
 | some false,some true=>some false
 | _,_=>none
def sE:TK->AV->Bool
 | .int kd,.int k _=>pZ kd k
 | .str,.str _=>true
 | .bool,.bool _=>true
 | _,_=>false
def uT:AV->Bool
 | .bool _ | .int .. | .str _=>true
 | _=>false
def fitAll:List TK->List AV->Bool
 | [],[]=>true
 | t::ts,a::l=>sE t a&&fitAll ts l
 | _,_=>false
def Da (ti:TI) (x y:AV):Option Bool:=match ti.flat,x.agg?,y.agg? with
 | true,some a,some b=>match Nat.beq a.length ti.size&&Nat.beq b.length ti.size&&fitAll ti.sc a with
   | true=>nR a b
   | false=>none
 | _,_,_=>none
def KV (x y:AV):Option Bool:=match x.bool?,y.bool? with
 | some a,some b=>some (a==b)
 | _,_=>none
def vX (ti:TI) (x y:AV):Option Bool:=match ti.kind with
 | .bool=>KV x y
 | .ptr=>uE Mg x y
 | .slice _=>uE Lx x y
 | .map _ _=>uE Lp x y
 | .func=>uE Mk x y
 | .struct _=>Da ti x y
 | .array _ _=>Da ti x y
 | _=>none
def yY (C:lW) (op:BinOp) (t:Nat) (x y:AV):Option AV:=match C.T t with
 | none=>none
 | some ti=>match op with
   | .eql=>match vX ti x y with
     | some b=>some (.bool b)
     | none=>none
   | .neq=>match vX ti x y with
     | some b=>tz b
     | none=>none
   | _=>none
def AF (op:BinOp) (p:IntKind×Int) (y:AV):Option AV:=match y.int? with
 | some (k,b)=>match pZ p.1 k||sX op with
   | true=>m3 op p.1 p.2 b
   | false=>none
 | none=>none
def CV (op:BinOp) (a:List UInt8) (y:AV):Option AV:=match y.str? with
 | some b=>A0 op a b
 | none=>none
def binOp (C:lW) (op:BinOp) (t:Nat) (x y:AV):Option AV:=match x.int? with
 | some p=>AF op p y
 | none=>match x.str? with
   | some a=>CV op a y
   | none=>yY C op t x y
def unOp (op:UnOp) (x:AV):Option AV:=match op with
 | .not=>match x.bool? with
   | some b=>tz b
   | none=>none
 | .neg=>match x.int? with
   | some (k,n)=>fI (pt k (Jl n)) (pH k)
   | none=>none
 | .xor=>match x.int? with
   | some (k,n)=>CN k (if k.signed then -1 else k.max) n
   | none=>none
 | _=>none
def min2:AV->AV->Option AV
 | .int k x,.int _ y=>some (.int k (if y<x then y else x))
 | _,_=>none
def max2:AV->AV->Option AV
 | .int k x,.int _ y=>some (.int k (if y > x then y else x))
 | _,_=>none
def AJ (f:AV->AV->Option AV):AV->List AV->Option AV
 | a,[]=>some a
 | a,b::l=>match f a b with
   | some c=>AJ f c l
   | none=>none
def elems (h:aT):AV->Option (List (List AV))
 | .sl xs _=>some xs
 | .hs b g off len=>match h.get b with
   | some (.lN g' _ xs)=>match Nat.beq g g'&&Nat.ble (off+len) xs.length with
     | true=>some ((xs.drop off).take len)
     | false=>none
   | _=>none
 | _=>none
def zF (ys:List (List AV)):Bool:=ys.all λc=>c.all AV.mC
def tj (ys:List (List AV)):Bool:=ys.all λc=>c.all AV.zw
def pW (n:Nat) (ys:List (List AV)):Bool:=ys.all λc=>Nat.beq c.length n
def overwrite (xs:List (List AV)) (at_:Nat) (ys:List (List AV)):List (List AV):=xs.take at_++ys++xs.drop (at_+ys.length)
def sj:Nat:=1048576
def sG (n:Nat) (h:aT) (xs ys:List (List AV)):Option (AV×aT) :=
 match pW n xs&&Nat.ble (xs.length+ys.length) sj with
 | true=>fN (xs.length+ys.length) λm=>some (.hs h.size 0 0 m,h.push (.lN 0 n (xs++ys)))
 | false=>none
def Bw (n:Nat) (h:aT) (b g off len:Nat) (ys:List (List AV)):Option (AV×aT) :=
 match h.get b with
 | some (.lN g' z xs)=>match Nat.beq g g'&&Nat.beq z n&&Nat.ble (off+len+ys.length) sj with
   | false=>none
   | true=>match Nat.ble (off+len+ys.length) xs.length with
     | true=>fN (len+ys.length) λm=>some (.hs b g off m,h.set b (.lN g z (overwrite xs (off+len) ys)))
     | false=>match Nat.beq (off+len) xs.length with
       | true=>fN (len+ys.length) λm=>some (.hs b (g+1) 0 m,h.set b (.lN (g+1) z (xs.drop off++ys)))
       | false=>none
 | _=>none
def append (n:Nat) (h:aT) (s:AV) (ys:List (List AV)):Option (AV×aT) :=
 match ys with
 | []=>match s with
   | .sl xs c=>some (.sl xs c,h)
   | .hs b g off len=>some (.hs b g off len,h)
   | _=>none
 | _::_=>match pW n ys with
   | false=>none
   | true=>match s with
     | .sl xs .nil=>sG n h xs ys
     | .sl xs (.exact m)=>match Nat.blt m (xs.length+ys.length) with
       | true=>sG n h xs ys
       | false=>none
     | .hs b g off len=>Bw n h b g off len ys
     | _=>none
def Q3:Int->Option Nat
 | .ofNat n=>some n
 | .negSucc _=>none
def qy (v:AV):Option Nat:=match v.int? with
 | some (_,n)=>Q3 n
 | none=>none
def bound (x:Option AV) (dflt:Nat):Option Nat :=
 match x with
 | none=>some dflt
 | some v=>qy v
def IT (s:List UInt8) (lo hi mx:Option AV):Option AV:=match bound lo 0,bound hi s.length,mx with
 | some l,some r,none=>match Nat.ble l r&&Nat.ble r s.length with
   | true=>yb ((s.drop l).take (r - l)) λs=>some (.str s)
   | false=>none
 | _,_,_=>none
def qD (l:Nat):pb->pb
 | .exact n=>.exact (n - l)
 | c=>c
def tN (n:Nat):pb->pb
 | .nil=>.nil
 | .qM=>.qM
 | _=>.exact n
def pE (n:Nat):List (List AV)->Bool
 | []=>true
 | c::_=>Nat.beq c.length n
def qQ (hi:Option AV):Option AV->Option (Option Nat)
 | none=>some none
 | some m=>match hi,qy m with
   | some _,some m=>some (some m)
   | _,_=>none
def y9:pb->pb
 | .qM=>.oH
 | c=>c
def AQ (l m:Nat) (cap:pb):List (List AV)->Option AV
 | []=>some (.sl [] (tN (m - l) (y9 cap)))
 | x::xs=>some (.sl (x::xs) (tN (m - l) cap))
def uq (n:Nat) (xs:List (List AV)) (cap:pb) (lo hi mx:Option AV):Option AV:=match bound lo 0,bound hi xs.length,qQ hi mx with
 | some l,some r,some none=>match Nat.ble l r&&Nat.ble r xs.length&&pE n xs with
   | true=>yb ((xs.drop l).take (r - l)) λxs=>some (.sl xs (qD l cap))
   | false=>none
 | some l,some r,some (some m)=>match Nat.ble l r&&Nat.ble r m&&Nat.ble m xs.length&&pE n xs with
   | true=>yb ((xs.drop l).take (r - l)) (AQ l m cap)
   | false=>none
 | _,_,_=>none
def AU (b g off:Nat) (l r:Nat):Option Nat->Option AV
 | none=>fN (off+l) λo=>fN (r - l) λk=>some (.hs b g o k)
 | some m=>match Nat.ble r m with
   | true=>match Nat.beq l m with
     | true=>some (.sl [] (.exact 0))
     | false=>some .undef
   | false=>none
def BF (n:Nat) (h:aT) (b g off len:Nat) (lo hi mx:Option AV):Option AV:=match h.get b with
 | some (.lN g' z xs)=>match Nat.beq g g'&&Nat.beq z n with
   | false=>none
   | true=>match bound lo 0,bound hi len,qQ hi mx with
     | some l,some r,some m=>match Nat.ble l r&&Nat.ble (off+r) xs.length&&Nat.ble (off+m.getD 0) xs.length with
       | true=>AU b g off l r m
       | false=>none
     | _,_,_=>none
 | _=>none
def slice (n:Nat) (h:aT) (x:AV) (lo hi mx:Option AV):Option AV :=
 match x with
 | .sl xs cap=>uq n xs cap lo hi mx
 | .hs b g off len=>BF n h b g off len lo hi mx
 | _=>none
abbrev Kt:=aT->TI->Option AV
def ND (d o:Nat):Kt:=λh ti=>match l8 h.cH d with
 | some cs=>part ti cs o
 | none=>none
def Qg (cs:List AV) (o:Nat) (_:Bool):Kt:=λ_ ti=>part ti cs o
def Bq (b g i o:Nat):Kt:=λh ti=>match h.get b with
 | some (.lN g' _ xs)=>match Nat.beq g g' with
   | true=>match xs[i]? with
     | some cs=>part ti cs o
     | none=>none
   | false=>none
 | _=>none
def P3:Kt:=λ_ _=>none
def tI:AV->Kt
 | .la d o=>ND d o
 | .ip cs o s=>Qg cs o s
 | .ptr b g i o=>Bq b g i o
 | _=>P3
abbrev Ox:=List AV->aT->Option aT
def Nj (d o:Nat):Ox:=λnew h=>match l8 h.cH d with
 | some cs=>match pe cs o new with
   | some cs=>some { h with cH:=u2 h.cH d cs }
   | none=>none
 | none=>none
def Cy (b g i o:Nat):Ox:=λnew h=>match h.get b with
 | some (.lN g' z xs)=>match Nat.beq g g' with
   | true=>match xs[i]? with
     | some cs=>match pe cs o new with
       | some cs=>some (h.set b (.lN g z (xs.set i cs)))
       | none=>none
     | none=>none
   | false=>none
 | _=>none
def Rc:Ox:=λ_ _=>none
def yJ:AV->Ox
 | .la d o=>Nj d o
 | .ptr b g i o=>Cy b g i o
 | _=>Rc
def wI (h:aT) (ti:TI) (a v:AV):Option aT :=
 match cellsOf ti v with
 | none=>none
 | some new=>match new.all AV.mC with
   | true=>yJ a new h
   | false=>none
def QG (d o:Nat) (k:Nat):Option AV:=fN (o+k) λo=>some (.la d o)
def Nl (cs:List AV) (o:Nat) (s:Bool) (k:Nat):Option AV:=fN (o+k) λo=>some (.ip cs o s)
def Bk (b g i o:Nat) (k:Nat):Option AV:=fN (o+k) λo=>some (.ptr b g i o)
def PO (_:Nat):Option AV:=none
def Ap:AV->Nat->Option AV
 | .la d o=>QG d o
 | .ip cs o s=>Nl cs o s
 | .ptr b g i o=>Bk b g i o
 | _=>PO
def xD:Bool->pb
 | true=>.qM
 | false=>.oH
def kG (f:AV->Option AV):List AV->Option (List AV)
 | []=>some []
 | v::l=>match f v with
   | none=>none
   | some w=>match kG f l with
     | none=>none
     | some l'=>some (w::l')
def oX (f:AV->Option AV):List (List AV)->Option (List (List AV))
 | []=>some []
 | v::l=>match kG f v with
   | none=>none
   | some w=>match oX f l with
     | none=>none
     | some l'=>some (w::l')
def qH (f:AV->Option AV):List (AV×AV×Nat)->Option (List (AV×AV))
 | []=>some []
 | (k,v,_)::l=>match f v with
   | none=>none
   | some w=>match qH f l with
     | none=>none
     | some l'=>some ((k,w)::l')
def freeze (sn:Bool) (h:aT):Nat->AV->Option AV
 | 0,_=>none
 | n+1,v=>match v with
   | .bool _ | .int _ _ | .str _ | .mn | .mD | .nL=>some v
   | .ip _ _ s=>match s&&!sn with
     | true=>none
     | false=>some v
   | .fm _ s=>match s&&!sn with
     | true=>none
     | false=>some v
   | .sl _ .qM=>match sn with
     | true=>some v
     | false=>none
   | .sl _ _=>some v
   | .ptr b g i o=>match h.get b with
     | some (.lN g' _ xs)=>match Nat.beq g g' with
       | true=>match xs[i]? with
         | some cs=>match kG (freeze sn h n) cs with
           | some cs=>some (.ip cs o sn)
           | none=>none
         | none=>none
       | false=>none
     | _=>none
   | .hs b g off len=>match h.get b with
     | some (.lN g' _ xs)=>match Nat.beq g g'&&Nat.ble (off+len) xs.length with
       | true=>match oX (freeze sn h n) ((xs.drop off).take len) with
         | some xs=>some (.sl xs (xD sn))
         | none=>none
       | false=>none
     | _=>none
   | .hm b=>match h.get b with
     | some (.map es _)=>match qH (freeze sn h n) es with
       | some es=>some (.fm es sn)
       | none=>none
     | _=>none
   | .kY f a c=>match kG (freeze sn h n) a,kG (freeze sn h n) c with
     | some a,some c=>some (.kY f a c)
     | _,_=>none
   | .agg l=>match kG (freeze sn h n) l with
     | some l=>some (.agg l)
     | none=>none
   | .kq l=>match kG (freeze sn h n) l with
     | some l=>some (.kq l)
     | none=>none
   | .undef | .la _ _=>none
def AV.sg:AV->Bool
 | .ptr .. | .hs .. | .hm _=>true
 | .agg l=>l.any λ| .ptr .. | .hs .. | .hm _=>true | .kY _ a c=>!(a.all AV.nO&&c.all AV.nO) | _=>false
 | .kY _ a c=>!(a.all AV.nO&&c.all AV.nO)
 | _=>false
def AV.pq:AV->Bool
 | .la .. | .kq _=>false
 | _=>true
abbrev iN:AV:=.sl [] .nil
abbrev jZ:AV:=.bool false
end Go.Sx
namespace Go.Sx
inductive ou where
 | nil
 | seq (live:List Nat) (a b:ou)
 | sq (a b:ou)
 | two (a b:ou)
 | loop (live:List Nat) (a:ou)
 | sD (sch:List (Nat×List Nat))
 deriving Inhabited
def pX {α:Type} (f : α->α->Bool):List α->List α->Bool
 | [],[]=>true
 | a::x,b::y=>f a b&&pX f x y
 | _,_=>false
def zK:pb->pb->Bool
 | .nil,.nil=>true
 | .exact n,.exact m=>Nat.beq n m
 | .oH,.oH=>true
 | .qM,.qM=>true
 | _,_=>false
def DC:Bool->Bool->Bool
 | true,b=>b
 | false,true=>false
 | false,false=>true
def pV:Nat->AV->AV->Bool
 | 0,_,_=>false
 | n+1,a,b=>match a,b with
   | .undef,.undef=>true
   | .bool x,.bool y=>DC x y
   | .int k x,.int l y=>pZ k l&&CW x y
   | .str x,.str y=>x==y
   | .mn,.mn=>true
   | .ip c o s,.ip d p t=>pX (pV n) c d&&Nat.beq o p&&DC s t
   | .la d o,.la e p=>Nat.beq d e&&Nat.beq o p
   | .ptr b g i o,.ptr b' g' i' o'=>Nat.beq b b'&&Nat.beq g g'&&Nat.beq i i'&&Nat.beq o o'
   | .sl xs c,.sl ys d=>pX (pX (pV n)) xs ys&&zK c d
   | .hs b g i o,.hs b' g' i' o'=>Nat.beq b b'&&Nat.beq g g'&&Nat.beq i i'&&Nat.beq o o'
   | .mD,.mD=>true
   | .hm b,.hm c=>Nat.beq b c
   | .fm x s,.fm y t=>pX (λp q=>pV n p.1 q.1&&pV n p.2 q.2) x y&&DC s t
   | .nL,.nL=>true
   | .agg x,.agg y=>pX (pV n) x y
   | _,_=>false
structure kb where
 body:Code
 oo:ou
 cH:List Nat
 yK:List Nat
 lh:List Nat
 res:List ResultVar
 iter:Bool
inductive Ex where
 | ns
 | ext (id:Nat)
 | ret
 deriving DecidableEq
abbrev se:=Bool->Nat->List AV->aT->Option (AV×aT)
def AS (C:lW) (ti:TI):List (Nat×AV)->List AV->Option (List AV)
 | [],cs=>some cs
 | (i,v)::rest,cs =>
   match (match ti.kind with
    | .struct fs=>fs[i]?
    | .array n el=>match C.T el with
      | some t=>if i<n then some (i*t.size,el) else none
      | none=>none
    | _=>none) with
   | none=>none
   | some (off,ft)=>match C.T ft with
     | none=>none
     | some t=>match cellsOf t v with
       | none=>none
       | some new=>if new.all AV.mC then match pe cs off new with
         | none=>none
         | some cs=>AS C ti rest cs else none
def uz (t:TI):List (Nat×AV)->List (List AV)->Option (List (List AV))
 | [],xs=>some xs
 | (i,v)::rest,xs=>match cellsOf t v with
   | none=>none
   | some new=>match new.all AV.mC&&Nat.blt i xs.length with
     | true=>uz t rest (xs.set i new)
     | false=>none
def Ar (fa:kb) (n:Nat) (dst:Option Nat) (h:aT) (xs:List (List AV)):Option (AV×aT) :=
 match dst with
 | none=>none
 | some d=>match fa.yK.elem d||!(tj xs) with
   | true=>some (.hs h.size 0 0 xs.length,h.push (.lN 0 n xs))
   | false=>some (.sl xs (.exact xs.length),h)
def tQ (C:lW) (t:Nat):Option TI :=
 match C.T t with
 | some ti=>match ti.kind with
   | .slice el=>C.T el
   | _=>none
 | none=>none
def yZ (k v:AV) (es:List (AV×AV×Nat)) (clock:Nat):Option (List (AV×AV×Nat)×Nat) :=
 match findKey k es 0 with
 | none=>none
 | some none=>some (es++[(k,v,clock)],clock+1)
 | some (some (i,_))=>some (es.modify i (λe=>(k,v,e.2.2)),clock)
def w8 (k:AV) (es:List (AV×AV×Nat)):Option (List (AV×AV×Nat)) :=
 match findKey k es 0 with
 | none=>none
 | some none=>some es
 | some (some (i,_))=>some (es.eraseIdx i)
def rv (n:Int) (v:AV):List (AV×AV×Nat)->Option (List (AV×AV×Nat))
 | []=>none
 | (k,w,b)::es=>if (b:Int)==n then some ((k,v,b)::es) else match rv n v es with
   | none=>none
   | some es=>some ((k,w,b)::es)
def AV.rj:AV->Bool
 | .bool _ | .int .. | .str _=>true
 | .agg l=>l.all λ| .bool _ | .int .. | .str _=>true | _=>false
 | _=>false
def rq (tk:TI) (k:AV):Bool:=match tk.agg with
 | false=>sE tk.kind k
 | true=>match k.agg? with
   | some l=>tk.flat&&Nat.beq l.length tk.size&&fitAll tk.sc l
   | none=>false
def rZ (C:lW) (kt:Nat) (k:AV):Bool:=match C.T kt with
 | some tk=>rq tk k
 | none=>false
def mapKey (C:lW) (t:Nat) (k:AV):Bool:=match C.T t with
 | some tm=>match tm.kind with
   | .map kt _=>rZ C kt k
   | _=>false
 | none=>false
def AV.zy:AV->Bool
 | .la .. | .kq _=>false
 | .agg l=>l.all AV.mC
 | _=>true
abbrev R2:=Option (AV×aT)
def mA (h:aT):Option AV->R2
 | some v=>some (v,h)
 | none=>none
def Ko (x:AV):Option Nat:=match x.str? with
 | some s=>some s.length
 | none=>none
def vP:AV->Option Nat
 | .sl xs _=>some xs.length
 | .hs _ _ _ len=>some len
 | _=>none
def Dk (h:aT):AV->Option Nat
 | .mD=>some 0
 | .fm es _=>some es.length
 | .hm b=>match h.get b with
   | some (.map es _)=>some es.length
   | _=>none
 | _=>none
def wD (h:aT) (x:AV):TK->Option Nat
 | .array n _=>some n
 | .str=>Ko x
 | .slice _=>vP x
 | .map _ _=>Dk h x
 | _=>none
def qX (h:aT):Option Nat->R2
 | some n=>some (.int .i64 n,h)
 | none=>none
def vj (C:lW) (ats:List Nat) (args:List AV) (h:aT):R2:=match ats,args with
 | t::_,[x]=>match C.T t with
   | some ti=>qX h (wD h x ti.kind)
   | none=>none
 | _,_=>none
def OI:AV->Option Nat
 | .sl _ .nil=>some 0
 | .sl _ (.exact n)=>some n
 | _=>none
def rG (C:lW):List Nat->Option TI
 | t::_=>tQ C t
 | []=>none
def BI (C:lW) (ats:List Nat) (args:List AV) (h:aT):R2:=match rG C ats,args with
 | some _,[x]=>qX h (OI x)
 | _,_=>none
def pT (h:aT) (x:AV):Option (List (List AV)):=match x.str? with
 | some l=>some (l.map λc=>[AV.int .u8 c.toNat])
 | none=>elems h x
def zs:TK->Bool
 | .slice _=>true
 | .str=>true
 | _=>false
def BO (C:lW):List Nat->Bool
 | [_,t]=>match C.T t with
   | some ti=>zs ti.kind
   | none=>false
 | _=>false
def s7 (C:lW) (ats:List Nat) (args:List AV) (h:aT):R2:=match rG C ats,args with
 | some ti,[s,x]=>match BO C ats with
   | true=>match pT h x with
     | none=>none
     | some ys=>match zF ys with
       | true=>append ti.size h s ys
       | false=>none
   | false=>none
 | _,_=>none
def Dj (n:Nat) (h:aT) (ys:List (List AV)):AV->R2
 | .hs b g off len=>match h.get b with
   | some (.lN g' z xs)=>match Nat.beq g g'&&Nat.beq z n&&Nat.ble (off+len) xs.length&&zF ys&&pW n ys with
     | true=>some (.int .i64 ((min ys.length len:Nat):Int),h.set b (.lN g z (overwrite xs off (ys.take (min ys.length len)))))
     | false=>none
   | _=>none
 | .sl [] _=>some (.int .i64 0,h)
 | _=>none
def AR (C:lW) (ats:List Nat) (args:List AV) (h:aT):R2:=match rG C ats,args with
 | some ti,[d,x]=>match elems h x with
   | some ys=>Dj ti.size h ys d
   | none=>none
 | _,_=>none
def wL (C:lW) (k:AV):List Nat->Bool
 | t::_=>mapKey C t k
 | []=>false
def uK (C:lW) (ats:List Nat) (args:List AV) (h:aT):R2:=match args with
 | [.mD,k]=>match wL C k ats with
   | true=>some (.kq [],h)
   | false=>none
 | [.hm b,k]=>match h.get b with
   | some (.map es c)=>match wL C k ats with
     | true=>match w8 k es with
       | some es=>some (.kq [],h.set b (.map es c))
       | none=>none
     | false=>none
   | _=>none
 | _=>none
def C3 (ti:TI) (h:aT):AV->R2
 | .sl [] _=>some (.kq [],h)
 | .hs b g off len=>match h.get b with
   | some (.lN g' z xs)=>match Nat.beq g g'&&Nat.beq z ti.size&&Nat.ble (off+len) xs.length with
     | true=>some (.kq [],h.set b (.lN g z (overwrite xs off (List.replicate len ti.zero))))
     | false=>none
   | _=>none
 | _=>none
def xi (C:lW) (ats:List Nat) (args:List AV) (h:aT):R2:=match rG C ats,args with
 | some ti,[x]=>C3 ti h x
 | _,_=>none
def sx (f:AV->AV->Option AV) (args:List AV) (h:aT):R2:=match args with
 | x::rest=>mA h (AJ f x rest)
 | []=>none
abbrev zN:=lW->List Nat->List AV->aT->R2
def xz:zN:=vj
def OD:zN:=BI
def Aw:zN:=s7
def Q6:zN:=AR
def Dd:zN:=λC ats a h=>uK C ats a h
def Fp:zN:=xi
def OZ:zN:=λ_ _ a h=>sx max2 a h
def N1:zN:=λ_ _ a h=>sx min2 a h
def QV:zN:=λ_ _ _ _=>none
def oi:Builtin->zN
 | .len=>xz
 | .cap=>OD
 | .append=>Aw
 | .copy=>Q6
 | .delete=>Dd
 | .clear=>Fp
 | .max=>OZ
 | .min=>N1
 | _=>QV
def po (f:Operand->AV):Option Operand->Option AV
 | none=>none
 | some x=>some (f x)
def asAgg (ti:TI) (cs:List AV):Option AV:=match ti.agg with
 | true=>some (.agg cs)
 | false=>match cs with
   | [v]=>some v
   | _=>none
def rW (h:aT) (k:AV):AV->Option (Option AV)
 | .mD=>some none
 | .fm es _=>si k es
 | .hm b=>match h.get b with
   | some (.map es _)=>match findKey k es 0 with
     | none=>none
     | some none=>some none
     | some (some (_,v))=>some (some v)
   | _=>none
 | _=>none
def zA (ok b:Bool) (v:AV):Option AV:=match ok with
 | true=>some (.kq [v,.bool b])
 | false=>some v
def sy (C:lW) (t:Nat) (h:aT) (m k:AV) (ok:Bool):Option AV:=match C.T t with
 | none=>none
 | some tm=>match tm.kind with
   | .map kt el=>match C.T el with
     | none=>none
     | some ti=>match rZ C kt k with
       | false=>none
       | true=>match rW h k m with
         | none=>none
         | some (some v)=>zA ok true v
         | some none=>match asAgg ti ti.zero with
           | none=>none
           | some z=>zA ok false z
   | _=>none
def CP (h:aT) (c a b:AV):R2:=match c.bool? with
 | some true=>some (a,h)
 | some false=>some (b,h)
 | none=>none
def newVar (fa:kb) (d:Nat) (h:aT) (cs:List AV):R2:=match fa.cH.elem d with
 | true=>match l8 h.cH d with
   | none=>some (.la d 0,{ h with cH:=(d,cs)::h.cH })
   | some _=>none
 | false=>some (.ptr h.size 0 0 0,h.push (.lN 0 cs.length [cs]))
def AA (C:lW) (fa:kb) (dst:Option Nat) (h:aT) (t:Nat):R2:=match C.T t with
 | some ti=>match dst with
   | some d=>newVar fa d h ti.zero
   | none=>none
 | none=>none
def GF (C:lW) (fa:kb) (dst:Option Nat) (h:aT) (t:Nat) (x:AV):R2:=match C.T t with
 | some ti=>match dst with
   | some d=>match cellsOf ti x with
     | some cs=>match cs.all AV.mC with
       | true=>newVar fa d h cs
       | false=>none
     | none=>none
   | none=>none
 | none=>none
def qY (e:Env) (ps:Array (Nat×Operand)):List (Nat×AV):=ps.toList.map λp=>(p.1,ky e p.2)
def buildable (C:lW):TK->Bool
 | .struct _=>true
 | .array _ el=>(C.T el).isSome
 | _=>false
def Bv (C:lW) (h:aT) (t:Nat) (ps:List (Nat×AV)):R2:=match C.T t with
 | some ti=>match buildable C ti.kind with
   | true=>match AS C ti ps ti.zero with
     | some cs=>some (.agg cs,h)
     | none=>none
   | false=>none
 | none=>none
def tH (C:lW) (fa:kb) (dst:Option Nat) (h:aT) (t n:Nat) (ps:List (Nat×AV)):R2:=match tQ C t with
 | some ti=>match Nat.ble (n*ti.size) 16777216 with
   | true=>match uz ti ps (List.replicate n ti.zero) with
     | some xs=>Ar fa ti.size dst h xs
     | none=>none
   | false=>none
 | none=>none
def xn (C:lW) (h:aT) (t:Nat) (a:AV):R2:=match C.T t with
 | some ti=>mA h (tI a h ti)
 | none=>none
def w9 (C:lW) (h:aT) (t:Nat) (a x:AV):R2:=match C.T t with
 | some ti=>match wI h ti a x with
   | some h=>some (.undef,h)
   | none=>none
 | none=>none
def A1:AV->Option AV
 | .ptr b g i o=>some (.ptr b g i o)
 | .ip cs o s=>some (.ip cs o s)
 | .la d o=>some (.la d o)
 | .kY f a c=>some (.kY f a c)
 | _=>none
def sY (C:lW) (h:aT) (s d:Nat) (x:AV):R2:=match C.T s,C.T d with
 | some _,some ti=>match ti.kind with
   | .int k=>match x.int? with
     | some (_,n)=>mA h (fI (pt k n) (pH k))
     | none=>none
   | .str=>match x.str? with
     | some s=>some (.str s,h)
     | none=>none
   | _=>none
 | _,_=>none
def tX (h:aT) (fn:Fn) (a c:List AV):R2:=match fn with
 | .func f=>match a.all AV.mC&&c.all AV.mC with
   | true=>some (.kY f a c,h)
   | false=>none
 | _=>none
def uG (C:lW) (h:aT) (t:Nat) (l c:AV):R2:=match tQ C t,l.int?,c.int? with
 | some ti,some (_,l),some (_,c) =>
   match yg 0 l&&yg l c&&yg c 4294967295&&Nat.ble (c.toNat*ti.bytes) 140737488355328 with
   | true=>some (.hs h.size 0 0 l.toNat,h.push (.lN 0 ti.size (List.replicate c.toNat ti.zero)))
   | false=>none
 | _,_,_=>none
def qa (C:lW) (h:aT) (t:Nat) (x:AV) (lo hi mx:Option AV):R2:=match C.T t with
 | none=>none
 | some ti=>match ti.kind with
   | .slice el=>match C.T el with
     | some ti=>mA h (slice ti.size h x lo hi mx)
     | none=>none
   | .str=>match x.str? with
     | some s=>mA h (IT s lo hi mx)
     | none=>none
   | _=>none
def rI (C:lW) (h:aT) (t:Nat) (x:AV) (f:Nat):R2:=match C.T t with
 | none=>none
 | some ti=>match ti.kind with
   | .struct fs=>match fs[f]? with
     | some (off,_)=>mA h (Ap x off)
     | none=>none
   | _=>none
def AT (C:lW) (h:aT) (t:Nat) (x:AV) (f:Nat):R2:=match C.T t with
 | none=>none
 | some ti=>match ti.kind with
   | .struct fs=>match fs[f]? with
     | some (off,ft)=>match x.agg? with
       | some cs=>match C.T ft with
         | some ti=>mA h (part ti cs off)
         | none=>none
       | none=>none
     | none=>none
   | _=>none
def qW:pb->Bool
 | .qM=>true
 | _=>false
def rU (n:Nat) (h:aT) (x:AV) (i:Nat):R2:=match x with
 | .sl xs c=>match xs[i]? with
   | some cs=>match Nat.beq cs.length n with
     | true=>some (.ip cs 0 (qW c),h)
     | false=>none
   | none=>none
 | .hs b g off len=>match h.get b with
   | some (.lN _ z _)=>match Nat.blt i len&&Nat.beq z n with
     | true=>fN (off+i) λk=>some (.ptr b g k 0,h)
     | false=>none
   | _=>none
 | _=>none
def qj (C:lW) (h:aT) (t:Nat) (x i:AV):R2:=match C.T t with
 | none=>none
 | some ti=>match qy i with
   | none=>none
   | some i=>match ti.kind with
     | .slice el=>match C.T el with
       | some ti=>rU ti.size h x i
       | none=>none
     | .array n el=>match C.T el with
       | some ti=>match Nat.blt i n with
         | true=>mA h (Ap x (i*ti.size))
         | false=>none
       | none=>none
     | _=>none
def yF (C:lW) (h:aT) (t:Nat) (x i:AV):R2:=match C.T t with
 | none=>none
 | some ti=>match qy i with
   | none=>none
   | some i=>match ti.kind with
     | .str=>match x.str? with
       | some s=>match s[i]? with
         | some c=>some (.int .u8 c.toNat,h)
         | none=>none
       | none=>none
     | .array n el=>match C.T el with
       | some ti=>match x.agg? with
         | some cs=>match Nat.blt i n with
           | true=>mA h (part ti cs (i*ti.size))
           | false=>none
         | none=>none
       | none=>none
     | _=>none
def uw (C:lW) (h:aT) (t:Nat) (m k x:AV):R2:=match m with
 | .hm b=>match h.get b with
   | some (.map es c)=>match mapKey C t k&&x.zy with
     | true=>match yZ k x es c with
       | some (es,c)=>some (.undef,h.set b (.map es c))
       | none=>none
     | false=>none
   | _=>none
 | _=>none
def w6 (es:List (AV×AV×Nat)) (i:Nat):Nat:=match es[i]? with
 | some x=>x.2.2
 | none=>0
def tK (C:lW) (h:aT) (t:Nat) (m k:AV):R2:=match C.T t with
 | none=>none
 | some tm=>match tm.kind,m with
   | .map kt el,.hm b=>match C.T el,h.get b with
     | some ti,some (.map es c)=>match rZ C kt k with
       | false=>none
       | true=>match findKey k es 0 with
         | some (some (i,v))=>some (.kq [v,.int .i64 (w6 es i)],h.set b (.map (es.modify i λx=>(k,x.2)) c))
         | some none=>match asAgg ti ti.zero with
           | some z=>some (.kq [z,.int .i64 c],h.set b (.map (es++[(k,z,c)]) (c+1)))
           | none=>none
         | none=>none
     | _,_=>none
   | _,_=>none
def tA (h:aT) (m s x:AV):R2:=match m,s.int? with
 | .hm b,some (_,n)=>match h.get b with
   | some (.map es c)=>match x.zy with
     | true=>match rv n x es with
       | some es=>some (.undef,h.set b (.map es c))
       | none=>none
     | false=>none
   | _=>none
 | _,_=>none
def xr (h:aT) (t:AV) (i:Nat):R2:=match t with
 | .kq vs=>mA h vs[i]?
 | _=>none
def xb (m:mW):R2->R2
 | some (v,h)=>some (v,{ h with cH:=m })
 | none=>none
def vi (fa:kb) (call:se) (h:aT) (f:AV) (args:List AV):R2:=match f with
 | .kY g a cp=>fL (a++args++cp) λargs=>match args.all AV.pq with
   | true=>xb h.cH (call (fa.lh.elem g) g args { h with cH:=[] })
   | false=>none
 | _=>none
def pY (C:lW) (fa:kb) (call:se) (e:Env) (h:aT) (c:Call):R2:=match c.callee with
 | .builtin b=>oi b C c.argTypes.toList (c.args.toList.map (ky e)) h
 | .value f=>vi fa call h (ky e f) (c.args.toList.map (ky e))
 | .invoke ..=>none
structure Ctx where
 C:lW
 fa:kb
 call:se
abbrev qu:=Ctx->Env->aT->Option Nat->R2
def Gq (x:Operand):qu:=λ_ e h _=>some (ky e x,h)
def HK (c a b:Operand):qu:=λ_ e h _=>CP h (ky e c) (ky e a) (ky e b)
def KN (t:Nat):qu:=λX e h d=>AA X.C X.fa d h t
def M9 (t:Nat) (x:Operand):qu:=λX e h d=>GF X.C X.fa d h t (ky e x)
def DV (t:Nat) (ps:Array (Nat×Operand)):qu:=λX e h _=>Bv X.C h t (qY e ps)
def wE (t n:Nat) (ps:Array (Nat×Operand)):qu:=λX e h d=>tH X.C X.fa d h t n (qY e ps)
def zg (t:Nat) (a:Operand):qu:=λX e h _=>xn X.C h t (ky e a)
def yV (t:Nat) (a x:Operand):qu:=λX e h _=>w9 X.C h t (ky e a) (ky e x)
def vH (x:Operand):qu:=λ_ e h _=>mA h (A1 (ky e x))
def xK (op:BinOp) (t:Nat) (x y:Operand) (_:Nat):qu:=λX e h _=>mA h (binOp X.C op t (ky e x) (ky e y))
def Ql (op:UnOp) (_:Nat) (x:Operand):qu:=λ_ e h _=>mA h (unOp op (ky e x))
def vm (s d:Nat) (x:Operand):qu:=λX e h _=>sY X.C h s d (ky e x)
def vF (fn:Fn) (a c:Array Operand):qu:=λ_ e h _=>tX h fn (a.toList.map (ky e)) (c.toList.map (ky e))
def Dw (_:Nat):Option Operand->qu
 | none=>λ_ _ h _=>some (.hm h.size,h.push (.map [] 0))
 | some _=>λ_ _ _ _=>none
def xQ (t:Nat) (l c:Operand):qu:=λX e h d=>uG X.C h t (ky e l) (ky e c)
def qG (t:Nat) (x:Operand) (lo hi mx:Option Operand):qu:=λX e h _=>qa X.C h t (ky e x) (po (ky e) lo) (po (ky e) hi) (po (ky e) mx)
def sU (t:Nat) (x:Operand) (f:Nat):qu:=λX e h _=>rI X.C h t (ky e x) f
def DT (t:Nat) (x:Operand) (f:Nat):qu:=λX e h _=>AT X.C h t (ky e x) f
def qU (t:Nat) (x i:Operand):qu:=λX e h _=>qj X.C h t (ky e x) (ky e i)
def Bp (t:Nat) (x i:Operand):qu:=λX e h _=>yF X.C h t (ky e x) (ky e i)
def uL (t:Nat) (m k:Operand) (ok:Bool):qu:=λX e h _=>mA h (sy X.C t h (ky e m) (ky e k) ok)
def uD (t:Nat) (m k x:Operand):qu:=λX e h _=>uw X.C h t (ky e m) (ky e k) (ky e x)
def vG (t:Nat) (m k:Operand):qu:=λX e h _=>tK X.C h t (ky e m) (ky e k)
def wv (_:Nat) (m s x:Operand):qu:=λ_ e h _=>tA h (ky e m) (ky e s) (ky e x)
def An (t:Operand) (i:Nat):qu:=λ_ e h _=>xr h (ky e t) i
def qx (c:Call):qu:=λX e h _=>pY X.C X.fa X.call e h c
def VW:qu:=λ_ _ _ _=>none
def lB:Op->qu
 | .move x=>Gq x
 | .assign x=>Gq x
 | .pick c a b=>HK c a b
 | .alloc t=>KN t
 | .box t x=>M9 t x
 | .build t ps=>DV t ps
 | .buildSlice t n ps=>wE t n ps
 | .load t a=>zg t a
 | .store t a x=>yV t a x
 | .nilCheck x=>vH x
 | .binOp op t x y u=>xK op t x y u
 | .unOp op t x=>Ql op t x
 | .convert s d x=>vm s d x
 | .makeFunc fn a c=>vF fn a c
 | .makeMap t r=>Dw t r
 | .makeSlice t l c=>xQ t l c
 | .slice t x lo hi mx=>qG t x lo hi mx
 | .fieldAddr t x f=>sU t x f
 | .field t x f=>DT t x f
 | .indexAddr t x i=>qU t x i
 | .index t x i=>Bp t x i
 | .lookup t m k ok=>uL t m k ok
 | .mapUpdate t m k x=>uD t m k x
 | .insert t m k x=>uD t m k x
 | .mapEntry t m k=>vG t m k
 | .entryStore t m s x=>wv t m s x
 | .extract t i=>An t i
 | .call c=>qx c
 | _=>VW
def Fx (want:Bool):AV->Option Bool
 | .bool b=>some (DC b want)
 | .kq []=>some false
 | _=>none
def kT (all:List Oper) (e:Env) (o:Oper):Option Bool :=
 match o.guard with
 | none=>some true
 | some (j,want)=>match all[j]? with
   | some o'=>match o'.dst with
     | some d=>Fx want (nJ e d)
     | none=>none
   | none=>none
def kJ (e:Env) (o:Oper) (v:AV):Env :=
 match o.dst with
 | some d=>Eo e d v
 | none=>e
abbrev RE:=Option (Env×aT)
def rl (X:Ctx) (k:Env->aT->RE) (o:Oper) (e:Env) (h:aT):Option Bool->RE
 | none=>none
 | some true=>match lB o.op X e h o.dst with
   | some (v,h)=>fH h λh=>k (kJ e o v) h
   | none=>none
 | some false=>k (kJ e o (.kq [])) h
def yE (X:Ctx) (all:List Oper):List Oper->Env->aT->RE
 | [],e,h=>some (e,h)
 | o::rest,e,h=>rl X (yE X all rest) o e h (kT all e o)
def Ez (e:Env) (d:Nat):Option (AV×aT)->Bool
 | some (v,_)=>pV 8 v (nJ e d)
 | none=>false
def again (X:Ctx) (all:List Oper) (e:Env) (h:aT) (i:Nat):Bool:=match all[i]? with
 | none=>false
 | some o=>match kT all e o with
   | none=>false
   | some false=>true
   | some true=>match o.dst with
     | none=>false
     | some d=>Ez e d (lB o.op X e h (some d))
def uh (X:Ctx) (all:List Oper):List (Nat×List Nat)->Env->aT->RE
 | [],e,h=>some (e,h)
 | (i,chk)::rest,e,h=>match all[i]? with
   | none=>none
   | some o=>rl X (λe h=>match chk.all (again X all e h) with
     | true=>uh X all rest e h
     | false=>none) o e h (kT all e o)
abbrev zC:=(Env->aT->Option (Ex×Env×aT))->Env->aT->Option (Ex×Env×aT)
def pO:Nat->zC
 | 0,_,_,_=>none
 | n+1,f,e,h=>match f e h with
   | some (.ns,e,h)=>pO n f e h
   | r=>r
abbrev RC:=Option (Ex×Env×aT)
abbrev sd:=ou->Env->aT->RC
def xM:RE->RC
 | some (e,h)=>some (.ns,e,h)
 | none=>none
def yR (X:Ctx) (ops:Array Oper):sd:=λan e h=>match an with
 | .sD sch=>xM (uh X ops.toList sch e h)
 | _=>none
def Ie (X:Ctx) (ops:Array Oper):sd:=λ_ e h=>xM (yE X ops.toList ops.toList e h)
def xa (X:Ctx) (ops:Array Oper):Bool->sd
 | true=>yR X ops
 | false=>Ie X ops
def andThen (k:Env->aT->RC):RC->RC
 | some (.ns,e,h)=>k e h
 | r=>r
def qw (live:List Nat) (k:Env->aT->RC) (e:Env) (h:aT):RC:=zi live e λe=>xg live h.cH λm=>k e { h with cH:=m }
def yB (a b:sd):sd:=λan e h=>match an with
 | .seq live x y=>andThen (λe h=>qw live (b y) e h) (a x e h)
 | .sq x y=>andThen (b y) (a x e h)
 | _=>none
def CO (x y:Env->aT->RC) (e:Env) (h:aT) (c:AV):RC:=match c.bool? with
 | some true=>x e h
 | some false=>y e h
 | none=>none
def CM (c:Operand) (a b:sd):sd:=λan e h=>match an with
 | .two x y=>CO (a x) (b y) e h (ky e c)
 | _=>none
def atEnd (id:Nat):RC->RC
 | some (.ext id',e,h)=>match Nat.beq id' id with
   | true=>some (.ns,e,h)
   | false=>some (.ext id',e,h)
 | r=>r
def wR (id:Nat) (a:sd):sd:=λan e h=>atEnd id (a an e h)
def OC (lp:zC) (a:sd):sd:=λan e h=>match an with
 | .loop live x=>lp (qw live (a x)) e h
 | _=>none
def mN (X:Ctx) (lp:zC):Code->sd
 | .skip=>λ_ e h=>some (.ns,e,h)
 | .region _ ops draw=>xa X ops draw
 | .seq a b=>yB (mN X lp a) (mN X lp b)
 | .cond c a b=>CM c (mN X lp a) (mN X lp b)
 | .block id a=>wR id (mN X lp a)
 | .loop a=>OC lp (mN X lp a)
 | .exit id=>λ_ e h=>some (.ext id,e,h)
 | .scope a=>mN X lp a
 | .label _=>λ_ e h=>some (.ns,e,h)
 | .ret=>λ_ e h=>some (.ret,e,h)
 | _=>λ_ _ _=>none
inductive zM where
 | nil
 | fix (last:Option (AV×AV)) (left:List (AV×AV))
 | Bs (b clk:Nat) (seen:Option Nat)
structure It where
 d:Nat
 k:zM
def Fk (h:aT):AV->Option zM
 | .mD=>some .nil
 | .fm [] _=>some (.fix none [])
 | .fm [x] _=>some (.fix none [x])
 | .hm b=>match h.get b with
   | some (.map [] c)=>some (.Bs b c none)
   | some (.map [_] c)=>some (.Bs b c none)
   | _=>none
 | _=>none
def CX (C:lW) (h:aT) (t:Nat) (x:AV):Option zM:=match C.T t with
 | some ti=>match ti.kind with
   | .map _ _=>Fk h x
   | _=>none
 | none=>none
def uP (h:aT):zM->Option (Option (AV×AV)×zM)
 | .nil=>some (none,.nil)
 | .fix last []=>some (none,.fix last [])
 | .fix _ (x::l)=>some (some x,.fix (some x) l)
 | .Bs b clk seen=>match h.get b with
   | some (.map es c)=>match Nat.beq c clk,es,seen with
     | true,[],s=>some (none,.Bs b clk s)
     | true,[(k,v,n)],none=>some (some (k,v),.Bs b clk (some n))
     | true,[(_,_,n)],some n'=>match Nat.beq n n' with
       | true=>some (none,.Bs b clk (some n'))
       | false=>none
     | _,_,_=>none
   | _=>none
def zH (h:aT):zM->Option (AV×AV)
 | .fix (some x) _=>some x
 | .Bs b clk (some n)=>match h.get b with
   | some (.map [(k,v,n')] c)=>match Nat.beq c clk&&Nat.beq n' n with
     | true=>some (k,v)
     | false=>none
   | _=>none
 | _=>none
abbrev RI:=Option (Option It×Env×aT)
def xe (o:Oper):Bool:=match o.guard with
 | none=>true
 | some _=>false
def s6 (it:Option It) (o:Oper):Bool:=match it,o.dst with
 | some i,some d=>!(Nat.beq i.d d)
 | _,_=>true
def zJ:Option (AV×AV)->AV
 | none=>.kq [.bool false]
 | some x=>.kq [.bool true,x.1,x.2]
def JJ (h:aT) (o:Oper) (t:Nat) (k:Option It->Env->RI) (e:Env) (it:Option It):RI:=match it with
 | some i=>match Nat.beq i.d t&&s6 (some i) o&&xe o with
   | true=>match uP h i.k with
     | some (r,k')=>k (some ⟨i.d,k'⟩) (kJ e o (zJ r))
     | none=>none
   | false=>none
 | none=>none
def Fa (h:aT) (o:Oper) (t:Nat) (k:Option It->Env->RI) (e:Env) (it:Option It):RI:=match it with
 | some i=>match Nat.beq i.d t&&s6 (some i) o&&xe o with
   | true=>match zH h i.k with
     | some x=>k (some i) (kJ e o (.kq [x.1,x.2]))
     | none=>none
   | false=>none
 | none=>none
def FG (o:Oper) (x:Option zM) (k:Option It->Env->RI) (e:Env):RI:=match x,o.dst,xe o with
 | some l,some d,true=>k (some ⟨d,l⟩) (Eo e d .undef)
 | _,_,_=>none
inductive OpK where
 | range (t:Nat) (x:Operand)
 | next (t:Nat)
 | entry (t:Nat)
 | plain
 | bad
def Eg:Op->OpK
 | .range t x=>.range t x
 | .next (.tmp t) false=>.next t
 | .next _ _=>.bad
 | .entry (.tmp t)=>.entry t
 | .entry _=>.bad
 | _=>.plain
def EB (X:Ctx) (it:Option It) (k:Env->aT->RI) (o:Oper) (e:Env) (h:aT):Option Bool->RI
 | none=>none
 | some true=>match lB o.op X e h o.dst with
   | some (v,h)=>fH h λh=>k (kJ e o v) h
   | none=>none
 | some false=>k (kJ e o (.kq [])) h
def zc (X:Ctx) (all:List Oper):List Oper->Option It->Env->aT->RI
 | [],it,e,h=>some (it,e,h)
 | o::rest,it,e,h=>match Eg o.op with
   | .range t x=>FG o (CX X.C h t (ky e x)) (λit e=>zc X all rest it e h) e
   | .next t=>JJ h o t (λit e=>zc X all rest it e h) e it
   | .entry t=>Fa h o t (λit e=>zc X all rest it e h) e it
   | .plain=>match s6 it o with
     | true=>EB X it (λe h=>zc X all rest it e h) o e h (kT all e o)
     | false=>none
   | .bad=>none
abbrev uS:=Option (Ex×Option It×Env×aT)
def QT:RI->uS
 | some (it,e,h)=>some (.ns,it,e,h)
 | none=>none
def CE (k:Option It->Env->aT->uS):uS->uS
 | some (.ns,it,e,h)=>k it e h
 | r=>r
def wM (live:List Nat) (k:Env->aT->uS) (e:Env) (h:aT):uS:=zi live e λe=>xg live h.cH λm=>k e { h with cH:=m }
def QQ (id:Nat):uS->uS
 | some (.ext id',it,e,h)=>match Nat.beq id' id with
   | true=>some (.ns,it,e,h)
   | false=>some (.ext id',it,e,h)
 | r=>r
def AI:Nat->(Option It->Env->aT->uS)->Option It->Env->aT->uS
 | 0,_,_,_,_=>none
 | n+1,f,it,e,h=>match f it e h with
   | some (.ns,it,e,h)=>AI n f it e h
   | r=>r
abbrev yP:=ou->Option It->Env->aT->uS
def QJ (a b:yP):yP:=λan it e h=>match an with
 | .seq live x y=>CE (λit e h=>wM live (b y it) e h) (a x it e h)
 | .sq x y=>CE (b y) (a x it e h)
 | _=>none
def On (c:Operand) (a b:yP):yP:=λan it e h=>match an with
 | .two x y=>match (ky e c).bool? with
   | some true=>a x it e h
   | some false=>b y it e h
   | none=>none
 | _=>none
def Kq (it:Option It):RC->uS
 | some (x,e,h)=>some (x,it,e,h)
 | none=>none
def oT (X:Ctx) (n:Nat):Code->yP
 | .skip=>λ_ it e h=>some (.ns,it,e,h)
 | .region _ ops false=>λ_ it e h=>QT (zc X ops.toList ops.toList it e h)
 | .region _ ops true=>λan it e h=>match ops.toList.all (s6 it) with
   | true=>Kq it (yR X ops an e h)
   | false=>none
 | .seq a b=>QJ (oT X n a) (oT X n b)
 | .cond c a b=>On c (oT X n a) (oT X n b)
 | .block id a=>λan it e h=>QQ id (oT X n a an it e h)
 | .loop a=>λan it e h=>match an with
   | .loop live x=>AI n (λit e h=>wM live (oT X n a x it) e h) it e h
   | _=>none
 | .exit id=>λ_ it e h=>some (.ext id,it,e,h)
 | .scope a=>oT X n a
 | .label _=>λ_ it e h=>some (.ns,it,e,h)
 | .ret=>λ_ it e h=>some (.ret,it,e,h)
 | _=>λ_ _ _ _=>none
def JD:uS->RC
 | some (x,_,e,h)=>some (x,e,h)
 | none=>none
def AM (X:Ctx) (n:Nat) (c:Code) (an:ou) (e:Env) (h:aT):Bool->RC
 | true=>JD (oT X n c an none e h)
 | false=>mN X (pO n) c an e h
def HJ (C:lW) (e:Env) (h:aT):ResultVar->Option AV
 | .tmp t=>some (ky e (.tmp t))
 | .cell a t=>match C.T t with
   | some ti=>tI (ky e (.tmp a)) h ti
   | none=>none
def BY (C:lW) (e:Env) (h:aT):List ResultVar->Option (List AV)
 | []=>some []
 | r::l=>match HJ C e h r with
   | none=>none
   | some v=>match BY C e h l with
     | none=>none
     | some l=>some (v::l)
def params:Nat->List AV->Env
 | _,[]=>[]
 | i,v::l=>(i,v)::params (i+1) l
def result:List AV->AV
 | [v]=>v
 | vs=>.kq vs
def leave (C:lW) (res:List ResultVar):RC->R2
 | some (.ns,e,h)=>leave1 e h
 | some (.ret,e,h)=>leave1 e h
 | _=>none
where
 leave1 (e:Env) (h:aT):R2:=match BY C e h res with
  | some vs=>match vs.all AV.pq with
    | true=>some (result vs,h)
    | false=>none
  | none=>none
def uv (C:lW) (fa:kb) (call:se) (n:Nat) (args:List AV) (h:aT):Option (AV×aT) :=
 leave C fa.res (AM ⟨C,fa,call⟩ n fa.body fa.oo (params 0 args) h fa.iter)
abbrev nd:=Nat->Option kb
abbrev mO:=Nat->Option (Bool->List AV->aT->Option (AV×aT))
def oJ (h:aT) (args:List AV):Option (List AV):=match args.any AV.sg with
 | true=>kG (freeze true h 8) args
 | false=>some args
def frozen:aT->R2->R2
 | h,some (v,h')=>match freeze false h' 8 v with
   | none=>none
   | some v=>some (v,h)
 | _,none=>none
def tu (C:lW) (fa:kb) (call:se) (lp:Nat) (shd:Bool) (args:List AV) (h:aT):Option (AV×aT) :=
 match shd with
 | true=>uv C fa call lp args h
 | false=>match oJ h args with
   | none=>none
   | some args'=>frozen h (uv C fa call lp args' aT.empty)
def nM (C:lW) (F:nd) (P:mO):Nat->se
 | 0,_,_,_,_=>none
 | n+1,shd,f,args,h=>match P f with
   | some p=>p shd args h
   | none=>match F f with
     | none=>none
     | some fa=>tu C fa (nM C F P n) n shd args h
end Go.Sx
namespace Go.Sx
open Go
def qf:pb->Nat->Nat->Prop
 | .nil,_,_=>False
 | .exact n,_,c=>c=n
 | .oH,l,c=>l<=c
 | .qM,l,c=>l<=c
def qZ:pb->Bool
 | .qM=>true
 | _=>false
def Lb (ents:Array MapEntry) (clk:Nat):Prop:=(∀ (i:Nat) (e:MapEntry),ents[i]?=some e->e.born<clk)/\(ents.toList.map (·.born)).Nodup
inductive PR (w:World) (T:Bool->Nat->Prop):Bool->AV->Value->Prop
 | undef (m:Bool) (v:Value) (h:v.oneCell'=true):PR w T m .undef v
 | bool (m b:Bool):PR w T m (.bool b) (.bool b)
 | int (m:Bool) (k:IntKind) (n:Int):PR w T m (.int k n) (.int k n)
 | str (m:Bool) (s:List UInt8) (b:ByteArray) (h:b.data.toList=s):PR w T m (.str s) (.string b)
 | mn (m:Bool):PR w T m .mn (.pointer none)
 | ip (m:Bool) (cells:List AV) (off:Nat) (sn:Bool) (B base:Nat) (c:Array Value) (e:TypeId) (fr:Nat×Nat) (f:Nat->Value) (hm:sn=true->m=true)
    (hB:w.heap[B]?=some (.cells c e fr)) (hI:T sn B)
    (hc:∀ (i:Nat) (x:AV),cells[i]?=some x->c[base+i]?=some (f i)) (h1:∀ (i:Nat) (x:AV),cells[i]?=some x->(f i).oneCell'=true)
    (hr:∀ (i:Nat) (x:AV),cells[i]?=some x->PR w T sn x (f i)):PR w T m (.ip cells off sn) (.pointer (some ⟨B,base+off,none⟩))
 | slnil (m:Bool):PR w T m (.sl [] .nil) (.slice none 0 0)
 | px (m:Bool) (cap:pb) (a:Addr) (c:Nat) (hm:qZ cap=true->m=true) (h:qf cap 0 c):PR w T m (.sl [] cap) (.slice (some a) 0 c)
 | sl (m:Bool) (xs:List (List AV)) (cap:pb) (B base:Nat) (c:Array Value) (e:TypeId) (fr:Nat×Nat) (cap' esz:Nat) (f:Nat->Nat->Value)
    (hm:qZ cap=true->m=true)
    (hB:w.heap[B]?=some (.cells c e fr)) (hI:T (qZ cap) B) (hcap:qf cap xs.length cap') (hle:xs.length<=cap')
    (hz:∀ (i:Nat) (cs:List AV),xs[i]?=some cs->cs.length=esz)
    (hc:∀ (i:Nat) (cs:List AV) (j:Nat) (x:AV),xs[i]?=some cs->cs[j]?=some x->c[base+i*esz+j]?=some (f i j))
    (h1:∀ (i:Nat) (cs:List AV) (j:Nat) (x:AV),xs[i]?=some cs->cs[j]?=some x->(f i j).oneCell'=true)
    (hr:∀ (i:Nat) (cs:List AV) (j:Nat) (x:AV),xs[i]?=some cs->cs[j]?=some x->PR w T (qZ cap) x (f i j)) :
    PR w T m (.sl xs cap) (.slice (some ⟨B,base,none⟩) xs.length cap')
 | mD (m:Bool):PR w T m .mD (.map none)
 | fm (m:Bool) (es:List (AV×AV)) (sn:Bool) (r:Nat) (ents:Array MapEntry) (clk:Nat) (hm:sn=true->m=true) (hB:w.heap[r]?=some (.map ents clk)) (hI:T sn r)
    (hl:es.length=ents.size) (hy:Lb ents clk) (hko:∀ (i:Nat) (p:AV×AV),es[i]?=some p->p.1.rj=true)
    (hk:∀ (i:Nat) (p:AV×AV) (e:MapEntry),es[i]?=some p->ents[i]?=some e->PR w T sn p.1 e.key)
    (hv:∀ (i:Nat) (p:AV×AV) (e:MapEntry),es[i]?=some p->ents[i]?=some e->PR w T sn p.2 e.val):PR w T m (.fm es sn) (.map (some r))
 | nL (m:Bool):PR w T m .nL .nilFunc
 | kY (m:Bool) (g:Nat) (a c:List AV) (a' c':Array Value) (ha:a.length=a'.size) (hc:c.length=c'.size)
    (hra:∀ (i:Nat) (x:AV) (y:Value),a[i]?=some x->a'[i]?=some y->PR w T m x y) (hrc:∀ (i:Nat) (x:AV) (y:Value),c[i]?=some x->c'[i]?=some y->PR w T m x y) :
    PR w T m (.kY g a c) (.func (.func g) a' c')
 | agg (m:Bool) (l:List AV) (vs:Array Value) (hl:l.length=vs.size) (h1:∀ (i:Nat) (y:Value),vs[i]?=some y->y.oneCell'=true)
    (hr:∀ (i:Nat) (x:AV) (y:Value),l[i]?=some x->vs[i]?=some y->PR w T m x y):PR w T m (.agg l) (.agg vs)
def PR.mono {w w':World} {T T':Bool->Nat->Prop} {m:Bool} {v:AV} {u:Value} (h:PR w T m v u)
  (hI:∀ s B,T s B->T' s B) (hw:∀ s B,T s B->w'.heap[B]?=w.heap[B]?):PR w' T' m v u:=by
 induction h with
 | undef m v h=>exact .undef m v h
 | bool m b=>exact .bool m b
 | int m k n=>exact .int m k n
 | str m s b h=>exact .str m s b h
 | mn m=>exact .mn m
 | ip m cells off sn B base c e fr f hm hB hB' hc h1 hr ih=>exact .ip m cells off sn B base c e fr f hm (by grind) (hI _ B hB') hc h1 ih
 | slnil m=>exact .slnil m
 | px m cap a c hm h=>exact .px m cap a c hm h
 | sl m xs cap B base c e fr cap' esz f hm hB hB' hcap hle hz hc h1 hr ih =>
   exact .sl m xs cap B base c e fr cap' esz f hm (by grind) (hI _ B hB') hcap hle hz hc h1 ih
 | mD m=>exact .mD m
 | fm m es sn r ents clk hm hB hB' hl hy hko hk hv ihk ihv=>exact .fm m es sn r ents clk hm (by grind) (hI _ r hB') hl hy hko ihk ihv
 | nL m=>exact .nL m
 | kY m g a c a' c' ha hc hra hrc iha ihc=>exact .kY m g a c a' c' ha hc iha ihc
 | agg m l vs hl h1 hr ih=>exact .agg m l vs hl h1 ih
def PR.up {w:World} {T:Bool->Nat->Prop} {m:Bool} {v:AV} {u:Value} (h:PR w T m v u) (hm:m=false):PR w T true v u:=by
 induction h with
 | undef m v h=>exact .undef _ v h
 | bool m b=>exact .bool _ b
 | int m k n=>exact .int _ k n
 | str m s b h=>exact .str _ s b h
 | mn m=>exact .mn _
 | ip m cells off sn B base c e fr f hm hB hB' hc h1 hr ih=>exact .ip _ cells off sn B base c e fr f (λ_=>rfl) hB hB' hc h1 hr
 | slnil m=>exact .slnil _
 | px m cap a c hm h=>exact .px _ cap a c (λ_=>rfl) h
 | sl m xs cap B base c e fr cap' esz f hm hB hB' hcap hle hz hc h1 hr ih=>exact .sl _ xs cap B base c e fr cap' esz f (λ_=>rfl) hB hB' hcap hle hz hc h1 hr
 | mD m=>exact .mD _
 | fm m es sn r ents clk hm hB hB' hl hy hko hk hv ihk ihv=>exact .fm _ es sn r ents clk (λ_=>rfl) hB hB' hl hy hko hk hv
 | nL m=>exact .nL _
 | kY m g a c a' c' ha hc hra hrc iha ihc=>exact .kY _ g a c a' c' ha hc (λi x y hx hy=>iha i x y hx hy hm) (λi x y hx hy=>ihc i x y hx hy hm)
 | agg m l vs hl h1 hr ih=>exact .agg _ l vs hl h1 (λi x y hx hy=>ih i x y hx hy hm)
def PR.E3 {w:World} {T:Bool->Nat->Prop} {m:Bool} {v:AV} {u:Value} (h:PR w T m v u):PR w T true v u:=by
 cases m
 ·exact h.up rfl
 ·exact h
structure Loc where
 B:Nat
 base:Nat
 cap:Nat
structure Ga where
 w:World
 T:Bool->Nat->Prop
 h:aT
 pi:Nat->Option Loc
 L:Nat->Option Nat
def AV.mG:AV->Bool
 | .bool _ | .int _ _ | .str _ | .mn | .ip _ _ _ | .sl _ _ | .mD | .fm _ _ | .nL=>true
 | _=>false
def AV.oP:AV->Bool
 | .la _ _ | .kq _=>false
 | _=>true
inductive VR (G:Ga):AV->Value->Prop
 | undef (v:Value):VR G .undef v
 | lD {v:AV} {u:Value} (hp:v.mG=true) (h:PR G.w G.T true v u):VR G v u
 | ptr (b g i o:Nat) (a:Addr) (hb:b<G.h.size) (hg:∀ g0 z xs,G.h.get b=some (.lN g0 z xs)->g<=g0)
    (h:∀ z xs,G.h.get b=some (.lN g z xs)->∃ l,G.pi b=some l/\a=⟨l.B,l.base+i*z+o,none⟩) :
    VR G (.ptr b g i o) (.pointer (some a))
 | hs (b g off len:Nat) (a:Addr) (cap':Nat) (hb:b<G.h.size) (hg:∀ g0 z xs,G.h.get b=some (.lN g0 z xs)->g<=g0) (hle:len<=cap')
    (h:∀ z xs,G.h.get b=some (.lN g z xs)->∃ l,G.pi b=some l/\off+cap'=l.cap/\(0<cap'->a=⟨l.B,l.base+off*z,none⟩)) :
    VR G (.hs b g off len) (.slice (some a) len cap')
 | hm (b r:Nat) (hb:b<G.h.size) (h:∀ es c,G.h.get b=some (.map es c)->∃ l,G.pi b=some l/\r=l.B):VR G (.hm b) (.map (some r))
 | la (d o B:Nat) (hd:G.L d=some B):VR G (.la d o) (.pointer (some ⟨B,o,none⟩))
 | kY (g:Nat) (a c:List AV) (a' c':Array Value) (ha:a.length=a'.size) (hc:c.length=c'.size) (hna:∀ x∈a,x.oP=true) (hnc:∀ x∈c,x.oP=true)
    (hra:∀ (i:Nat) (x:AV) (y:Value),a[i]?=some x->a'[i]?=some y->VR G x y) (hrc:∀ (i:Nat) (x:AV) (y:Value),c[i]?=some x->c'[i]?=some y->VR G x y) :
    VR G (.kY g a c) (.func (.func g) a' c')
 | agg (l:List AV) (vs:Array Value) (hl:l.length=vs.size) (hn:∀ x∈l,x.oP=true) (h1:∀ (i:Nat) (y:Value),vs[i]?=some y->y.oneCell'=true)
    (hr:∀ (i:Nat) (x:AV) (y:Value),l[i]?=some x->vs[i]?=some y->VR G x y):VR G (.agg l) (.agg vs)
 | kq (l:List AV) (vs:Array Value) (hl:l.length=vs.size) (hr:∀ (i:Nat) (x:AV) (y:Value),l[i]?=some x->vs[i]?=some y->VR G x y):VR G (.kq l) (.tuple vs)
structure Ext (G G':Ga):Prop where
 T:∀ s B,G.T s B->G'.T s B
 mw:∀ s B,G.T s B->G'.w.heap[B]?=G.w.heap[B]?
 size:G.h.size<=G'.h.size
 lN:∀ b,b<G.h.size->∀ g' z' xs',G'.h.get b=some (.lN g' z' xs') ->
  ∃ g z xs,G.h.get b=some (.lN g z xs)/\g<=g'/\(g=g'->z=z'/\∀ l,G.pi b=some l->G'.pi b=some l)
 map:∀ b,b<G.h.size->∀ es' c',G'.h.get b=some (.map es' c')->∃ es c,G.h.get b=some (.map es c)/\∀ l,G.pi b=some l->G'.pi b=some l
 cH:∀ d B,G.L d=some B->G'.L d=some B
def VR.mono {G G':Ga} (E:Ext G G') {v:AV} {u:Value} (h:VR G v u):VR G' v u:=by
 induction h with
 | undef v=>exact .undef v
 | lD hp h=>exact .lD hp (h.mono E.T E.mw)
 | ptr b g i o a hb hg h =>
   refine .ptr b g i o a (Nat.lt_of_lt_of_le hb E.size) ?_ ?_
   ·intro g0 z xs hx
    obtain ⟨g1,z1,xs1,h1,hle,_⟩:=E.lN b hb g0 z xs hx
    grind
   ·intro z xs hx
    obtain ⟨g1,z1,xs1,h1,hle,heq⟩:=E.lN b hb g z xs hx
    grind
 | hs b g off len a cap' hb hg hle' h =>
   refine .hs b g off len a cap' (Nat.lt_of_lt_of_le hb E.size) ?_ hle' ?_
   ·intro g0 z xs hx
    obtain ⟨g1,z1,xs1,h1,hle,_⟩:=E.lN b hb g0 z xs hx
    grind
   ·intro z xs hx
    obtain ⟨g1,z1,xs1,h1,hle,heq⟩:=E.lN b hb g z xs hx
    grind
 | hm b r hb h =>
   refine .hm b r (Nat.lt_of_lt_of_le hb E.size) ?_
   intro es c hx
   obtain ⟨es1,c1,h1,hp⟩:=E.map b hb es c hx
   grind
 | la d o B hd=>exact .la d o B (E.cH d B hd)
 | kY g a c a' c' ha hc hna hnc hra hrc iha ihc=>exact .kY g a c a' c' ha hc hna hnc iha ihc
 | agg l vs hl hn h1 hr ih=>exact .agg l vs hl hn h1 ih
 | kq l vs hl hr ih=>exact .kq l vs hl ih
def Ext.refl (G:Ga):Ext G G where
 T:=λ_ _ h=>h
 mw:=λ_ _ _=>rfl
 size:=Nat.le_refl _
 lN:=λ_ _ g z xs h=>⟨g,z,xs,h,Nat.le_refl _,λ_=>⟨rfl,λ_ h=>h⟩⟩
 map:=λ_ _ es c h=>⟨es,c,h,λ_ h=>h⟩
 cH:=λ_ _ h=>h
theorem Ext.trans {A B C:Ga} (h:Ext A B) (k:Ext B C):Ext A C where
 T:=λs b hb=>k.T s b (h.T s b hb)
 mw:=λs b hb=>(k.mw s b (h.T s b hb)).trans (h.mw s b hb)
 size:=Nat.le_trans h.size k.size
 lN:=by
  intro b hb g z xs hx
  obtain ⟨g1,z1,xs1,h1,hle,he⟩:=k.lN b (Nat.lt_of_lt_of_le hb h.size) g z xs hx
  obtain ⟨g2,z2,xs2,h2,hle2,he2⟩:=h.lN b hb g1 z1 xs1 h1
  grind
 map:=by
  intro b hb es c hx
  obtain ⟨es1,c1,h1,p1⟩:=k.map b (Nat.lt_of_lt_of_le hb h.size) es c hx
  obtain ⟨es2,c2,h2,p2⟩:=h.map b hb es1 c1 h1
  grind
 cH:=λd B hd=>k.cH d B (h.cH d B hd)
theorem PR.oP {w:World} {T:Bool->Nat->Prop} {m:Bool} {v:AV} {u:Value} (h:PR w T m v u):v.oP=true:=by cases h<;>rfl
def PR.yx {w:World} {T:Bool->Nat->Prop} {m:Bool} {l:List AV} {vs:Array Value} (hl:l.length=vs.size) (h:∀ (i:Nat) (x:AV) (y:Value),l[i]?=some x->vs[i]?=some y->PR w T m x y):∀ x∈l,x.oP=true:=by
 intro x hx
 obtain ⟨i,hi⟩:=List.getElem?_of_mem hx
 have hlt:i<vs.size:=by grind
 exact (h i x vs[i] hi (by simp)).oP
structure VC (G:Ga) (x:AV) (v:Value):Prop where
 vr:VR G x v
 na:x.oP=true
def VC.mono {G G':Ga} (E:Ext G G') {x:AV} {v:Value} (h:VC G x v):VC G' x v:=⟨h.vr.mono E,h.na⟩
def pU (G:Ga) (l:Loc) (z:Nat) (xs:List (List AV)):Prop :=
 ∃ c e,G.w.heap[l.B]?=some (.cells c e (0,0))/\xs.length<=l.cap/\l.base+l.cap*z<=c.size/\(∀ (i:Nat) (cs:List AV),xs[i]?=some cs->cs.length=z) /\
   (∀ (i:Nat) (cs:List AV) (j:Nat) (x:AV),xs[i]?=some cs->cs[j]?=some x->∃ v,c[l.base+i*z+j]?=some v/\v.oneCell'=true/\VC G x v)
def ra (es:List (AV×AV×Nat)) (clk:Nat):Prop:=(∀ p∈es,p.2.2<clk)/\(es.map (·.2.2)).Nodup
def ra.QO {es:List (AV×AV×Nat)} {ents:Array MapEntry} {clk:Nat} (h:ra es clk) (hlen:es.length=ents.size) (hb:∀ (i:Nat) (p:AV×AV×Nat) (e:MapEntry),es[i]?=some p->ents[i]?=some e->p.2.2=e.born):Lb ents clk:=by
 have hm:es.map (·.2.2)=ents.toList.map (·.born):=by
  apply List.ext_getElem?
  intro i
  simp only [List.getElem?_map,Array.getElem?_toList]
  cases hp:es[i]? with
  | none=>rw [Array.getElem?_eq_none (by rw [<- hlen]; exact List.getElem?_eq_none_iff.1 hp)]; rfl
  | some p =>
    have hi:i<ents.size:=by rw [<- hlen]; exact (List.getElem?_eq_some_iff.1 hp).1
    have he:ents[i]?=some ents[i]:=by simp
    rw [he]
    exact congrArg some (hb i p _ hp he)
 refine ⟨λi e he=>?_,hm▸h.2⟩
 have hi:i<es.length:=by rw [hlen]; exact (Array.getElem?_eq_some_iff.1 he).1
 have hei:es[i]?=some es[i]:=by simp
 rw [<- hb i _ e hei he]
 exact h.1 _ (List.getElem_mem hi)
def sC (G:Ga) (r:Nat) (es:List (AV×AV×Nat)) (clk:Nat):Prop :=
 ∃ ents,G.w.heap[r]?=some (.map ents clk)/\es.length=ents.size/\ra es clk /\
   ∀ (i:Nat) (p:AV×AV×Nat) (e:MapEntry),es[i]?=some p->ents[i]?=some e->p.1.rj=true/\PR G.w G.T false p.1 e.key/\VC G p.2.1 e.val/\p.2.2=e.born
def vL (G:Ga) (B:Nat) (cs:List AV):Prop :=
 ∃ c e,G.w.heap[B]?=some (.cells c e (0,0))/\c.size=cs.length/\(∀ (i:Nat) (x:AV) (v:Value),cs[i]?=some x->c[i]?=some v->VC G x v)/\(∀ (i:Nat) (v:Value),c[i]?=some v->v.oneCell'=true)
structure WR (G:Ga):Prop where
 lN:∀ b l g z xs,G.pi b=some l->G.h.get b=some (.lN g z xs)->pU G l z xs
 map:∀ b l es c,G.pi b=some l->G.h.get b=some (.map es c)->sC G l.B es c
 loc:∀ d B cs,G.L d=some B->l8 G.h.cH d=some cs->vL G B cs
 mX:∀ b l,G.pi b=some l->l.B<G.w.heap.size/\b<G.h.size
 oQ:∀ b b' l l',G.pi b=some l->G.pi b'=some l'->l.B=l'.B->b=b'
 rO:∀ s b l,G.pi b=some l->¬ G.T s l.B
 qo:∀ d d' B,G.L d=some B->G.L d'=some B->d=d'
 LT:∀ s d B,G.L d=some B->¬ G.T s B
 qI:∀ d B b l,G.L d=some B->G.pi b=some l->B≠l.B
 nY:∀ d B,G.L d=some B->B<G.w.heap.size/\(l8 G.h.cH d).isSome=true
 pj:∀ s B,G.T s B->B<G.w.heap.size
 lo:G.h.lo<=G.h.size
 lt:∀ b o,G.h.get b=some o->b<G.h.size
def PR.yH {G:Ga} {m:Bool} {v:AV} {u:Value} (h:PR G.w G.T m v u):VR G v u:=by
 have h':=h.E3
 clear h
 generalize hm:true=m' at h'
 induction h' with
 | undef m v h=>exact .undef v
 | bool m b=>exact .lD rfl (.bool _ b)
 | int m k n=>exact .lD rfl (.int _ k n)
 | str m s b h=>exact .lD rfl (.str _ s b h)
 | mn m=>exact .lD rfl (.mn _)
 | ip m cells off sn B base c e fr f hm' hB hB' hc h1 hr ih=>exact .lD rfl (.ip _ cells off sn B base c e fr f (λ_=>rfl) hB hB' hc h1 hr)
 | slnil m=>exact .lD rfl (.slnil _)
 | px m cap a c hm' h=>exact .lD rfl (.px _ cap a c (λ_=>rfl) h)
 | sl m xs cap B base c e fr cap' esz f hm' hB hB' hcap hle hz hc h1 hr ih=>exact .lD rfl (.sl _ xs cap B base c e fr cap' esz f (λ_=>rfl) hB hB' hcap hle hz hc h1 hr)
 | mD m=>exact .lD rfl (.mD _)
 | fm m es sn r ents clk hm' hB hB' hl hy hko hk hv ihk ihv=>exact .lD rfl (.fm _ es sn r ents clk (λ_=>rfl) hB hB' hl hy hko hk hv)
 | nL m=>exact .lD rfl (.nL _)
 | kY m g a c a' c' ha hc hra hrc iha ihc=>exact .kY g a c a' c' ha hc (PR.yx ha hra) (PR.yx hc hrc) (λi x y hx hy=>iha i x y hx hy hm) (λi x y hx hy=>ihc i x y hx hy hm)
 | agg m l vs hl h1 hr ih=>exact .agg l vs hl (PR.yx hl hr) h1 (λi x y hx hy=>ih i x y hx hy hm)
def PR.wq {G:Ga} {m:Bool} {v:AV} {u:Value} (h:PR G.w G.T m v u):VC G v u:=⟨h.yH,h.oP⟩
end Go.Sx
namespace Go.Sx
open Go
def IH:TypeDesc->Bool
 | .struct _ | .array _ _=>true
 | _=>false
def QH (P:Program) (d:TypeDesc):TK->Prop
 | .bool=>d=.bool
 | .int k=>d=.int k
 | .str=>d=.string
 | .ptr=>∃ e,d=.pointer e
 | .slice e=>d=.slice e
 | .array n e=>d=.array n e
 | .map k e=>d=.map k e
 | .struct fs=>∃ F,d=.struct F/\fs=F.toList.map (λf=>(f.offset,f.type))/\∀ f∈F.toList,∃ i,P.info? f.type=some i/\i.size≠0
 | .func=>∃ a b c,d=.func a b c
 | .other=>True
def Mm {t:TK} {a:AV} (h:sE t a=true):uT a=true:=by
 cases t<;>cases a<;>simp_all [sE,uT]
def yz:∀ {ts:List TK} {l:List AV},fitAll ts l=true->∀ x∈l,uT x=true
 | [],[],_,x,hx=>by cases hx
 | t::ts,a::l,h,x,hx=>by
   simp only [fitAll,Bool.and_eq_true] at h
   rcases List.mem_cons.1 hx with rfl | hx
   ·exact Mm h.1
   ·exact yz h.2 x hx
 | [],_::_,h,_,_=>by cases h
 | _::_,[],h,_,_=>by cases h
structure py (P:Program) (t:Nat) (ti:TI):Prop where
 info:∃ i z,P.info? t=some i/\i.size=ti.size/\i.bytes=ti.bytes/\i.zero=some z/\ti.zero=z.cells.toList.map D4/\z.cells.size=ti.size /\
  (∀ c∈z.cells.toList,c.oneCell'=true)/\(ti.agg=true->∃ cs,z=.agg cs)/\(ti.agg=false->z.oneCell'=true)
 desc:∃ d,P.underlying t=some d/\IH d=ti.agg/\QH P d ti.kind
 bytes:ti.bytes<=1048576
 guard:ti.flat=true->P.eqGuardType P.depth t=false
 flat:ti.flat=true->ti.agg=true->∀ (l m:List AV) (xs ys:Array Value) (b:Bool) (w:World) (T:Bool->Nat->Prop),fitAll ti.sc l=true->l.length=ti.size->m.length=ti.size ->
  PR w T true (.agg l) (.agg xs)->PR w T true (.agg m) (.agg ys)->nR l m=some b->(Op.equalIn 10000 t (.agg xs) (.agg ys)).run P w=.ok b w
 key:ti.flat=true->ti.agg=true->∀ (e:Bool) (xs:Array Value) (w:World),xs.size=ti.size->(Instr.checkKey e 10000 t (.agg xs)).run P w=.ok () w
structure mu (P:Program) (C:lW):Prop where
 ty:∀ t ti,C.T t=some ti->py P t ti
section runs
variable {P:Program} {t:Nat} {ti:TI}
theorem py.isAgg (h:py P t ti) (w:World):(isAgg t).run P w=.ok ti.agg w:=by
 obtain ⟨d,hd,ha,_⟩:=h.desc
 unfold Go.isAgg
 rw [Sem.run_bind,run_underlying hd w]
 rw [<- ha]
 cases d<;>rfl
theorem py.sizeOf (h:py P t ti) (w:World):(sizeOf t).run P w=.ok ti.size w:=by
 obtain ⟨i,z,hi,hs,_⟩:=h.info
 simp [Go.sizeOf,typeInfo,hi,hs]
def py.NM (h:py P t ti):(P.info? t).map (·.size)=some ti.size:=by
 obtain ⟨i,z,hi,hs,_⟩:=h.info
 grind
def zn (R:AV->Value->Prop) (cs:List AV) (c:Array Value) (base:Nat):Prop :=
 ∀ i x,cs[i]?=some x->∃ u,c[base+i]?=some u/\u.oneCell'=true/\R x u
theorem qP (B o n:Nat):(⟨B,o,none⟩:Addr).add n=⟨B,o+n,none⟩:=by
 grind [Addr.add]
theorem Ck (w:World) (B base:Nat) (c:Array Value) (e:TypeId) (fr:Nat×Nat) (hB:w.heap[B]?=some (.cells c e fr)) (n:Nat) (hn:base+n<=c.size) :
  (loadCells ⟨B,base,none⟩ n).run P w=.ok (c.extract base (base+n)) w:=by
 have h:=run_loadCells_list (P:=P) w ⟨B,base,none⟩ (c.extract base (base+n)).toList (λj v hv=>by
  rw [qP,cell_of_row w B (base+j) c e fr hB]
  grind)
 have hl:(c.extract base (base+n)).toList.length=n:=by grind
 rw [hl,Array.toArray_toList] at h
 exact h
def zQ {cs:List AV} {o:Nat} {l:List AV} (ha:ti.agg=true) (hp:part ti cs o=some (.agg l)):l=(cs.drop o).take ti.size/\l.length=ti.size/\(ti.size=0\/o+ti.size<=cs.length):=by
 simp only [part,ha,qB,AG] at hp
 split at hp
 ·rename_i hb
  simp only [Option.some.injEq,AV.agg.injEq] at hp
  subst hp
  simp only [Nat.beq_eq] at hb
  grind
 grind
def EP (hT:py P t ti) {w:World} {B base o:Nat} {c:Array Value} {e:TypeId} {fr:Nat×Nat} {R:AV->Value->Prop} {cs:List AV} {v:AV}
  (hB:w.heap[B]?=some (.cells c e fr)) (hU:zn R cs c base) (hp:part ti cs o=some v) :
  ∃ u,(loadVar t ⟨B,base+o,none⟩).run P w=.ok u w /\
    ((∃ l vs,ti.agg=true/\v=.agg l/\u=.agg vs/\l.length=ti.size/\l.length=vs.size/\(∀ (i:Nat) (y:Value),vs[i]?=some y->y.oneCell'=true)/\∀ (i:Nat) (x:AV) (y:Value),l[i]?=some x->vs[i]?=some y->R x y)
      \/ (ti.agg=false/\u.oneCell'=true/\R v u)):=by
 cases ha:ti.agg with
 | false =>
   simp only [part,ha] at hp
   obtain ⟨u,hu,h1,hr⟩:=hU o v hp
   refine ⟨u,?_,.inr ⟨rfl,h1,hr⟩⟩
   unfold loadVar
   rw [Sem.run_bind,hT.isAgg,ha]
   simp [cell_of_row w B (base+o) c e fr hB,hu]
 | true =>
   have hv:∃ l,v=.agg l:=by
    grind [part,qB,AG]
   obtain ⟨l,rfl⟩:=hv
   obtain ⟨hl,hlen,hle⟩:=zQ ha hp
   have hbase:ti.size=0\/base+o+ti.size<=c.size:=by
    rcases hle with h0 | hle
    ·omega
    ·by_cases hz:ti.size=0
     ·omega
     ·right
      have hi:o+ti.size - 1<cs.length:=by omega
      obtain ⟨u,hu,_⟩:=hU (o+ti.size - 1) cs[o+ti.size - 1] (by simp [hi])
      grind
   by_cases hz:ti.size=0
   ·have hl0:l=[]:=by grind
    subst hl0
    refine ⟨.agg #[],?_,.inl ⟨[],#[],rfl,rfl,rfl,by simp [hz],rfl,by simp,by simp⟩⟩
    unfold loadVar
    rw [Sem.run_bind,hT.isAgg,ha]
    simp [hT.sizeOf,hz,loadCells,loadCellsFrom]
   ·have hb:=hbase.resolve_left hz
    refine ⟨.agg (c.extract (base+o) (base+o+ti.size)),?_,.inl ⟨l,_,rfl,rfl,rfl,hlen,?_,?_,?_⟩⟩
    ·unfold loadVar
     rw [Sem.run_bind,hT.isAgg,ha]
     simp [hT.sizeOf,Ck w B (base+o) c e fr hB ti.size hb]
    ·grind
    ·intro i y hy
     rw [Array.getElem?_extract] at hy
     split at hy
     ·rename_i hi
      have hi':o+i<cs.length:=by omega
      obtain ⟨u,hu,h1,_⟩:=hU (o+i) cs[o+i] (by simp)
      grind
     grind
    ·intro i x y hx hy
     rw [Array.getElem?_extract] at hy
     split at hy
     ·rename_i hi
      rw [hl,List.getElem?_take,List.getElem?_drop] at hx
      split at hx
      ·obtain ⟨u,hu,h1,hr⟩:=hU (o+i) x hx
       grind
      omega
     grind
end runs
end Go.Sx
namespace Go.Sx
open Go
section
variable {P:Program} {C:lW} {G:Ga} {t:Nat} {ti:TI}
def VR.uX {l:List AV} {u:Value} (h:VR G (.agg l) u):∃ vs,u=.agg vs/\l.length=vs.size/\(∀ (i:Nat) (y:Value),vs[i]?=some y->y.oneCell'=true) /\
  ∀ (i:Nat) (x:AV) (y:Value),l[i]?=some x->vs[i]?=some y->VC G x y:=by
 cases h with
 | lD hp _=>simp [AV.mG] at hp
 | agg l vs hl hn h1 hr=>exact ⟨vs,rfl,hl,h1,λi x y hx hy=>⟨hr i x y hx hy,hn x (List.mem_of_getElem? hx)⟩⟩
theorem VR.of_int {k:IntKind} {n:Int} {u:Value} (h:VR G (.int k n) u):u=.int k n:=by
 cases h with
 | lD _ h=>cases h; rfl
theorem VR.of_bool {b:Bool} {u:Value} (h:VR G (.bool b) u):u=.bool b:=by
 cases h with
 | lD _ h=>cases h; rfl
def VR.tJ {s:List UInt8} {u:Value} (h:VR G (.str s) u):∃ b,u=.string b/\b.data.toList=s:=by
 cases h with
 | lD _ h=>cases h<;>grind
theorem VR.int (k:IntKind) (n:Int):VR G (.int k n) (.int k n):=.lD rfl (.int _ k n)
theorem VR.bool (b:Bool):VR G (.bool b) (.bool b):=.lD rfl (.bool _ b)
theorem VR.str {s:List UInt8} {b:ByteArray} (h:b.data.toList=s):VR G (.str s) (.string b):=.lD rfl (.str _ s b h)
def int?_eq {v:AV} {k:IntKind} {n:Int} (h:v.int?=some (k,n)):v=.int k n:=by
 cases v<;>simp [AV.int?] at h
 grind
theorem bool?_eq {v:AV} {b:Bool} (h:v.bool?=some b):v=.bool b:=by
 cases v<;>simp [AV.bool?] at h
 grind
def str?_eq {v:AV} {b:List UInt8} (h:v.str?=some b):v=.str b:=by
 cases v<;>simp [AV.str?] at h
 grind
def agg?_eq {v:AV} {b:List AV} (h:v.agg?=some b):v=.agg b:=by
 cases v<;>simp [AV.agg?] at h
 grind
def xE {v:AV} {n:Nat} (h:qy v=some n):∃ k,v=.int k (n:Int):=by
 unfold qy at h
 split at h
 ·rename_i k m hm
  have:=int?_eq hm
  subst this
  cases m<;>grind [Q3]
 ·cases h
def VC.yx {l:List AV} {vs:Array Value} (hl:l.length=vs.size) (h:∀ (i:Nat) (x:AV) (y:Value),l[i]?=some x->vs[i]?=some y->VC G x y):∀ x∈l,x.oP=true:=by
 intro x hx
 obtain ⟨i,hi⟩:=List.getElem?_of_mem hx
 have hlt:i<vs.size:=by grind
 exact (h i x vs[i] hi (by simp)).na
def VR.CF {l:List AV} {vs:Array Value} {R:AV->Value->Prop} (hR:∀ x y,R x y->VC G x y) (hl:l.length=vs.size)
  (h1:∀ (i:Nat) (y:Value),vs[i]?=some y->y.oneCell'=true) (hr:∀ (i:Nat) (x:AV) (y:Value),l[i]?=some x->vs[i]?=some y->R x y):VR G (.agg l) (.agg vs) :=
 .agg l vs hl (VC.yx hl λi x y hx hy=>hR x y (hr i x y hx hy)) h1 λi x y hx hy=>(hR x y (hr i x y hx hy)).vr
def Shaped (ti:TI) (v:AV) (u:Value):Prop :=
 (ti.agg=true/\∃ l vs,v=.agg l/\u=.agg vs/\l.length=ti.size/\vs.size=ti.size)\/(ti.agg=false/\u.oneCell'=true)
def xq {R:AV->Value->Prop} (hR:∀ x y,R x y->VC G x y) (hT:py P t ti) {B base o:Nat} {c:Array Value} {e:TypeId} {fr:Nat×Nat} {cs:List AV} {v:AV}
  (hB:G.w.heap[B]?=some (.cells c e fr)) (hU:zn R cs c base) (hp:part ti cs o=some v) :
  ∃ u,(loadVar t ⟨B,base+o,none⟩).run P G.w=.ok u G.w/\VR G v u/\Shaped ti v u:=by
 obtain ⟨u,hu,h | h⟩:=EP hT hB hU hp
 ·obtain ⟨l,vs,ha,rfl,rfl,hlen,hl,h1,hr⟩:=h
  exact ⟨_,hu,VR.CF hR hl h1 hr,.inl ⟨ha,l,vs,rfl,rfl,hlen,by omega⟩⟩
 ·obtain ⟨ha,h1,hr⟩:=h
  exact ⟨u,hu,(hR _ _ hr).vr,.inr ⟨ha,h1⟩⟩
def Bu (hW:WR G) (hT:py P t ti) {av v:AV} {a:Value} (hv:VR G av a) (h:tI av G.h ti=some v) :
  ∃ u,(Instr.loadAt t a).run P G.w=.ok u G.w/\VR G v u/\Shaped ti v u:=by
 unfold tI at h
 split at h
 ·
  rename_i d o
  cases hv with
  | lD hp _=>simp [AV.mG] at hp
  | la _ _ B hd =>
    unfold ND at h
    split at h
    ·rename_i cs hcs
     obtain ⟨c,e,hB,hs,hr,h1⟩:=hW.loc d B cs hd hcs
     have hU:zn (VC G) cs c 0:=by
      intro i x hx
      have hi:i<c.size:=by grind
      refine ⟨c[i],by simp [hi],h1 i c[i] (by simp [hi]),hr i x c[i] hx (by simp [hi])⟩
     obtain ⟨u,hu,hvu,hs⟩:=xq (P:=P) (λ_ _ h=>h) hT hB hU h
     grind [Instr.loadAt,Instr.sureAddr]
    ·cases h
 ·
  rename_i cs o s
  cases hv with
  | lD _ h' =>
    cases h' with
    | ip _ _ _ _ B base c e fr f hm hB hI hc h1 hr =>
      have hU:zn (λx y=>PR G.w G.T s x y) cs c base:=by
       intro i x hx
       grind
      obtain ⟨u,hu,hvu,hs⟩:=xq (P:=P) (λ_ _ h=>PR.wq h) hT hB hU h
      grind [Instr.loadAt,Instr.sureAddr]
 ·
  rename_i b g i o
  cases hv with
  | lD hp _=>simp [AV.mG] at hp
  | ptr _ _ _ _ a hb hg hl =>
    unfold Bq at h
    split at h
    ·rename_i g' z xs hget
     split at h
     ·rename_i hgg
      have hgg:=Nat.eq_of_beq_eq_true hgg
      subst hgg
      split at h
      ·rename_i cs hcs
       obtain ⟨l,hpi,ha⟩:=hl z xs hget
       subst ha
       obtain ⟨c,e,hB,hcap,hsz,hz,hr⟩:=hW.lN b l g z xs hpi hget
       have hU:zn (VC G) cs c (l.base+i*z):=by
        intro j x hx
        grind
       obtain ⟨u,hu,hvu,hs⟩:=xq (P:=P) (λ_ _ h=>h) hT hB hU h
       grind [Instr.loadAt,Instr.sureAddr]
      ·cases h
     ·cases h
    ·cases h
 ·cases h
def Bt {av v:AV} {a:Value} {k:Nat} (hv:VR G av a) (h:Ap av k=some v):∃ x,a=.pointer (some x)/\VR G v (.pointer (some (x.add k))):=by
 unfold Ap at h
 split at h
 ·rename_i d o
  simp only [QG,pk,Option.some.injEq] at h
  subst h
  cases hv with
  | lD hp _=>simp [AV.mG] at hp
  | la _ _ B hd=>exact ⟨_,rfl,by rw [qP]; exact .la d (o+k) B hd⟩
 ·rename_i cs o s
  simp only [Nl,pk,Option.some.injEq] at h
  subst h
  cases hv with
  | lD _ h' =>
    cases h' with
    | ip _ _ _ _ B base c e fr f hm hB hI hc h1 hr =>
      refine ⟨_,rfl,?_⟩
      rw [qP,Nat.add_assoc]
      exact .lD rfl (.ip _ cs (o+k) s B base c e fr f hm hB hI hc h1 hr)
 ·rename_i b g i o
  simp only [Bk,pk,Option.some.injEq] at h
  subst h
  cases hv with
  | lD hp _=>simp [AV.mG] at hp
  | ptr _ _ _ _ a hb hg hl =>
    refine ⟨_,rfl,.ptr b g i (o+k) _ hb hg ?_⟩
    grind [qP]
 ·cases h
def AL (hC:mu P C) {av:AV} {a:Value} {f:Nat} {r:AV×aT} (hv:VR G av a) (h:rI C G.h t av f=some r) :
  r.2=G.h/\∃ u,(Instr.fieldAt t a f).run P G.w=.ok u G.w/\VR G r.1 u/\u.oneCell'=true:=by
 unfold rI at h
 split at h
 ·cases h
 ·rename_i ti hti
  split at h
  ·rename_i fs hk
   split at h
   ·rename_i off ft hf
    unfold mA at h
    split at h
    ·rename_i v hv'
     simp only [Option.some.injEq] at h
     subst h
     obtain ⟨d,hd,ha,hko⟩:=(hC.ty t ti hti).desc
     rw [hk] at hko
     obtain ⟨F,rfl,hfs,hsz⟩:=hko
     subst hfs
     simp only [List.getElem?_map,Array.getElem?_toList,Option.map_eq_some_iff] at hf
     obtain ⟨fl,hfl,he⟩:=hf
     simp only [Prod.mk.injEq] at he
     obtain ⟨rfl,rfl⟩:=he
     obtain ⟨x,rfl,hx⟩:=Bt hv hv'
     refine ⟨rfl,.pointer (some (x.add fl.offset)),?_,hx,rfl⟩
     obtain ⟨i,hi,hne⟩:=hsz fl (by
      grind)
     simp_all [Instr.fieldAt,run_underlying,Instr.sureAddr,fieldPlace,Go.sizeOf,typeInfo]
    ·cases h
   ·cases h
  ·cases h
end
end Go.Sx
namespace Go.Sx
open Go
def oW (P:Program) (G:Ga) (s:Sem Value) (r:AV×aT):Prop :=
 r.2=G.h/\∃ u,s.run P G.w=.ok u G.w/\VR G r.1 u
section
variable {P:Program} {C:lW} {G:Ga} {t:Nat} {ti:TI}
theorem oh {h:aT} {o:Option AV} {r:AV×aT} (e:mA h o=some r):∃ v,o=some v/\r=(v,h):=by
 unfold mA at e
 grind
def Jh {c a b:AV} {c' a' b':Value} {r:AV×aT} (hc:VR G c c') (ha:VR G a a') (hb:VR G b b') (h:CP G.h c a b=some r) :
  oW P G (do pure (if <- asBool c' then a' else b')) r:=by
 unfold CP at h
 split at h
 ·rename_i hb'
  cases h
  have:=bool?_eq hb'; subst this
  have:=hc.of_bool; subst this
  exact ⟨rfl,a',by rfl,ha⟩
 ·rename_i hb'
  cases h
  have:=bool?_eq hb'; subst this
  have:=hc.of_bool; subst this
  exact ⟨rfl,b',by rfl,hb⟩
 ·cases h
def Bm {l:List AV} {vs:Array Value} {o:Nat} {v:AV} (hT:py P t ti) (hl:l.length=vs.size) (h1:∀ (i:Nat) (y:Value),vs[i]?=some y->y.oneCell'=true)
  (hr:∀ (i:Nat) (x:AV) (y:Value),l[i]?=some x->vs[i]?=some y->VC G x y) (hp:Sx.part ti l o=some v) :
  ∃ u,(Go.part t vs o).run P G.w=.ok u G.w/\VR G v u:=by
 have hU:zn (VC G) l vs 0:=by
  intro i x hx
  have hi:i<vs.size:=by grind
  exact ⟨vs[i],by simp [hi],h1 i _ (by simp [hi]),hr i x _ hx (by simp [hi])⟩
 cases ha:ti.agg with
 | false =>
   simp only [Sx.part,ha] at hp
   obtain ⟨u,hu,_,hx⟩:=hU o v hp
   refine ⟨u,?_,hx.vr⟩
   unfold Go.part
   rw [Sem.run_bind,hT.isAgg,ha]
   simp_all
 | true =>
   have hv:∃ m,v=.agg m:=by
    grind [Sx.part,qB,AG]
   obtain ⟨m,rfl⟩:=hv
   obtain ⟨hm,hlen,hle⟩:=zQ ha hp
   refine ⟨.agg (vs.extract o (o+ti.size)),?_,?_⟩
   ·unfold Go.part
    rw [Sem.run_bind,hT.isAgg,ha]
    simp [hT.sizeOf]
   ·refine VR.CF (R:=VC G) (λ_ _ h=>h) ?_ ?_ ?_
    ·grind
    ·intro i y hy
     rw [Array.getElem?_extract] at hy
     grind
    grind
def EF (hC:mu P C) {x:AV} {x':Value} {f:Nat} {r:AV×aT} (hx:VR G x x') (h:AT C G.h t x f=some r):oW P G (Instr.field t x' f) r:=by
 unfold AT at h
 split at h
 ·cases h
 ·rename_i ti hti
  split at h
  ·rename_i fs hk
   split at h
   ·rename_i off ft hf
    split at h
    ·rename_i cs hcs
     split at h
     ·rename_i tf htf
      obtain ⟨v,hv,rfl⟩:=oh h
      have:=agg?_eq hcs; subst this
      obtain ⟨vs,rfl,hl,h1,hr⟩:=hx.uX
      obtain ⟨d,hd,ha,hko⟩:=(hC.ty t ti hti).desc
      rw [hk] at hko
      obtain ⟨F,rfl,hfs,hsz⟩:=hko
      subst hfs
      simp only [List.getElem?_map,Array.getElem?_toList,Option.map_eq_some_iff] at hf
      obtain ⟨fl,hfl,he⟩:=hf
      simp only [Prod.mk.injEq] at he
      obtain ⟨rfl,rfl⟩:=he
      obtain ⟨u,hu,hvu⟩:=Bm (hC.ty _ tf htf) hl h1 hr hv
      refine ⟨rfl,u,?_,hvu⟩
      simp_all [Instr.field,run_underlying,Go.asAgg]
     ·cases h
    ·cases h
   ·cases h
  ·cases h
def Cx {x:AV} {x':Value} {i:Nat} {r:AV×aT} (hx:VR G x x') (h:xr G.h x i=some r):oW P G (Instr.extract x' i) r:=by
 unfold xr at h
 split at h
 ·rename_i vs
  obtain ⟨v,hv,rfl⟩:=oh h
  cases hx with
  | lD hp _=>simp [AV.mG] at hp
  | kq _ vs' hl hr =>
    have hi:i<vs'.size:=by grind
    exact ⟨rfl,vs'[i],by simp [Instr.extract,hi],hr i v _ hv (by simp [hi])⟩
 ·cases h
def DJ {x v:AV} {x':Value} (hx:VR G x x') (h:A1 x=some v) :
  VR G v x'/\((∃ a,x'=.pointer (some a))\/∃ g a c,x'=.func (.func g) a c):=by
 unfold A1 at h
 split at h
 ·cases h
  cases hx with
  | lD hp _=>simp [AV.mG] at hp
  | ptr _ _ _ _ a hb hg hl=>exact ⟨.ptr _ _ _ _ a hb hg hl,.inl ⟨_,rfl⟩⟩
 ·cases h
  refine ⟨hx,.inl ?_⟩
  cases hx with
  | lD _ h'=>cases h'<;>grind
 ·cases h
  refine ⟨hx,.inl ?_⟩
  cases hx<;>grind [AV.mG]
 ·cases h
  refine ⟨hx,.inr ?_⟩
  cases hx<;>grind [AV.mG]
 ·cases h
theorem Ah (b:Bool):tz b=some (.bool !b):=by cases b<;>rfl
theorem Ai {op:BinOp} {k:IntKind} {x y:Int} (xT:TypeId) (h:op=.add\/op=.sub\/op=.mul) :
  (Go.binOp op xT (.int k x) (.int k y)).run P G.w=(Op.intArith op k x y).run P G.w:=by
 grind [Go.binOp]
theorem JH {op:BinOp} {k:IntKind} {x y:Int} (xT:TypeId) (h:op=.quo\/op=.rem) :
  (Go.binOp op xT (.int k x) (.int k y)).run P G.w=(Op.intDiv op k x y).run P G.w:=by
 grind [Go.binOp]
theorem zr {op:BinOp} {k:IntKind} {x y:Int} (xT:TypeId) (h:op=.and\/op=.or\/op=.xor\/op=.andNot) :
  (Go.binOp op xT (.int k x) (.int k y)).run P G.w=(Op.intBits op k x y).run P G.w:=by
 grind [Go.binOp]
theorem wN {op:BinOp} {k:IntKind} {x y:Int} (xT:TypeId) (h:op=.eql\/op=.neq\/op=.lss\/op=.leq\/op=.gtr\/op=.geq) :
  (Go.binOp op xT (.int k x) (.int k y)).run P G.w=(Op.intCmp op x y).run P G.w:=by
 grind [Go.binOp]
def Dn {op:BinOp} {k:IntKind} {x y:Int} {v:AV} (h:m3 op k x y=some v) (hs:sX op=false) (xT:TypeId) :
  ∃ u,(Go.binOp op xT (.int k x) (.int k y)).run P G.w=.ok u G.w/\VR G v u:=by
 cases op<;>simp only [sX,Bool.true_eq_false] at hs<;>simp only [m3,I9,HW,Ot,Oe,O1,Hi,Je,Ji,F9,Iu,Gv,Ou,Qi,CN,DX,Ra,sB,xL,pH,Ac,Ah,qR,BT,BR,qV,tV,reduceCtorEq] at h
 case add=>cases h; rw [Ai xT (by simp)]; exact ⟨_,rfl,VR.int _ _⟩
 case sub=>cases h; rw [Ai xT (by simp)]; exact ⟨_,rfl,by grind [VR.int]⟩
 case mul=>cases h; rw [Ai xT (by simp)]; exact ⟨_,rfl,VR.int _ _⟩
 case quo =>
  split at h
  ·cases h
  ·rename_i hy
   cases h; simp_all [JH,Op.intDiv,VR.int]
 case rem =>
  split at h
  ·cases h
  ·rename_i hy
   cases h; simp_all [JH,Op.intDiv,VR.int]
 case and=>cases h; rw [zr xT (by simp)]; exact ⟨_,rfl,VR.int _ _⟩
 case or=>cases h; rw [zr xT (by simp)]; exact ⟨_,rfl,VR.int _ _⟩
 case xor=>cases h; rw [zr xT (by simp)]; exact ⟨_,rfl,VR.int _ _⟩
 case andNot=>cases h; rw [zr xT (by simp)]; exact ⟨_,rfl,VR.int _ _⟩
 case eql=>cases h; rw [wN xT (by simp)]; exact ⟨_,rfl,VR.bool _⟩
 case neq=>cases h; rw [wN xT (by simp)]; exact ⟨_,rfl,VR.bool _⟩
 case lss =>
  cases h; rw [wN xT (by simp)]
  refine ⟨_,rfl,?_⟩
  have e:(!decide (y<=x))=decide (x<y):=by grind
  rw [e]; exact VR.bool _
 case leq=>cases h; rw [wN xT (by simp)]; exact ⟨_,rfl,VR.bool _⟩
 case gtr =>
  cases h; rw [wN xT (by simp)]
  refine ⟨_,rfl,?_⟩
  have e:(!decide (x<=y))=decide (x > y):=by grind
  rw [e]; exact VR.bool _
 case geq=>cases h; rw [wN xT (by simp)]; exact ⟨_,rfl,VR.bool _⟩
theorem Pn (k k':IntKind) (x y:Int) (xT:TypeId) (w:World) (hy:¬ y<0) :
  (Go.binOp .shl xT (.int k x) (.int k' y)).run P w=.ok (.int k (k.wrap (x*2 ^ (min y.toNat k.bits)))) w:=by
 show (Op.shift .shl k x k' y).run P w = _
 unfold Op.shift
 rw [if_neg hy]
 rfl
theorem PB (k k':IntKind) (x y:Int) (xT:TypeId) (w:World) (hy:¬ y<0) :
  (Go.binOp .shr xT (.int k x) (.int k' y)).run P w=.ok (.int k (x.fdiv (2 ^ (min y.toNat k.bits)))) w:=by
 show (Op.shift .shr k x k' y).run P w = _
 unfold Op.shift
 rw [if_neg hy]
 rfl
def EM {op:BinOp} {k k':IntKind} {x y:Int} {v:AV} (h:m3 op k x y=some v) (hs:sX op=true) (xT:TypeId) :
  ∃ u,(Go.binOp op xT (.int k x) (.int k' y)).run P G.w=.ok u G.w/\VR G v u:=by
 cases op<;>simp only [sX,Bool.false_eq_true] at hs
 ·have h:(if y<0 then none else fI (pt k (x*2 ^ (min y.toNat k.bits))) (pH k))=some v:=h
  rw [sB,qR] at h
  split at h
  ·cases h
  ·rename_i hy
   cases h
   simp_all [Pn,VR.int]
 ·have h:(if y<0 then none else fI (x.fdiv (2 ^ (min y.toNat k.bits))) (pH k))=some v:=h
  rw [sB] at h
  split at h
  ·cases h
  ·rename_i hy
   cases h
   simp_all [PB,VR.int]
theorem bytesLess_eq:∀ (x y:List UInt8),bytesLess x y=Op.bytesLess x y
 | _,[]=>by simp [bytesLess,Op.bytesLess]
 | [],_::_=>by rfl
 | a::x,b::y=>by simp [bytesLess,Op.bytesLess,bytesLess_eq x y]
theorem u1 {b:ByteArray} {s:List UInt8} (h:b.data.toList=s):b.size=s.length:=by
 subst h; rfl
theorem toList_data (b:ByteArray):b.toList=b.data.toList:=ByteArray.toList_eq b
def C2 {op:BinOp} {x y:List UInt8} {bx by':ByteArray} {v:AV} (hx:bx.data.toList=x) (hy:by'.data.toList=y)
  (h:A0 op x y=some v) (xT:TypeId):∃ u,(Go.binOp op xT (.string bx) (.string by')).run P G.w=.ok u G.w/\VR G v u:=by
 have hb:∀ o:BinOp,(Go.binOp o xT (.string bx) (.string by')).run P G.w=(Op.stringOp o bx by').run P G.w:=by
  intro o; cases o<;>rfl
 rw [hb]
 unfold Op.stringOp
 simp only [toList_data,hx,hy,<- bytesLess_eq]
 cases op<;>simp only [A0,reduceCtorEq,qB] at h
 case add =>
  split at h
  ·rename_i hle
   cases h
   have hle:=Nat.le_of_ble_eq_true hle
   have hm:IntKind.i64.max=9223372036854775807:=by decide
   rw [if_neg (by grind [u1])]
   simp_all [VR.str]
  ·cases h
 all_goals
  cases h
  exact ⟨_,rfl,VR.bool _⟩
def vB {x:AV} {x':Value} {b:Bool} (h:Mg x=some b) (hx:VR G x x'):∃ a,x'=.pointer a/\a.isNone=b:=by
 unfold Mg at h
 split at h<;>simp only [Option.some.injEq,reduceCtorEq] at h<;>subst h
 ·cases hx with
  | lD _ h=>cases h<;>grind
 ·cases hx<;>grind [AV.mG]
 ·cases hx with
  | lD _ h=>cases h<;>grind
 ·cases hx<;>grind [AV.mG]
def vT {x:AV} {x':Value} {b:Bool} (h:Lx x=some b) (hx:VR G x x'):∃ a n c,x'=.slice a n c/\a.isNone=b:=by
 unfold Lx at h
 split at h<;>simp only [Option.some.injEq,reduceCtorEq] at h<;>subst h
 ·cases hx with
  | lD _ h=>cases h with
    | slnil=>simp
    | px _ _ _ _ _ hc=>cases hc
    | sl _ _ _ _ _ _ _ _ _ _ _ _ _ _ hc=>cases hc
 ·rename_i hne
  cases hx with
  | lD _ h=>cases h<;>grind
 ·cases hx<;>grind [AV.mG]
def vI {x:AV} {x':Value} {b:Bool} (h:Lp x=some b) (hx:VR G x x'):∃ a,x'=.map a/\a.isNone=b:=by
 unfold Lp at h
 split at h<;>simp only [Option.some.injEq,reduceCtorEq] at h<;>subst h
 ·cases hx with
  | lD _ h=>cases h<;>grind
 ·cases hx<;>grind [AV.mG]
 ·cases hx with
  | lD _ h=>cases h<;>grind
def wc {x:AV} {x':Value} {b:Bool} (h:Mk x=some b) (hx:VR G x x'):(b=true/\x'=.nilFunc)\/(b=false/\∃ f a c,x'=.func f a c):=by
 unfold Mk at h
 split at h<;>simp only [Option.some.injEq,reduceCtorEq] at h<;>subst h
 ·cases hx with
  | lD _ h=>cases h<;>grind
 ·cases hx<;>grind [AV.mG]
def VR.Fs {l:List AV} {vs:Array Value} (h:VR G (.agg l) (.agg vs)) (hs:∀ x∈l,∃ b,og x x=some b):PR G.w G.T true (.agg l) (.agg vs):=by
 obtain ⟨vs',e,hl,h1,hr⟩:=h.uX
 cases e
 refine .agg _ l vs hl h1 ?_
 intro i x y hx hy
 obtain ⟨b,hb⟩:=hs x (List.mem_of_getElem? hx)
 have:=(hr i x y hx hy).vr
 cases this with
 | lD _ h=>exact h
 | undef=>simp [og,rn] at hb
 | ptr=>simp [og,rn] at hb
 | hs=>simp [og,rn] at hb
 | hm=>simp [og,rn] at hb
 | la=>simp [og,rn] at hb
 | kY=>simp [og,rn] at hb
 | agg=>simp [og,rn] at hb
 | kq=>simp [og,rn] at hb
def J5 {x y:AV} {b:Bool} (h:og x y=some b):(∃ b,og x x=some b)/\∃ b,og y y=some b:=by
 cases x<;>simp only [og,rn,zf,wh,zq,reduceCtorEq] at h<;>cases y<;>simp only [AV.bool?,AV.int?,AV.str?,reduceCtorEq] at h
 ·exact ⟨⟨_,rfl⟩,⟨_,rfl⟩⟩
 ·refine ⟨?_,?_⟩<;>simp [og,wh,AV.int?,(rJ _ _).2 rfl]
 ·exact ⟨⟨_,rfl⟩,⟨_,rfl⟩⟩
def B6:∀ {l m:List AV} {b:Bool},nR l m=some b->(∀ x∈l,∃ b,og x x=some b)/\∀ x∈m,∃ b,og x x=some b
 | [],[],_,_=>by simp
 | [],_::_,_,h=>by cases h
 | _::_,[],_,h=>by cases h
 | a::x,b::y,c,h=>by
   simp only [nR] at h
   have hrest:∃ d,nR x y=some d/\∃ e,og a b=some e:=by
    split at h
    ·rename_i he; exact ⟨_,h,_,he⟩
    ·rename_i he
     split at h
     ·rename_i hd; exact ⟨_,hd,_,he⟩
     ·cases h
    ·cases h
   obtain ⟨d,hd,e,he⟩:=hrest
   obtain ⟨h1,h2⟩:=B6 hd
   obtain ⟨k1,k2⟩:=J5 he
   constructor
   ·intro z hz
    rcases List.mem_cons.1 hz with rfl | hz
    ·exact k1
    ·exact h1 z hz
   ·intro z hz
    rcases List.mem_cons.1 hz with rfl | hz
    ·exact k2
    ·exact h2 z hz
end
end Go.Sx
namespace Go.Sx
open Go
section
variable {P:Program} {C:lW} {G:Ga} {t:Nat} {ti:TI}
theorem L4 (op:BinOp) (ox oy:Operand) (k k':IntKind) (a b:Int) (w:World):(eqGuard op t ox oy (.int k a) (.int k' b)).run P w=.ok () w:=by cases op<;>rfl
theorem K4 (op:BinOp) (ox oy:Operand) (a b:ByteArray) (w:World):(eqGuard op t ox oy (.string a) (.string b)).run P w=.ok () w:=by cases op<;>rfl
def M2 (op:BinOp) (ox oy:Operand) (a b:Bool) (w:World):(eqGuard op t ox oy (.bool a) (.bool b)).run P w=.ok () w:=by cases op<;>rfl
def Du (op:BinOp) (ox oy:Operand) (a b:Option Addr) (w:World):(eqGuard op t ox oy (.pointer a) (.pointer b)).run P w=.ok () w:=by cases op<;>rfl
def C7 (op:BinOp) (ox oy:Operand) (a b:Option Nat) (w:World):(eqGuard op t ox oy (.map a) (.map b)).run P w=.ok () w:=by cases op<;>rfl
def Ep (op:BinOp) (ox oy:Operand) (a b:Option Addr) (n c m d:Nat) (w:World):(eqGuard op t ox oy (.slice a n c) (.slice b m d)).run P w=.ok () w:=by cases op<;>rfl
def DR (op:BinOp) (ox oy:Operand) (y:Value) (w:World):(eqGuard op t ox oy .nilFunc y).run P w=.ok () w:=by cases op<;>rfl
def MF (op:BinOp) (ox oy:Operand) (f:Fn) (a c:Array Value) (y:Value) (w:World):(eqGuard op t ox oy (.func f a c) y).run P w=.ok () w:=by cases op<;>rfl
theorem Rs (d:Nat) {e:TypeId} (h:P.underlying t=some (.pointer e)) (b:Option Addr) (w:World):(Op.equalIn (d+1) t (.pointer none) (.pointer b)).run P w=.ok b.isNone w:=by
 simp [Op.equalIn,run_underlying h]
theorem P0 (d:Nat) {e:TypeId} (h:P.underlying t=some (.pointer e)) (a:Addr) (w:World):(Op.equalIn (d+1) t (.pointer (some a)) (.pointer none)).run P w=.ok false w:=by
 simp [Op.equalIn,run_underlying h]
theorem QF (d:Nat) {e:TypeId} (h:P.underlying t=some (.slice e)) (b:Option Addr) (n c m k:Nat) (w:World):(Op.equalIn (d+1) t (.slice none n c) (.slice b m k)).run P w=.ok b.isNone w:=by
 simp [Op.equalIn,run_underlying h]
theorem QI (d:Nat) {e:TypeId} (h:P.underlying t=some (.slice e)) (a:Addr) (n c m k:Nat) (w:World):(Op.equalIn (d+1) t (.slice (some a) n c) (.slice none m k)).run P w=.ok false w:=by
 simp [Op.equalIn,run_underlying h]
theorem Qq (d:Nat) {e e':TypeId} (h:P.underlying t=some (.map e e')) (b:Option Nat) (w:World):(Op.equalIn (d+1) t (.map none) (.map b)).run P w=.ok b.isNone w:=by
 simp [Op.equalIn,run_underlying h]
theorem Qb (d:Nat) {e e':TypeId} (h:P.underlying t=some (.map e e')) (a:Nat) (w:World):(Op.equalIn (d+1) t (.map (some a)) (.map none)).run P w=.ok false w:=by
 simp [Op.equalIn,run_underlying h]
def Rb (d:Nat) {p q:Array TypeId} {r:Bool} (h:P.underlying t=some (.func p q r)) (w:World):(Op.equalIn (d+1) t .nilFunc .nilFunc).run P w=.ok true w:=by
 simp [Op.equalIn,run_underlying h]
def Qp (d:Nat) {p q:Array TypeId} {r:Bool} (h:P.underlying t=some (.func p q r)) (f:Fn) (a c:Array Value) (w:World):(Op.equalIn (d+1) t .nilFunc (.func f a c)).run P w=.ok false w:=by
 simp [Op.equalIn,run_underlying h]
def PK (d:Nat) {p q:Array TypeId} {r:Bool} (h:P.underlying t=some (.func p q r)) (f:Fn) (a c:Array Value) (w:World):(Op.equalIn (d+1) t (.func f a c) .nilFunc).run P w=.ok false w:=by
 simp [Op.equalIn,run_underlying h]
def qA {x y:Value} {b:Bool} {w:World} (he:(Op.equalIn 10000 t x y).run P w=.ok b w) (hn:∀ o:BinOp,o=.eql\/o=.neq->Go.binOp o t x y=(if o=.eql then do pure (.bool (<- Op.equal t x y)) else do pure (.bool (!(<- Op.equal t x y))))) :
  (Go.binOp .eql t x y).run P w=.ok (.bool b) w/\(Go.binOp .neq t x y).run P w=.ok (.bool !b) w:=by
 rw [hn .eql (by simp),hn .neq (by simp)]
 have he':(Op.equal t x y).run P w=.ok b w:=he
 simp_all
def zP (hT:py P t ti) {x y:AV} {x' y':Value} {b:Bool} (hx:VR G x x') (hy:VR G y y') (h:vX ti x y=some b) (ox oy:Operand) :
  (∀ o:BinOp,(eqGuard o t ox oy x' y').run P G.w=.ok () G.w)/\(Go.binOp .eql t x' y').run P G.w=.ok (.bool b) G.w/\(Go.binOp .neq t x' y').run P G.w=.ok (.bool !b) G.w:=by
 obtain ⟨d,hd,ha,hk⟩:=hT.desc
 unfold vX at h
 split at h
 ·
  rename_i hki
  rw [hki] at hk
  have hk:d=.bool:=hk
  subst hk
  unfold KV at h
  split at h
  ·rename_i a c h1 h2
   cases h
   have:=bool?_eq h1; subst this
   have:=bool?_eq h2; subst this
   rw [hx.of_bool,hy.of_bool]
   exact ⟨λo=>M2 o ox oy _ _ _,qA (run_equalIn_bool' G.w 9999 t _ _ hd) (by rintro o (rfl | rfl)<;>rfl)⟩
  ·cases h
 ·
  rename_i hki
  rw [hki] at hk
  obtain ⟨e,rfl⟩:=hk
  unfold uE at h
  split at h
  ·rename_i c h1 h2
   cases h
   obtain ⟨a,rfl,h1⟩:=vB h1 hx
   obtain ⟨a',rfl,h2⟩:=vB h2 hy
   refine ⟨λo=>Du o ox oy _ _ _,qA ?_ (by rintro o (rfl | rfl)<;>rfl)⟩
   simp_all [Rs]
  ·rename_i h1 h2
   cases h
   obtain ⟨a,rfl,h1⟩:=vB h1 hx
   obtain ⟨a',rfl,h2⟩:=vB h2 hy
   refine ⟨λo=>Du o ox oy _ _ _,qA ?_ (by rintro o (rfl | rfl)<;>rfl)⟩
   cases a with
   | none=>simp at h1
   | some a=>simp_all [P0]
  ·cases h
 ·
  rename_i hki
  rw [hki] at hk
  have hk:d=.slice _:=hk
  subst hk
  unfold uE at h
  split at h
  ·rename_i c h1 h2
   cases h
   obtain ⟨a,n,c,rfl,h1⟩:=vT h1 hx
   obtain ⟨a',n',c',rfl,h2⟩:=vT h2 hy
   refine ⟨λo=>Ep o ox oy _ _ _ _ _ _ _,qA ?_ (by rintro o (rfl | rfl)<;>rfl)⟩
   simp_all [QF]
  ·rename_i h1 h2
   cases h
   obtain ⟨a,n,c,rfl,h1⟩:=vT h1 hx
   obtain ⟨a',n',c',rfl,h2⟩:=vT h2 hy
   refine ⟨λo=>Ep o ox oy _ _ _ _ _ _ _,qA ?_ (by rintro o (rfl | rfl)<;>rfl)⟩
   cases a with
   | none=>simp at h1
   | some a=>simp_all [QI]
  ·cases h
 ·
  rename_i hki
  rw [hki] at hk
  have hk:d=.map _ _:=hk
  subst hk
  unfold uE at h
  split at h
  ·rename_i c h1 h2
   cases h
   obtain ⟨a,rfl,h1⟩:=vI h1 hx
   obtain ⟨a',rfl,h2⟩:=vI h2 hy
   refine ⟨λo=>C7 o ox oy _ _ _,qA ?_ (by rintro o (rfl | rfl)<;>rfl)⟩
   cases a<;>grind [Qq]
  ·rename_i h1 h2
   cases h
   obtain ⟨a,rfl,h1⟩:=vI h1 hx
   obtain ⟨a',rfl,h2⟩:=vI h2 hy
   refine ⟨λo=>C7 o ox oy _ _ _,qA ?_ (by rintro o (rfl | rfl)<;>rfl)⟩
   cases a with
   | none=>simp at h1
   | some a=>cases a'<;>grind [Qb]
  ·cases h
 ·
  rename_i hki
  rw [hki] at hk
  obtain ⟨p,q,r,rfl⟩:=hk
  unfold uE at h
  split at h
  ·rename_i c h1 h2
   cases h
   rcases wc h1 hx with ⟨_,rfl⟩ | ⟨h0,_⟩
   ·rcases wc h2 hy with ⟨rfl,rfl⟩ | ⟨rfl,f,a,c,rfl⟩
    ·exact ⟨λo=>DR o ox oy _ _,qA (Rb 9999 hd _) (by rintro o (rfl | rfl)<;>rfl)⟩
    ·exact ⟨λo=>DR o ox oy _ _,qA (Qp 9999 hd _ _ _ _) (by rintro o (rfl | rfl)<;>rfl)⟩
   grind
  ·rename_i h1 h2
   cases h
   rcases wc h1 hx with ⟨h0,_⟩ | ⟨_,f,a,c,rfl⟩
   ·cases h0
   ·rcases wc h2 hy with ⟨_,rfl⟩ | ⟨h0,_⟩
    ·exact ⟨λo=>MF o ox oy _ _ _ _ _,qA (PK 9999 hd _ _ _ _) (by rintro o (rfl | rfl)<;>rfl)⟩
    grind
  ·cases h
 all_goals first
  | (cases h; done)
  | (rename_i hki
     have hagg:ti.agg=true:=by
      rw [hki] at hk
      rw [<- ha]
      first
       | (obtain ⟨F,rfl,_⟩:=hk; rfl)
       | (have hk:d=.array _ _:=hk; subst hk; rfl)
     unfold Da at h
     split at h
     ·rename_i a c hf h1 h2
      split at h
      ·rename_i hlen
       simp only [Bool.and_eq_true,Nat.beq_eq] at hlen
       have:=agg?_eq h1; subst this
       have:=agg?_eq h2; subst this
       obtain ⟨vs,rfl,hl1,h11,hr1⟩:=hx.uX
       obtain ⟨us,rfl,hl2,h12,hr2⟩:=hy.uX
       obtain ⟨s1,s2⟩:=B6 h
       have e:=hT.flat hf hagg _ _ vs us b G.w G.T hlen.2 hlen.1.1 hlen.1.2 (hx.Fs s1) (hy.Fs s2) h
       exact ⟨λo=>run_eqGuard_agg G.w o t ox oy vs us (hT.guard hf),qA e (by rintro o (rfl | rfl)<;>rfl)⟩
      ·cases h
     ·cases h)
def ES (hC:mu P C) {op:BinOp} {x y v:AV} {x' y':Value} (hx:VR G x x') (hy:VR G y y') (h:binOp C op t x y=some v) (ox oy:Operand) :
  ∃ u,(do eqGuard op t ox oy x' y'; Go.binOp op t x' y':Sem Value).run P G.w=.ok u G.w/\VR G v u:=by
 unfold binOp at h
 split at h
 ·rename_i p hp
  obtain ⟨k,a⟩:=p
  have:=int?_eq hp; subst this
  rw [hx.of_int]
  unfold AF at h
  split at h
  ·rename_i k' b hb
   have:=int?_eq hb; subst this
   rw [hy.of_int]
   simp only [Sem.run_bind,L4,Result.andThen_ok]
   split at h
   ·rename_i hk
    cases hs:sX op with
    | true=>exact EM h hs t
    | false =>
      rw [hs,Bool.or_false] at hk
      have:=(rJ _ _).1 hk
      simp only at this
      subst this
      exact Dn h hs t
   ·cases h
  ·cases h
 ·split at h
  ·rename_i a ha
   have:=str?_eq ha; subst this
   obtain ⟨bx,rfl,hbx⟩:=hx.tJ
   unfold CV at h
   split at h
   ·rename_i b hb
    have:=str?_eq hb; subst this
    obtain ⟨by',rfl,hby⟩:=hy.tJ
    simp only [Sem.run_bind,K4,Result.andThen_ok]
    exact C2 hbx hby h t
   ·cases h
  ·unfold yY at h
   split at h
   ·cases h
   ·rename_i ti hti
    split at h
    ·split at h
     ·rename_i b hb
      cases h
      obtain ⟨h1,h2,h3⟩:=zP (hC.ty t ti hti) hx hy hb ox oy
      simp_all [VR.bool]
     ·cases h
    ·split at h
     ·rename_i b hb
      rw [Ah] at h
      cases h
      obtain ⟨h1,h2,h3⟩:=zP (hC.ty t ti hti) hx hy hb ox oy
      simp_all [VR.bool]
     ·cases h
    ·cases h
def IQ {op:UnOp} {x v:AV} {x':Value} (hx:VR G x x') (h:unOp op x=some v):∃ u,(Op.unary op x').run P G.w=.ok u G.w/\VR G v u:=by
 unfold unOp at h
 split at h
 ·split at h
  ·rename_i b hb
   have:=bool?_eq hb; subst this
   rw [hx.of_bool]
   rw [Ah] at h
   cases h
   exact ⟨_,rfl,VR.bool _⟩
  ·cases h
 ·split at h
  ·rename_i k n hb
   have:=int?_eq hb; subst this
   rw [hx.of_int]
   simp only [sB,pH,qR,BR] at h
   cases h
   refine ⟨_,rfl,?_⟩
   grind [VR.int]
  ·cases h
 ·split at h
  ·rename_i k n hb
   have:=int?_eq hb; subst this
   rw [hx.of_int]
   simp only [CN,sB,pH] at h
   cases h
   exact ⟨_,rfl,VR.int _ _⟩
  ·cases h
 ·cases h
def Gr {x y v:AV} {x' y':Value} (hx:VR G x x') (hy:VR G y y') (h:min2 x y=some v):∃ u,(Builtin.min2 x' y').run P G.w=.ok u G.w/\VR G v u:=by
 unfold min2 at h
 split at h
 ·cases h
  rw [hx.of_int,hy.of_int]
  exact ⟨_,rfl,VR.int _ _⟩
 ·cases h
def Jp {x y v:AV} {x' y':Value} (hx:VR G x x') (hy:VR G y y') (h:max2 x y=some v):∃ u,(Builtin.max2 x' y').run P G.w=.ok u G.w/\VR G v u:=by
 unfold max2 at h
 split at h
 ·cases h
  rw [hx.of_int,hy.of_int]
  exact ⟨_,rfl,VR.int _ _⟩
 ·cases h
def xS {f:AV->AV->Option AV} {g:Value->Value->Sem Value} (hfg:∀ {x y v:AV} {x' y':Value},VR G x x'->VR G y y'->f x y=some v->∃ u,(g x' y').run P G.w=.ok u G.w/\VR G v u) :
  ∀ {l:List AV} {l':List Value} {x v:AV} {x':Value},VR G x x'->l.length=l'.length->(∀ (i:Nat) a b,l[i]?=some a->l'[i]?=some b->VR G a b)->AJ f x l=some v ->
    ∃ u,(l'.foldlM g x').run P G.w=.ok u G.w/\VR G v u
 | [],[],x,v,x',hx,_,_,h=>by
   simp_all [AJ]
 | [],_::_,_,_,_,_,hl,_,_=>by simp at hl
 | _::_,[],_,_,_,_,hl,_,_=>by simp at hl
 | a::l,b::l',x,v,x',hx,hl,hr,h=>by
   simp only [AJ] at h
   split at h
   ·rename_i c hc
    obtain ⟨u,hu,hcu⟩:=hfg hx (hr 0 a b rfl rfl) hc
    obtain ⟨z,hz,hvz⟩:=xS hfg hcu (by grind) (λi p q hp hq=>hr (i+1) p q hp hq) h
    simp_all
   ·cases h
end
end Go.Sx
