/- Proves rules for the walks and their soundness. -/
import GoSem.Core.Code
import GoSem.Core.Program
import GoSem.Core.View
import Derived.Calls
import Derived.Laws.Append
import Derived.Laws.Tables
import Derived.Laws.StructEq
import Derived.Laws.IdiomCopy
import Derived.Laws.Slices
import Derived.Laws.Rows
import Derived.Laws.Cells
import Derived.Laws.CopyRow
set_option linter.all false
namespace Go.Sx
inductive oW where
 | nil
 | exact (n:Nat)
 | oh
 | sO
 deriving DecidableEq,Inhabited
inductive AV where
 | undef
 | bool (b:Bool)
 | int (k:IntKind) (n:Int)
 | str (s:List UInt8)
 | l3
 | ip (cells:List AV) (off:Nat) (sn:Bool)
 | la (d off:Nat)
 | ptr (b g i off:Nat)
 | sl (xs:List (List AV)) (cap:oW)
 | hs (b g off len:Nat)
 | mC
 | fm (es:List (AV×AV)) (sn:Bool)
 | hm (b:Nat)
 | ly (f:Nat) (first cap:List AV)
 | ny
 | agg (cells:List AV)
 | kO (vs:List AV)
 deriving Inhabited
section force
variable {β:Type}
@[inline] def fB (b:Bool) (k:Bool->β) : β:=match b with
  | true=>k true
  | false=>k false
@[inline] def fN (n:Nat) (k:Nat->β) : β:=match n with
  | 0=>k 0
  | m+1=>k (m+1)
@[inline] def fI (n:Int) (k:Int->β) : β:=match n with
  | .ofNat m=>fN m λm=>k (.ofNat m)
  | .negSucc m=>fN m λm=>k (.negSucc m)
def yW {α:Type}:List α->(List α->β)->β
 | [],k=>k []
 | a::l,k=>yW l λl=>k (a::l)
def f1 (v:AV) (k:AV->β) : β:=match v with
 | .bool b=>fB b λb=>k (.bool b)
 | .int kd n=>fI n λn=>k (.int kd n)
 | .str s=>yW s λs=>k (.str s)
 | .ip c o s=>fN o λo=>fB s λs=>k (.ip c o s)
 | .la d o=>fN o λo=>k (.la d o)
 | .ptr b g i o=>fN b λb=>fN g λg=>fN i λi=>fN o λo=>k (.ptr b g i o)
 | .hs b g o l=>fN b λb=>fN g λg=>fN o λo=>fN l λl=>k (.hs b g o l)
 | .hm b=>fN b λb=>k (.hm b)
 | .sl xs c=>yW xs λxs=>k (.sl xs c)
 | v=>k v
def fL:List AV->(List AV->β)->β
 | [],k=>k []
 | a::l,k=>f1 a λa=>fL l λl=>k (a::l)
def QZ:List (List AV)->(List (List AV)->β)->β
 | [],k=>k []
 | a::l,k=>fL a λa=>QZ l λl=>k (a::l)
end force
section forceEq
variable {β:Type}
@[simp] theorem yG (b:Bool) (k:Bool->β):fB b k=k b:=by cases b<;>rfl
@[simp] theorem pc (b:Nat) (k:Nat->β):fN b k=k b:=by cases b<;>rfl
@[simp] theorem tZ (b:Int) (k:Int->β):fI b k=k b:=by cases b<;>simp [fI]
@[simp] theorem qO {α:Type} (l:List α) (k:List α->β):yW l k=k l:=by
  induction l generalizing k with
  | nil=>rfl
  | cons a l ih=>simp [yW,ih]
@[simp] theorem adM (v:AV) (k:AV->β):f1 v k=k v:=by cases v<;>simp [f1]
@[simp] theorem CA (l:List AV) (k:List AV->β):fL l k=k l:=by
  induction l generalizing k with
  | nil=>rfl
  | cons a l ih=>simp [fL,ih]
@[simp] theorem adL (l:List (List AV)) (k:List (List AV)->β):QZ l k=k l:=by
  induction l generalizing k with
  | nil=>rfl
  | cons a l ih=>simp [QZ,ih]
end forceEq
inductive oE where
 | lM (gen esz:Nat) (xs:List (List AV))
 | map (es:List (AV×AV×Nat)) (clock:Nat)
 deriving Inhabited
inductive Tr (α:Type) where
 | leaf
 | node (l:Tr α) (v:Option α) (r:Tr α)
namespace Tr
variable {α β:Type}
def get:Tr α->Nat->Option α
 | .leaf,_=>none
 | .node l v r,n=>match n with
   | 0=>v
   | m+1=>match Nat.beq (m % 2) 0 with
     | true=>get l (m / 2)
     | false=>get r (m / 2)
def ins (x : α):Nat->Nat->Tr α->(Tr α->β)->β
 | 0,_,t,k=>k t
 | f+1,n,.leaf,k=>match n with
   | 0=>k (.node .leaf (some x) .leaf)
   | m+1=>match Nat.beq (m % 2) 0 with
     | true=>ins x f (m / 2) .leaf λl=>k (.node l none .leaf)
     | false=>ins x f (m / 2) .leaf λr=>k (.node .leaf none r)
 | f+1,n,.node l v r,k=>match n with
   | 0=>k (.node l (some x) r)
   | m+1=>match Nat.beq (m % 2) 0 with
     | true=>ins x f (m / 2) l λl=>k (.node l v r)
     | false=>ins x f (m / 2) r λr=>k (.node l v r)
end Tr
structure bV where
 tr:Tr oE
 size:Nat
 lo:Nat
 cT:List (Nat×List AV)
def bV.empty:bV:=⟨.leaf,0,0,[]⟩
def bV.get (h:bV) (b:Nat):Option oE:=match Nat.ble h.lo b with
 | true=>h.tr.get b
 | false=>none
def fO {β:Type} (o:oE) (k:oE->β) : β:=match o with
 | .lM g z xs=>fN g λg=>fN z λz=>QZ xs λxs=>k (.lM g z xs)
 | .map es c=>fN c λc=>yW es λes=>k (.map es c)
@[simp] theorem P1 {β:Type} (o:oE) (k:oE->β):fO o k=k o:=by cases o<;>simp [fO]
def bV.set (h:bV) (b:Nat) (o:oE):bV:=fO o λo=>h.tr.ins o (b+1) b λt=>⟨t,h.size,h.lo,h.cT⟩
def bV.push (h:bV) (o:oE):bV:=fO o λo=>fN (h.size+1) λs=>h.tr.ins o s h.size λt=>⟨t,s,h.lo,h.cT⟩
def fH {β:Type} (h:bV) (k:bV->β) : β:=match h with
 | ⟨t,s,l,m⟩=>k ⟨t,s,l,m⟩
@[simp] theorem Ae {β:Type} (h:bV) (k:bV->β):fH h k=k h:=rfl
abbrev mR:=List (Nat×List AV)
def lT:mR->Nat->Option (List AV)
 | [],_=>none
 | p::e,t=>match Nat.beq t p.1 with
   | true=>some p.2
   | false=>lT e t
def uF:mR->Nat->List AV->mR
 | [],_,_=>[]
 | p::e,t,v=>match Nat.beq t p.1 with
   | true=>(t,v)::e
   | false=>p::uF e t v
abbrev Env:=List (Nat×AV)
def nz:Env->Nat->AV
 | [],_=>.undef
 | p::e,t=>match Nat.beq t p.1 with
   | true=>p.2
   | false=>nz e t
def Fi (e:Env) (t:Nat) (v:AV):Env:=(t,v)::e
def AV.xO (t:Nat):AV->Bool
 | .la d o=>Nat.beq t d&&Nat.beq o 0
 | .kO _=>false
 | _=>true
def mj (t:Nat) (v:AV):AV:=match v.xO t with
 | true=>v
 | false=>.undef
def proj (live:List Nat) (e:Env):Env:=live.map λt=>(t,mj t (nz e t))
def nr:List Nat->mR->mR
 | [],_=>[]
 | t::l,m=>match lT m t with
   | some c=>(t,c)::nr l m
   | none=>nr l m
def DU {β:Type} (t:Nat) (k:AV->β):Env->β
 | []=>k .undef
 | (a,v)::e=>match Nat.beq t a with
   | true=>k v
   | false=>DU t k e
def AA {β:Type}:List Nat->Env->(Env->β)->β
 | [],_,k=>k []
 | t::l,e,k=>DU t (λv=>match v.xO t with
   | true=>AA l e λr=>k ((t,v)::r)
   | false=>AA l e λr=>k ((t,.undef)::r)) e
def xD {β:Type}:List Nat->mR->(mR->β)->β
 | [],_,k=>k []
 | t::l,m,k=>match lT m t with
   | some c=>xD l m λr=>k ((t,c)::r)
   | none=>xD l m k
theorem NG {β:Type} (t:Nat) (k:AV->β) (e:Env):DU t k e=k (nz e t):=by
 induction e<;>grind [DU,nz]
@[simp] theorem acw {β:Type} (l:List Nat) (e:Env) (k:Env->β):AA l e k=k (proj l e):=by
  induction l generalizing k with
  | nil=>rfl
  | cons t l ih =>
    simp only [AA,NG,proj,List.map_cons,mj]
    cases h:(nz e t).xO t
    ·exact ih _
    ·exact ih _
@[simp] theorem Zs {β:Type} (l:List Nat) (m:mR) (k:mR->β):xD l m k=k (nr l m):=by
  induction l generalizing k with
  | nil=>rfl
  | cons t l ih =>
    simp only [xD,nr]
    cases h:lT m t
    ·exact ih _
    ·exact ih _
inductive TK where
 | bool | int (k:IntKind) | str | ptr | slice (elem:Nat) | array (len elem:Nat) | map (key elem:Nat) | struct (fs:List (Nat×Nat)) | func | other
structure TI where
 kind:TK
 agg:Bool
 size:Nat
 bytes:Nat
 zero:List AV
 flat:Bool
 sc:List TK
def EL:Value->AV
 | .bool b=>.bool b
 | .int k n=>.int k n
 | .string s=>.str s.data.toList
 | .pointer none=>.l3
 | .slice none 0 0=>.sl [] .nil
 | .map none=>.mC
 | .nilFunc=>.ny
 | _=>.undef
def TT:Value->Bool
 | .bool _ | .int _ _ | .string _ | .pointer none | .slice none 0 0 | .map none | .nilFunc=>true
 | _=>false
def cv:Value->AV
 | .agg cs=>match cs.toList.all TT with
   | true=>.agg (cs.toList.map EL)
   | false=>.undef
 | v=>EL v
def kz (e:Env):Operand->AV
 | .tmp t=>nz e t
 | .const v=>cv v
 | .global _=>.undef
 | .func f=>.ly f [] []
def AV.mE:AV->Bool
 | .undef | .la _ _ | .agg _ | .kO _=>false
 | _=>true
def AV.nE:AV->Bool
 | .bool _ | .int _ _ | .str _ | .l3 | .ip _ _ false | .mC | .fm _ false | .ny=>true
 | .sl _ .sO=>false
 | .sl _ _=>true
 | _=>false
def AV.Ah:AV->Bool
 | .ly _ a c=>a.all AV.nE&&c.all AV.nE
 | v=>v.nE
def AV.int?:AV->Option (IntKind×Int)
 | .int k n=>some (k,n)
 | _=>none
def AV.str?:AV->Option (List UInt8)
 | .str s=>some s
 | _=>none
def AV.bool?:AV->Option Bool
 | .bool s=>some s
 | _=>none
def AV.agg?:AV->Option (List AV)
 | .agg s=>some s
 | _=>none
def cellsOf (ti:TI) (v:AV):Option (List AV) :=
 match ti.agg with
 | true=>match v.agg? with
   | some l=>match Nat.beq l.length ti.size with
     | true=>some l
     | false=>none
   | none=>none
 | false=>match v.mE&&Nat.beq ti.size 1 with
   | true=>some [v]
   | false=>none
def zr (n:Nat) (r:List AV):Option AV:=match Nat.beq r.length n with
 | true=>some (.agg r)
 | false=>none
def part (ti:TI) (cs:List AV) (o:Nat):Option AV:=match ti.agg with
 | true=>yW ((cs.drop o).take ti.size) (zr ti.size)
 | false=>cs[o]?
def pg (cs:List AV) (o:Nat) (new:List AV):Option (List AV) :=
 match Nat.ble (o+new.length) cs.length with
 | true=>yW (cs.take o++new++cs.drop (o+new.length)) some
 | false=>none
structure lS where
 T:Nat->Option TI
def GX:Int->Int->Bool
 | .ofNat a,.ofNat b=>Nat.beq a b
 | .negSucc a,.negSucc b=>Nat.beq a b
 | _,_=>false
def yX:Int->Int->Bool
 | .ofNat a,.ofNat b=>Nat.ble a b
 | .negSucc a,.negSucc b=>Nat.ble b a
 | .negSucc _,.ofNat _=>true
 | .ofNat _,.negSucc _=>false
def I1:Int->Int->Int
 | .ofNat a,.ofNat b=>.ofNat (Nat.add a b)
 | .ofNat a,.negSucc b=>match Nat.ble (Nat.succ b) a with
   | true=>.ofNat (Nat.sub a (Nat.succ b))
   | false=>.negSucc (Nat.sub b a)
 | .negSucc b,.ofNat a=>match Nat.ble (Nat.succ b) a with
   | true=>.ofNat (Nat.sub a (Nat.succ b))
   | false=>.negSucc (Nat.sub b a)
 | .negSucc a,.negSucc b=>.negSucc (Nat.succ (Nat.add a b))
def HM:Int->Int
 | .ofNat 0=>.ofNat 0
 | .ofNat (n+1)=>.negSucc n
 | .negSucc n=>.ofNat (n+1)
def sL (k:IntKind) (n:Int):Int:=match k,n with
 | .i64,.ofNat a=>match Nat.ble a 4611686018427387904 with
   | true=>.ofNat a
   | false=>IntKind.wrap .i64 (.ofNat a)
 | .i64,.negSucc a=>match Nat.ble a 4611686018427387904 with
   | true=>.negSucc a
   | false=>IntKind.wrap .i64 (.negSucc a)
 | k,n=>k.wrap n
def Pg:IntKind->Nat
 | .i8=>0
 | .i16=>1
 | .i32=>2
 | .i64=>3
 | .u8=>4
 | .u16=>5
 | .u32=>6
 | .u64=>7
def qN (a b:IntKind):Bool:=Nat.beq (Pg a) (Pg b)
theorem s5 (a b:IntKind):qN a b=true↔a=b:=by cases a<;>cases b<;>simp [qN,Pg]
def wg (k:IntKind) (a:Int) (y:AV):Option Bool:=match y.int? with
 | some (k',b)=>match qN k k' with
   | true=>some (GX a b)
   | false=>none
 | none=>none
def Ar (a:List UInt8) (y:AV):Option Bool:=match y.str? with
 | some b=>some (a==b)
 | none=>none
def yZ (a:Bool) (y:AV):Option Bool:=match y.bool? with
 | some b=>some (a==b)
 | none=>none
def rL (_:AV):Option Bool:=none
def oa:AV->AV->Option Bool
 | .bool a=>yZ a
 | .int k a=>wg k a
 | .str a=>Ar a
 | _=>rL
def nR:List AV->List AV->Option Bool
 | [],[]=>some true
 | a::x,b::y=>match oa a b with
   | some true=>nR x y
   | some false=>match nR x y with
     | some _=>some false
     | none=>none
   | none=>none
 | _,_=>none
def Cv (x:List AV) (y:AV):Option Bool:=match y.agg? with
 | some y=>nR x y
 | none=>none
def ni (x y:AV):Option Bool:=match x.agg? with
 | some l=>Cv l y
 | none=>oa x y
def findKey (k:AV):List (AV×AV×Nat)->Nat->Option (Option (Nat×AV))
 | [],_=>some none
 | (k',v,_)::es,i=>match ni k k' with
   | some true=>some (some (i,v))
   | some false=>findKey k es (i+1)
   | none=>none
def sS (k:AV):List (AV×AV)->Option (Option AV)
 | []=>some none
 | (k',v)::es=>match ni k k' with
   | some true=>some (some v)
   | some false=>sS k es
   | none=>none
def bytesLess:List UInt8->List UInt8->Bool
 | _,[]=>false
 | [],_::_=>true
 | a::x,b::y=>a<b||(a==b&&bytesLess x y)
theorem su (a b:Int):GX a b=(a==b):=by
 apply Bool.eq_iff_iff.2
 cases a<;>cases b<;>simp only [GX,Nat.beq_eq,beq_iff_eq,Int.ofNat_eq_natCast,Int.negSucc_eq,Bool.false_eq_true,false_iff]<;>omega
theorem uC (a b:Int):yX a b=decide (a<=b):=by
 apply Bool.eq_iff_iff.2
 cases a<;>cases b<;>simp only [yX,Nat.ble_eq,decide_eq_true_eq,Int.ofNat_eq_natCast,Int.negSucc_eq,Bool.false_eq_true,false_iff,true_iff]<;>omega
theorem CO (a b:Int):I1 a b=a+b:=by
 cases a<;>cases b<;>simp only [I1,Nat.add_eq,Nat.sub_eq]
 ·rfl
 ·split
  ·rename_i h; simp only [Nat.ble_eq] at h; grind
  ·rename_i h
   have h:=(Bool.not_eq_true _).symm.mp h
   simp only [Nat.ble_eq] at h; grind
 ·split
  ·rename_i h; simp only [Nat.ble_eq] at h; grind
  ·rename_i h
   have h:=(Bool.not_eq_true _).symm.mp h
   simp only [Nat.ble_eq] at h; grind
 rfl
theorem CG (a:Int):HM a = -a:=by
 rcases a with (_ | n) | n<;>simp only [HM,Int.ofNat_eq_natCast,Int.negSucc_eq]<;>omega
theorem AB (n:Int) (h1 : -9223372036854775808<=n) (h2:n<=9223372036854775807):IntKind.wrap .i64 n=n:=by
 grind [IntKind.wrap,IntKind.bits,IntKind.signed]
theorem rO (k:IntKind) (n:Int):sL k n=k.wrap n:=by
 unfold sL
 split
 ·split
  ·rename_i h
   simp only [Nat.ble_eq] at h
   grind [AB]
  ·rfl
 ·split
  ·rename_i h
   simp only [Nat.ble_eq] at h
   grind [AB]
  ·rfl
 ·rfl
def pU (k:IntKind) (n:Int):Option AV:=some (.int k n)
def Bp (b:Bool):Option AV:=some (.bool b)
def u0:Bool->Option AV
 | true=>some (.bool false)
 | false=>some (.bool true)
abbrev IB:=IntKind->Int->Int->Option AV
def Jy:IB:=λk x y=>fI (sL k (I1 x y)) (pU k)
def Io:IB:=λk x y=>fI (sL k (I1 x (HM y))) (pU k)
def QJ:IB:=λk x y=>fI (sL k (x*y)) (pU k)
def Q4:IB:=λk x y=>if y=0 then none else fI (sL k (x.tdiv y)) (pU k)
def QF:IB:=λk x y=>if y=0 then none else fI (x.tmod y) (pU k)
def Im:IB:=λ_ x y=>fB (GX x y) Bp
def JA:IB:=λ_ x y=>fB (GX x y) u0
def JK:IB:=λ_ x y=>fB (yX y x) u0
def Ki:IB:=λ_ x y=>fB (yX x y) Bp
def I0:IB:=λ_ x y=>fB (yX x y) u0
def Iy:IB:=λ_ x y=>fB (yX y x) Bp
def Iw:IB:=λk x y=>fI (k.wrap (BitVec.ofInt k.bits x &&& BitVec.ofInt k.bits y).toNat) (pU k)
def NI:IB:=λk x y=>fI (k.wrap (BitVec.ofInt k.bits x ||| BitVec.ofInt k.bits y).toNat) (pU k)
def DS:IB:=λk x y=>fI (k.wrap (BitVec.ofInt k.bits x ^^^ BitVec.ofInt k.bits y).toNat) (pU k)
def FB:IB:=λk x y=>fI (k.wrap (BitVec.ofInt k.bits x &&& ~~~ BitVec.ofInt k.bits y).toNat) (pU k)
def Kx:IB:=λk x y=>if y<0 then none else fI (sL k (x*2 ^ (min y.toNat k.bits))) (pU k)
def Wv:IB:=λk x y=>if y<0 then none else fI (x.fdiv (2 ^ (min y.toNat k.bits))) (pU k)
def TV:IB:=λ_ _ _=>none
def tU:BinOp->Bool
 | .shl | .shr=>true
 | _=>false
def mw:BinOp->IB
 | .add=>Jy
 | .sub=>Io
 | .mul=>QJ
 | .quo=>Q4
 | .rem=>QF
 | .eql=>Im
 | .neq=>JA
 | .lss=>JK
 | .leq=>Ki
 | .gtr=>I0
 | .geq=>Iy
 | .and=>Iw
 | .or=>NI
 | .xor=>DS
 | .andNot=>FB
 | .shl=>Kx
 | .shr=>Wv
def Cz (op:BinOp) (x y:List UInt8):Option AV :=
 match op with
 | .add=>match Nat.ble (x.length+y.length) 1099511627776 with
   | true=>yW (x++y) λs=>some (.str s)
   | false=>none
 | .eql=>some (.bool (x==y))
 | .neq=>some (.bool !(x==y))
 | .lss=>some (.bool (bytesLess x y))
 | .leq=>some (.bool (bytesLess x y||x==y))
 | .gtr=>some (.bool !(bytesLess x y||x==y))
 | .geq=>some (.bool !(bytesLess x y))
 | _=>none
def Pf:AV->Option Bool
 | .l3=>some true
 | .ptr ..=>some false
 | .ip ..=>some false
 | .la ..=>some false
 | _=>none
def Nq:AV->Option Bool
 | .sl _ .nil=>some true
 | .sl ..=>some false
 | .hs ..=>some false
 | _=>none
def OW:AV->Option Bool
 | .mC=>some true
 | .hm _=>some false
 | .fm ..=>some false
 | _=>none
def Ny:AV->Option Bool
 | .ny=>some true
 | .ly ..=>some false
 | _=>none
def uX (f:AV->Option Bool) (x y:AV):Option Bool:=match f x,f y with
 | some true,some b=>some b
 | some false,some true=>some false
 | _,_=>none
def tw:TK->AV->Bool
 | .int kd,.int k _=>qN kd k
 | .str,.str _=>true
 | .bool,.bool _=>true
 | _,_=>false
def vE:AV->Bool
 | .bool _ | .int .. | .str _=>true
 | _=>false
def fitAll:List TK->List AV->Bool
 | [],[]=>true
 | t::ts,a::l=>tw t a&&fitAll ts l
 | _,_=>false
def FC (ti:TI) (x y:AV):Option Bool:=match ti.flat,x.agg?,y.agg? with
 | true,some a,some b=>match Nat.beq a.length ti.size&&Nat.beq b.length ti.size&&fitAll ti.sc a with
   | true=>nR a b
   | false=>none
 | _,_,_=>none
def KV (x y:AV):Option Bool:=match x.bool?,y.bool? with
 | some a,some b=>some (a==b)
 | _,_=>none
def Ad (ti:TI) (x y:AV):Option Bool:=match ti.kind with
 | .bool=>KV x y
 | .ptr=>uX Pf x y
 | .slice _=>uX Nq x y
 | .map _ _=>uX OW x y
 | .func=>uX Ny x y
 | .struct _=>FC ti x y
 | .array _ _=>FC ti x y
 | _=>none
def Cj (C:lS) (op:BinOp) (t:Nat) (x y:AV):Option AV:=match C.T t with
 | none=>none
 | some ti=>match op with
   | .eql=>match Ad ti x y with
     | some b=>some (.bool b)
     | none=>none
   | .neq=>match Ad ti x y with
     | some b=>u0 b
     | none=>none
   | _=>none
def Cf (op:BinOp) (p:IntKind×Int) (y:AV):Option AV:=match y.int? with
 | some (k,b)=>match qN p.1 k||tU op with
   | true=>mw op p.1 p.2 b
   | false=>none
 | none=>none
def Fs (op:BinOp) (a:List UInt8) (y:AV):Option AV:=match y.str? with
 | some b=>Cz op a b
 | none=>none
def binOp (C:lS) (op:BinOp) (t:Nat) (x y:AV):Option AV:=match x.int? with
 | some p=>Cf op p y
 | none=>match x.str? with
   | some a=>Fs op a y
   | none=>Cj C op t x y
def unOp (op:UnOp) (x:AV):Option AV:=match op with
 | .not=>match x.bool? with
   | some b=>u0 b
   | none=>none
 | .neg=>match x.int? with
   | some (k,n)=>fI (sL k (HM n)) (pU k)
   | none=>none
 | .xor=>match x.int? with
   | some (k,n)=>DS k (if k.signed then -1 else k.max) n
   | none=>none
 | _=>none
def min2:AV->AV->Option AV
 | .int k x,.int _ y=>some (.int k (if y<x then y else x))
 | _,_=>none
def max2:AV->AV->Option AV
 | .int k x,.int _ y=>some (.int k (if y > x then y else x))
 | _,_=>none
def Co (f:AV->AV->Option AV):AV->List AV->Option AV
 | a,[]=>some a
 | a,b::l=>match f a b with
   | some c=>Co f c l
   | none=>none
def elems (h:bV):AV->Option (List (List AV))
 | .sl xs _=>some xs
 | .hs b g off len=>match h.get b with
   | some (.lM g' _ xs)=>match Nat.beq g g'&&Nat.ble (off+len) xs.length with
     | true=>some ((xs.drop off).take len)
     | false=>none
   | _=>none
 | _=>none
def Aa (ys:List (List AV)):Bool:=ys.all λc=>c.all AV.mE
def tJ (ys:List (List AV)):Bool:=ys.all λc=>c.all AV.Ah
def p5 (n:Nat) (ys:List (List AV)):Bool:=ys.all λc=>Nat.beq c.length n
def overwrite (xs:List (List AV)) (at_:Nat) (ys:List (List AV)):List (List AV):=xs.take at_++ys++xs.drop (at_+ys.length)
def tV:Nat:=1048576
def tg (n:Nat) (h:bV) (xs ys:List (List AV)):Option (AV×bV) :=
 match p5 n xs&&Nat.ble (xs.length+ys.length) tV with
 | true=>fN (xs.length+ys.length) λm=>some (.hs h.size 0 0 m,h.push (.lM 0 n (xs++ys)))
 | false=>none
def Bw (n:Nat) (h:bV) (b g off len:Nat) (ys:List (List AV)):Option (AV×bV) :=
 match h.get b with
 | some (.lM g' z xs)=>match Nat.beq g g'&&Nat.beq z n&&Nat.ble (off+len+ys.length) tV with
   | false=>none
   | true=>match Nat.ble (off+len+ys.length) xs.length with
     | true=>fN (len+ys.length) λm=>some (.hs b g off m,h.set b (.lM g z (overwrite xs (off+len) ys)))
     | false=>match Nat.beq (off+len) xs.length with
       | true=>fN (len+ys.length) λm=>some (.hs b (g+1) 0 m,h.set b (.lM (g+1) z (xs.drop off++ys)))
       | false=>none
 | _=>none
def append (n:Nat) (h:bV) (s:AV) (ys:List (List AV)):Option (AV×bV) :=
 match ys with
 | []=>match s with
   | .sl xs c=>some (.sl xs c,h)
   | .hs b g off len=>some (.hs b g off len,h)
   | _=>none
 | _::_=>match p5 n ys with
   | false=>none
   | true=>match s with
     | .sl xs .nil=>tg n h xs ys
     | .sl xs (.exact m)=>match Nat.blt m (xs.length+ys.length) with
       | true=>tg n h xs ys
       | false=>none
     | .hs b g off len=>Bw n h b g off len ys
     | _=>none
def SS:Int->Option Nat
 | .ofNat n=>some n
 | .negSucc _=>none
def qD (v:AV):Option Nat:=match v.int? with
 | some (_,n)=>SS n
 | none=>none
def bound (x:Option AV) (dflt:Nat):Option Nat :=
 match x with
 | none=>some dflt
 | some v=>qD v
def J5 (s:List UInt8) (lo hi mx:Option AV):Option AV:=match bound lo 0,bound hi s.length,mx with
 | some l,some r,none=>match Nat.ble l r&&Nat.ble r s.length with
   | true=>yW ((s.drop l).take (r - l)) λs=>some (.str s)
   | false=>none
 | _,_,_=>none
def rn (l:Nat):oW->oW
 | .exact n=>.exact (n - l)
 | c=>c
def uB (n:Nat):oW->oW
 | .nil=>.nil
 | .sO=>.sO
 | _=>.exact n
def qa (n:Nat):List (List AV)->Bool
 | []=>true
 | c::_=>Nat.beq c.length n
def rF (hi:Option AV):Option AV->Option (Option Nat)
 | none=>some none
 | some m=>match hi,qD m with
   | some _,some m=>some (some m)
   | _,_=>none
def zD:oW->oW
 | .sO=>.oh
 | c=>c
def By (l m:Nat) (cap:oW):List (List AV)->Option AV
 | []=>some (.sl [] (uB (m - l) (zD cap)))
 | x::xs=>some (.sl (x::xs) (uB (m - l) cap))
def wQ (n:Nat) (xs:List (List AV)) (cap:oW) (lo hi mx:Option AV):Option AV:=match bound lo 0,bound hi xs.length,rF hi mx with
 | some l,some r,some none=>match Nat.ble l r&&Nat.ble r xs.length&&qa n xs with
   | true=>yW ((xs.drop l).take (r - l)) λxs=>some (.sl xs (rn l cap))
   | false=>none
 | some l,some r,some (some m)=>match Nat.ble l r&&Nat.ble r m&&Nat.ble m xs.length&&qa n xs with
   | true=>yW ((xs.drop l).take (r - l)) (By l m cap)
   | false=>none
 | _,_,_=>none
def B4 (b g off:Nat) (l r:Nat):Option Nat->Option AV
 | none=>fN (off+l) λo=>fN (r - l) λk=>some (.hs b g o k)
 | some m=>match Nat.ble r m with
   | true=>match Nat.beq l m with
     | true=>some (.sl [] (.exact 0))
     | false=>some .undef
   | false=>none
def C4 (n:Nat) (h:bV) (b g off len:Nat) (lo hi mx:Option AV):Option AV:=match h.get b with
 | some (.lM g' z xs)=>match Nat.beq g g'&&Nat.beq z n with
   | false=>none
   | true=>match bound lo 0,bound hi len,rF hi mx with
     | some l,some r,some m=>match Nat.ble l r&&Nat.ble (off+r) xs.length&&Nat.ble (off+m.getD 0) xs.length with
       | true=>B4 b g off l r m
       | false=>none
     | _,_,_=>none
 | _=>none
def slice (n:Nat) (h:bV) (x:AV) (lo hi mx:Option AV):Option AV :=
 match x with
 | .sl xs cap=>wQ n xs cap lo hi mx
 | .hs b g off len=>C4 n h b g off len lo hi mx
 | _=>none
abbrev Lo:=bV->TI->Option AV
def Gc (d o:Nat):Lo:=λh ti=>match lT h.cT d with
 | some cs=>part ti cs o
 | none=>none
def Sh (cs:List AV) (o:Nat) (_:Bool):Lo:=λ_ ti=>part ti cs o
def BR (b g i o:Nat):Lo:=λh ti=>match h.get b with
 | some (.lM g' _ xs)=>match Nat.beq g g' with
   | true=>match xs[i]? with
     | some cs=>part ti cs o
     | none=>none
   | false=>none
 | _=>none
def S9:Lo:=λ_ _=>none
def sD:AV->Lo
 | .la d o=>Gc d o
 | .ip cs o s=>Sh cs o s
 | .ptr b g i o=>BR b g i o
 | _=>S9
abbrev PL:=List AV->bV->Option bV
def Ob (d o:Nat):PL:=λnew h=>match lT h.cT d with
 | some cs=>match pg cs o new with
   | some cs=>some { h with cT:=uF h.cT d cs }
   | none=>none
 | none=>none
def DL (b g i o:Nat):PL:=λnew h=>match h.get b with
 | some (.lM g' z xs)=>match Nat.beq g g' with
   | true=>match xs[i]? with
     | some cs=>match pg cs o new with
       | some cs=>some (h.set b (.lM g z (xs.set i cs)))
       | none=>none
     | none=>none
   | false=>none
 | _=>none
def SF:PL:=λ_ _=>none
def ze:AV->PL
 | .la d o=>Ob d o
 | .ptr b g i o=>DL b g i o
 | _=>SF
def xv (h:bV) (ti:TI) (a v:AV):Option bV :=
 match cellsOf ti v with
 | none=>none
 | some new=>match new.all AV.mE with
   | true=>ze a new h
   | false=>none
def N3 (d o:Nat) (k:Nat):Option AV:=fN (o+k) λo=>some (.la d o)
def NB (cs:List AV) (o:Nat) (s:Bool) (k:Nat):Option AV:=fN (o+k) λo=>some (.ip cs o s)
def D9 (b g i o:Nat) (k:Nat):Option AV:=fN (o+k) λo=>some (.ptr b g i o)
def Sr (_:Nat):Option AV:=none
def Bn:AV->Nat->Option AV
 | .la d o=>N3 d o
 | .ip cs o s=>NB cs o s
 | .ptr b g i o=>D9 b g i o
 | _=>Sr
def BN:Bool->oW
 | true=>.sO
 | false=>.oh
def kP (f:AV->Option AV):List AV->Option (List AV)
 | []=>some []
 | v::l=>match f v with
   | none=>none
   | some w=>match kP f l with
     | none=>none
     | some l'=>some (w::l')
def pF (f:AV->Option AV):List (List AV)->Option (List (List AV))
 | []=>some []
 | v::l=>match kP f v with
   | none=>none
   | some w=>match pF f l with
     | none=>none
     | some l'=>some (w::l')
def qM (f:AV->Option AV):List (AV×AV×Nat)->Option (List (AV×AV))
 | []=>some []
 | (k,v,_)::l=>match f v with
   | none=>none
   | some w=>match qM f l with
     | none=>none
     | some l'=>some ((k,w)::l')
def freeze (sn:Bool) (h:bV):Nat->AV->Option AV
 | 0,_=>none
 | n+1,v=>match v with
   | .bool _ | .int _ _ | .str _ | .l3 | .mC | .ny=>some v
   | .ip _ _ s=>match s&&!sn with
     | true=>none
     | false=>some v
   | .fm _ s=>match s&&!sn with
     | true=>none
     | false=>some v
   | .sl _ .sO=>match sn with
     | true=>some v
     | false=>none
   | .sl _ _=>some v
   | .ptr b g i o=>match h.get b with
     | some (.lM g' _ xs)=>match Nat.beq g g' with
       | true=>match xs[i]? with
         | some cs=>match kP (freeze sn h n) cs with
           | some cs=>some (.ip cs o sn)
           | none=>none
         | none=>none
       | false=>none
     | _=>none
   | .hs b g off len=>match h.get b with
     | some (.lM g' _ xs)=>match Nat.beq g g'&&Nat.ble (off+len) xs.length with
       | true=>match pF (freeze sn h n) ((xs.drop off).take len) with
         | some xs=>some (.sl xs (BN sn))
         | none=>none
       | false=>none
     | _=>none
   | .hm b=>match h.get b with
     | some (.map es _)=>match qM (freeze sn h n) es with
       | some es=>some (.fm es sn)
       | none=>none
     | _=>none
   | .ly f a c=>match kP (freeze sn h n) a,kP (freeze sn h n) c with
     | some a,some c=>some (.ly f a c)
     | _,_=>none
   | .agg l=>match kP (freeze sn h n) l with
     | some l=>some (.agg l)
     | none=>none
   | .kO l=>match kP (freeze sn h n) l with
     | some l=>some (.kO l)
     | none=>none
   | .undef | .la _ _=>none
def AV.sQ:AV->Bool
 | .ptr .. | .hs .. | .hm _=>true
 | .agg l=>l.any λ| .ptr .. | .hs .. | .hm _=>true | .ly _ a c=>!(a.all AV.nE&&c.all AV.nE) | _=>false
 | .ly _ a c=>!(a.all AV.nE&&c.all AV.nE)
 | _=>false
def AV.py:AV->Bool
 | .la .. | .kO _=>false
 | _=>true
abbrev iN:AV:=.sl [] .nil
abbrev kh:AV:=.bool false
end Go.Sx
namespace Go.Sx
inductive od where
 | nil
 | seq (live:List Nat) (a b:od)
 | sq (a b:od)
 | two (a b:od)
 | loop (live:List Nat) (a:od)
 | tG (sch:List (Nat×List Nat))
 deriving Inhabited
def rj {α:Type} (f : α->α->Bool):List α->List α->Bool
 | [],[]=>true
 | a::x,b::y=>f a b&&rj f x y
 | _,_=>false
def JS:oW->oW->Bool
 | .nil,.nil=>true
 | .exact n,.exact m=>Nat.beq n m
 | .oh,.oh=>true
 | .sO,.sO=>true
 | _,_=>false
def Fa:Bool->Bool->Bool
 | true,b=>b
 | false,true=>false
 | false,false=>true
def qI:Nat->AV->AV->Bool
 | 0,_,_=>false
 | n+1,a,b=>match a,b with
   | .undef,.undef=>true
   | .bool x,.bool y=>Fa x y
   | .int k x,.int l y=>qN k l&&GX x y
   | .str x,.str y=>x==y
   | .l3,.l3=>true
   | .ip c o s,.ip d p t=>rj (qI n) c d&&Nat.beq o p&&Fa s t
   | .la d o,.la e p=>Nat.beq d e&&Nat.beq o p
   | .ptr b g i o,.ptr b' g' i' o'=>Nat.beq b b'&&Nat.beq g g'&&Nat.beq i i'&&Nat.beq o o'
   | .sl xs c,.sl ys d=>rj (rj (qI n)) xs ys&&JS c d
   | .hs b g i o,.hs b' g' i' o'=>Nat.beq b b'&&Nat.beq g g'&&Nat.beq i i'&&Nat.beq o o'
   | .mC,.mC=>true
   | .hm b,.hm c=>Nat.beq b c
   | .fm x s,.fm y t=>rj (λp q=>qI n p.1 q.1&&qI n p.2 q.2) x y&&Fa s t
   | .ny,.ny=>true
   | .agg x,.agg y=>rj (qI n) x y
   | _,_=>false
structure kp where
 body:Code
 oL:od
 cT:List Nat
 zf:List Nat
 lr:List Nat
 res:List ResultVar
 iter:Bool
inductive Ex where
 | nf
 | ext (id:Nat)
 | ret
 deriving DecidableEq
abbrev sG:=Bool->Nat->List AV->bV->Option (AV×bV)
def BM (C:lS) (ti:TI):List (Nat×AV)->List AV->Option (List AV)
 | [],cs=>some cs
 | (i,v)::rest,cs =>
   match (match ti.kind with
    | .struct fs=>fs[i]?
    | .array n el=>match C.T el with
      | some t=>if i<n then some (i*t.size,el) else none
      | none=>none
    | _=>none) with
   | none=>none
   | some (off,ft)=>match C.T ft with
     | none=>none
     | some t=>match cellsOf t v with
       | none=>none
       | some new=>if new.all AV.mE then match pg cs off new with
         | none=>none
         | some cs=>BM C ti rest cs else none
def uT (t:TI):List (Nat×AV)->List (List AV)->Option (List (List AV))
 | [],xs=>some xs
 | (i,v)::rest,xs=>match cellsOf t v with
   | none=>none
   | some new=>match new.all AV.mE&&Nat.blt i xs.length with
     | true=>uT t rest (xs.set i new)
     | false=>none
def Bv (fa:kp) (n:Nat) (dst:Option Nat) (h:bV) (xs:List (List AV)):Option (AV×bV) :=
 match dst with
 | none=>none
 | some d=>match fa.zf.elem d||!(tJ xs) with
   | true=>some (.hs h.size 0 0 xs.length,h.push (.lM 0 n xs))
   | false=>some (.sl xs (.exact xs.length),h)
def uj (C:lS) (t:Nat):Option TI :=
 match C.T t with
 | some ti=>match ti.kind with
   | .slice el=>C.T el
   | _=>none
 | none=>none
def zy (k v:AV) (es:List (AV×AV×Nat)) (clock:Nat):Option (List (AV×AV×Nat)×Nat) :=
 match findKey k es 0 with
 | none=>none
 | some none=>some (es++[(k,v,clock)],clock+1)
 | some (some (i,_))=>some (es.modify i (λe=>(k,v,e.2.2)),clock)
def xt (k:AV) (es:List (AV×AV×Nat)):Option (List (AV×AV×Nat)) :=
 match findKey k es 0 with
 | none=>none
 | some none=>some es
 | some (some (i,_))=>some (es.eraseIdx i)
def rQ (n:Int) (v:AV):List (AV×AV×Nat)->Option (List (AV×AV×Nat))
 | []=>none
 | (k,w,b)::es=>if (b:Int)==n then some ((k,v,b)::es) else match rQ n v es with
   | none=>none
   | some es=>some ((k,w,b)::es)
def AV.rI:AV->Bool
 | .bool _ | .int .. | .str _=>true
 | .agg l=>l.all λ| .bool _ | .int .. | .str _=>true | _=>false
 | _=>false
def rT (tk:TI) (k:AV):Bool:=match tk.agg with
 | false=>tw tk.kind k
 | true=>match k.agg? with
   | some l=>tk.flat&&Nat.beq l.length tk.size&&fitAll tk.sc l
   | none=>false
def sC (C:lS) (kt:Nat) (k:AV):Bool:=match C.T kt with
 | some tk=>rT tk k
 | none=>false
def mapKey (C:lS) (t:Nat) (k:AV):Bool:=match C.T t with
 | some tm=>match tm.kind with
   | .map kt _=>sC C kt k
   | _=>false
 | none=>false
def AV.Ap:AV->Bool
 | .la .. | .kO _=>false
 | .agg l=>l.all AV.mE
 | _=>true
abbrev R2:=Option (AV×bV)
def mD (h:bV):Option AV->R2
 | some v=>some (v,h)
 | none=>none
def Ma (x:AV):Option Nat:=match x.str? with
 | some s=>some s.length
 | none=>none
def wN:AV->Option Nat
 | .sl xs _=>some xs.length
 | .hs _ _ _ len=>some len
 | _=>none
def Fp (h:bV):AV->Option Nat
 | .mC=>some 0
 | .fm es _=>some es.length
 | .hm b=>match h.get b with
   | some (.map es _)=>some es.length
   | _=>none
 | _=>none
def xb (h:bV) (x:AV):TK->Option Nat
 | .array n _=>some n
 | .str=>Ma x
 | .slice _=>wN x
 | .map _ _=>Fp h x
 | _=>none
def rq (h:bV):Option Nat->R2
 | some n=>some (.int .i64 n,h)
 | none=>none
def vY (C:lS) (ats:List Nat) (args:List AV) (h:bV):R2:=match ats,args with
 | t::_,[x]=>match C.T t with
   | some ti=>rq h (xb h x ti.kind)
   | none=>none
 | _,_=>none
def Qs:AV->Option Nat
 | .sl _ .nil=>some 0
 | .sl _ (.exact n)=>some n
 | _=>none
def sM (C:lS):List Nat->Option TI
 | t::_=>uj C t
 | []=>none
def C6 (C:lS) (ats:List Nat) (args:List AV) (h:bV):R2:=match sM C ats,args with
 | some _,[x]=>rq h (Qs x)
 | _,_=>none
def rM (h:bV) (x:AV):Option (List (List AV)):=match x.str? with
 | some l=>some (l.map λc=>[AV.int .u8 c.toNat])
 | none=>elems h x
def z6:TK->Bool
 | .slice _=>true
 | .str=>true
 | _=>false
def Fx (C:lS):List Nat->Bool
 | [_,t]=>match C.T t with
   | some ti=>z6 ti.kind
   | none=>false
 | _=>false
def tK (C:lS) (ats:List Nat) (args:List AV) (h:bV):R2:=match sM C ats,args with
 | some ti,[s,x]=>match Fx C ats with
   | true=>match rM h x with
     | none=>none
     | some ys=>match Aa ys with
       | true=>append ti.size h s ys
       | false=>none
   | false=>none
 | _,_=>none
def FV (n:Nat) (h:bV) (ys:List (List AV)):AV->R2
 | .hs b g off len=>match h.get b with
   | some (.lM g' z xs)=>match Nat.beq g g'&&Nat.beq z n&&Nat.ble (off+len) xs.length&&Aa ys&&p5 n ys with
     | true=>some (.int .i64 ((min ys.length len:Nat):Int),h.set b (.lM g z (overwrite xs off (ys.take (min ys.length len)))))
     | false=>none
   | _=>none
 | .sl [] _=>some (.int .i64 0,h)
 | _=>none
def B5 (C:lS) (ats:List Nat) (args:List AV) (h:bV):R2:=match sM C ats,args with
 | some ti,[d,x]=>match elems h x with
   | some ys=>FV ti.size h ys d
   | none=>none
 | _,_=>none
def xP (C:lS) (k:AV):List Nat->Bool
 | t::_=>mapKey C t k
 | []=>false
def ve (C:lS) (ats:List Nat) (args:List AV) (h:bV):R2:=match args with
 | [.mC,k]=>match xP C k ats with
   | true=>some (.kO [],h)
   | false=>none
 | [.hm b,k]=>match h.get b with
   | some (.map es c)=>match xP C k ats with
     | true=>match xt k es with
       | some es=>some (.kO [],h.set b (.map es c))
       | none=>none
     | false=>none
   | _=>none
 | _=>none
def E6 (ti:TI) (h:bV):AV->R2
 | .sl [] _=>some (.kO [],h)
 | .hs b g off len=>match h.get b with
   | some (.lM g' z xs)=>match Nat.beq g g'&&Nat.beq z ti.size&&Nat.ble (off+len) xs.length with
     | true=>some (.kO [],h.set b (.lM g z (overwrite xs off (List.replicate len ti.zero))))
     | false=>none
   | _=>none
 | _=>none
def xV (C:lS) (ats:List Nat) (args:List AV) (h:bV):R2:=match sM C ats,args with
 | some ti,[x]=>E6 ti h x
 | _,_=>none
def sX (f:AV->AV->Option AV) (args:List AV) (h:bV):R2:=match args with
 | x::rest=>mD h (Co f x rest)
 | []=>none
abbrev AW:=lS->List Nat->List AV->bV->R2
def yo:AW:=vY
def QR:AW:=C6
def Bm:AW:=tK
def S5:AW:=B5
def El:AW:=λC ats a h=>ve C ats a h
def GR:AW:=xV
def Qg:AW:=λ_ _ a h=>sX max2 a h
def Q2:AW:=λ_ _ a h=>sX min2 a h
def Te:AW:=λ_ _ _ _=>none
def nU:Builtin->AW
 | .len=>yo
 | .cap=>QR
 | .append=>Bm
 | .copy=>S5
 | .delete=>El
 | .clear=>GR
 | .max=>Qg
 | .min=>Q2
 | _=>Te
def pt (f:Operand->AV):Option Operand->Option AV
 | none=>none
 | some x=>some (f x)
def asAgg (ti:TI) (cs:List AV):Option AV:=match ti.agg with
 | true=>some (.agg cs)
 | false=>match cs with
   | [v]=>some v
   | _=>none
def sw (h:bV) (k:AV):AV->Option (Option AV)
 | .mC=>some none
 | .fm es _=>sS k es
 | .hm b=>match h.get b with
   | some (.map es _)=>match findKey k es 0 with
     | none=>none
     | some none=>some none
     | some (some (_,v))=>some (some v)
   | _=>none
 | _=>none
def Af (ok b:Bool) (v:AV):Option AV:=match ok with
 | true=>some (.kO [v,.bool b])
 | false=>some v
def sY (C:lS) (t:Nat) (h:bV) (m k:AV) (ok:Bool):Option AV:=match C.T t with
 | none=>none
 | some tm=>match tm.kind with
   | .map kt el=>match C.T el with
     | none=>none
     | some ti=>match sC C kt k with
       | false=>none
       | true=>match sw h k m with
         | none=>none
         | some (some v)=>Af ok true v
         | some none=>match asAgg ti ti.zero with
           | none=>none
           | some z=>Af ok false z
   | _=>none
def DP (h:bV) (c a b:AV):R2:=match c.bool? with
 | some true=>some (a,h)
 | some false=>some (b,h)
 | none=>none
def newVar (fa:kp) (d:Nat) (h:bV) (cs:List AV):R2:=match fa.cT.elem d with
 | true=>match lT h.cT d with
   | none=>some (.la d 0,{ h with cT:=(d,cs)::h.cT })
   | some _=>none
 | false=>some (.ptr h.size 0 0 0,h.push (.lM 0 cs.length [cs]))
def Cc (C:lS) (fa:kp) (dst:Option Nat) (h:bV) (t:Nat):R2:=match C.T t with
 | some ti=>match dst with
   | some d=>newVar fa d h ti.zero
   | none=>none
 | none=>none
def JM (C:lS) (fa:kp) (dst:Option Nat) (h:bV) (t:Nat) (x:AV):R2:=match C.T t with
 | some ti=>match dst with
   | some d=>match cellsOf ti x with
     | some cs=>match cs.all AV.mE with
       | true=>newVar fa d h cs
       | false=>none
     | none=>none
   | none=>none
 | none=>none
def ru (e:Env) (ps:Array (Nat×Operand)):List (Nat×AV):=ps.toList.map λp=>(p.1,kz e p.2)
def buildable (C:lS):TK->Bool
 | .struct _=>true
 | .array _ el=>(C.T el).isSome
 | _=>false
def CB (C:lS) (h:bV) (t:Nat) (ps:List (Nat×AV)):R2:=match C.T t with
 | some ti=>match buildable C ti.kind with
   | true=>match BM C ti ps ti.zero with
     | some cs=>some (.agg cs,h)
     | none=>none
   | false=>none
 | none=>none
def uf (C:lS) (fa:kp) (dst:Option Nat) (h:bV) (t n:Nat) (ps:List (Nat×AV)):R2:=match uj C t with
 | some ti=>match Nat.ble (n*ti.size) 16777216 with
   | true=>match uT ti ps (List.replicate n ti.zero) with
     | some xs=>Bv fa ti.size dst h xs
     | none=>none
   | false=>none
 | none=>none
def uV (C:lS) (h:bV) (t:Nat) (a:AV):R2:=match C.T t with
 | some ti=>mD h (sD a h ti)
 | none=>none
def xR (C:lS) (h:bV) (t:Nat) (a x:AV):R2:=match C.T t with
 | some ti=>match xv h ti a x with
   | some h=>some (.undef,h)
   | none=>none
 | none=>none
def BD:AV->Option AV
 | .ptr b g i o=>some (.ptr b g i o)
 | .ip cs o s=>some (.ip cs o s)
 | .la d o=>some (.la d o)
 | .ly f a c=>some (.ly f a c)
 | _=>none
def vP (C:lS) (h:bV) (s d:Nat) (x:AV):R2:=match C.T s,C.T d with
 | some _,some ti=>match ti.kind with
   | .int k=>match x.int? with
     | some (_,n)=>mD h (fI (sL k n) (pU k))
     | none=>none
   | .str=>match x.str? with
     | some s=>some (.str s,h)
     | none=>none
   | _=>none
 | _,_=>none
def uo (h:bV) (fn:Fn) (a c:List AV):R2:=match fn with
 | .func f=>match a.all AV.mE&&c.all AV.mE with
   | true=>some (.ly f a c,h)
   | false=>none
 | _=>none
def uY (C:lS) (h:bV) (t:Nat) (l c:AV):R2:=match uj C t,l.int?,c.int? with
 | some ti,some (_,l),some (_,c) =>
   match yX 0 l&&yX l c&&yX c 4294967295&&Nat.ble (c.toNat*ti.bytes) 140737488355328 with
   | true=>some (.hs h.size 0 0 l.toNat,h.push (.lM 0 ti.size (List.replicate c.toNat ti.zero)))
   | false=>none
 | _,_,_=>none
def qR (C:lS) (h:bV) (t:Nat) (x:AV) (lo hi mx:Option AV):R2:=match C.T t with
 | none=>none
 | some ti=>match ti.kind with
   | .slice el=>match C.T el with
     | some ti=>mD h (slice ti.size h x lo hi mx)
     | none=>none
   | .str=>match x.str? with
     | some s=>mD h (J5 s lo hi mx)
     | none=>none
   | _=>none
def sd (C:lS) (h:bV) (t:Nat) (x:AV) (f:Nat):R2:=match C.T t with
 | none=>none
 | some ti=>match ti.kind with
   | .struct fs=>match fs[f]? with
     | some (off,_)=>mD h (Bn x off)
     | none=>none
   | _=>none
def BF (C:lS) (h:bV) (t:Nat) (x:AV) (f:Nat):R2:=match C.T t with
 | none=>none
 | some ti=>match ti.kind with
   | .struct fs=>match fs[f]? with
     | some (off,ft)=>match x.agg? with
       | some cs=>match C.T ft with
         | some ti=>mD h (part ti cs off)
         | none=>none
       | none=>none
     | none=>none
   | _=>none
def rp:oW->Bool
 | .sO=>true
 | _=>false
def sr (n:Nat) (h:bV) (x:AV) (i:Nat):R2:=match x with
 | .sl xs c=>match xs[i]? with
   | some cs=>match Nat.beq cs.length n with
     | true=>some (.ip cs 0 (rp c),h)
     | false=>none
   | none=>none
 | .hs b g off len=>match h.get b with
   | some (.lM _ z _)=>match Nat.blt i len&&Nat.beq z n with
     | true=>fN (off+i) λk=>some (.ptr b g k 0,h)
     | false=>none
   | _=>none
 | _=>none
def qh (C:lS) (h:bV) (t:Nat) (x i:AV):R2:=match C.T t with
 | none=>none
 | some ti=>match qD i with
   | none=>none
   | some i=>match ti.kind with
     | .slice el=>match C.T el with
       | some ti=>sr ti.size h x i
       | none=>none
     | .array n el=>match C.T el with
       | some ti=>match Nat.blt i n with
         | true=>mD h (Bn x (i*ti.size))
         | false=>none
       | none=>none
     | _=>none
def xy (C:lS) (h:bV) (t:Nat) (x i:AV):R2:=match C.T t with
 | none=>none
 | some ti=>match qD i with
   | none=>none
   | some i=>match ti.kind with
     | .str=>match x.str? with
       | some s=>match s[i]? with
         | some c=>some (.int .u8 c.toNat,h)
         | none=>none
       | none=>none
     | .array n el=>match C.T el with
       | some ti=>match x.agg? with
         | some cs=>match Nat.blt i n with
           | true=>mD h (part ti cs (i*ti.size))
           | false=>none
         | none=>none
       | none=>none
     | _=>none
def u9 (C:lS) (h:bV) (t:Nat) (m k x:AV):R2:=match m with
 | .hm b=>match h.get b with
   | some (.map es c)=>match mapKey C t k&&x.Ap with
     | true=>match zy k x es c with
       | some (es,c)=>some (.undef,h.set b (.map es c))
       | none=>none
     | false=>none
   | _=>none
 | _=>none
def xJ (es:List (AV×AV×Nat)) (i:Nat):Nat:=match es[i]? with
 | some x=>x.2.2
 | none=>0
def ux (C:lS) (h:bV) (t:Nat) (m k:AV):R2:=match C.T t with
 | none=>none
 | some tm=>match tm.kind,m with
   | .map kt el,.hm b=>match C.T el,h.get b with
     | some ti,some (.map es c)=>match sC C kt k with
       | false=>none
       | true=>match findKey k es 0 with
         | some (some (i,v))=>some (.kO [v,.int .i64 (xJ es i)],h.set b (.map (es.modify i λx=>(k,x.2)) c))
         | some none=>match asAgg ti ti.zero with
           | some z=>some (.kO [z,.int .i64 c],h.set b (.map (es++[(k,z,c)]) (c+1)))
           | none=>none
         | none=>none
     | _,_=>none
   | _,_=>none
def uc (h:bV) (m s x:AV):R2:=match m,s.int? with
 | .hm b,some (_,n)=>match h.get b with
   | some (.map es c)=>match x.Ap with
     | true=>match rQ n x es with
       | some es=>some (.undef,h.set b (.map es c))
       | none=>none
     | false=>none
   | _=>none
 | _,_=>none
def yB (h:bV) (t:AV) (i:Nat):R2:=match t with
 | .kO vs=>mD h vs[i]?
 | _=>none
def xo (m:mR):R2->R2
 | some (v,h)=>some (v,{ h with cT:=m })
 | none=>none
def vv (fa:kp) (call:sG) (h:bV) (f:AV) (args:List AV):R2:=match f with
 | .ly g a cp=>fL (a++args++cp) λargs=>match args.all AV.py with
   | true=>xo h.cT (call (fa.lr.elem g) g args { h with cT:=[] })
   | false=>none
 | _=>none
def p8 (C:lS) (fa:kp) (call:sG) (e:Env) (h:bV) (c:Call):R2:=match c.callee with
 | .builtin b=>nU b C c.argTypes.toList (c.args.toList.map (kz e)) h
 | .value f=>vv fa call h (kz e f) (c.args.toList.map (kz e))
 | .invoke ..=>none
structure Ctx where
 C:lS
 fa:kp
 call:sG
abbrev qB:=Ctx->Env->bV->Option Nat->R2
def Ih (x:Operand):qB:=λ_ e h _=>some (kz e x,h)
def Ij (c a b:Operand):qB:=λ_ e h _=>DP h (kz e c) (kz e a) (kz e b)
def LD (t:Nat):qB:=λX e h d=>Cc X.C X.fa d h t
def OE (t:Nat) (x:Operand):qB:=λX e h d=>JM X.C X.fa d h t (kz e x)
def EM (t:Nat) (ps:Array (Nat×Operand)):qB:=λX e h _=>CB X.C h t (ru e ps)
def w7 (t n:Nat) (ps:Array (Nat×Operand)):qB:=λX e h d=>uf X.C X.fa d h t n (ru e ps)
def wK (t:Nat) (a:Operand):qB:=λX e h _=>uV X.C h t (kz e a)
def zv (t:Nat) (a x:Operand):qB:=λX e h _=>xR X.C h t (kz e a) (kz e x)
def wY (x:Operand):qB:=λ_ e h _=>mD h (BD (kz e x))
def zL (op:BinOp) (t:Nat) (x y:Operand) (_:Nat):qB:=λX e h _=>mD h (binOp X.C op t (kz e x) (kz e y))
def Ud (op:UnOp) (_:Nat) (x:Operand):qB:=λ_ e h _=>mD h (unOp op (kz e x))
def yE (s d:Nat) (x:Operand):qB:=λX e h _=>vP X.C h s d (kz e x)
def wI (fn:Fn) (a c:Array Operand):qB:=λ_ e h _=>uo h fn (a.toList.map (kz e)) (c.toList.map (kz e))
def Eo (_:Nat):Option Operand->qB
 | none=>λ_ _ h _=>some (.hm h.size,h.push (.map [] 0))
 | some _=>λ_ _ _ _=>none
def xZ (t:Nat) (l c:Operand):qB:=λX e h d=>uY X.C h t (kz e l) (kz e c)
def rm (t:Nat) (x:Operand) (lo hi mx:Option Operand):qB:=λX e h _=>qR X.C h t (kz e x) (pt (kz e) lo) (pt (kz e) hi) (pt (kz e) mx)
def tb (t:Nat) (x:Operand) (f:Nat):qB:=λX e h _=>sd X.C h t (kz e x) f
def E7 (t:Nat) (x:Operand) (f:Nat):qB:=λX e h _=>BF X.C h t (kz e x) f
def qZ (t:Nat) (x i:Operand):qB:=λX e h _=>qh X.C h t (kz e x) (kz e i)
def zd (t:Nat) (x i:Operand):qB:=λX e h _=>xy X.C h t (kz e x) (kz e i)
def vi (t:Nat) (m k:Operand) (ok:Bool):qB:=λX e h _=>mD h (sY X.C t h (kz e m) (kz e k) ok)
def u5 (t:Nat) (m k x:Operand):qB:=λX e h _=>u9 X.C h t (kz e m) (kz e k) (kz e x)
def wG (t:Nat) (m k:Operand):qB:=λX e h _=>ux X.C h t (kz e m) (kz e k)
def w6 (_:Nat) (m s x:Operand):qB:=λ_ e h _=>uc h (kz e m) (kz e s) (kz e x)
def Bf (t:Operand) (i:Nat):qB:=λ_ e h _=>yB h (kz e t) i
def qC (c:Call):qB:=λX e h _=>p8 X.C X.fa X.call e h c
def YH:qB:=λ_ _ _ _=>none
def lu:Op->qB
 | .move x=>Ih x
 | .assign x=>Ih x
 | .pick c a b=>Ij c a b
 | .alloc t=>LD t
 | .box t x=>OE t x
 | .build t ps=>EM t ps
 | .buildSlice t n ps=>w7 t n ps
 | .load t a=>wK t a
 | .store t a x=>zv t a x
 | .nilCheck x=>wY x
 | .binOp op t x y u=>zL op t x y u
 | .unOp op t x=>Ud op t x
 | .convert s d x=>yE s d x
 | .makeFunc fn a c=>wI fn a c
 | .makeMap t r=>Eo t r
 | .makeSlice t l c=>xZ t l c
 | .slice t x lo hi mx=>rm t x lo hi mx
 | .fieldAddr t x f=>tb t x f
 | .field t x f=>E7 t x f
 | .indexAddr t x i=>qZ t x i
 | .index t x i=>zd t x i
 | .lookup t m k ok=>vi t m k ok
 | .mapUpdate t m k x=>u5 t m k x
 | .insert t m k x=>u5 t m k x
 | .mapEntry t m k=>wG t m k
 | .entryStore t m s x=>w6 t m s x
 | .extract t i=>Bf t i
 | .call c=>qC c
 | _=>YH
def GW (want:Bool):AV->Option Bool
 | .bool b=>some (Fa b want)
 | .kO []=>some false
 | _=>none
def kT (all:List Oper) (e:Env) (o:Oper):Option Bool :=
 match o.guard with
 | none=>some true
 | some (j,want)=>match all[j]? with
   | some o'=>match o'.dst with
     | some d=>GW want (nz e d)
     | none=>none
   | none=>none
def kN (e:Env) (o:Oper) (v:AV):Env :=
 match o.dst with
 | some d=>Fi e d v
 | none=>e
abbrev RE:=Option (Env×bV)
def rU (X:Ctx) (k:Env->bV->RE) (o:Oper) (e:Env) (h:bV):Option Bool->RE
 | none=>none
 | some true=>match lu o.op X e h o.dst with
   | some (v,h)=>fH h λh=>k (kN e o v) h
   | none=>none
 | some false=>k (kN e o (.kO [])) h
def zK (X:Ctx) (all:List Oper):List Oper->Env->bV->RE
 | [],e,h=>some (e,h)
 | o::rest,e,h=>rU X (zK X all rest) o e h (kT all e o)
def E2 (e:Env) (d:Nat):Option (AV×bV)->Bool
 | some (v,_)=>qI 8 v (nz e d)
 | none=>false
def again (X:Ctx) (all:List Oper) (e:Env) (h:bV) (i:Nat):Bool:=match all[i]? with
 | none=>false
 | some o=>match kT all e o with
   | none=>false
   | some false=>true
   | some true=>match o.dst with
     | none=>false
     | some d=>E2 e d (lu o.op X e h (some d))
def uI (X:Ctx) (all:List Oper):List (Nat×List Nat)->Env->bV->RE
 | [],e,h=>some (e,h)
 | (i,chk)::rest,e,h=>match all[i]? with
   | none=>none
   | some o=>rU X (λe h=>match chk.all (again X all e h) with
     | true=>uI X all rest e h
     | false=>none) o e h (kT all e o)
abbrev AH:=(Env->bV->Option (Ex×Env×bV))->Env->bV->Option (Ex×Env×bV)
def pP:Nat->AH
 | 0,_,_,_=>none
 | n+1,f,e,h=>match f e h with
   | some (.nf,e,h)=>pP n f e h
   | r=>r
abbrev RC:=Option (Ex×Env×bV)
abbrev sH:=od->Env->bV->RC
def ya:RE->RC
 | some (e,h)=>some (.nf,e,h)
 | none=>none
def zP (X:Ctx) (ops:Array Oper):sH:=λan e h=>match an with
 | .tG sch=>ya (uI X ops.toList sch e h)
 | _=>none
def Km (X:Ctx) (ops:Array Oper):sH:=λ_ e h=>ya (zK X ops.toList ops.toList e h)
def xz (X:Ctx) (ops:Array Oper):Bool->sH
 | true=>zP X ops
 | false=>Km X ops
def andThen (k:Env->bV->RC):RC->RC
 | some (.nf,e,h)=>k e h
 | r=>r
def qE (live:List Nat) (k:Env->bV->RC) (e:Env) (h:bV):RC:=AA live e λe=>xD live h.cT λm=>k e { h with cT:=m }
def zH (a b:sH):sH:=λan e h=>match an with
 | .seq live x y=>andThen (λe h=>qE live (b y) e h) (a x e h)
 | .sq x y=>andThen (b y) (a x e h)
 | _=>none
def DY (x y:Env->bV->RC) (e:Env) (h:bV) (c:AV):RC:=match c.bool? with
 | some true=>x e h
 | some false=>y e h
 | none=>none
def DZ (c:Operand) (a b:sH):sH:=λan e h=>match an with
 | .two x y=>DY (a x) (b y) e h (kz e c)
 | _=>none
def atEnd (id:Nat):RC->RC
 | some (.ext id',e,h)=>match Nat.beq id' id with
   | true=>some (.nf,e,h)
   | false=>some (.ext id',e,h)
 | r=>r
def xi (id:Nat) (a:sH):sH:=λan e h=>atEnd id (a an e h)
def Px (lp:AH) (a:sH):sH:=λan e h=>match an with
 | .loop live x=>lp (qE live (a x)) e h
 | _=>none
def mK (X:Ctx) (lp:AH):Code->sH
 | .skip=>λ_ e h=>some (.nf,e,h)
 | .region _ ops draw=>xz X ops draw
 | .seq a b=>zH (mK X lp a) (mK X lp b)
 | .cond c a b=>DZ c (mK X lp a) (mK X lp b)
 | .block id a=>xi id (mK X lp a)
 | .loop a=>Px lp (mK X lp a)
 | .exit id=>λ_ e h=>some (.ext id,e,h)
 | .scope a=>mK X lp a
 | .label _=>λ_ e h=>some (.nf,e,h)
 | .ret=>λ_ e h=>some (.ret,e,h)
 | _=>λ_ _ _=>none
inductive AP where
 | nil
 | fix (last:Option (AV×AV)) (left:List (AV×AV))
 | Cq (b clk:Nat) (seen:Option Nat)
structure It where
 d:Nat
 k:AP
def Hj (h:bV):AV->Option AP
 | .mC=>some .nil
 | .fm [] _=>some (.fix none [])
 | .fm [x] _=>some (.fix none [x])
 | .hm b=>match h.get b with
   | some (.map [] c)=>some (.Cq b c none)
   | some (.map [_] c)=>some (.Cq b c none)
   | _=>none
 | _=>none
def Fc (C:lS) (h:bV) (t:Nat) (x:AV):Option AP:=match C.T t with
 | some ti=>match ti.kind with
   | .map _ _=>Hj h x
   | _=>none
 | none=>none
def wa (h:bV):AP->Option (Option (AV×AV)×AP)
 | .nil=>some (none,.nil)
 | .fix last []=>some (none,.fix last [])
 | .fix _ (x::l)=>some (some x,.fix (some x) l)
 | .Cq b clk seen=>match h.get b with
   | some (.map es c)=>match Nat.beq c clk,es,seen with
     | true,[],s=>some (none,.Cq b clk s)
     | true,[(k,v,n)],none=>some (some (k,v),.Cq b clk (some n))
     | true,[(_,_,n)],some n'=>match Nat.beq n n' with
       | true=>some (none,.Cq b clk (some n'))
       | false=>none
     | _,_,_=>none
   | _=>none
def Aq (h:bV):AP->Option (AV×AV)
 | .fix (some x) _=>some x
 | .Cq b clk (some n)=>match h.get b with
   | some (.map [(k,v,n')] c)=>match Nat.beq c clk&&Nat.beq n' n with
     | true=>some (k,v)
     | false=>none
   | _=>none
 | _=>none
abbrev RI:=Option (Option It×Env×bV)
def xA (o:Oper):Bool:=match o.guard with
 | none=>true
 | some _=>false
def tO (it:Option It) (o:Oper):Bool:=match it,o.dst with
 | some i,some d=>!(Nat.beq i.d d)
 | _,_=>true
def Aw:Option (AV×AV)->AV
 | none=>.kO [.bool false]
 | some x=>.kO [.bool true,x.1,x.2]
def LB (h:bV) (o:Oper) (t:Nat) (k:Option It->Env->RI) (e:Env) (it:Option It):RI:=match it with
 | some i=>match Nat.beq i.d t&&tO (some i) o&&xA o with
   | true=>match wa h i.k with
     | some (r,k')=>k (some ⟨i.d,k'⟩) (kN e o (Aw r))
     | none=>none
   | false=>none
 | none=>none
def He (h:bV) (o:Oper) (t:Nat) (k:Option It->Env->RI) (e:Env) (it:Option It):RI:=match it with
 | some i=>match Nat.beq i.d t&&tO (some i) o&&xA o with
   | true=>match Aq h i.k with
     | some x=>k (some i) (kN e o (.kO [x.1,x.2]))
     | none=>none
   | false=>none
 | none=>none
def Hz (o:Oper) (x:Option AP) (k:Option It->Env->RI) (e:Env):RI:=match x,o.dst,xA o with
 | some l,some d,true=>k (some ⟨d,l⟩) (Fi e d .undef)
 | _,_,_=>none
inductive OpK where
 | range (t:Nat) (x:Operand)
 | next (t:Nat)
 | entry (t:Nat)
 | plain
 | bad
def Fb:Op->OpK
 | .range t x=>.range t x
 | .next (.tmp t) false=>.next t
 | .next _ _=>.bad
 | .entry (.tmp t)=>.entry t
 | .entry _=>.bad
 | _=>.plain
def FM (X:Ctx) (it:Option It) (k:Env->bV->RI) (o:Oper) (e:Env) (h:bV):Option Bool->RI
 | none=>none
 | some true=>match lu o.op X e h o.dst with
   | some (v,h)=>fH h λh=>k (kN e o v) h
   | none=>none
 | some false=>k (kN e o (.kO [])) h
def zA (X:Ctx) (all:List Oper):List Oper->Option It->Env->bV->RI
 | [],it,e,h=>some (it,e,h)
 | o::rest,it,e,h=>match Fb o.op with
   | .range t x=>Hz o (Fc X.C h t (kz e x)) (λit e=>zA X all rest it e h) e
   | .next t=>LB h o t (λit e=>zA X all rest it e h) e it
   | .entry t=>He h o t (λit e=>zA X all rest it e h) e it
   | .plain=>match tO it o with
     | true=>FM X it (λe h=>zA X all rest it e h) o e h (kT all e o)
     | false=>none
   | .bad=>none
abbrev vT:=Option (Ex×Option It×Env×bV)
def TY:RI->vT
 | some (it,e,h)=>some (.nf,it,e,h)
 | none=>none
def D5 (k:Option It->Env->bV->vT):vT->vT
 | some (.nf,it,e,h)=>k it e h
 | r=>r
def xx (live:List Nat) (k:Env->bV->vT) (e:Env) (h:bV):vT:=AA live e λe=>xD live h.cT λm=>k e { h with cT:=m }
def SU (id:Nat):vT->vT
 | some (.ext id',it,e,h)=>match Nat.beq id' id with
   | true=>some (.nf,it,e,h)
   | false=>some (.ext id',it,e,h)
 | r=>r
def BW:Nat->(Option It->Env->bV->vT)->Option It->Env->bV->vT
 | 0,_,_,_,_=>none
 | n+1,f,it,e,h=>match f it e h with
   | some (.nf,it,e,h)=>BW n f it e h
   | r=>r
abbrev zk:=od->Option It->Env->bV->vT
def Tm (a b:zk):zk:=λan it e h=>match an with
 | .seq live x y=>D5 (λit e h=>xx live (b y it) e h) (a x it e h)
 | .sq x y=>D5 (b y) (a x it e h)
 | _=>none
def QO (c:Operand) (a b:zk):zk:=λan it e h=>match an with
 | .two x y=>match (kz e c).bool? with
   | some true=>a x it e h
   | some false=>b y it e h
   | none=>none
 | _=>none
def L7 (it:Option It):RC->vT
 | some (x,e,h)=>some (x,it,e,h)
 | none=>none
def oG (X:Ctx) (n:Nat):Code->zk
 | .skip=>λ_ it e h=>some (.nf,it,e,h)
 | .region _ ops false=>λ_ it e h=>TY (zA X ops.toList ops.toList it e h)
 | .region _ ops true=>λan it e h=>match ops.toList.all (tO it) with
   | true=>L7 it (zP X ops an e h)
   | false=>none
 | .seq a b=>Tm (oG X n a) (oG X n b)
 | .cond c a b=>QO c (oG X n a) (oG X n b)
 | .block id a=>λan it e h=>SU id (oG X n a an it e h)
 | .loop a=>λan it e h=>match an with
   | .loop live x=>BW n (λit e h=>xx live (oG X n a x it) e h) it e h
   | _=>none
 | .exit id=>λ_ it e h=>some (.ext id,it,e,h)
 | .scope a=>oG X n a
 | .label _=>λ_ it e h=>some (.nf,it,e,h)
 | .ret=>λ_ it e h=>some (.ret,it,e,h)
 | _=>λ_ _ _ _=>none
def KI:vT->RC
 | some (x,_,e,h)=>some (x,e,h)
 | none=>none
def BJ (X:Ctx) (n:Nat) (c:Code) (an:od) (e:Env) (h:bV):Bool->RC
 | true=>KI (oG X n c an none e h)
 | false=>mK X (pP n) c an e h
def J6 (C:lS) (e:Env) (h:bV):ResultVar->Option AV
 | .tmp t=>some (kz e (.tmp t))
 | .cell a t=>match C.T t with
   | some ti=>sD (kz e (.tmp a)) h ti
   | none=>none
def CS (C:lS) (e:Env) (h:bV):List ResultVar->Option (List AV)
 | []=>some []
 | r::l=>match J6 C e h r with
   | none=>none
   | some v=>match CS C e h l with
     | none=>none
     | some l=>some (v::l)
def params:Nat->List AV->Env
 | _,[]=>[]
 | i,v::l=>(i,v)::params (i+1) l
def result:List AV->AV
 | [v]=>v
 | vs=>.kO vs
def leave (C:lS) (res:List ResultVar):RC->R2
 | some (.nf,e,h)=>leave1 e h
 | some (.ret,e,h)=>leave1 e h
 | _=>none
where
 leave1 (e:Env) (h:bV):R2:=match CS C e h res with
  | some vs=>match vs.all AV.py with
    | true=>some (result vs,h)
    | false=>none
  | none=>none
def u2 (C:lS) (fa:kp) (call:sG) (n:Nat) (args:List AV) (h:bV):Option (AV×bV) :=
 leave C fa.res (BJ ⟨C,fa,call⟩ n fa.body fa.oL (params 0 args) h fa.iter)
abbrev m0:=Nat->Option kp
abbrev mM:=Nat->Option (Bool->List AV->bV->Option (AV×bV))
def oi (h:bV) (args:List AV):Option (List AV):=match args.any AV.sQ with
 | true=>kP (freeze true h 8) args
 | false=>some args
def frozen:bV->R2->R2
 | h,some (v,h')=>match freeze false h' 8 v with
   | none=>none
   | some v=>some (v,h)
 | _,none=>none
def ub (C:lS) (fa:kp) (call:sG) (lp:Nat) (shd:Bool) (args:List AV) (h:bV):Option (AV×bV) :=
 match shd with
 | true=>u2 C fa call lp args h
 | false=>match oi h args with
   | none=>none
   | some args'=>frozen h (u2 C fa call lp args' bV.empty)
def nH (C:lS) (F:m0) (P:mM):Nat->sG
 | 0,_,_,_,_=>none
 | n+1,shd,f,args,h=>match P f with
   | some p=>p shd args h
   | none=>match F f with
     | none=>none
     | some fa=>ub C fa (nH C F P n) n shd args h
end Go.Sx
namespace Go.Sx
open Go
def qm:oW->Nat->Nat->Prop
 | .nil,_,_=>False
 | .exact n,_,c=>c=n
 | .oh,l,c=>l<=c
 | .sO,l,c=>l<=c
def rz:oW->Bool
 | .sO=>true
 | _=>false
def OD (ents:Array MapEntry) (clk:Nat):Prop:=(∀ (i:Nat) (e:MapEntry),ents[i]?=some e->e.born<clk)/\(ents.toList.map (·.born)).Nodup
inductive PR (w:World) (T:Bool->Nat->Prop):Bool->AV->Value->Prop
 | undef (m:Bool) (v:Value) (h:v.oneCell'=true):PR w T m .undef v
 | bool (m b:Bool):PR w T m (.bool b) (.bool b)
 | int (m:Bool) (k:IntKind) (n:Int):PR w T m (.int k n) (.int k n)
 | str (m:Bool) (s:List UInt8) (b:ByteArray) (h:b.data.toList=s):PR w T m (.str s) (.string b)
 | l3 (m:Bool):PR w T m .l3 (.pointer none)
 | ip (m:Bool) (cells:List AV) (off:Nat) (sn:Bool) (B base:Nat) (c:Array Value) (e:TypeId) (fr:Nat×Nat) (f:Nat->Value) (hm:sn=true->m=true)
    (hB:w.heap[B]?=some (.cells c e fr)) (hI:T sn B)
    (hc:∀ (i:Nat) (x:AV),cells[i]?=some x->c[base+i]?=some (f i)) (h1:∀ (i:Nat) (x:AV),cells[i]?=some x->(f i).oneCell'=true)
    (hr:∀ (i:Nat) (x:AV),cells[i]?=some x->PR w T sn x (f i)):PR w T m (.ip cells off sn) (.pointer (some ⟨B,base+off,none⟩))
 | slnil (m:Bool):PR w T m (.sl [] .nil) (.slice none 0 0)
 | po (m:Bool) (cap:oW) (a:Addr) (c:Nat) (hm:rz cap=true->m=true) (h:qm cap 0 c):PR w T m (.sl [] cap) (.slice (some a) 0 c)
 | sl (m:Bool) (xs:List (List AV)) (cap:oW) (B base:Nat) (c:Array Value) (e:TypeId) (fr:Nat×Nat) (cap' esz:Nat) (f:Nat->Nat->Value)
    (hm:rz cap=true->m=true)
    (hB:w.heap[B]?=some (.cells c e fr)) (hI:T (rz cap) B) (hcap:qm cap xs.length cap') (hle:xs.length<=cap')
    (hz:∀ (i:Nat) (cs:List AV),xs[i]?=some cs->cs.length=esz)
    (hc:∀ (i:Nat) (cs:List AV) (j:Nat) (x:AV),xs[i]?=some cs->cs[j]?=some x->c[base+i*esz+j]?=some (f i j))
    (h1:∀ (i:Nat) (cs:List AV) (j:Nat) (x:AV),xs[i]?=some cs->cs[j]?=some x->(f i j).oneCell'=true)
    (hr:∀ (i:Nat) (cs:List AV) (j:Nat) (x:AV),xs[i]?=some cs->cs[j]?=some x->PR w T (rz cap) x (f i j)) :
    PR w T m (.sl xs cap) (.slice (some ⟨B,base,none⟩) xs.length cap')
 | mC (m:Bool):PR w T m .mC (.map none)
 | fm (m:Bool) (es:List (AV×AV)) (sn:Bool) (r:Nat) (ents:Array MapEntry) (clk:Nat) (hm:sn=true->m=true) (hB:w.heap[r]?=some (.map ents clk)) (hI:T sn r)
    (hl:es.length=ents.size) (hy:OD ents clk) (hko:∀ (i:Nat) (p:AV×AV),es[i]?=some p->p.1.rI=true)
    (hk:∀ (i:Nat) (p:AV×AV) (e:MapEntry),es[i]?=some p->ents[i]?=some e->PR w T sn p.1 e.key)
    (hv:∀ (i:Nat) (p:AV×AV) (e:MapEntry),es[i]?=some p->ents[i]?=some e->PR w T sn p.2 e.val):PR w T m (.fm es sn) (.map (some r))
 | ny (m:Bool):PR w T m .ny .nilFunc
 | ly (m:Bool) (g:Nat) (a c:List AV) (a' c':Array Value) (ha:a.length=a'.size) (hc:c.length=c'.size)
    (hra:∀ (i:Nat) (x:AV) (y:Value),a[i]?=some x->a'[i]?=some y->PR w T m x y) (hrc:∀ (i:Nat) (x:AV) (y:Value),c[i]?=some x->c'[i]?=some y->PR w T m x y) :
    PR w T m (.ly g a c) (.func (.func g) a' c')
 | agg (m:Bool) (l:List AV) (vs:Array Value) (hl:l.length=vs.size) (h1:∀ (i:Nat) (y:Value),vs[i]?=some y->y.oneCell'=true)
    (hr:∀ (i:Nat) (x:AV) (y:Value),l[i]?=some x->vs[i]?=some y->PR w T m x y):PR w T m (.agg l) (.agg vs)
def PR.mono {w w':World} {T T':Bool->Nat->Prop} {m:Bool} {v:AV} {u:Value} (h:PR w T m v u)
  (hI:∀ s B,T s B->T' s B) (hw:∀ s B,T s B->w'.heap[B]?=w.heap[B]?):PR w' T' m v u:=by
 induction h with
 | undef m v h=>exact .undef m v h
 | bool m b=>exact .bool m b
 | int m k n=>exact .int m k n
 | str m s b h=>exact .str m s b h
 | l3 m=>exact .l3 m
 | ip m cells off sn B base c e fr f hm hB hB' hc h1 hr ih=>exact .ip m cells off sn B base c e fr f hm (by grind) (hI _ B hB') hc h1 ih
 | slnil m=>exact .slnil m
 | po m cap a c hm h=>exact .po m cap a c hm h
 | sl m xs cap B base c e fr cap' esz f hm hB hB' hcap hle hz hc h1 hr ih =>
   exact .sl m xs cap B base c e fr cap' esz f hm (by grind) (hI _ B hB') hcap hle hz hc h1 ih
 | mC m=>exact .mC m
 | fm m es sn r ents clk hm hB hB' hl hy hko hk hv ihk ihv=>exact .fm m es sn r ents clk hm (by grind) (hI _ r hB') hl hy hko ihk ihv
 | ny m=>exact .ny m
 | ly m g a c a' c' ha hc hra hrc iha ihc=>exact .ly m g a c a' c' ha hc iha ihc
 | agg m l vs hl h1 hr ih=>exact .agg m l vs hl h1 ih
def PR.up {w:World} {T:Bool->Nat->Prop} {m:Bool} {v:AV} {u:Value} (h:PR w T m v u) (hm:m=false):PR w T true v u:=by
 induction h with
 | undef m v h=>exact .undef _ v h
 | bool m b=>exact .bool _ b
 | int m k n=>exact .int _ k n
 | str m s b h=>exact .str _ s b h
 | l3 m=>exact .l3 _
 | ip m cells off sn B base c e fr f hm hB hB' hc h1 hr ih=>exact .ip _ cells off sn B base c e fr f (λ_=>rfl) hB hB' hc h1 hr
 | slnil m=>exact .slnil _
 | po m cap a c hm h=>exact .po _ cap a c (λ_=>rfl) h
 | sl m xs cap B base c e fr cap' esz f hm hB hB' hcap hle hz hc h1 hr ih=>exact .sl _ xs cap B base c e fr cap' esz f (λ_=>rfl) hB hB' hcap hle hz hc h1 hr
 | mC m=>exact .mC _
 | fm m es sn r ents clk hm hB hB' hl hy hko hk hv ihk ihv=>exact .fm _ es sn r ents clk (λ_=>rfl) hB hB' hl hy hko hk hv
 | ny m=>exact .ny _
 | ly m g a c a' c' ha hc hra hrc iha ihc=>exact .ly _ g a c a' c' ha hc (λi x y hx hy=>iha i x y hx hy hm) (λi x y hx hy=>ihc i x y hx hy hm)
 | agg m l vs hl h1 hr ih=>exact .agg _ l vs hl h1 (λi x y hx hy=>ih i x y hx hy hm)
def PR.GO {w:World} {T:Bool->Nat->Prop} {m:Bool} {v:AV} {u:Value} (h:PR w T m v u):PR w T true v u:=by
 cases m
 ·exact h.up rfl
 ·exact h
structure Loc where
 B:Nat
 base:Nat
 cap:Nat
structure Ga where
 w:World
 T:Bool->Nat->Prop
 h:bV
 pi:Nat->Option Loc
 L:Nat->Option Nat
def AV.mF:AV->Bool
 | .bool _ | .int _ _ | .str _ | .l3 | .ip _ _ _ | .sl _ _ | .mC | .fm _ _ | .ny=>true
 | _=>false
def AV.oF:AV->Bool
 | .la _ _ | .kO _=>false
 | _=>true
inductive VR (G:Ga):AV->Value->Prop
 | undef (v:Value):VR G .undef v
 | lA {v:AV} {u:Value} (hp:v.mF=true) (h:PR G.w G.T true v u):VR G v u
 | ptr (b g i o:Nat) (a:Addr) (hb:b<G.h.size) (hg:∀ g0 z xs,G.h.get b=some (.lM g0 z xs)->g<=g0)
    (h:∀ z xs,G.h.get b=some (.lM g z xs)->∃ l,G.pi b=some l/\a=⟨l.B,l.base+i*z+o,none⟩) :
    VR G (.ptr b g i o) (.pointer (some a))
 | hs (b g off len:Nat) (a:Addr) (cap':Nat) (hb:b<G.h.size) (hg:∀ g0 z xs,G.h.get b=some (.lM g0 z xs)->g<=g0) (hle:len<=cap')
    (h:∀ z xs,G.h.get b=some (.lM g z xs)->∃ l,G.pi b=some l/\off+cap'=l.cap/\(0<cap'->a=⟨l.B,l.base+off*z,none⟩)) :
    VR G (.hs b g off len) (.slice (some a) len cap')
 | hm (b r:Nat) (hb:b<G.h.size) (h:∀ es c,G.h.get b=some (.map es c)->∃ l,G.pi b=some l/\r=l.B):VR G (.hm b) (.map (some r))
 | la (d o B:Nat) (hd:G.L d=some B):VR G (.la d o) (.pointer (some ⟨B,o,none⟩))
 | ly (g:Nat) (a c:List AV) (a' c':Array Value) (ha:a.length=a'.size) (hc:c.length=c'.size) (hna:∀ x∈a,x.oF=true) (hnc:∀ x∈c,x.oF=true)
    (hra:∀ (i:Nat) (x:AV) (y:Value),a[i]?=some x->a'[i]?=some y->VR G x y) (hrc:∀ (i:Nat) (x:AV) (y:Value),c[i]?=some x->c'[i]?=some y->VR G x y) :
    VR G (.ly g a c) (.func (.func g) a' c')
 | agg (l:List AV) (vs:Array Value) (hl:l.length=vs.size) (hn:∀ x∈l,x.oF=true) (h1:∀ (i:Nat) (y:Value),vs[i]?=some y->y.oneCell'=true)
    (hr:∀ (i:Nat) (x:AV) (y:Value),l[i]?=some x->vs[i]?=some y->VR G x y):VR G (.agg l) (.agg vs)
 | kO (l:List AV) (vs:Array Value) (hl:l.length=vs.size) (hr:∀ (i:Nat) (x:AV) (y:Value),l[i]?=some x->vs[i]?=some y->VR G x y):VR G (.kO l) (.tuple vs)
structure Ext (G G':Ga):Prop where
 T:∀ s B,G.T s B->G'.T s B
 mj:∀ s B,G.T s B->G'.w.heap[B]?=G.w.heap[B]?
 size:G.h.size<=G'.h.size
 lM:∀ b,b<G.h.size->∀ g' z' xs',G'.h.get b=some (.lM g' z' xs') ->
  ∃ g z xs,G.h.get b=some (.lM g z xs)/\g<=g'/\(g=g'->z=z'/\∀ l,G.pi b=some l->G'.pi b=some l)
 map:∀ b,b<G.h.size->∀ es' c',G'.h.get b=some (.map es' c')->∃ es c,G.h.get b=some (.map es c)/\∀ l,G.pi b=some l->G'.pi b=some l
 cT:∀ d B,G.L d=some B->G'.L d=some B
def VR.mono {G G':Ga} (E:Ext G G') {v:AV} {u:Value} (h:VR G v u):VR G' v u:=by
 induction h with
 | undef v=>exact .undef v
 | lA hp h=>exact .lA hp (h.mono E.T E.mj)
 | ptr b g i o a hb hg h =>
   refine .ptr b g i o a (Nat.lt_of_lt_of_le hb E.size) ?_ ?_
   ·intro g0 z xs hx
    obtain ⟨g1,z1,xs1,h1,hle,_⟩:=E.lM b hb g0 z xs hx
    grind
   ·intro z xs hx
    obtain ⟨g1,z1,xs1,h1,hle,heq⟩:=E.lM b hb g z xs hx
    grind
 | hs b g off len a cap' hb hg hle' h =>
   refine .hs b g off len a cap' (Nat.lt_of_lt_of_le hb E.size) ?_ hle' ?_
   ·intro g0 z xs hx
    obtain ⟨g1,z1,xs1,h1,hle,_⟩:=E.lM b hb g0 z xs hx
    grind
   ·intro z xs hx
    obtain ⟨g1,z1,xs1,h1,hle,heq⟩:=E.lM b hb g z xs hx
    grind
 | hm b r hb h =>
   refine .hm b r (Nat.lt_of_lt_of_le hb E.size) ?_
   intro es c hx
   obtain ⟨es1,c1,h1,hp⟩:=E.map b hb es c hx
   grind
 | la d o B hd=>exact .la d o B (E.cT d B hd)
 | ly g a c a' c' ha hc hna hnc hra hrc iha ihc=>exact .ly g a c a' c' ha hc hna hnc iha ihc
 | agg l vs hl hn h1 hr ih=>exact .agg l vs hl hn h1 ih
 | kO l vs hl hr ih=>exact .kO l vs hl ih
def Ext.refl (G:Ga):Ext G G where
 T:=λ_ _ h=>h
 mj:=λ_ _ _=>rfl
 size:=Nat.le_refl _
 lM:=λ_ _ g z xs h=>⟨g,z,xs,h,Nat.le_refl _,λ_=>⟨rfl,λ_ h=>h⟩⟩
 map:=λ_ _ es c h=>⟨es,c,h,λ_ h=>h⟩
 cT:=λ_ _ h=>h
theorem Ext.trans {A B C:Ga} (h:Ext A B) (k:Ext B C):Ext A C where
 T:=λs b hb=>k.T s b (h.T s b hb)
 mj:=λs b hb=>(k.mj s b (h.T s b hb)).trans (h.mj s b hb)
 size:=Nat.le_trans h.size k.size
 lM:=by
  intro b hb g z xs hx
  obtain ⟨g1,z1,xs1,h1,hle,he⟩:=k.lM b (Nat.lt_of_lt_of_le hb h.size) g z xs hx
  obtain ⟨g2,z2,xs2,h2,hle2,he2⟩:=h.lM b hb g1 z1 xs1 h1
  grind
 map:=by
  intro b hb es c hx
  obtain ⟨es1,c1,h1,p1⟩:=k.map b (Nat.lt_of_lt_of_le hb h.size) es c hx
  obtain ⟨es2,c2,h2,p2⟩:=h.map b hb es1 c1 h1
  grind
 cT:=λd B hd=>k.cT d B (h.cT d B hd)
theorem PR.oF {w:World} {T:Bool->Nat->Prop} {m:Bool} {v:AV} {u:Value} (h:PR w T m v u):v.oF=true:=by cases h<;>rfl
def PR.y5 {w:World} {T:Bool->Nat->Prop} {m:Bool} {l:List AV} {vs:Array Value} (hl:l.length=vs.size) (h:∀ (i:Nat) (x:AV) (y:Value),l[i]?=some x->vs[i]?=some y->PR w T m x y):∀ x∈l,x.oF=true:=by
 intro x hx
 obtain ⟨i,hi⟩:=List.getElem?_of_mem hx
 have hlt:i<vs.size:=by grind
 exact (h i x vs[i] hi (by simp)).oF
structure VC (G:Ga) (x:AV) (v:Value):Prop where
 vr:VR G x v
 na:x.oF=true
def VC.mono {G G':Ga} (E:Ext G G') {x:AV} {v:Value} (h:VC G x v):VC G' x v:=⟨h.vr.mono E,h.na⟩
def p6 (G:Ga) (l:Loc) (z:Nat) (xs:List (List AV)):Prop :=
 ∃ c e,G.w.heap[l.B]?=some (.cells c e (0,0))/\xs.length<=l.cap/\l.base+l.cap*z<=c.size/\(∀ (i:Nat) (cs:List AV),xs[i]?=some cs->cs.length=z) /\
   (∀ (i:Nat) (cs:List AV) (j:Nat) (x:AV),xs[i]?=some cs->cs[j]?=some x->∃ v,c[l.base+i*z+j]?=some v/\v.oneCell'=true/\VC G x v)
def rG (es:List (AV×AV×Nat)) (clk:Nat):Prop:=(∀ p∈es,p.2.2<clk)/\(es.map (·.2.2)).Nodup
def rG.SM {es:List (AV×AV×Nat)} {ents:Array MapEntry} {clk:Nat} (h:rG es clk) (hlen:es.length=ents.size) (hb:∀ (i:Nat) (p:AV×AV×Nat) (e:MapEntry),es[i]?=some p->ents[i]?=some e->p.2.2=e.born):OD ents clk:=by
 have hm:es.map (·.2.2)=ents.toList.map (·.born):=by
  apply List.ext_getElem?
  intro i
  simp only [List.getElem?_map,Array.getElem?_toList]
  cases hp:es[i]? with
  | none=>rw [Array.getElem?_eq_none (by rw [<- hlen]; exact List.getElem?_eq_none_iff.1 hp)]; rfl
  | some p =>
    have hi:i<ents.size:=by rw [<- hlen]; exact (List.getElem?_eq_some_iff.1 hp).1
    have he:ents[i]?=some ents[i]:=by simp
    rw [he]
    exact congrArg some (hb i p _ hp he)
 refine ⟨λi e he=>?_,hm▸h.2⟩
 have hi:i<es.length:=by rw [hlen]; exact (Array.getElem?_eq_some_iff.1 he).1
 have hei:es[i]?=some es[i]:=by simp
 rw [<- hb i _ e hei he]
 exact h.1 _ (List.getElem_mem hi)
def tc (G:Ga) (r:Nat) (es:List (AV×AV×Nat)) (clk:Nat):Prop :=
 ∃ ents,G.w.heap[r]?=some (.map ents clk)/\es.length=ents.size/\rG es clk /\
   ∀ (i:Nat) (p:AV×AV×Nat) (e:MapEntry),es[i]?=some p->ents[i]?=some e->p.1.rI=true/\PR G.w G.T false p.1 e.key/\VC G p.2.1 e.val/\p.2.2=e.born
def wP (G:Ga) (B:Nat) (cs:List AV):Prop :=
 ∃ c e,G.w.heap[B]?=some (.cells c e (0,0))/\c.size=cs.length/\(∀ (i:Nat) (x:AV) (v:Value),cs[i]?=some x->c[i]?=some v->VC G x v)/\(∀ (i:Nat) (v:Value),c[i]?=some v->v.oneCell'=true)
structure WR (G:Ga):Prop where
 lM:∀ b l g z xs,G.pi b=some l->G.h.get b=some (.lM g z xs)->p6 G l z xs
 map:∀ b l es c,G.pi b=some l->G.h.get b=some (.map es c)->tc G l.B es c
 loc:∀ d B cs,G.L d=some B->lT G.h.cT d=some cs->wP G B cs
 mQ:∀ b l,G.pi b=some l->l.B<G.w.heap.size/\b<G.h.size
 oI:∀ b b' l l',G.pi b=some l->G.pi b'=some l'->l.B=l'.B->b=b'
 sf:∀ s b l,G.pi b=some l->¬ G.T s l.B
 qt:∀ d d' B,G.L d=some B->G.L d'=some B->d=d'
 LT:∀ s d B,G.L d=some B->¬ G.T s B
 qU:∀ d B b l,G.L d=some B->G.pi b=some l->B≠l.B
 nL:∀ d B,G.L d=some B->B<G.w.heap.size/\(lT G.h.cT d).isSome=true
 pb:∀ s B,G.T s B->B<G.w.heap.size
 lo:G.h.lo<=G.h.size
 lt:∀ b o,G.h.get b=some o->b<G.h.size
def PR.zo {G:Ga} {m:Bool} {v:AV} {u:Value} (h:PR G.w G.T m v u):VR G v u:=by
 have h':=h.GO
 clear h
 generalize hm:true=m' at h'
 induction h' with
 | undef m v h=>exact .undef v
 | bool m b=>exact .lA rfl (.bool _ b)
 | int m k n=>exact .lA rfl (.int _ k n)
 | str m s b h=>exact .lA rfl (.str _ s b h)
 | l3 m=>exact .lA rfl (.l3 _)
 | ip m cells off sn B base c e fr f hm' hB hB' hc h1 hr ih=>exact .lA rfl (.ip _ cells off sn B base c e fr f (λ_=>rfl) hB hB' hc h1 hr)
 | slnil m=>exact .lA rfl (.slnil _)
 | po m cap a c hm' h=>exact .lA rfl (.po _ cap a c (λ_=>rfl) h)
 | sl m xs cap B base c e fr cap' esz f hm' hB hB' hcap hle hz hc h1 hr ih=>exact .lA rfl (.sl _ xs cap B base c e fr cap' esz f (λ_=>rfl) hB hB' hcap hle hz hc h1 hr)
 | mC m=>exact .lA rfl (.mC _)
 | fm m es sn r ents clk hm' hB hB' hl hy hko hk hv ihk ihv=>exact .lA rfl (.fm _ es sn r ents clk (λ_=>rfl) hB hB' hl hy hko hk hv)
 | ny m=>exact .lA rfl (.ny _)
 | ly m g a c a' c' ha hc hra hrc iha ihc=>exact .ly g a c a' c' ha hc (PR.y5 ha hra) (PR.y5 hc hrc) (λi x y hx hy=>iha i x y hx hy hm) (λi x y hx hy=>ihc i x y hx hy hm)
 | agg m l vs hl h1 hr ih=>exact .agg l vs hl (PR.y5 hl hr) h1 (λi x y hx hy=>ih i x y hx hy hm)
def PR.A2 {G:Ga} {m:Bool} {v:AV} {u:Value} (h:PR G.w G.T m v u):VC G v u:=⟨h.zo,h.oF⟩
end Go.Sx
namespace Go.Sx
open Go
def Je:TypeDesc->Bool
 | .struct _ | .array _ _=>true
 | _=>false
def Uc (P:Program) (d:TypeDesc):TK->Prop
 | .bool=>d=.bool
 | .int k=>d=.int k
 | .str=>d=.string
 | .ptr=>∃ e,d=.pointer e
 | .slice e=>d=.slice e
 | .array n e=>d=.array n e
 | .map k e=>d=.map k e
 | .struct fs=>∃ F,d=.struct F/\fs=F.toList.map (λf=>(f.offset,f.type))/\∀ f∈F.toList,∃ i,P.info? f.type=some i/\i.size≠0
 | .func=>∃ a b c,d=.func a b c
 | .other=>True
def Oh {t:TK} {a:AV} (h:tw t a=true):vE a=true:=by
 cases t<;>cases a<;>simp_all [tw,vE]
def zi:∀ {ts:List TK} {l:List AV},fitAll ts l=true->∀ x∈l,vE x=true
 | [],[],_,x,hx=>by cases hx
 | t::ts,a::l,h,x,hx=>by
   simp only [fitAll,Bool.and_eq_true] at h
   rcases List.mem_cons.1 hx with rfl | hx
   ·exact Oh h.1
   ·exact zi h.2 x hx
 | [],_::_,h,_,_=>by cases h
 | _::_,[],h,_,_=>by cases h
structure pj (P:Program) (t:Nat) (ti:TI):Prop where
 info:∃ i z,P.info? t=some i/\i.size=ti.size/\i.bytes=ti.bytes/\i.zero=some z/\ti.zero=z.cells.toList.map EL/\z.cells.size=ti.size /\
  (∀ c∈z.cells.toList,c.oneCell'=true)/\(ti.agg=true->∃ cs,z=.agg cs)/\(ti.agg=false->z.oneCell'=true)
 desc:∃ d,P.underlying t=some d/\Je d=ti.agg/\Uc P d ti.kind
 bytes:ti.bytes<=1048576
 guard:ti.flat=true->P.eqGuardType P.depth t=false
 flat:ti.flat=true->ti.agg=true->∀ (l m:List AV) (xs ys:Array Value) (b:Bool) (w:World) (T:Bool->Nat->Prop),fitAll ti.sc l=true->l.length=ti.size->m.length=ti.size ->
  PR w T true (.agg l) (.agg xs)->PR w T true (.agg m) (.agg ys)->nR l m=some b->(Op.equalIn 10000 t (.agg xs) (.agg ys)).run P w=.ok b w
 key:ti.flat=true->ti.agg=true->∀ (e:Bool) (xs:Array Value) (w:World),xs.size=ti.size->(Instr.checkKey e 10000 t (.agg xs)).run P w=.ok () w
structure mn (P:Program) (C:lS):Prop where
 ty:∀ t ti,C.T t=some ti->pj P t ti
section runs
variable {P:Program} {t:Nat} {ti:TI}
theorem pj.isAgg (h:pj P t ti) (w:World):(isAgg t).run P w=.ok ti.agg w:=by
 obtain ⟨d,hd,ha,_⟩:=h.desc
 unfold Go.isAgg
 rw [Sem.run_bind,run_underlying hd w]
 rw [<- ha]
 cases d<;>rfl
theorem pj.sizeOf (h:pj P t ti) (w:World):(sizeOf t).run P w=.ok ti.size w:=by
 obtain ⟨i,z,hi,hs,_⟩:=h.info
 simp [Go.sizeOf,typeInfo,hi,hs]
def pj.MG (h:pj P t ti):(P.info? t).map (·.size)=some ti.size:=by
 obtain ⟨i,z,hi,hs,_⟩:=h.info
 grind
def zZ (R:AV->Value->Prop) (cs:List AV) (c:Array Value) (base:Nat):Prop :=
 ∀ i x,cs[i]?=some x->∃ u,c[base+i]?=some u/\u.oneCell'=true/\R x u
theorem re (B o n:Nat):(⟨B,o,none⟩:Addr).add n=⟨B,o+n,none⟩:=by
 grind [Addr.add]
theorem DB (w:World) (B base:Nat) (c:Array Value) (e:TypeId) (fr:Nat×Nat) (hB:w.heap[B]?=some (.cells c e fr)) (n:Nat) (hn:base+n<=c.size) :
  (loadCells ⟨B,base,none⟩ n).run P w=.ok (c.extract base (base+n)) w:=by
 have h:=run_loadCells_list (P:=P) w ⟨B,base,none⟩ (c.extract base (base+n)).toList (λj v hv=>by
  rw [re,cell_of_row w B (base+j) c e fr hB]
  grind)
 have hl:(c.extract base (base+n)).toList.length=n:=by grind
 rw [hl,Array.toArray_toList] at h
 exact h
def AU {cs:List AV} {o:Nat} {l:List AV} (ha:ti.agg=true) (hp:part ti cs o=some (.agg l)):l=(cs.drop o).take ti.size/\l.length=ti.size/\(ti.size=0\/o+ti.size<=cs.length):=by
 simp only [part,ha,qO,zr] at hp
 split at hp
 ·rename_i hb
  simp only [Option.some.injEq,AV.agg.injEq] at hp
  subst hp
  simp only [Nat.beq_eq] at hb
  grind
 grind
def Gp (hT:pj P t ti) {w:World} {B base o:Nat} {c:Array Value} {e:TypeId} {fr:Nat×Nat} {R:AV->Value->Prop} {cs:List AV} {v:AV}
  (hB:w.heap[B]?=some (.cells c e fr)) (hU:zZ R cs c base) (hp:part ti cs o=some v) :
  ∃ u,(loadVar t ⟨B,base+o,none⟩).run P w=.ok u w /\
    ((∃ l vs,ti.agg=true/\v=.agg l/\u=.agg vs/\l.length=ti.size/\l.length=vs.size/\(∀ (i:Nat) (y:Value),vs[i]?=some y->y.oneCell'=true)/\∀ (i:Nat) (x:AV) (y:Value),l[i]?=some x->vs[i]?=some y->R x y)
      \/ (ti.agg=false/\u.oneCell'=true/\R v u)):=by
 cases ha:ti.agg with
 | false =>
   simp only [part,ha] at hp
   obtain ⟨u,hu,h1,hr⟩:=hU o v hp
   refine ⟨u,?_,.inr ⟨rfl,h1,hr⟩⟩
   unfold loadVar
   rw [Sem.run_bind,hT.isAgg,ha]
   simp [cell_of_row w B (base+o) c e fr hB,hu]
 | true =>
   have hv:∃ l,v=.agg l:=by
    grind [part,qO,zr]
   obtain ⟨l,rfl⟩:=hv
   obtain ⟨hl,hlen,hle⟩:=AU ha hp
   have hbase:ti.size=0\/base+o+ti.size<=c.size:=by
    rcases hle with h0 | hle
    ·omega
    ·by_cases hz:ti.size=0
     ·omega
     ·right
      have hi:o+ti.size - 1<cs.length:=by omega
      obtain ⟨u,hu,_⟩:=hU (o+ti.size - 1) cs[o+ti.size - 1] (by simp [hi])
      grind
   by_cases hz:ti.size=0
   ·have hl0:l=[]:=by grind
    subst hl0
    refine ⟨.agg #[],?_,.inl ⟨[],#[],rfl,rfl,rfl,by simp [hz],rfl,by simp,by simp⟩⟩
    unfold loadVar
    rw [Sem.run_bind,hT.isAgg,ha]
    simp [hT.sizeOf,hz,loadCells,loadCellsFrom]
   ·have hb:=hbase.resolve_left hz
    refine ⟨.agg (c.extract (base+o) (base+o+ti.size)),?_,.inl ⟨l,_,rfl,rfl,rfl,hlen,?_,?_,?_⟩⟩
    ·unfold loadVar
     rw [Sem.run_bind,hT.isAgg,ha]
     simp [hT.sizeOf,DB w B (base+o) c e fr hB ti.size hb]
    ·grind
    ·intro i y hy
     rw [Array.getElem?_extract] at hy
     split at hy
     ·rename_i hi
      have hi':o+i<cs.length:=by omega
      obtain ⟨u,hu,h1,_⟩:=hU (o+i) cs[o+i] (by simp)
      grind
     grind
    ·intro i x y hx hy
     rw [Array.getElem?_extract] at hy
     split at hy
     ·rename_i hi
      rw [hl,List.getElem?_take,List.getElem?_drop] at hx
      split at hx
      ·obtain ⟨u,hu,h1,hr⟩:=hU (o+i) x hx
       grind
      omega
     grind
end runs
end Go.Sx
namespace Go.Sx
open Go
section
variable {P:Program} {C:lS} {G:Ga} {t:Nat} {ti:TI}
def VR.vK {l:List AV} {u:Value} (h:VR G (.agg l) u):∃ vs,u=.agg vs/\l.length=vs.size/\(∀ (i:Nat) (y:Value),vs[i]?=some y->y.oneCell'=true) /\
  ∀ (i:Nat) (x:AV) (y:Value),l[i]?=some x->vs[i]?=some y->VC G x y:=by
 cases h with
 | lA hp _=>simp [AV.mF] at hp
 | agg l vs hl hn h1 hr=>exact ⟨vs,rfl,hl,h1,λi x y hx hy=>⟨hr i x y hx hy,hn x (List.mem_of_getElem? hx)⟩⟩
theorem VR.of_int {k:IntKind} {n:Int} {u:Value} (h:VR G (.int k n) u):u=.int k n:=by
 cases h with
 | lA _ h=>cases h; rfl
theorem VR.of_bool {b:Bool} {u:Value} (h:VR G (.bool b) u):u=.bool b:=by
 cases h with
 | lA _ h=>cases h; rfl
def VR.uD {s:List UInt8} {u:Value} (h:VR G (.str s) u):∃ b,u=.string b/\b.data.toList=s:=by
 cases h with
 | lA _ h=>cases h<;>grind
theorem VR.int (k:IntKind) (n:Int):VR G (.int k n) (.int k n):=.lA rfl (.int _ k n)
theorem VR.bool (b:Bool):VR G (.bool b) (.bool b):=.lA rfl (.bool _ b)
theorem VR.str {s:List UInt8} {b:ByteArray} (h:b.data.toList=s):VR G (.str s) (.string b):=.lA rfl (.str _ s b h)
def int?_eq {v:AV} {k:IntKind} {n:Int} (h:v.int?=some (k,n)):v=.int k n:=by
 cases v<;>simp [AV.int?] at h
 grind
theorem bool?_eq {v:AV} {b:Bool} (h:v.bool?=some b):v=.bool b:=by
 cases v<;>simp [AV.bool?] at h
 grind
def str?_eq {v:AV} {b:List UInt8} (h:v.str?=some b):v=.str b:=by
 cases v<;>simp [AV.str?] at h
 grind
def agg?_eq {v:AV} {b:List AV} (h:v.agg?=some b):v=.agg b:=by
 cases v<;>simp [AV.agg?] at h
 grind
def yb {v:AV} {n:Nat} (h:qD v=some n):∃ k,v=.int k (n:Int):=by
 unfold qD at h
 split at h
 ·rename_i k m hm
  have:=int?_eq hm
  subst this
  cases m<;>grind [SS]
 ·cases h
def VC.y5 {l:List AV} {vs:Array Value} (hl:l.length=vs.size) (h:∀ (i:Nat) (x:AV) (y:Value),l[i]?=some x->vs[i]?=some y->VC G x y):∀ x∈l,x.oF=true:=by
 intro x hx
 obtain ⟨i,hi⟩:=List.getElem?_of_mem hx
 have hlt:i<vs.size:=by grind
 exact (h i x vs[i] hi (by simp)).na
def VR.D4 {l:List AV} {vs:Array Value} {R:AV->Value->Prop} (hR:∀ x y,R x y->VC G x y) (hl:l.length=vs.size)
  (h1:∀ (i:Nat) (y:Value),vs[i]?=some y->y.oneCell'=true) (hr:∀ (i:Nat) (x:AV) (y:Value),l[i]?=some x->vs[i]?=some y->R x y):VR G (.agg l) (.agg vs) :=
 .agg l vs hl (VC.y5 hl λi x y hx hy=>hR x y (hr i x y hx hy)) h1 λi x y hx hy=>(hR x y (hr i x y hx hy)).vr
def Shaped (ti:TI) (v:AV) (u:Value):Prop :=
 (ti.agg=true/\∃ l vs,v=.agg l/\u=.agg vs/\l.length=ti.size/\vs.size=ti.size)\/(ti.agg=false/\u.oneCell'=true)
def yA {R:AV->Value->Prop} (hR:∀ x y,R x y->VC G x y) (hT:pj P t ti) {B base o:Nat} {c:Array Value} {e:TypeId} {fr:Nat×Nat} {cs:List AV} {v:AV}
  (hB:G.w.heap[B]?=some (.cells c e fr)) (hU:zZ R cs c base) (hp:part ti cs o=some v) :
  ∃ u,(loadVar t ⟨B,base+o,none⟩).run P G.w=.ok u G.w/\VR G v u/\Shaped ti v u:=by
 obtain ⟨u,hu,h | h⟩:=Gp hT hB hU hp
 ·obtain ⟨l,vs,ha,rfl,rfl,hlen,hl,h1,hr⟩:=h
  exact ⟨_,hu,VR.D4 hR hl h1 hr,.inl ⟨ha,l,vs,rfl,rfl,hlen,by omega⟩⟩
 ·obtain ⟨ha,h1,hr⟩:=h
  exact ⟨u,hu,(hR _ _ hr).vr,.inr ⟨ha,h1⟩⟩
def Cd (hW:WR G) (hT:pj P t ti) {av v:AV} {a:Value} (hv:VR G av a) (h:sD av G.h ti=some v) :
  ∃ u,(Instr.loadAt t a).run P G.w=.ok u G.w/\VR G v u/\Shaped ti v u:=by
 unfold sD at h
 split at h
 ·
  rename_i d o
  cases hv with
  | lA hp _=>simp [AV.mF] at hp
  | la _ _ B hd =>
    unfold Gc at h
    split at h
    ·rename_i cs hcs
     obtain ⟨c,e,hB,hs,hr,h1⟩:=hW.loc d B cs hd hcs
     have hU:zZ (VC G) cs c 0:=by
      intro i x hx
      have hi:i<c.size:=by grind
      refine ⟨c[i],by simp [hi],h1 i c[i] (by simp [hi]),hr i x c[i] hx (by simp [hi])⟩
     obtain ⟨u,hu,hvu,hs⟩:=yA (P:=P) (λ_ _ h=>h) hT hB hU h
     grind [Instr.loadAt,Instr.sureAddr]
    ·cases h
 ·
  rename_i cs o s
  cases hv with
  | lA _ h' =>
    cases h' with
    | ip _ _ _ _ B base c e fr f hm hB hI hc h1 hr =>
      have hU:zZ (λx y=>PR G.w G.T s x y) cs c base:=by
       intro i x hx
       grind
      obtain ⟨u,hu,hvu,hs⟩:=yA (P:=P) (λ_ _ h=>PR.A2 h) hT hB hU h
      grind [Instr.loadAt,Instr.sureAddr]
 ·
  rename_i b g i o
  cases hv with
  | lA hp _=>simp [AV.mF] at hp
  | ptr _ _ _ _ a hb hg hl =>
    unfold BR at h
    split at h
    ·rename_i g' z xs hget
     split at h
     ·rename_i hgg
      have hgg:=Nat.eq_of_beq_eq_true hgg
      subst hgg
      split at h
      ·rename_i cs hcs
       obtain ⟨l,hpi,ha⟩:=hl z xs hget
       subst ha
       obtain ⟨c,e,hB,hcap,hsz,hz,hr⟩:=hW.lM b l g z xs hpi hget
       have hU:zZ (VC G) cs c (l.base+i*z):=by
        intro j x hx
        grind
       obtain ⟨u,hu,hvu,hs⟩:=yA (P:=P) (λ_ _ h=>h) hT hB hU h
       grind [Instr.loadAt,Instr.sureAddr]
      ·cases h
     ·cases h
    ·cases h
 ·cases h
def Cu {av v:AV} {a:Value} {k:Nat} (hv:VR G av a) (h:Bn av k=some v):∃ x,a=.pointer (some x)/\VR G v (.pointer (some (x.add k))):=by
 unfold Bn at h
 split at h
 ·rename_i d o
  simp only [N3,pc,Option.some.injEq] at h
  subst h
  cases hv with
  | lA hp _=>simp [AV.mF] at hp
  | la _ _ B hd=>exact ⟨_,rfl,by rw [re]; exact .la d (o+k) B hd⟩
 ·rename_i cs o s
  simp only [NB,pc,Option.some.injEq] at h
  subst h
  cases hv with
  | lA _ h' =>
    cases h' with
    | ip _ _ _ _ B base c e fr f hm hB hI hc h1 hr =>
      refine ⟨_,rfl,?_⟩
      rw [re,Nat.add_assoc]
      exact .lA rfl (.ip _ cs (o+k) s B base c e fr f hm hB hI hc h1 hr)
 ·rename_i b g i o
  simp only [D9,pc,Option.some.injEq] at h
  subst h
  cases hv with
  | lA hp _=>simp [AV.mF] at hp
  | ptr _ _ _ _ a hb hg hl =>
    refine ⟨_,rfl,.ptr b g i (o+k) _ hb hg ?_⟩
    grind [re]
 ·cases h
def Cl (hC:mn P C) {av:AV} {a:Value} {f:Nat} {r:AV×bV} (hv:VR G av a) (h:sd C G.h t av f=some r) :
  r.2=G.h/\∃ u,(Instr.fieldAt t a f).run P G.w=.ok u G.w/\VR G r.1 u/\u.oneCell'=true:=by
 unfold sd at h
 split at h
 ·cases h
 ·rename_i ti hti
  split at h
  ·rename_i fs hk
   split at h
   ·rename_i off ft hf
    unfold mD at h
    split at h
    ·rename_i v hv'
     simp only [Option.some.injEq] at h
     subst h
     obtain ⟨d,hd,ha,hko⟩:=(hC.ty t ti hti).desc
     rw [hk] at hko
     obtain ⟨F,rfl,hfs,hsz⟩:=hko
     subst hfs
     simp only [List.getElem?_map,Array.getElem?_toList,Option.map_eq_some_iff] at hf
     obtain ⟨fl,hfl,he⟩:=hf
     simp only [Prod.mk.injEq] at he
     obtain ⟨rfl,rfl⟩:=he
     obtain ⟨x,rfl,hx⟩:=Cu hv hv'
     refine ⟨rfl,.pointer (some (x.add fl.offset)),?_,hx,rfl⟩
     obtain ⟨i,hi,hne⟩:=hsz fl (by
      grind)
     simp_all [Instr.fieldAt,run_underlying,Instr.sureAddr,fieldPlace,Go.sizeOf,typeInfo]
    ·cases h
   ·cases h
  ·cases h
end
end Go.Sx
namespace Go.Sx
open Go
def oH (P:Program) (G:Ga) (s:Sem Value) (r:AV×bV):Prop :=
 r.2=G.h/\∃ u,s.run P G.w=.ok u G.w/\VR G r.1 u
section
variable {P:Program} {C:lS} {G:Ga} {t:Nat} {ti:TI}
theorem nT {h:bV} {o:Option AV} {r:AV×bV} (e:mD h o=some r):∃ v,o=some v/\r=(v,h):=by
 unfold mD at e
 grind
def I5 {c a b:AV} {c' a' b':Value} {r:AV×bV} (hc:VR G c c') (ha:VR G a a') (hb:VR G b b') (h:DP G.h c a b=some r) :
  oH P G (do pure (if <- asBool c' then a' else b')) r:=by
 unfold DP at h
 split at h
 ·rename_i hb'
  cases h
  have:=bool?_eq hb'; subst this
  have:=hc.of_bool; subst this
  exact ⟨rfl,a',by rfl,ha⟩
 ·rename_i hb'
  cases h
  have:=bool?_eq hb'; subst this
  have:=hc.of_bool; subst this
  exact ⟨rfl,b',by rfl,hb⟩
 ·cases h
def BT {l:List AV} {vs:Array Value} {o:Nat} {v:AV} (hT:pj P t ti) (hl:l.length=vs.size) (h1:∀ (i:Nat) (y:Value),vs[i]?=some y->y.oneCell'=true)
  (hr:∀ (i:Nat) (x:AV) (y:Value),l[i]?=some x->vs[i]?=some y->VC G x y) (hp:Sx.part ti l o=some v) :
  ∃ u,(Go.part t vs o).run P G.w=.ok u G.w/\VR G v u:=by
 have hU:zZ (VC G) l vs 0:=by
  intro i x hx
  have hi:i<vs.size:=by grind
  exact ⟨vs[i],by simp [hi],h1 i _ (by simp [hi]),hr i x _ hx (by simp [hi])⟩
 cases ha:ti.agg with
 | false =>
   simp only [Sx.part,ha] at hp
   obtain ⟨u,hu,_,hx⟩:=hU o v hp
   refine ⟨u,?_,hx.vr⟩
   unfold Go.part
   rw [Sem.run_bind,hT.isAgg,ha]
   simp_all
 | true =>
   have hv:∃ m,v=.agg m:=by
    grind [Sx.part,qO,zr]
   obtain ⟨m,rfl⟩:=hv
   obtain ⟨hm,hlen,hle⟩:=AU ha hp
   refine ⟨.agg (vs.extract o (o+ti.size)),?_,?_⟩
   ·unfold Go.part
    rw [Sem.run_bind,hT.isAgg,ha]
    simp [hT.sizeOf]
   ·refine VR.D4 (R:=VC G) (λ_ _ h=>h) ?_ ?_ ?_
    ·grind
    ·intro i y hy
     rw [Array.getElem?_extract] at hy
     grind
    grind
def Gt (hC:mn P C) {x:AV} {x':Value} {f:Nat} {r:AV×bV} (hx:VR G x x') (h:BF C G.h t x f=some r):oH P G (Instr.field t x' f) r:=by
 unfold BF at h
 split at h
 ·cases h
 ·rename_i ti hti
  split at h
  ·rename_i fs hk
   split at h
   ·rename_i off ft hf
    split at h
    ·rename_i cs hcs
     split at h
     ·rename_i tf htf
      obtain ⟨v,hv,rfl⟩:=nT h
      have:=agg?_eq hcs; subst this
      obtain ⟨vs,rfl,hl,h1,hr⟩:=hx.vK
      obtain ⟨d,hd,ha,hko⟩:=(hC.ty t ti hti).desc
      rw [hk] at hko
      obtain ⟨F,rfl,hfs,hsz⟩:=hko
      subst hfs
      simp only [List.getElem?_map,Array.getElem?_toList,Option.map_eq_some_iff] at hf
      obtain ⟨fl,hfl,he⟩:=hf
      simp only [Prod.mk.injEq] at he
      obtain ⟨rfl,rfl⟩:=he
      obtain ⟨u,hu,hvu⟩:=BT (hC.ty _ tf htf) hl h1 hr hv
      refine ⟨rfl,u,?_,hvu⟩
      simp_all [Instr.field,run_underlying,Go.asAgg]
     ·cases h
    ·cases h
   ·cases h
  ·cases h
def DF {x:AV} {x':Value} {i:Nat} {r:AV×bV} (hx:VR G x x') (h:yB G.h x i=some r):oH P G (Instr.extract x' i) r:=by
 unfold yB at h
 split at h
 ·rename_i vs
  obtain ⟨v,hv,rfl⟩:=nT h
  cases hx with
  | lA hp _=>simp [AV.mF] at hp
  | kO _ vs' hl hr =>
    have hi:i<vs'.size:=by grind
    exact ⟨rfl,vs'[i],by simp [Instr.extract,hi],hr i v _ hv (by simp [hi])⟩
 ·cases h
def F7 {x v:AV} {x':Value} (hx:VR G x x') (h:BD x=some v) :
  VR G v x'/\((∃ a,x'=.pointer (some a))\/∃ g a c,x'=.func (.func g) a c):=by
 unfold BD at h
 split at h
 ·cases h
  cases hx with
  | lA hp _=>simp [AV.mF] at hp
  | ptr _ _ _ _ a hb hg hl=>exact ⟨.ptr _ _ _ _ a hb hg hl,.inl ⟨_,rfl⟩⟩
 ·cases h
  refine ⟨hx,.inl ?_⟩
  cases hx with
  | lA _ h'=>cases h'<;>grind
 ·cases h
  refine ⟨hx,.inl ?_⟩
  cases hx<;>grind [AV.mF]
 ·cases h
  refine ⟨hx,.inr ?_⟩
  cases hx<;>grind [AV.mF]
 ·cases h
theorem Br (b:Bool):u0 b=some (.bool !b):=by cases b<;>rfl
theorem Ba {op:BinOp} {k:IntKind} {x y:Int} (xT:TypeId) (h:op=.add\/op=.sub\/op=.mul) :
  (Go.binOp op xT (.int k x) (.int k y)).run P G.w=(Op.intArith op k x y).run P G.w:=by
 grind [Go.binOp]
theorem L0 {op:BinOp} {k:IntKind} {x y:Int} (xT:TypeId) (h:op=.quo\/op=.rem) :
  (Go.binOp op xT (.int k x) (.int k y)).run P G.w=(Op.intDiv op k x y).run P G.w:=by
 grind [Go.binOp]
theorem Ag {op:BinOp} {k:IntKind} {x y:Int} (xT:TypeId) (h:op=.and\/op=.or\/op=.xor\/op=.andNot) :
  (Go.binOp op xT (.int k x) (.int k y)).run P G.w=(Op.intBits op k x y).run P G.w:=by
 grind [Go.binOp]
theorem xL {op:BinOp} {k:IntKind} {x y:Int} (xT:TypeId) (h:op=.eql\/op=.neq\/op=.lss\/op=.leq\/op=.gtr\/op=.geq) :
  (Go.binOp op xT (.int k x) (.int k y)).run P G.w=(Op.intCmp op x y).run P G.w:=by
 grind [Go.binOp]
def FD {op:BinOp} {k:IntKind} {x y:Int} {v:AV} (h:mw op k x y=some v) (hs:tU op=false) (xT:TypeId) :
  ∃ u,(Go.binOp op xT (.int k x) (.int k y)).run P G.w=.ok u G.w/\VR G v u:=by
 cases op<;>simp only [tU,Bool.true_eq_false] at hs<;>simp only [mw,Jy,Io,QJ,Q4,QF,Im,JA,JK,Ki,I0,Iy,Iw,NI,DS,FB,TV,tZ,yG,pU,Bp,Br,rO,CO,CG,su,uC,reduceCtorEq] at h
 case add=>cases h; rw [Ba xT (by simp)]; exact ⟨_,rfl,VR.int _ _⟩
 case sub=>cases h; rw [Ba xT (by simp)]; exact ⟨_,rfl,by grind [VR.int]⟩
 case mul=>cases h; rw [Ba xT (by simp)]; exact ⟨_,rfl,VR.int _ _⟩
 case quo =>
  split at h
  ·cases h
  ·rename_i hy
   cases h; simp_all [L0,Op.intDiv,VR.int]
 case rem =>
  split at h
  ·cases h
  ·rename_i hy
   cases h; simp_all [L0,Op.intDiv,VR.int]
 case and=>cases h; rw [Ag xT (by simp)]; exact ⟨_,rfl,VR.int _ _⟩
 case or=>cases h; rw [Ag xT (by simp)]; exact ⟨_,rfl,VR.int _ _⟩
 case xor=>cases h; rw [Ag xT (by simp)]; exact ⟨_,rfl,VR.int _ _⟩
 case andNot=>cases h; rw [Ag xT (by simp)]; exact ⟨_,rfl,VR.int _ _⟩
 case eql=>cases h; rw [xL xT (by simp)]; exact ⟨_,rfl,VR.bool _⟩
 case neq=>cases h; rw [xL xT (by simp)]; exact ⟨_,rfl,VR.bool _⟩
 case lss =>
  cases h; rw [xL xT (by simp)]
  refine ⟨_,rfl,?_⟩
  have e:(!decide (y<=x))=decide (x<y):=by grind
  rw [e]; exact VR.bool _
 case leq=>cases h; rw [xL xT (by simp)]; exact ⟨_,rfl,VR.bool _⟩
 case gtr =>
  cases h; rw [xL xT (by simp)]
  refine ⟨_,rfl,?_⟩
  have e:(!decide (x<=y))=decide (x > y):=by grind
  rw [e]; exact VR.bool _
 case geq=>cases h; rw [xL xT (by simp)]; exact ⟨_,rfl,VR.bool _⟩
theorem Ru (k k':IntKind) (x y:Int) (xT:TypeId) (w:World) (hy:¬ y<0) :
  (Go.binOp .shl xT (.int k x) (.int k' y)).run P w=.ok (.int k (k.wrap (x*2 ^ (min y.toNat k.bits)))) w:=by
 show (Op.shift .shl k x k' y).run P w = _
 unfold Op.shift
 rw [if_neg hy]
 rfl
theorem Rz (k k':IntKind) (x y:Int) (xT:TypeId) (w:World) (hy:¬ y<0) :
  (Go.binOp .shr xT (.int k x) (.int k' y)).run P w=.ok (.int k (x.fdiv (2 ^ (min y.toNat k.bits)))) w:=by
 show (Op.shift .shr k x k' y).run P w = _
 unfold Op.shift
 rw [if_neg hy]
 rfl
def GL {op:BinOp} {k k':IntKind} {x y:Int} {v:AV} (h:mw op k x y=some v) (hs:tU op=true) (xT:TypeId) :
  ∃ u,(Go.binOp op xT (.int k x) (.int k' y)).run P G.w=.ok u G.w/\VR G v u:=by
 cases op<;>simp only [tU,Bool.false_eq_true] at hs
 ·have h:(if y<0 then none else fI (sL k (x*2 ^ (min y.toNat k.bits))) (pU k))=some v:=h
  rw [tZ,rO] at h
  split at h
  ·cases h
  ·rename_i hy
   cases h
   simp_all [Ru,VR.int]
 ·have h:(if y<0 then none else fI (x.fdiv (2 ^ (min y.toNat k.bits))) (pU k))=some v:=h
  rw [tZ] at h
  split at h
  ·cases h
  ·rename_i hy
   cases h
   simp_all [Rz,VR.int]
theorem bytesLess_eq:∀ (x y:List UInt8),bytesLess x y=Op.bytesLess x y
 | _,[]=>by simp [bytesLess,Op.bytesLess]
 | [],_::_=>by rfl
 | a::x,b::y=>by simp [bytesLess,Op.bytesLess,bytesLess_eq x y]
theorem vH {b:ByteArray} {s:List UInt8} (h:b.data.toList=s):b.size=s.length:=by
 subst h; rfl
theorem toList_data (b:ByteArray):b.toList=b.data.toList:=ByteArray.toList_eq b
def Ep {op:BinOp} {x y:List UInt8} {bx by':ByteArray} {v:AV} (hx:bx.data.toList=x) (hy:by'.data.toList=y)
  (h:Cz op x y=some v) (xT:TypeId):∃ u,(Go.binOp op xT (.string bx) (.string by')).run P G.w=.ok u G.w/\VR G v u:=by
 have hb:∀ o:BinOp,(Go.binOp o xT (.string bx) (.string by')).run P G.w=(Op.stringOp o bx by').run P G.w:=by
  intro o; cases o<;>rfl
 rw [hb]
 unfold Op.stringOp
 simp only [toList_data,hx,hy,<- bytesLess_eq]
 cases op<;>simp only [Cz,reduceCtorEq,qO] at h
 case add =>
  split at h
  ·rename_i hle
   cases h
   have hle:=Nat.le_of_ble_eq_true hle
   have hm:IntKind.i64.max=9223372036854775807:=by decide
   rw [if_neg (by grind [vH])]
   simp_all [VR.str]
  ·cases h
 all_goals
  cases h
  exact ⟨_,rfl,VR.bool _⟩
def wo {x:AV} {x':Value} {b:Bool} (h:Pf x=some b) (hx:VR G x x'):∃ a,x'=.pointer a/\a.isNone=b:=by
 unfold Pf at h
 split at h<;>simp only [Option.some.injEq,reduceCtorEq] at h<;>subst h
 ·cases hx with
  | lA _ h=>cases h<;>grind
 ·cases hx<;>grind [AV.mF]
 ·cases hx with
  | lA _ h=>cases h<;>grind
 ·cases hx<;>grind [AV.mF]
def wx {x:AV} {x':Value} {b:Bool} (h:Nq x=some b) (hx:VR G x x'):∃ a n c,x'=.slice a n c/\a.isNone=b:=by
 unfold Nq at h
 split at h<;>simp only [Option.some.injEq,reduceCtorEq] at h<;>subst h
 ·cases hx with
  | lA _ h=>cases h with
    | slnil=>simp
    | po _ _ _ _ _ hc=>cases hc
    | sl _ _ _ _ _ _ _ _ _ _ _ _ _ _ hc=>cases hc
 ·rename_i hne
  cases hx with
  | lA _ h=>cases h<;>grind
 ·cases hx<;>grind [AV.mF]
def wV {x:AV} {x':Value} {b:Bool} (h:OW x=some b) (hx:VR G x x'):∃ a,x'=.map a/\a.isNone=b:=by
 unfold OW at h
 split at h<;>simp only [Option.some.injEq,reduceCtorEq] at h<;>subst h
 ·cases hx with
  | lA _ h=>cases h<;>grind
 ·cases hx<;>grind [AV.mF]
 ·cases hx with
  | lA _ h=>cases h<;>grind
def wM {x:AV} {x':Value} {b:Bool} (h:Ny x=some b) (hx:VR G x x'):(b=true/\x'=.nilFunc)\/(b=false/\∃ f a c,x'=.func f a c):=by
 unfold Ny at h
 split at h<;>simp only [Option.some.injEq,reduceCtorEq] at h<;>subst h
 ·cases hx with
  | lA _ h=>cases h<;>grind
 ·cases hx<;>grind [AV.mF]
def VR.GN {l:List AV} {vs:Array Value} (h:VR G (.agg l) (.agg vs)) (hs:∀ x∈l,∃ b,oa x x=some b):PR G.w G.T true (.agg l) (.agg vs):=by
 obtain ⟨vs',e,hl,h1,hr⟩:=h.vK
 cases e
 refine .agg _ l vs hl h1 ?_
 intro i x y hx hy
 obtain ⟨b,hb⟩:=hs x (List.mem_of_getElem? hx)
 have:=(hr i x y hx hy).vr
 cases this with
 | lA _ h=>exact h
 | undef=>simp [oa,rL] at hb
 | ptr=>simp [oa,rL] at hb
 | hs=>simp [oa,rL] at hb
 | hm=>simp [oa,rL] at hb
 | la=>simp [oa,rL] at hb
 | ly=>simp [oa,rL] at hb
 | agg=>simp [oa,rL] at hb
 | kO=>simp [oa,rL] at hb
def LK {x y:AV} {b:Bool} (h:oa x y=some b):(∃ b,oa x x=some b)/\∃ b,oa y y=some b:=by
 cases x<;>simp only [oa,rL,yZ,wg,Ar,reduceCtorEq] at h<;>cases y<;>simp only [AV.bool?,AV.int?,AV.str?,reduceCtorEq] at h
 ·exact ⟨⟨_,rfl⟩,⟨_,rfl⟩⟩
 ·refine ⟨?_,?_⟩<;>simp [oa,wg,AV.int?,(s5 _ _).2 rfl]
 ·exact ⟨⟨_,rfl⟩,⟨_,rfl⟩⟩
def Dq:∀ {l m:List AV} {b:Bool},nR l m=some b->(∀ x∈l,∃ b,oa x x=some b)/\∀ x∈m,∃ b,oa x x=some b
 | [],[],_,_=>by simp
 | [],_::_,_,h=>by cases h
 | _::_,[],_,h=>by cases h
 | a::x,b::y,c,h=>by
   simp only [nR] at h
   have hrest:∃ d,nR x y=some d/\∃ e,oa a b=some e:=by
    split at h
    ·rename_i he; exact ⟨_,h,_,he⟩
    ·rename_i he
     split at h
     ·rename_i hd; exact ⟨_,hd,_,he⟩
     ·cases h
    ·cases h
   obtain ⟨d,hd,e,he⟩:=hrest
   obtain ⟨h1,h2⟩:=Dq hd
   obtain ⟨k1,k2⟩:=LK he
   constructor
   ·intro z hz
    rcases List.mem_cons.1 hz with rfl | hz
    ·exact k1
    ·exact h1 z hz
   ·intro z hz
    rcases List.mem_cons.1 hz with rfl | hz
    ·exact k2
    ·exact h2 z hz
end
end Go.Sx
namespace Go.Sx
open Go
section
variable {P:Program} {C:lS} {G:Ga} {t:Nat} {ti:TI}
theorem M2 (op:BinOp) (ox oy:Operand) (k k':IntKind) (a b:Int) (w:World):(eqGuard op t ox oy (.int k a) (.int k' b)).run P w=.ok () w:=by cases op<;>rfl
theorem Nw (op:BinOp) (ox oy:Operand) (a b:ByteArray) (w:World):(eqGuard op t ox oy (.string a) (.string b)).run P w=.ok () w:=by cases op<;>rfl
def OB (op:BinOp) (ox oy:Operand) (a b:Bool) (w:World):(eqGuard op t ox oy (.bool a) (.bool b)).run P w=.ok () w:=by cases op<;>rfl
def Ed (op:BinOp) (ox oy:Operand) (a b:Option Addr) (w:World):(eqGuard op t ox oy (.pointer a) (.pointer b)).run P w=.ok () w:=by cases op<;>rfl
def Eb (op:BinOp) (ox oy:Operand) (a b:Option Nat) (w:World):(eqGuard op t ox oy (.map a) (.map b)).run P w=.ok () w:=by cases op<;>rfl
def Eh (op:BinOp) (ox oy:Operand) (a b:Option Addr) (n c m d:Nat) (w:World):(eqGuard op t ox oy (.slice a n c) (.slice b m d)).run P w=.ok () w:=by cases op<;>rfl
def Gj (op:BinOp) (ox oy:Operand) (y:Value) (w:World):(eqGuard op t ox oy .nilFunc y).run P w=.ok () w:=by cases op<;>rfl
def OK (op:BinOp) (ox oy:Operand) (f:Fn) (a c:Array Value) (y:Value) (w:World):(eqGuard op t ox oy (.func f a c) y).run P w=.ok () w:=by cases op<;>rfl
theorem Tj (d:Nat) {e:TypeId} (h:P.underlying t=some (.pointer e)) (b:Option Addr) (w:World):(Op.equalIn (d+1) t (.pointer none) (.pointer b)).run P w=.ok b.isNone w:=by
 simp [Op.equalIn,run_underlying h]
theorem Tt (d:Nat) {e:TypeId} (h:P.underlying t=some (.pointer e)) (a:Addr) (w:World):(Op.equalIn (d+1) t (.pointer (some a)) (.pointer none)).run P w=.ok false w:=by
 simp [Op.equalIn,run_underlying h]
theorem To (d:Nat) {e:TypeId} (h:P.underlying t=some (.slice e)) (b:Option Addr) (n c m k:Nat) (w:World):(Op.equalIn (d+1) t (.slice none n c) (.slice b m k)).run P w=.ok b.isNone w:=by
 simp [Op.equalIn,run_underlying h]
theorem Tv (d:Nat) {e:TypeId} (h:P.underlying t=some (.slice e)) (a:Addr) (n c m k:Nat) (w:World):(Op.equalIn (d+1) t (.slice (some a) n c) (.slice none m k)).run P w=.ok false w:=by
 simp [Op.equalIn,run_underlying h]
theorem Tw (d:Nat) {e e':TypeId} (h:P.underlying t=some (.map e e')) (b:Option Nat) (w:World):(Op.equalIn (d+1) t (.map none) (.map b)).run P w=.ok b.isNone w:=by
 simp [Op.equalIn,run_underlying h]
theorem SG (d:Nat) {e e':TypeId} (h:P.underlying t=some (.map e e')) (a:Nat) (w:World):(Op.equalIn (d+1) t (.map (some a)) (.map none)).run P w=.ok false w:=by
 simp [Op.equalIn,run_underlying h]
def TQ (d:Nat) {p q:Array TypeId} {r:Bool} (h:P.underlying t=some (.func p q r)) (w:World):(Op.equalIn (d+1) t .nilFunc .nilFunc).run P w=.ok true w:=by
 simp [Op.equalIn,run_underlying h]
def Sw (d:Nat) {p q:Array TypeId} {r:Bool} (h:P.underlying t=some (.func p q r)) (f:Fn) (a c:Array Value) (w:World):(Op.equalIn (d+1) t .nilFunc (.func f a c)).run P w=.ok false w:=by
 simp [Op.equalIn,run_underlying h]
def Rg (d:Nat) {p q:Array TypeId} {r:Bool} (h:P.underlying t=some (.func p q r)) (f:Fn) (a c:Array Value) (w:World):(Op.equalIn (d+1) t (.func f a c) .nilFunc).run P w=.ok false w:=by
 simp [Op.equalIn,run_underlying h]
def qK {x y:Value} {b:Bool} {w:World} (he:(Op.equalIn 10000 t x y).run P w=.ok b w) (hn:∀ o:BinOp,o=.eql\/o=.neq->Go.binOp o t x y=(if o=.eql then do pure (.bool (<- Op.equal t x y)) else do pure (.bool (!(<- Op.equal t x y))))) :
  (Go.binOp .eql t x y).run P w=.ok (.bool b) w/\(Go.binOp .neq t x y).run P w=.ok (.bool !b) w:=by
 rw [hn .eql (by simp),hn .neq (by simp)]
 have he':(Op.equal t x y).run P w=.ok b w:=he
 simp_all
def A0 (hT:pj P t ti) {x y:AV} {x' y':Value} {b:Bool} (hx:VR G x x') (hy:VR G y y') (h:Ad ti x y=some b) (ox oy:Operand) :
  (∀ o:BinOp,(eqGuard o t ox oy x' y').run P G.w=.ok () G.w)/\(Go.binOp .eql t x' y').run P G.w=.ok (.bool b) G.w/\(Go.binOp .neq t x' y').run P G.w=.ok (.bool !b) G.w:=by
 obtain ⟨d,hd,ha,hk⟩:=hT.desc
 unfold Ad at h
 split at h
 ·
  rename_i hki
  rw [hki] at hk
  have hk:d=.bool:=hk
  subst hk
  unfold KV at h
  split at h
  ·rename_i a c h1 h2
   cases h
   have:=bool?_eq h1; subst this
   have:=bool?_eq h2; subst this
   rw [hx.of_bool,hy.of_bool]
   exact ⟨λo=>OB o ox oy _ _ _,qK (run_equalIn_bool' G.w 9999 t _ _ hd) (by rintro o (rfl | rfl)<;>rfl)⟩
  ·cases h
 ·
  rename_i hki
  rw [hki] at hk
  obtain ⟨e,rfl⟩:=hk
  unfold uX at h
  split at h
  ·rename_i c h1 h2
   cases h
   obtain ⟨a,rfl,h1⟩:=wo h1 hx
   obtain ⟨a',rfl,h2⟩:=wo h2 hy
   refine ⟨λo=>Ed o ox oy _ _ _,qK ?_ (by rintro o (rfl | rfl)<;>rfl)⟩
   simp_all [Tj]
  ·rename_i h1 h2
   cases h
   obtain ⟨a,rfl,h1⟩:=wo h1 hx
   obtain ⟨a',rfl,h2⟩:=wo h2 hy
   refine ⟨λo=>Ed o ox oy _ _ _,qK ?_ (by rintro o (rfl | rfl)<;>rfl)⟩
   cases a with
   | none=>simp at h1
   | some a=>simp_all [Tt]
  ·cases h
 ·
  rename_i hki
  rw [hki] at hk
  have hk:d=.slice _:=hk
  subst hk
  unfold uX at h
  split at h
  ·rename_i c h1 h2
   cases h
   obtain ⟨a,n,c,rfl,h1⟩:=wx h1 hx
   obtain ⟨a',n',c',rfl,h2⟩:=wx h2 hy
   refine ⟨λo=>Eh o ox oy _ _ _ _ _ _ _,qK ?_ (by rintro o (rfl | rfl)<;>rfl)⟩
   simp_all [To]
  ·rename_i h1 h2
   cases h
   obtain ⟨a,n,c,rfl,h1⟩:=wx h1 hx
   obtain ⟨a',n',c',rfl,h2⟩:=wx h2 hy
   refine ⟨λo=>Eh o ox oy _ _ _ _ _ _ _,qK ?_ (by rintro o (rfl | rfl)<;>rfl)⟩
   cases a with
   | none=>simp at h1
   | some a=>simp_all [Tv]
  ·cases h
 ·
  rename_i hki
  rw [hki] at hk
  have hk:d=.map _ _:=hk
  subst hk
  unfold uX at h
  split at h
  ·rename_i c h1 h2
   cases h
   obtain ⟨a,rfl,h1⟩:=wV h1 hx
   obtain ⟨a',rfl,h2⟩:=wV h2 hy
   refine ⟨λo=>Eb o ox oy _ _ _,qK ?_ (by rintro o (rfl | rfl)<;>rfl)⟩
   cases a<;>grind [Tw]
  ·rename_i h1 h2
   cases h
   obtain ⟨a,rfl,h1⟩:=wV h1 hx
   obtain ⟨a',rfl,h2⟩:=wV h2 hy
   refine ⟨λo=>Eb o ox oy _ _ _,qK ?_ (by rintro o (rfl | rfl)<;>rfl)⟩
   cases a with
   | none=>simp at h1
   | some a=>cases a'<;>grind [SG]
  ·cases h
 ·
  rename_i hki
  rw [hki] at hk
  obtain ⟨p,q,r,rfl⟩:=hk
  unfold uX at h
  split at h
  ·rename_i c h1 h2
   cases h
   rcases wM h1 hx with ⟨_,rfl⟩ | ⟨h0,_⟩
   ·rcases wM h2 hy with ⟨rfl,rfl⟩ | ⟨rfl,f,a,c,rfl⟩
    ·exact ⟨λo=>Gj o ox oy _ _,qK (TQ 9999 hd _) (by rintro o (rfl | rfl)<;>rfl)⟩
    ·exact ⟨λo=>Gj o ox oy _ _,qK (Sw 9999 hd _ _ _ _) (by rintro o (rfl | rfl)<;>rfl)⟩
   grind
  ·rename_i h1 h2
   cases h
   rcases wM h1 hx with ⟨h0,_⟩ | ⟨_,f,a,c,rfl⟩
   ·cases h0
   ·rcases wM h2 hy with ⟨_,rfl⟩ | ⟨h0,_⟩
    ·exact ⟨λo=>OK o ox oy _ _ _ _ _,qK (Rg 9999 hd _ _ _ _) (by rintro o (rfl | rfl)<;>rfl)⟩
    grind
  ·cases h
 all_goals first
  | (cases h; done)
  | (rename_i hki
     have hagg:ti.agg=true:=by
      rw [hki] at hk
      rw [<- ha]
      first
       | (obtain ⟨F,rfl,_⟩:=hk; rfl)
       | (have hk:d=.array _ _:=hk; subst hk; rfl)
     unfold FC at h
     split at h
     ·rename_i a c hf h1 h2
      split at h
      ·rename_i hlen
       simp only [Bool.and_eq_true,Nat.beq_eq] at hlen
       have:=agg?_eq h1; subst this
       have:=agg?_eq h2; subst this
       obtain ⟨vs,rfl,hl1,h11,hr1⟩:=hx.vK
       obtain ⟨us,rfl,hl2,h12,hr2⟩:=hy.vK
       obtain ⟨s1,s2⟩:=Dq h
       have e:=hT.flat hf hagg _ _ vs us b G.w G.T hlen.2 hlen.1.1 hlen.1.2 (hx.GN s1) (hy.GN s2) h
       exact ⟨λo=>run_eqGuard_agg G.w o t ox oy vs us (hT.guard hf),qK e (by rintro o (rfl | rfl)<;>rfl)⟩
      ·cases h
     ·cases h)
def GF (hC:mn P C) {op:BinOp} {x y v:AV} {x' y':Value} (hx:VR G x x') (hy:VR G y y') (h:binOp C op t x y=some v) (ox oy:Operand) :
  ∃ u,(do eqGuard op t ox oy x' y'; Go.binOp op t x' y':Sem Value).run P G.w=.ok u G.w/\VR G v u:=by
 unfold binOp at h
 split at h
 ·rename_i p hp
  obtain ⟨k,a⟩:=p
  have:=int?_eq hp; subst this
  rw [hx.of_int]
  unfold Cf at h
  split at h
  ·rename_i k' b hb
   have:=int?_eq hb; subst this
   rw [hy.of_int]
   simp only [Sem.run_bind,M2,Result.andThen_ok]
   split at h
   ·rename_i hk
    cases hs:tU op with
    | true=>exact GL h hs t
    | false =>
      rw [hs,Bool.or_false] at hk
      have:=(s5 _ _).1 hk
      simp only at this
      subst this
      exact FD h hs t
   ·cases h
  ·cases h
 ·split at h
  ·rename_i a ha
   have:=str?_eq ha; subst this
   obtain ⟨bx,rfl,hbx⟩:=hx.uD
   unfold Fs at h
   split at h
   ·rename_i b hb
    have:=str?_eq hb; subst this
    obtain ⟨by',rfl,hby⟩:=hy.uD
    simp only [Sem.run_bind,Nw,Result.andThen_ok]
    exact Ep hbx hby h t
   ·cases h
  ·unfold Cj at h
   split at h
   ·cases h
   ·rename_i ti hti
    split at h
    ·split at h
     ·rename_i b hb
      cases h
      obtain ⟨h1,h2,h3⟩:=A0 (hC.ty t ti hti) hx hy hb ox oy
      simp_all [VR.bool]
     ·cases h
    ·split at h
     ·rename_i b hb
      rw [Br] at h
      cases h
      obtain ⟨h1,h2,h3⟩:=A0 (hC.ty t ti hti) hx hy hb ox oy
      simp_all [VR.bool]
     ·cases h
    ·cases h
def Ku {op:UnOp} {x v:AV} {x':Value} (hx:VR G x x') (h:unOp op x=some v):∃ u,(Op.unary op x').run P G.w=.ok u G.w/\VR G v u:=by
 unfold unOp at h
 split at h
 ·split at h
  ·rename_i b hb
   have:=bool?_eq hb; subst this
   rw [hx.of_bool]
   rw [Br] at h
   cases h
   exact ⟨_,rfl,VR.bool _⟩
  ·cases h
 ·split at h
  ·rename_i k n hb
   have:=int?_eq hb; subst this
   rw [hx.of_int]
   simp only [tZ,pU,rO,CG] at h
   cases h
   refine ⟨_,rfl,?_⟩
   grind [VR.int]
  ·cases h
 ·split at h
  ·rename_i k n hb
   have:=int?_eq hb; subst this
   rw [hx.of_int]
   simp only [DS,tZ,pU] at h
   cases h
   exact ⟨_,rfl,VR.int _ _⟩
  ·cases h
 ·cases h
def Kr {x y v:AV} {x' y':Value} (hx:VR G x x') (hy:VR G y y') (h:min2 x y=some v):∃ u,(Builtin.min2 x' y').run P G.w=.ok u G.w/\VR G v u:=by
 unfold min2 at h
 split at h
 ·cases h
  rw [hx.of_int,hy.of_int]
  exact ⟨_,rfl,VR.int _ _⟩
 ·cases h
def Iu {x y v:AV} {x' y':Value} (hx:VR G x x') (hy:VR G y y') (h:max2 x y=some v):∃ u,(Builtin.max2 x' y').run P G.w=.ok u G.w/\VR G v u:=by
 unfold max2 at h
 split at h
 ·cases h
  rw [hx.of_int,hy.of_int]
  exact ⟨_,rfl,VR.int _ _⟩
 ·cases h
def yI {f:AV->AV->Option AV} {g:Value->Value->Sem Value} (hfg:∀ {x y v:AV} {x' y':Value},VR G x x'->VR G y y'->f x y=some v->∃ u,(g x' y').run P G.w=.ok u G.w/\VR G v u) :
  ∀ {l:List AV} {l':List Value} {x v:AV} {x':Value},VR G x x'->l.length=l'.length->(∀ (i:Nat) a b,l[i]?=some a->l'[i]?=some b->VR G a b)->Co f x l=some v ->
    ∃ u,(l'.foldlM g x').run P G.w=.ok u G.w/\VR G v u
 | [],[],x,v,x',hx,_,_,h=>by
   simp_all [Co]
 | [],_::_,_,_,_,_,hl,_,_=>by simp at hl
 | _::_,[],_,_,_,_,hl,_,_=>by simp at hl
 | a::l,b::l',x,v,x',hx,hl,hr,h=>by
   simp only [Co] at h
   split at h
   ·rename_i c hc
    obtain ⟨u,hu,hcu⟩:=hfg hx (hr 0 a b rfl rfl) hc
    obtain ⟨z,hz,hvz⟩:=yI hfg hcu (by grind) (λi p q hp hq=>hr (i+1) p q hp hq) h
    simp_all
   ·cases h
end
end Go.Sx
