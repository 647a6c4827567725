/- Proves rules for the walks and their soundness. -/
import GoSem.Core.Code
import GoSem.Core.Program
import GoSem.Core.View
import Derived.Calls
import Derived.Laws.Append
import Derived.Laws.Tables
import Derived.Laws.StructEq
import Derived.Laws.IdiomCopy
import Derived.Laws.Slices
import Derived.Laws.Rows
import Derived.Laws.Cells
import Derived.Laws.CopyRow
set_option linter.all false
namespace Go.Sx
inductive mQ where
 | nil
 | exact (n:Nat)
 | kb
 | lU
 deriving DecidableEq,Inhabited
inductive AV where
 | undef
 | bool (b:Bool)
 | int (k:IntKind) (n:Int)
 | str (s:List UInt8)
 | j4
 | ip (cells:List AV) (off:Nat) (sn:Bool)
 | la (d off:Nat)
 | ptr (b g i off:Nat)
 | sl (xs:List (List AV)) (cap:mQ)
 | hs (b g off len:Nat)
 | kg
 | fm (es:List (AV×AV)) (sn:Bool)
 | hm (b:Nat)
 | jN (f:Nat) (first cap:List AV)
 | kZ
 | agg (cells:List AV)
 | je (vs:List AV)
 deriving Inhabited
section force
variable {β:Type}
@[inline] def fB (b:Bool) (k:Bool->β) : β:=match b with
  | true=>k true
  | false=>k false
@[inline] def fN (n:Nat) (k:Nat->β) : β:=match n with
  | 0=>k 0
  | m+1=>k (m+1)
@[inline] def fI (n:Int) (k:Int->β) : β:=match n with
  | .ofNat m=>fN m λm=>k (.ofNat m)
  | .negSucc m=>fN m λm=>k (.negSucc m)
def xl {α:Type}:List α->(List α->β)->β
 | [],k=>k []
 | a::l,k=>xl l λl=>k (a::l)
def f1 (v:AV) (k:AV->β) : β:=match v with
 | .bool b=>fB b λb=>k (.bool b)
 | .int kd n=>fI n λn=>k (.int kd n)
 | .str s=>xl s λs=>k (.str s)
 | .ip c o s=>fN o λo=>fB s λs=>k (.ip c o s)
 | .la d o=>fN o λo=>k (.la d o)
 | .ptr b g i o=>fN b λb=>fN g λg=>fN i λi=>fN o λo=>k (.ptr b g i o)
 | .hs b g o l=>fN b λb=>fN g λg=>fN o λo=>fN l λl=>k (.hs b g o l)
 | .hm b=>fN b λb=>k (.hm b)
 | .sl xs c=>xl xs λxs=>k (.sl xs c)
 | v=>k v
def fL:List AV->(List AV->β)->β
 | [],k=>k []
 | a::l,k=>f1 a λa=>fL l λl=>k (a::l)
def Pd:List (List AV)->(List (List AV)->β)->β
 | [],k=>k []
 | a::l,k=>fL a λa=>Pd l λl=>k (a::l)
end force
section forceEq
variable {β:Type}
@[simp] theorem wH (b:Bool) (k:Bool->β):fB b k=k b:=by cases b<;>rfl
@[simp] theorem nf (b:Nat) (k:Nat->β):fN b k=k b:=by cases b<;>rfl
@[simp] theorem tq (b:Int) (k:Int->β):fI b k=k b:=by cases b<;>simp [fI]
@[simp] theorem oI {α:Type} (l:List α) (k:List α->β):xl l k=k l:=by
  induction l generalizing k with
  | nil=>rfl
  | cons a l ih=>simp [xl,ih]
@[simp] theorem af4 (v:AV) (k:AV->β):f1 v k=k v:=by cases v<;>simp [f1]
@[simp] theorem AE (l:List AV) (k:List AV->β):fL l k=k l:=by
  induction l generalizing k with
  | nil=>rfl
  | cons a l ih=>simp [fL,ih]
@[simp] theorem af2 (l:List (List AV)) (k:List (List AV)->β):Pd l k=k l:=by
  induction l generalizing k with
  | nil=>rfl
  | cons a l ih=>simp [Pd,ih]
end forceEq
inductive jU where
 | iG (gen esz:Nat) (xs:List (List AV))
 | map (es:List (AV×AV×Nat)) (clock:Nat)
 deriving Inhabited
inductive Tr (α:Type) where
 | leaf
 | node (l:Tr α) (v:Option α) (r:Tr α)
namespace Tr
variable {α β:Type}
def get:Tr α->Nat->Option α
 | .leaf,_=>none
 | .node l v r,n=>match n with
   | 0=>v
   | m+1=>match Nat.beq (m % 2) 0 with
     | true=>get l (m / 2)
     | false=>get r (m / 2)
def ins (x : α):Nat->Nat->Tr α->(Tr α->β)->β
 | 0,_,t,k=>k t
 | f+1,n,.leaf,k=>match n with
   | 0=>k (.node .leaf (some x) .leaf)
   | m+1=>match Nat.beq (m % 2) 0 with
     | true=>ins x f (m / 2) .leaf λl=>k (.node l none .leaf)
     | false=>ins x f (m / 2) .leaf λr=>k (.node .leaf none r)
 | f+1,n,.node l v r,k=>match n with
   | 0=>k (.node l (some x) r)
   | m+1=>match Nat.beq (m % 2) 0 with
     | true=>ins x f (m / 2) l λl=>k (.node l v r)
     | false=>ins x f (m / 2) r λr=>k (.node l v r)
end Tr
structure aT where
 tr:Tr jU
 size:Nat
 lo:Nat
 iq:List (Nat×List AV)
def aT.empty:aT:=⟨.leaf,0,0,[]⟩
def aT.get (h:aT) (b:Nat):Option jU:=match Nat.ble h.lo b with
 | true=>h.tr.get b
 | false=>none
def fO {β:Type} (o:jU) (k:jU->β) : β:=match o with
 | .iG g z xs=>fN g λg=>fN z λz=>Pd xs λxs=>k (.iG g z xs)
 | .map es c=>fN c λc=>xl es λes=>k (.map es c)
@[simp] theorem PK {β:Type} (o:jU) (k:jU->β):fO o k=k o:=by cases o<;>simp [fO]
def aT.set (h:aT) (b:Nat) (o:jU):aT:=fO o λo=>h.tr.ins o (b+1) b λt=>⟨t,h.size,h.lo,h.iq⟩
def aT.push (h:aT) (o:jU):aT:=fO o λo=>fN (h.size+1) λs=>h.tr.ins o s h.size λt=>⟨t,s,h.lo,h.iq⟩
def fH {β:Type} (h:aT) (k:aT->β) : β:=match h with
 | ⟨t,s,l,m⟩=>k ⟨t,s,l,m⟩
@[simp] theorem y8 {β:Type} (h:aT) (k:aT->β):fH h k=k h:=rfl
abbrev kK:=List (Nat×List AV)
def jK:kK->Nat->Option (List AV)
 | [],_=>none
 | p::e,t=>match Nat.beq t p.1 with
   | true=>some p.2
   | false=>jK e t
def sT:kK->Nat->List AV->kK
 | [],_,_=>[]
 | p::e,t,v=>match Nat.beq t p.1 with
   | true=>(t,v)::e
   | false=>p::sT e t v
abbrev Env:=List (Nat×AV)
def lF:Env->Nat->AV
 | [],_=>.undef
 | p::e,t=>match Nat.beq t p.1 with
   | true=>p.2
   | false=>lF e t
def D1 (e:Env) (t:Nat) (v:AV):Env:=(t,v)::e
def AV.vA (t:Nat):AV->Bool
 | .la d o=>Nat.beq t d&&Nat.beq o 0
 | .je _=>false
 | _=>true
def keep (t:Nat) (v:AV):AV:=match v.vA t with
 | true=>v
 | false=>.undef
def proj (live:List Nat) (e:Env):Env:=live.map λt=>(t,keep t (lF e t))
def kX:List Nat->kK->kK
 | [],_=>[]
 | t::l,m=>match jK m t with
   | some c=>(t,c)::kX l m
   | none=>kX l m
def De {β:Type} (t:Nat) (k:AV->β):Env->β
 | []=>k .undef
 | (a,v)::e=>match Nat.beq t a with
   | true=>k v
   | false=>De t k e
def zc {β:Type}:List Nat->Env->(Env->β)->β
 | [],_,k=>k []
 | t::l,e,k=>De t (λv=>match v.vA t with
   | true=>zc l e λr=>k ((t,v)::r)
   | false=>zc l e λr=>k ((t,.undef)::r)) e
def vN {β:Type}:List Nat->kK->(kK->β)->β
 | [],_,k=>k []
 | t::l,m,k=>match jK m t with
   | some c=>vN l m λr=>k ((t,c)::r)
   | none=>vN l m k
theorem Md {β:Type} (t:Nat) (k:AV->β) (e:Env):De t k e=k (lF e t):=by
 induction e<;>grind [De,lF]
@[simp] theorem aeE {β:Type} (l:List Nat) (e:Env) (k:Env->β):zc l e k=k (proj l e):=by
  induction l generalizing k with
  | nil=>rfl
  | cons t l ih =>
    simp only [zc,Md,proj,List.map_cons,keep]
    cases h:(lF e t).vA t
    ·exact ih _
    ·exact ih _
@[simp] theorem acs {β:Type} (l:List Nat) (m:kK) (k:kK->β):vN l m k=k (kX l m):=by
  induction l generalizing k with
  | nil=>rfl
  | cons t l ih =>
    simp only [vN,kX]
    cases h:jK m t
    ·exact ih _
    ·exact ih _
inductive TK where
 | bool | int (k:IntKind) | str | ptr | slice (elem:Nat) | array (len elem:Nat) | map (key elem:Nat) | struct (fs:List (Nat×Nat)) | func | other
structure TI where
 kind:TK
 agg:Bool
 size:Nat
 bytes:Nat
 zero:List AV
 flat:Bool
 sc:List TK
def EI:Value->AV
 | .bool b=>.bool b
 | .int k n=>.int k n
 | .string s=>.str s.data.toList
 | .pointer none=>.j4
 | .slice none 0 0=>.sl [] .nil
 | .map none=>.kg
 | .nilFunc=>.kZ
 | _=>.undef
def TQ:Value->Bool
 | .bool _ | .int _ _ | .string _ | .pointer none | .slice none 0 0 | .map none | .nilFunc=>true
 | _=>false
def cv:Value->AV
 | .agg cs=>match cs.toList.all TQ with
   | true=>.agg (cs.toList.map EI)
   | false=>.undef
 | v=>EI v
def iJ (e:Env):Operand->AV
 | .tmp t=>lF e t
 | .const v=>cv v
 | .global _=>.undef
 | .func f=>.jN f [] []
def AV.kh:AV->Bool
 | .undef | .la _ _ | .agg _ | .je _=>false
 | _=>true
def AV.lK:AV->Bool
 | .bool _ | .int _ _ | .str _ | .j4 | .ip _ _ false | .kg | .fm _ false | .kZ=>true
 | .sl _ .lU=>false
 | .sl _ _=>true
 | _=>false
def AV.yH:AV->Bool
 | .jN _ a c=>a.all AV.lK&&c.all AV.lK
 | v=>v.lK
def AV.int?:AV->Option (IntKind×Int)
 | .int k n=>some (k,n)
 | _=>none
def AV.str?:AV->Option (List UInt8)
 | .str s=>some s
 | _=>none
def AV.bool?:AV->Option Bool
 | .bool s=>some s
 | _=>none
def AV.agg?:AV->Option (List AV)
 | .agg s=>some s
 | _=>none
def cellsOf (ti:TI) (v:AV):Option (List AV) :=
 match ti.agg with
 | true=>match v.agg? with
   | some l=>match Nat.beq l.length ti.size with
     | true=>some l
     | false=>none
   | none=>none
 | false=>match v.kh&&Nat.beq ti.size 1 with
   | true=>some [v]
   | false=>none
def yy (n:Nat) (r:List AV):Option AV:=match Nat.beq r.length n with
 | true=>some (.agg r)
 | false=>none
def part (ti:TI) (cs:List AV) (o:Nat):Option AV:=match ti.agg with
 | true=>xl ((cs.drop o).take ti.size) (yy ti.size)
 | false=>cs[o]?
def nc (cs:List AV) (o:Nat) (new:List AV):Option (List AV) :=
 match Nat.ble (o+new.length) cs.length with
 | true=>xl (cs.take o++new++cs.drop (o+new.length)) some
 | false=>none
structure jH where
 T:Nat->Option TI
def Gi:Int->Int->Bool
 | .ofNat a,.ofNat b=>Nat.beq a b
 | .negSucc a,.negSucc b=>Nat.beq a b
 | _,_=>false
def Bx:Int->Int->Bool
 | .ofNat a,.ofNat b=>Nat.ble a b
 | .negSucc a,.negSucc b=>Nat.ble b a
 | .negSucc _,.ofNat _=>true
 | .ofNat _,.negSucc _=>false
def Ij:Int->Int->Int
 | .ofNat a,.ofNat b=>.ofNat (Nat.add a b)
 | .ofNat a,.negSucc b=>match Nat.ble (Nat.succ b) a with
   | true=>.ofNat (Nat.sub a (Nat.succ b))
   | false=>.negSucc (Nat.sub b a)
 | .negSucc b,.ofNat a=>match Nat.ble (Nat.succ b) a with
   | true=>.ofNat (Nat.sub a (Nat.succ b))
   | false=>.negSucc (Nat.sub b a)
 | .negSucc a,.negSucc b=>.negSucc (Nat.succ (Nat.add a b))
def IA:Int->Int
 | .ofNat 0=>.ofNat 0
 | .ofNat (n+1)=>.negSucc n
 | .negSucc n=>.ofNat (n+1)
def sw (k:IntKind) (n:Int):Int:=match k,n with
 | .i64,.ofNat a=>match Nat.ble a 4611686018427387904 with
   | true=>.ofNat a
   | false=>IntKind.wrap .i64 (.ofNat a)
 | .i64,.negSucc a=>match Nat.ble a 4611686018427387904 with
   | true=>.negSucc a
   | false=>IntKind.wrap .i64 (.negSucc a)
 | k,n=>k.wrap n
def LV:IntKind->Nat
 | .i8=>0
 | .i16=>1
 | .i32=>2
 | .i64=>3
 | .u8=>4
 | .u16=>5
 | .u32=>6
 | .u64=>7
def nY (a b:IntKind):Bool:=Nat.beq (LV a) (LV b)
theorem qP (a b:IntKind):nY a b=true↔a=b:=by cases a<;>cases b<;>simp [nY,LV]
def uB (k:IntKind) (a:Int) (y:AV):Option Bool:=match y.int? with
 | some (k',b)=>match nY k k' with
   | true=>some (Gi a b)
   | false=>none
 | none=>none
def y5 (a:List UInt8) (y:AV):Option Bool:=match y.str? with
 | some b=>some (a==b)
 | none=>none
def yk (a:Bool) (y:AV):Option Bool:=match y.bool? with
 | some b=>some (a==b)
 | none=>none
def pQ (_:AV):Option Bool:=none
def mj:AV->AV->Option Bool
 | .bool a=>yk a
 | .int k a=>uB k a
 | .str a=>y5 a
 | _=>pQ
def me:List AV->List AV->Option Bool
 | [],[]=>some true
 | a::x,b::y=>match mj a b with
   | some true=>me x y
   | some false=>match me x y with
     | some _=>some false
     | none=>none
   | none=>none
 | _,_=>none
def Bt (x:List AV) (y:AV):Option Bool:=match y.agg? with
 | some y=>me x y
 | none=>none
def lG (x y:AV):Option Bool:=match x.agg? with
 | some l=>Bt l y
 | none=>mj x y
def findKey (k:AV):List (AV×AV×Nat)->Nat->Option (Option (Nat×AV))
 | [],_=>some none
 | (k',v,_)::es,i=>match lG k k' with
   | some true=>some (some (i,v))
   | some false=>findKey k es (i+1)
   | none=>none
def qG (k:AV):List (AV×AV)->Option (Option AV)
 | []=>some none
 | (k',v)::es=>match lG k k' with
   | some true=>some (some v)
   | some false=>qG k es
   | none=>none
def bytesLess:List UInt8->List UInt8->Bool
 | _,[]=>false
 | [],_::_=>true
 | a::x,b::y=>a<b||(a==b&&bytesLess x y)
theorem o7 (a b:Int):Gi a b=(a==b):=by
 apply Bool.eq_iff_iff.2
 cases a<;>cases b<;>simp only [Gi,Nat.beq_eq,beq_iff_eq,Int.ofNat_eq_natCast,Int.negSucc_eq,Bool.false_eq_true,false_iff]<;>omega
theorem vM (a b:Int):Bx a b=decide (a<=b):=by
 apply Bool.eq_iff_iff.2
 cases a<;>cases b<;>simp only [Bx,Nat.ble_eq,decide_eq_true_eq,Int.ofNat_eq_natCast,Int.negSucc_eq,Bool.false_eq_true,false_iff,true_iff]<;>omega
theorem BK (a b:Int):Ij a b=a+b:=by
 cases a<;>cases b<;>simp only [Ij,Nat.add_eq,Nat.sub_eq]
 ·rfl
 ·split
  ·rename_i h; simp only [Nat.ble_eq] at h; grind
  ·rename_i h
   have h:=(Bool.not_eq_true _).symm.mp h
   simp only [Nat.ble_eq] at h; grind
 ·split
  ·rename_i h; simp only [Nat.ble_eq] at h; grind
  ·rename_i h
   have h:=(Bool.not_eq_true _).symm.mp h
   simp only [Nat.ble_eq] at h; grind
 rfl
theorem B3 (a:Int):IA a = -a:=by
 rcases a with (_ | n) | n<;>simp only [IA,Int.ofNat_eq_natCast,Int.negSucc_eq]<;>omega
theorem vE (n:Int) (h1 : -9223372036854775808<=n) (h2:n<=9223372036854775807):IntKind.wrap .i64 n=n:=by
 grind [IntKind.wrap,IntKind.bits,IntKind.signed]
theorem rU (k:IntKind) (n:Int):sw k n=k.wrap n:=by
 unfold sw
 split
 ·split
  ·rename_i h
   simp only [Nat.ble_eq] at h
   grind [vE]
  ·rfl
 ·split
  ·rename_i h
   simp only [Nat.ble_eq] at h
   grind [vE]
  ·rfl
 ·rfl
def nO (k:IntKind) (n:Int):Option AV:=some (.int k n)
def zL (b:Bool):Option AV:=some (.bool b)
def tv:Bool->Option AV
 | true=>some (.bool false)
 | false=>some (.bool true)
abbrev IB:=IntKind->Int->Int->Option AV
def Hx:IB:=λk x y=>fI (sw k (Ij x y)) (nO k)
def Jh:IB:=λk x y=>fI (sw k (Ij x (IA y))) (nO k)
def Qb:IB:=λk x y=>fI (sw k (x*y)) (nO k)
def Q5:IB:=λk x y=>if y=0 then none else fI (sw k (x.tdiv y)) (nO k)
def OY:IB:=λk x y=>if y=0 then none else fI (x.tmod y) (nO k)
def Iv:IB:=λ_ x y=>fB (Gi x y) zL
def Jd:IB:=λ_ x y=>fB (Gi x y) tv
def GR:IB:=λ_ x y=>fB (Bx y x) tv
def Iz:IB:=λ_ x y=>fB (Bx x y) zL
def HU:IB:=λ_ x y=>fB (Bx x y) tv
def IT:IB:=λ_ x y=>fB (Bx y x) zL
def Pw:IB:=λk x y=>fI (k.wrap (BitVec.ofInt k.bits x &&& BitVec.ofInt k.bits y).toNat) (nO k)
def T7:IB:=λk x y=>fI (k.wrap (BitVec.ofInt k.bits x ||| BitVec.ofInt k.bits y).toNat) (nO k)
def Ah:IB:=λk x y=>fI (k.wrap (BitVec.ofInt k.bits x ^^^ BitVec.ofInt k.bits y).toNat) (nO k)
def DZ:IB:=λk x y=>fI (k.wrap (BitVec.ofInt k.bits x &&& ~~~ BitVec.ofInt k.bits y).toNat) (nO k)
def Z5:IB:=λk x y=>if y<0 then none else fI (sw k (x*2 ^ (min y.toNat k.bits))) (nO k)
def VS:IB:=λk x y=>if y<0 then none else fI (x.fdiv (2 ^ (min y.toNat k.bits))) (nO k)
def Tx:IB:=λ_ _ _=>none
def tL:BinOp->Bool
 | .shl | .shr=>true
 | _=>false
def lI:BinOp->IB
 | .add=>Hx
 | .sub=>Jh
 | .mul=>Qb
 | .quo=>Q5
 | .rem=>OY
 | .eql=>Iv
 | .neq=>Jd
 | .lss=>GR
 | .leq=>Iz
 | .gtr=>HU
 | .geq=>IT
 | .and=>Pw
 | .or=>T7
 | .xor=>Ah
 | .andNot=>DZ
 | .shl=>Z5
 | .shr=>VS
def AW (op:BinOp) (x y:List UInt8):Option AV :=
 match op with
 | .add=>match Nat.ble (x.length+y.length) 1099511627776 with
   | true=>xl (x++y) λs=>some (.str s)
   | false=>none
 | .eql=>some (.bool (x==y))
 | .neq=>some (.bool !(x==y))
 | .lss=>some (.bool (bytesLess x y))
 | .leq=>some (.bool (bytesLess x y||x==y))
 | .gtr=>some (.bool !(bytesLess x y||x==y))
 | .geq=>some (.bool !(bytesLess x y))
 | _=>none
def LA:AV->Option Bool
 | .j4=>some true
 | .ptr ..=>some false
 | .ip ..=>some false
 | .la ..=>some false
 | _=>none
def Mo:AV->Option Bool
 | .sl _ .nil=>some true
 | .sl ..=>some false
 | .hs ..=>some false
 | _=>none
def Mg:AV->Option Bool
 | .kg=>some true
 | .hm _=>some false
 | .fm ..=>some false
 | _=>none
def MY:AV->Option Bool
 | .kZ=>some true
 | .jN ..=>some false
 | _=>none
def tG (f:AV->Option Bool) (x y:AV):Option Bool:=match f x,f y with
 | some true,some b=>some b
 | some false,some true=>some false
 | _,_=>none
def rh:TK->AV->Bool
 | .int kd,.int k _=>nY kd k
 | .str,.str _=>true
 | .bool,.bool _=>true
 | _,_=>false
def tZ:AV->Bool
 | .bool _ | .int .. | .str _=>true
 | _=>false
def fitAll:List TK->List AV->Bool
 | [],[]=>true
 | t::ts,a::l=>rh t a&&fitAll ts l
 | _,_=>false
def DR (ti:TI) (x y:AV):Option Bool:=match ti.flat,x.agg?,y.agg? with
 | true,some a,some b=>match Nat.beq a.length ti.size&&Nat.beq b.length ti.size&&fitAll ti.sc a with
   | true=>me a b
   | false=>none
 | _,_,_=>none
def Ky (x y:AV):Option Bool:=match x.bool?,y.bool? with
 | some a,some b=>some (a==b)
 | _,_=>none
def yP (ti:TI) (x y:AV):Option Bool:=match ti.kind with
 | .bool=>Ky x y
 | .ptr=>tG LA x y
 | .slice _=>tG Mo x y
 | .map _ _=>tG Mg x y
 | .func=>tG MY x y
 | .struct _=>DR ti x y
 | .array _ _=>DR ti x y
 | _=>none
def Bl (C:jH) (op:BinOp) (t:Nat) (x y:AV):Option AV:=match C.T t with
 | none=>none
 | some ti=>match op with
   | .eql=>match yP ti x y with
     | some b=>some (.bool b)
     | none=>none
   | .neq=>match yP ti x y with
     | some b=>tv b
     | none=>none
   | _=>none
def DX (op:BinOp) (p:IntKind×Int) (y:AV):Option AV:=match y.int? with
 | some (k,b)=>match nY p.1 k||tL op with
   | true=>lI op p.1 p.2 b
   | false=>none
 | none=>none
def Ds (op:BinOp) (a:List UInt8) (y:AV):Option AV:=match y.str? with
 | some b=>AW op a b
 | none=>none
def binOp (C:jH) (op:BinOp) (t:Nat) (x y:AV):Option AV:=match x.int? with
 | some p=>DX op p y
 | none=>match x.str? with
   | some a=>Ds op a y
   | none=>Bl C op t x y
def unOp (op:UnOp) (x:AV):Option AV:=match op with
 | .not=>match x.bool? with
   | some b=>tv b
   | none=>none
 | .neg=>match x.int? with
   | some (k,n)=>fI (sw k (IA n)) (nO k)
   | none=>none
 | .xor=>match x.int? with
   | some (k,n)=>Ah k (if k.signed then -1 else k.max) n
   | none=>none
 | _=>none
def min2:AV->AV->Option AV
 | .int k x,.int _ y=>some (.int k (if y<x then y else x))
 | _,_=>none
def max2:AV->AV->Option AV
 | .int k x,.int _ y=>some (.int k (if y > x then y else x))
 | _,_=>none
def Bh (f:AV->AV->Option AV):AV->List AV->Option AV
 | a,[]=>some a
 | a,b::l=>match f a b with
   | some c=>Bh f c l
   | none=>none
def elems (h:aT):AV->Option (List (List AV))
 | .sl xs _=>some xs
 | .hs b g off len=>match h.get b with
   | some (.iG g' _ xs)=>match Nat.beq g g'&&Nat.ble (off+len) xs.length with
     | true=>some ((xs.drop off).take len)
     | false=>none
   | _=>none
 | _=>none
def zb (ys:List (List AV)):Bool:=ys.all λc=>c.all AV.kh
def sf (ys:List (List AV)):Bool:=ys.all λc=>c.all AV.yH
def nJ (n:Nat) (ys:List (List AV)):Bool:=ys.all λc=>Nat.beq c.length n
def overwrite (xs:List (List AV)) (at_:Nat) (ys:List (List AV)):List (List AV):=xs.take at_++ys++xs.drop (at_+ys.length)
def sj:Nat:=1048576
def rz (n:Nat) (h:aT) (xs ys:List (List AV)):Option (AV×aT) :=
 match nJ n xs&&Nat.ble (xs.length+ys.length) sj with
 | true=>fN (xs.length+ys.length) λm=>some (.hs h.size 0 0 m,h.push (.iG 0 n (xs++ys)))
 | false=>none
def AO (n:Nat) (h:aT) (b g off len:Nat) (ys:List (List AV)):Option (AV×aT) :=
 match h.get b with
 | some (.iG g' z xs)=>match Nat.beq g g'&&Nat.beq z n&&Nat.ble (off+len+ys.length) sj with
   | false=>none
   | true=>match Nat.ble (off+len+ys.length) xs.length with
     | true=>fN (len+ys.length) λm=>some (.hs b g off m,h.set b (.iG g z (overwrite xs (off+len) ys)))
     | false=>match Nat.beq (off+len) xs.length with
       | true=>fN (len+ys.length) λm=>some (.hs b (g+1) 0 m,h.set b (.iG (g+1) z (xs.drop off++ys)))
       | false=>none
 | _=>none
def append (n:Nat) (h:aT) (s:AV) (ys:List (List AV)):Option (AV×aT) :=
 match ys with
 | []=>match s with
   | .sl xs c=>some (.sl xs c,h)
   | .hs b g off len=>some (.hs b g off len,h)
   | _=>none
 | _::_=>match nJ n ys with
   | false=>none
   | true=>match s with
     | .sl xs .nil=>rz n h xs ys
     | .sl xs (.exact m)=>match Nat.blt m (xs.length+ys.length) with
       | true=>rz n h xs ys
       | false=>none
     | .hs b g off len=>AO n h b g off len ys
     | _=>none
def Th:Int->Option Nat
 | .ofNat n=>some n
 | .negSucc _=>none
def oW (v:AV):Option Nat:=match v.int? with
 | some (_,n)=>Th n
 | none=>none
def bound (x:Option AV) (dflt:Nat):Option Nat :=
 match x with
 | none=>some dflt
 | some v=>oW v
def HX (s:List UInt8) (lo hi mx:Option AV):Option AV:=match bound lo 0,bound hi s.length,mx with
 | some l,some r,none=>match Nat.ble l r&&Nat.ble r s.length with
   | true=>xl ((s.drop l).take (r - l)) λs=>some (.str s)
   | false=>none
 | _,_,_=>none
def o6 (l:Nat):mQ->mQ
 | .exact n=>.exact (n - l)
 | c=>c
def sF (n:Nat):mQ->mQ
 | .nil=>.nil
 | .lU=>.lU
 | _=>.exact n
def nQ (n:Nat):List (List AV)->Bool
 | []=>true
 | c::_=>Nat.beq c.length n
def pW (hi:Option AV):Option AV->Option (Option Nat)
 | none=>some none
 | some m=>match hi,oW m with
   | some _,some m=>some (some m)
   | _,_=>none
def yg:mQ->mQ
 | .lU=>.kb
 | c=>c
def Az (l m:Nat) (cap:mQ):List (List AV)->Option AV
 | []=>some (.sl [] (sF (m - l) (yg cap)))
 | x::xs=>some (.sl (x::xs) (sF (m - l) cap))
def uE (n:Nat) (xs:List (List AV)) (cap:mQ) (lo hi mx:Option AV):Option AV:=match bound lo 0,bound hi xs.length,pW hi mx with
 | some l,some r,some none=>match Nat.ble l r&&Nat.ble r xs.length&&nQ n xs with
   | true=>xl ((xs.drop l).take (r - l)) λxs=>some (.sl xs (o6 l cap))
   | false=>none
 | some l,some r,some (some m)=>match Nat.ble l r&&Nat.ble r m&&Nat.ble m xs.length&&nQ n xs with
   | true=>xl ((xs.drop l).take (r - l)) (Az l m cap)
   | false=>none
 | _,_,_=>none
def C6 (b g off:Nat) (l r:Nat):Option Nat->Option AV
 | none=>fN (off+l) λo=>fN (r - l) λk=>some (.hs b g o k)
 | some m=>match Nat.ble r m with
   | true=>match Nat.beq l m with
     | true=>some (.sl [] (.exact 0))
     | false=>some .undef
   | false=>none
def EO (n:Nat) (h:aT) (b g off len:Nat) (lo hi mx:Option AV):Option AV:=match h.get b with
 | some (.iG g' z xs)=>match Nat.beq g g'&&Nat.beq z n with
   | false=>none
   | true=>match bound lo 0,bound hi len,pW hi mx with
     | some l,some r,some m=>match Nat.ble l r&&Nat.ble (off+r) xs.length&&Nat.ble (off+m.getD 0) xs.length with
       | true=>C6 b g off l r m
       | false=>none
     | _,_,_=>none
 | _=>none
def slice (n:Nat) (h:aT) (x:AV) (lo hi mx:Option AV):Option AV :=
 match x with
 | .sl xs cap=>uE n xs cap lo hi mx
 | .hs b g off len=>EO n h b g off len lo hi mx
 | _=>none
abbrev JH:=aT->TI->Option AV
def Iy (d o:Nat):JH:=λh ti=>match jK h.iq d with
 | some cs=>part ti cs o
 | none=>none
def Vp (cs:List AV) (o:Nat) (_:Bool):JH:=λ_ ti=>part ti cs o
def AH (b g i o:Nat):JH:=λh ti=>match h.get b with
 | some (.iG g' _ xs)=>match Nat.beq g g' with
   | true=>match xs[i]? with
     | some cs=>part ti cs o
     | none=>none
   | false=>none
 | _=>none
def Uz:JH:=λ_ _=>none
def re:AV->JH
 | .la d o=>Iy d o
 | .ip cs o s=>Vp cs o s
 | .ptr b g i o=>AH b g i o
 | _=>Uz
abbrev Rh:=List AV->aT->Option aT
def MP (d o:Nat):Rh:=λnew h=>match jK h.iq d with
 | some cs=>match nc cs o new with
   | some cs=>some { h with iq:=sT h.iq d cs }
   | none=>none
 | none=>none
def Da (b g i o:Nat):Rh:=λnew h=>match h.get b with
 | some (.iG g' z xs)=>match Nat.beq g g' with
   | true=>match xs[i]? with
     | some cs=>match nc cs o new with
       | some cs=>some (h.set b (.iG g z (xs.set i cs)))
       | none=>none
     | none=>none
   | false=>none
 | _=>none
def Tz:Rh:=λ_ _=>none
def xH:AV->Rh
 | .la d o=>MP d o
 | .ptr b g i o=>Da b g i o
 | _=>Tz
def wa (h:aT) (ti:TI) (a v:AV):Option aT :=
 match cellsOf ti v with
 | none=>none
 | some new=>match new.all AV.kh with
   | true=>xH a new h
   | false=>none
def MC (d o:Nat) (k:Nat):Option AV:=fN (o+k) λo=>some (.la d o)
def MK (cs:List AV) (o:Nat) (s:Bool) (k:Nat):Option AV:=fN (o+k) λo=>some (.ip cs o s)
def CS (b g i o:Nat) (k:Nat):Option AV:=fN (o+k) λo=>some (.ptr b g i o)
def Ul (_:Nat):Option AV:=none
def zW:AV->Nat->Option AV
 | .la d o=>MC d o
 | .ip cs o s=>MK cs o s
 | .ptr b g i o=>CS b g i o
 | _=>Ul
def A6:Bool->mQ
 | true=>.lU
 | false=>.kb
def ju (f:AV->Option AV):List AV->Option (List AV)
 | []=>some []
 | v::l=>match f v with
   | none=>none
   | some w=>match ju f l with
     | none=>none
     | some l'=>some (w::l')
def ni (f:AV->Option AV):List (List AV)->Option (List (List AV))
 | []=>some []
 | v::l=>match ju f v with
   | none=>none
   | some w=>match ni f l with
     | none=>none
     | some l'=>some (w::l')
def oD (f:AV->Option AV):List (AV×AV×Nat)->Option (List (AV×AV))
 | []=>some []
 | (k,v,_)::l=>match f v with
   | none=>none
   | some w=>match oD f l with
     | none=>none
     | some l'=>some ((k,w)::l')
def freeze (sn:Bool) (h:aT):Nat->AV->Option AV
 | 0,_=>none
 | n+1,v=>match v with
   | .bool _ | .int _ _ | .str _ | .j4 | .kg | .kZ=>some v
   | .ip _ _ s=>match s&&!sn with
     | true=>none
     | false=>some v
   | .fm _ s=>match s&&!sn with
     | true=>none
     | false=>some v
   | .sl _ .lU=>match sn with
     | true=>some v
     | false=>none
   | .sl _ _=>some v
   | .ptr b g i o=>match h.get b with
     | some (.iG g' _ xs)=>match Nat.beq g g' with
       | true=>match xs[i]? with
         | some cs=>match ju (freeze sn h n) cs with
           | some cs=>some (.ip cs o sn)
           | none=>none
         | none=>none
       | false=>none
     | _=>none
   | .hs b g off len=>match h.get b with
     | some (.iG g' _ xs)=>match Nat.beq g g'&&Nat.ble (off+len) xs.length with
       | true=>match ni (freeze sn h n) ((xs.drop off).take len) with
         | some xs=>some (.sl xs (A6 sn))
         | none=>none
       | false=>none
     | _=>none
   | .hm b=>match h.get b with
     | some (.map es _)=>match oD (freeze sn h n) es with
       | some es=>some (.fm es sn)
       | none=>none
     | _=>none
   | .jN f a c=>match ju (freeze sn h n) a,ju (freeze sn h n) c with
     | some a,some c=>some (.jN f a c)
     | _,_=>none
   | .agg l=>match ju (freeze sn h n) l with
     | some l=>some (.agg l)
     | none=>none
   | .je l=>match ju (freeze sn h n) l with
     | some l=>some (.je l)
     | none=>none
   | .undef | .la _ _=>none
def AV.qI:AV->Bool
 | .ptr .. | .hs .. | .hm _=>true
 | .agg l=>l.any λ| .ptr .. | .hs .. | .hm _=>true | .jN _ a c=>!(a.all AV.lK&&c.all AV.lK) | _=>false
 | .jN _ a c=>!(a.all AV.lK&&c.all AV.lK)
 | _=>false
def AV.nq:AV->Bool
 | .la .. | .je _=>false
 | _=>true
abbrev iE:AV:=.sl [] .nil
abbrev iD:AV:=.bool false
end Go.Sx
namespace Go.Sx
inductive lB where
 | nil
 | seq (live:List Nat) (a b:lB)
 | sq (a b:lB)
 | two (a b:lB)
 | loop (live:List Nat) (a:lB)
 | pC (sch:List (Nat×List Nat))
 deriving Inhabited
def mB {α:Type} (f : α->α->Bool):List α->List α->Bool
 | [],[]=>true
 | a::x,b::y=>f a b&&mB f x y
 | _,_=>false
def qy:mQ->mQ->Bool
 | .nil,.nil=>true
 | .exact n,.exact m=>Nat.beq n m
 | .kb,.kb=>true
 | .lU,.lU=>true
 | _,_=>false
def B8:Bool->Bool->Bool
 | true,b=>b
 | false,true=>false
 | false,false=>true
def lZ:Nat->AV->AV->Bool
 | 0,_,_=>false
 | n+1,a,b=>match a,b with
   | .undef,.undef=>true
   | .bool x,.bool y=>B8 x y
   | .int k x,.int l y=>nY k l&&Gi x y
   | .str x,.str y=>x==y
   | .j4,.j4=>true
   | .ip c o s,.ip d p t=>mB (lZ n) c d&&Nat.beq o p&&B8 s t
   | .la d o,.la e p=>Nat.beq d e&&Nat.beq o p
   | .ptr b g i o,.ptr b' g' i' o'=>Nat.beq b b'&&Nat.beq g g'&&Nat.beq i i'&&Nat.beq o o'
   | .sl xs c,.sl ys d=>mB (mB (lZ n)) xs ys&&qy c d
   | .hs b g i o,.hs b' g' i' o'=>Nat.beq b b'&&Nat.beq g g'&&Nat.beq i i'&&Nat.beq o o'
   | .kg,.kg=>true
   | .hm b,.hm c=>Nat.beq b c
   | .fm x s,.fm y t=>mB (λp q=>lZ n p.1 q.1&&lZ n p.2 q.2) x y&&B8 s t
   | .kZ,.kZ=>true
   | .agg x,.agg y=>mB (lZ n) x y
   | _,_=>false
structure iA where
 body:Code
 lV:lB
 iq:List Nat
 qY:List Nat
 jm:List Nat
 res:List ResultVar
 iter:Bool
inductive Ex where
 | ka
 | ext (id:Nat)
 | ret
 deriving DecidableEq
abbrev qD:=Bool->Nat->List AV->aT->Option (AV×aT)
def A1 (C:jH) (ti:TI):List (Nat×AV)->List AV->Option (List AV)
 | [],cs=>some cs
 | (i,v)::rest,cs =>
   match (match ti.kind with
    | .struct fs=>fs[i]?
    | .array n el=>match C.T el with
      | some t=>if i<n then some (i*t.size,el) else none
      | none=>none
    | _=>none) with
   | none=>none
   | some (off,ft)=>match C.T ft with
     | none=>none
     | some t=>match cellsOf t v with
       | none=>none
       | some new=>if new.all AV.kh then match nc cs off new with
         | none=>none
         | some cs=>A1 C ti rest cs else none
def tz (t:TI):List (Nat×AV)->List (List AV)->Option (List (List AV))
 | [],xs=>some xs
 | (i,v)::rest,xs=>match cellsOf t v with
   | none=>none
   | some new=>match new.all AV.kh&&Nat.blt i xs.length with
     | true=>tz t rest (xs.set i new)
     | false=>none
def zH (fa:iA) (n:Nat) (dst:Option Nat) (h:aT) (xs:List (List AV)):Option (AV×aT) :=
 match dst with
 | none=>none
 | some d=>match fa.qY.elem d||!(sf xs) with
   | true=>some (.hs h.size 0 0 xs.length,h.push (.iG 0 n xs))
   | false=>some (.sl xs (.exact xs.length),h)
def uu (C:jH) (t:Nat):Option TI :=
 match C.T t with
 | some ti=>match ti.kind with
   | .slice el=>C.T el
   | _=>none
 | none=>none
def xL (k v:AV) (es:List (AV×AV×Nat)) (clock:Nat):Option (List (AV×AV×Nat)×Nat) :=
 match findKey k es 0 with
 | none=>none
 | some none=>some (es++[(k,v,clock)],clock+1)
 | some (some (i,_))=>some (es.modify i (λe=>(k,v,e.2.2)),clock)
def Gv (k:AV) (es:List (AV×AV×Nat)):Option (List (AV×AV×Nat)) :=
 match findKey k es 0 with
 | none=>none
 | some none=>some es
 | some (some (i,_))=>some (es.eraseIdx i)
def pN (n:Int) (v:AV):List (AV×AV×Nat)->Option (List (AV×AV×Nat))
 | []=>none
 | (k,w,b)::es=>if (b:Int)==n then some ((k,v,b)::es) else match pN n v es with
   | none=>none
   | some es=>some ((k,w,b)::es)
def AV.pA:AV->Bool
 | .bool _ | .int .. | .str _=>true
 | .agg l=>l.all λ| .bool _ | .int .. | .str _=>true | _=>false
 | _=>false
def pR (tk:TI) (k:AV):Bool:=match tk.agg with
 | false=>rh tk.kind k
 | true=>match k.agg? with
   | some l=>tk.flat&&Nat.beq l.length tk.size&&fitAll tk.sc l
   | none=>false
def qx (C:jH) (kt:Nat) (k:AV):Bool:=match C.T kt with
 | some tk=>pR tk k
 | none=>false
def mapKey (C:jH) (t:Nat) (k:AV):Bool:=match C.T t with
 | some tm=>match tm.kind with
   | .map kt _=>qx C kt k
   | _=>false
 | none=>false
def AV.yM:AV->Bool
 | .la .. | .je _=>false
 | .agg l=>l.all AV.kh
 | _=>true
abbrev R2:=Option (AV×aT)
def kz (h:aT):Option AV->R2
 | some v=>some (v,h)
 | none=>none
def Kf (x:AV):Option Nat:=match x.str? with
 | some s=>some s.length
 | none=>none
def uK:AV->Option Nat
 | .sl xs _=>some xs.length
 | .hs _ _ _ len=>some len
 | _=>none
def EF (h:aT):AV->Option Nat
 | .kg=>some 0
 | .fm es _=>some es.length
 | .hm b=>match h.get b with
   | some (.map es _)=>some es.length
   | _=>none
 | _=>none
def vd (h:aT) (x:AV):TK->Option Nat
 | .array n _=>some n
 | .str=>Kf x
 | .slice _=>uK x
 | .map _ _=>EF h x
 | _=>none
def o8 (h:aT):Option Nat->R2
 | some n=>some (.int .i64 n,h)
 | none=>none
def ui (C:jH) (ats:List Nat) (args:List AV) (h:aT):R2:=match ats,args with
 | t::_,[x]=>match C.T t with
   | some ti=>o8 h (vd h x ti.kind)
   | none=>none
 | _,_=>none
def QJ:AV->Option Nat
 | .sl _ .nil=>some 0
 | .sl _ (.exact n)=>some n
 | _=>none
def rv (C:jH):List Nat->Option TI
 | t::_=>uu C t
 | []=>none
def BS (C:jH) (ats:List Nat) (args:List AV) (h:aT):R2:=match rv C ats,args with
 | some _,[x]=>o8 h (QJ x)
 | _,_=>none
def pH (h:aT) (x:AV):Option (List (List AV)):=match x.str? with
 | some l=>some (l.map λc=>[AV.int .u8 c.toNat])
 | none=>elems h x
def yF:TK->Bool
 | .slice _=>true
 | .str=>true
 | _=>false
def En (C:jH):List Nat->Bool
 | [_,t]=>match C.T t with
   | some ti=>yF ti.kind
   | none=>false
 | _=>false
def rZ (C:jH) (ats:List Nat) (args:List AV) (h:aT):R2:=match rv C ats,args with
 | some ti,[s,x]=>match En C ats with
   | true=>match pH h x with
     | none=>none
     | some ys=>match zb ys with
       | true=>append ti.size h s ys
       | false=>none
   | false=>none
 | _,_=>none
def Dr (n:Nat) (h:aT) (ys:List (List AV)):AV->R2
 | .hs b g off len=>match h.get b with
   | some (.iG g' z xs)=>match Nat.beq g g'&&Nat.beq z n&&Nat.ble (off+len) xs.length&&zb ys&&nJ n ys with
     | true=>some (.int .i64 ((min ys.length len:Nat):Int),h.set b (.iG g z (overwrite xs off (ys.take (min ys.length len)))))
     | false=>none
   | _=>none
 | .sl [] _=>some (.int .i64 0,h)
 | _=>none
def A8 (C:jH) (ats:List Nat) (args:List AV) (h:aT):R2:=match rv C ats,args with
 | some ti,[d,x]=>match elems h x with
   | some ys=>Dr ti.size h ys d
   | none=>none
 | _,_=>none
def za (C:jH) (k:AV):List Nat->Bool
 | t::_=>mapKey C t k
 | []=>false
def vV (C:jH) (ats:List Nat) (args:List AV) (h:aT):R2:=match args with
 | [.kg,k]=>match za C k ats with
   | true=>some (.je [],h)
   | false=>none
 | [.hm b,k]=>match h.get b with
   | some (.map es c)=>match za C k ats with
     | true=>match Gv k es with
       | some es=>some (.je [],h.set b (.map es c))
       | none=>none
     | false=>none
   | _=>none
 | _=>none
def Jr (ti:TI) (h:aT):AV->R2
 | .sl [] _=>some (.je [],h)
 | .hs b g off len=>match h.get b with
   | some (.iG g' z xs)=>match Nat.beq g g'&&Nat.beq z ti.size&&Nat.ble (off+len) xs.length with
     | true=>some (.je [],h.set b (.iG g z (overwrite xs off (List.replicate len ti.zero))))
     | false=>none
   | _=>none
 | _=>none
def ym (C:jH) (ats:List Nat) (args:List AV) (h:aT):R2:=match rv C ats,args with
 | some ti,[x]=>Jr ti h x
 | _,_=>none
def qS (f:AV->AV->Option AV) (args:List AV) (h:aT):R2:=match args with
 | x::rest=>kz h (Bh f x rest)
 | []=>none
abbrev zp:=jH->List Nat->List AV->aT->R2
def w8:zp:=ui
def OI:zp:=BS
def Ac:zp:=rZ
def Vv:zp:=A8
def Ml:zp:=λC ats a h=>vV C ats a h
def Sl:zp:=ym
def PW:zp:=λ_ _ a h=>qS max2 a h
def PX:zp:=λ_ _ a h=>qS min2 a h
def UB:zp:=λ_ _ _ _=>none
def mJ:Builtin->zp
 | .len=>w8
 | .cap=>OI
 | .append=>Ac
 | .copy=>Vv
 | .delete=>Ml
 | .clear=>Sl
 | .max=>PW
 | .min=>PX
 | _=>UB
def nv (f:Operand->AV):Option Operand->Option AV
 | none=>none
 | some x=>some (f x)
def asAgg (ti:TI) (cs:List AV):Option AV:=match ti.agg with
 | true=>some (.agg cs)
 | false=>match cs with
   | [v]=>some v
   | _=>none
def qo (h:aT) (k:AV):AV->Option (Option AV)
 | .kg=>some none
 | .fm es _=>qG k es
 | .hm b=>match h.get b with
   | some (.map es _)=>match findKey k es 0 with
     | none=>none
     | some none=>some none
     | some (some (_,v))=>some (some v)
   | _=>none
 | _=>none
def yZ (ok b:Bool) (v:AV):Option AV:=match ok with
 | true=>some (.je [v,.bool b])
 | false=>some v
def qX (C:jH) (t:Nat) (h:aT) (m k:AV) (ok:Bool):Option AV:=match C.T t with
 | none=>none
 | some tm=>match tm.kind with
   | .map kt el=>match C.T el with
     | none=>none
     | some ti=>match qx C kt k with
       | false=>none
       | true=>match qo h k m with
         | none=>none
         | some (some v)=>yZ ok true v
         | some none=>match asAgg ti ti.zero with
           | none=>none
           | some z=>yZ ok false z
   | _=>none
def C0 (h:aT) (c a b:AV):R2:=match c.bool? with
 | some true=>some (a,h)
 | some false=>some (b,h)
 | none=>none
def newVar (fa:iA) (d:Nat) (h:aT) (cs:List AV):R2:=match fa.iq.elem d with
 | true=>match jK h.iq d with
   | none=>some (.la d 0,{ h with iq:=(d,cs)::h.iq })
   | some _=>none
 | false=>some (.ptr h.size 0 0 0,h.push (.iG 0 cs.length [cs]))
def Ap (C:jH) (fa:iA) (dst:Option Nat) (h:aT) (t:Nat):R2:=match C.T t with
 | some ti=>match dst with
   | some d=>newVar fa d h ti.zero
   | none=>none
 | none=>none
def Hf (C:jH) (fa:iA) (dst:Option Nat) (h:aT) (t:Nat) (x:AV):R2:=match C.T t with
 | some ti=>match dst with
   | some d=>match cellsOf ti x with
     | some cs=>match cs.all AV.kh with
       | true=>newVar fa d h cs
       | false=>none
     | none=>none
   | none=>none
 | none=>none
def pb (e:Env) (ps:Array (Nat×Operand)):List (Nat×AV):=ps.toList.map λp=>(p.1,iJ e p.2)
def buildable (C:jH):TK->Bool
 | .struct _=>true
 | .array _ el=>(C.T el).isSome
 | _=>false
def AL (C:jH) (h:aT) (t:Nat) (ps:List (Nat×AV)):R2:=match C.T t with
 | some ti=>match buildable C ti.kind with
   | true=>match A1 C ti ps ti.zero with
     | some cs=>some (.agg cs,h)
     | none=>none
   | false=>none
 | none=>none
def sx (C:jH) (fa:iA) (dst:Option Nat) (h:aT) (t n:Nat) (ps:List (Nat×AV)):R2:=match uu C t with
 | some ti=>match Nat.ble (n*ti.size) 16777216 with
   | true=>match tz ti ps (List.replicate n ti.zero) with
     | some xs=>zH fa ti.size dst h xs
     | none=>none
   | false=>none
 | none=>none
def uV (C:jH) (h:aT) (t:Nat) (a:AV):R2:=match C.T t with
 | some ti=>kz h (re a h ti)
 | none=>none
def vC (C:jH) (h:aT) (t:Nat) (a x:AV):R2:=match C.T t with
 | some ti=>match wa h ti a x with
   | some h=>some (.undef,h)
   | none=>none
 | none=>none
def Bs:AV->Option AV
 | .ptr b g i o=>some (.ptr b g i o)
 | .ip cs o s=>some (.ip cs o s)
 | .la d o=>some (.la d o)
 | .jN f a c=>some (.jN f a c)
 | _=>none
def wZ (C:jH) (h:aT) (s d:Nat) (x:AV):R2:=match C.T s,C.T d with
 | some _,some ti=>match ti.kind with
   | .int k=>match x.int? with
     | some (_,n)=>kz h (fI (sw k n) (nO k))
     | none=>none
   | .str=>match x.str? with
     | some s=>some (.str s,h)
     | none=>none
   | _=>none
 | _,_=>none
def sD (h:aT) (fn:Fn) (a c:List AV):R2:=match fn with
 | .func f=>match a.all AV.kh&&c.all AV.kh with
   | true=>some (.jN f a c,h)
   | false=>none
 | _=>none
def wW (C:jH) (h:aT) (t:Nat) (l c:AV):R2:=match uu C t,l.int?,c.int? with
 | some ti,some (_,l),some (_,c) =>
   match Bx 0 l&&Bx l c&&Bx c 4294967295&&Nat.ble (c.toNat*ti.bytes) 140737488355328 with
   | true=>some (.hs h.size 0 0 l.toNat,h.push (.iG 0 ti.size (List.replicate c.toNat ti.zero)))
   | false=>none
 | _,_,_=>none
def o5 (C:jH) (h:aT) (t:Nat) (x:AV) (lo hi mx:Option AV):R2:=match C.T t with
 | none=>none
 | some ti=>match ti.kind with
   | .slice el=>match C.T el with
     | some ti=>kz h (slice ti.size h x lo hi mx)
     | none=>none
   | .str=>match x.str? with
     | some s=>kz h (HX s lo hi mx)
     | none=>none
   | _=>none
def pZ (C:jH) (h:aT) (t:Nat) (x:AV) (f:Nat):R2:=match C.T t with
 | none=>none
 | some ti=>match ti.kind with
   | .struct fs=>match fs[f]? with
     | some (off,_)=>kz h (zW x off)
     | none=>none
   | _=>none
def A3 (C:jH) (h:aT) (t:Nat) (x:AV) (f:Nat):R2:=match C.T t with
 | none=>none
 | some ti=>match ti.kind with
   | .struct fs=>match fs[f]? with
     | some (off,ft)=>match x.agg? with
       | some cs=>match C.T ft with
         | some ti=>kz h (part ti cs off)
         | none=>none
       | none=>none
     | none=>none
   | _=>none
def pI:mQ->Bool
 | .lU=>true
 | _=>false
def qn (n:Nat) (h:aT) (x:AV) (i:Nat):R2:=match x with
 | .sl xs c=>match xs[i]? with
   | some cs=>match Nat.beq cs.length n with
     | true=>some (.ip cs 0 (pI c),h)
     | false=>none
   | none=>none
 | .hs b g off len=>match h.get b with
   | some (.iG _ z _)=>match Nat.blt i len&&Nat.beq z n with
     | true=>fN (off+i) λk=>some (.ptr b g k 0,h)
     | false=>none
   | _=>none
 | _=>none
def nZ (C:jH) (h:aT) (t:Nat) (x i:AV):R2:=match C.T t with
 | none=>none
 | some ti=>match oW i with
   | none=>none
   | some i=>match ti.kind with
     | .slice el=>match C.T el with
       | some ti=>qn ti.size h x i
       | none=>none
     | .array n el=>match C.T el with
       | some ti=>match Nat.blt i n with
         | true=>kz h (zW x (i*ti.size))
         | false=>none
       | none=>none
     | _=>none
def vy (C:jH) (h:aT) (t:Nat) (x i:AV):R2:=match C.T t with
 | none=>none
 | some ti=>match oW i with
   | none=>none
   | some i=>match ti.kind with
     | .str=>match x.str? with
       | some s=>match s[i]? with
         | some c=>some (.int .u8 c.toNat,h)
         | none=>none
       | none=>none
     | .array n el=>match C.T el with
       | some ti=>match x.agg? with
         | some cs=>match Nat.blt i n with
           | true=>kz h (part ti cs (i*ti.size))
           | false=>none
         | none=>none
       | none=>none
     | _=>none
def tF (C:jH) (h:aT) (t:Nat) (m k x:AV):R2:=match m with
 | .hm b=>match h.get b with
   | some (.map es c)=>match mapKey C t k&&x.yM with
     | true=>match xL k x es c with
       | some (es,c)=>some (.undef,h.set b (.map es c))
       | none=>none
     | false=>none
   | _=>none
 | _=>none
def vS (es:List (AV×AV×Nat)) (i:Nat):Nat:=match es[i]? with
 | some x=>x.2.2
 | none=>0
def sC (C:jH) (h:aT) (t:Nat) (m k:AV):R2:=match C.T t with
 | none=>none
 | some tm=>match tm.kind,m with
   | .map kt el,.hm b=>match C.T el,h.get b with
     | some ti,some (.map es c)=>match qx C kt k with
       | false=>none
       | true=>match findKey k es 0 with
         | some (some (i,v))=>some (.je [v,.int .i64 (vS es i)],h.set b (.map (es.modify i λx=>(k,x.2)) c))
         | some none=>match asAgg ti ti.zero with
           | some z=>some (.je [z,.int .i64 c],h.set b (.map (es++[(k,z,c)]) (c+1)))
           | none=>none
         | none=>none
     | _,_=>none
   | _,_=>none
def sr (h:aT) (m s x:AV):R2:=match m,s.int? with
 | .hm b,some (_,n)=>match h.get b with
   | some (.map es c)=>match x.yM with
     | true=>match pN n x es with
       | some es=>some (.undef,h.set b (.map es c))
       | none=>none
     | false=>none
   | _=>none
 | _,_=>none
def w7 (h:aT) (t:AV) (i:Nat):R2:=match t with
 | .je vs=>kz h vs[i]?
 | _=>none
def vG (m:kK):R2->R2
 | some (v,h)=>some (v,{ h with iq:=m })
 | none=>none
def ua (fa:iA) (call:qD) (h:aT) (f:AV) (args:List AV):R2:=match f with
 | .jN g a cp=>fL (a++args++cp) λargs=>match args.all AV.nq with
   | true=>vG h.iq (call (fa.jm.elem g) g args { h with iq:=[] })
   | false=>none
 | _=>none
def oz (C:jH) (fa:iA) (call:qD) (e:Env) (h:aT) (c:Call):R2:=match c.callee with
 | .builtin b=>mJ b C c.argTypes.toList (c.args.toList.map (iJ e)) h
 | .value f=>ua fa call h (iJ e f) (c.args.toList.map (iJ e))
 | .invoke ..=>none
structure Ctx where
 C:jH
 fa:iA
 call:qD
abbrev oo:=Ctx->Env->aT->Option Nat->R2
def HZ (x:Operand):oo:=λ_ e h _=>some (iJ e x,h)
def Je (c a b:Operand):oo:=λ_ e h _=>C0 h (iJ e c) (iJ e a) (iJ e b)
def Kg (t:Nat):oo:=λX e h d=>Ap X.C X.fa d h t
def Mz (t:Nat) (x:Operand):oo:=λX e h d=>Hf X.C X.fa d h t (iJ e x)
def Eo (t:Nat) (ps:Array (Nat×Operand)):oo:=λX e h _=>AL X.C h t (pb e ps)
def vv (t n:Nat) (ps:Array (Nat×Operand)):oo:=λX e h d=>sx X.C X.fa d h t n (pb e ps)
def wL (t:Nat) (a:Operand):oo:=λX e h _=>uV X.C h t (iJ e a)
def xP (t:Nat) (a x:Operand):oo:=λX e h _=>vC X.C h t (iJ e a) (iJ e x)
def va (x:Operand):oo:=λ_ e h _=>kz h (Bs (iJ e x))
def zK (op:BinOp) (t:Nat) (x y:Operand) (_:Nat):oo:=λX e h _=>kz h (binOp X.C op t (iJ e x) (iJ e y))
def Vw (op:UnOp) (_:Nat) (x:Operand):oo:=λ_ e h _=>kz h (unOp op (iJ e x))
def Ab (s d:Nat) (x:Operand):oo:=λX e h _=>wZ X.C h s d (iJ e x)
def u6 (fn:Fn) (a c:Array Operand):oo:=λ_ e h _=>sD h fn (a.toList.map (iJ e)) (c.toList.map (iJ e))
def DW (_:Nat):Option Operand->oo
 | none=>λ_ _ h _=>some (.hm h.size,h.push (.map [] 0))
 | some _=>λ_ _ _ _=>none
def A0 (t:Nat) (l c:Operand):oo:=λX e h d=>wW X.C h t (iJ e l) (iJ e c)
def pG (t:Nat) (x:Operand) (lo hi mx:Option Operand):oo:=λX e h _=>o5 X.C h t (iJ e x) (nv (iJ e) lo) (nv (iJ e) hi) (nv (iJ e) mx)
def rr (t:Nat) (x:Operand) (f:Nat):oo:=λX e h _=>pZ X.C h t (iJ e x) f
def Eg (t:Nat) (x:Operand) (f:Nat):oo:=λX e h _=>A3 X.C h t (iJ e x) f
def oT (t:Nat) (x i:Operand):oo:=λX e h _=>nZ X.C h t (iJ e x) (iJ e i)
def xr (t:Nat) (x i:Operand):oo:=λX e h _=>vy X.C h t (iJ e x) (iJ e i)
def tM (t:Nat) (m k:Operand) (ok:Bool):oo:=λX e h _=>kz h (qX X.C t h (iJ e m) (iJ e k) ok)
def tC (t:Nat) (m k x:Operand):oo:=λX e h _=>tF X.C h t (iJ e m) (iJ e k) (iJ e x)
def uP (t:Nat) (m k:Operand):oo:=λX e h _=>sC X.C h t (iJ e m) (iJ e k)
def vq (_:Nat) (m s x:Operand):oo:=λ_ e h _=>sr h (iJ e m) (iJ e s) (iJ e x)
def zF (t:Operand) (i:Nat):oo:=λ_ e h _=>w7 h (iJ e t) i
def pr (c:Call):oo:=λX e h _=>oz X.C X.fa X.call e h c
def VZ:oo:=λ_ _ _ _=>none
def jt:Op->oo
 | .move x=>HZ x
 | .assign x=>HZ x
 | .pick c a b=>Je c a b
 | .alloc t=>Kg t
 | .box t x=>Mz t x
 | .build t ps=>Eo t ps
 | .buildSlice t n ps=>vv t n ps
 | .load t a=>wL t a
 | .store t a x=>xP t a x
 | .nilCheck x=>va x
 | .binOp op t x y u=>zK op t x y u
 | .unOp op t x=>Vw op t x
 | .convert s d x=>Ab s d x
 | .makeFunc fn a c=>u6 fn a c
 | .makeMap t r=>DW t r
 | .makeSlice t l c=>A0 t l c
 | .slice t x lo hi mx=>pG t x lo hi mx
 | .fieldAddr t x f=>rr t x f
 | .field t x f=>Eg t x f
 | .indexAddr t x i=>oT t x i
 | .index t x i=>xr t x i
 | .lookup t m k ok=>tM t m k ok
 | .mapUpdate t m k x=>tC t m k x
 | .insert t m k x=>tC t m k x
 | .mapEntry t m k=>uP t m k
 | .entryStore t m s x=>vq t m s x
 | .extract t i=>zF t i
 | .call c=>pr c
 | _=>VZ
def F9 (want:Bool):AV->Option Bool
 | .bool b=>some (B8 b want)
 | .je []=>some false
 | _=>none
def jg (all:List Oper) (e:Env) (o:Oper):Option Bool :=
 match o.guard with
 | none=>some true
 | some (j,want)=>match all[j]? with
   | some o'=>match o'.dst with
     | some d=>F9 want (lF e d)
     | none=>none
   | none=>none
def iS (e:Env) (o:Oper) (v:AV):Env :=
 match o.dst with
 | some d=>D1 e d v
 | none=>e
abbrev RE:=Option (Env×aT)
def pF (X:Ctx) (k:Env->aT->RE) (o:Oper) (e:Env) (h:aT):Option Bool->RE
 | none=>none
 | some true=>match jt o.op X e h o.dst with
   | some (v,h)=>fH h λh=>k (iS e o v) h
   | none=>none
 | some false=>k (iS e o (.je [])) h
def ya (X:Ctx) (all:List Oper):List Oper->Env->aT->RE
 | [],e,h=>some (e,h)
 | o::rest,e,h=>pF X (ya X all rest) o e h (jg all e o)
def EC (e:Env) (d:Nat):Option (AV×aT)->Bool
 | some (v,_)=>lZ 8 v (lF e d)
 | none=>false
def again (X:Ctx) (all:List Oper) (e:Env) (h:aT) (i:Nat):Bool:=match all[i]? with
 | none=>false
 | some o=>match jg all e o with
   | none=>false
   | some false=>true
   | some true=>match o.dst with
     | none=>false
     | some d=>EC e d (jt o.op X e h (some d))
def sP (X:Ctx) (all:List Oper):List (Nat×List Nat)->Env->aT->RE
 | [],e,h=>some (e,h)
 | (i,chk)::rest,e,h=>match all[i]? with
   | none=>none
   | some o=>pF X (λe h=>match chk.all (again X all e h) with
     | true=>sP X all rest e h
     | false=>none) o e h (jg all e o)
abbrev y6:=(Env->aT->Option (Ex×Env×aT))->Env->aT->Option (Ex×Env×aT)
def kJ:Nat->y6
 | 0,_,_,_=>none
 | n+1,f,e,h=>match f e h with
   | some (.ka,e,h)=>kJ n f e h
   | r=>r
abbrev RC:=Option (Ex×Env×aT)
abbrev qB:=lB->Env->aT->RC
def wK:RE->RC
 | some (e,h)=>some (.ka,e,h)
 | none=>none
def yj (X:Ctx) (ops:Array Oper):qB:=λan e h=>match an with
 | .pC sch=>wK (sP X ops.toList sch e h)
 | _=>none
def HS (X:Ctx) (ops:Array Oper):qB:=λ_ e h=>wK (ya X ops.toList ops.toList e h)
def vK (X:Ctx) (ops:Array Oper):Bool->qB
 | true=>yj X ops
 | false=>HS X ops
def andThen (k:Env->aT->RC):RC->RC
 | some (.ka,e,h)=>k e h
 | r=>r
def lM (live:List Nat) (k:Env->aT->RC) (e:Env) (h:aT):RC:=zc live e λe=>vN live h.iq λm=>k e { h with iq:=m }
def xt (a b:qB):qB:=λan e h=>match an with
 | .seq live x y=>andThen (λe h=>lM live (b y) e h) (a x e h)
 | .sq x y=>andThen (b y) (a x e h)
 | _=>none
def C3 (x y:Env->aT->RC) (e:Env) (h:aT) (c:AV):RC:=match c.bool? with
 | some true=>x e h
 | some false=>y e h
 | none=>none
def C4 (c:Operand) (a b:qB):qB:=λan e h=>match an with
 | .two x y=>C3 (a x) (b y) e h (iJ e c)
 | _=>none
def atEnd (id:Nat):RC->RC
 | some (.ext id',e,h)=>match Nat.beq id' id with
   | true=>some (.ka,e,h)
   | false=>some (.ext id',e,h)
 | r=>r
def vP (id:Nat) (a:qB):qB:=λan e h=>atEnd id (a an e h)
def PB (lp:y6) (a:qB):qB:=λan e h=>match an with
 | .loop live x=>lp (lM live (a x)) e h
 | _=>none
def jS (X:Ctx) (lp:y6):Code->qB
 | .skip=>λ_ e h=>some (.ka,e,h)
 | .region _ ops draw=>vK X ops draw
 | .seq a b=>xt (jS X lp a) (jS X lp b)
 | .cond c a b=>C4 c (jS X lp a) (jS X lp b)
 | .block id a=>vP id (jS X lp a)
 | .loop a=>PB lp (jS X lp a)
 | .exit id=>λ_ e h=>some (.ext id,e,h)
 | .scope a=>jS X lp a
 | .label _=>λ_ e h=>some (.ka,e,h)
 | .ret=>λ_ e h=>some (.ret,e,h)
 | _=>λ_ _ _=>none
inductive zB where
 | nil
 | fix (last:Option (AV×AV)) (left:List (AV×AV))
 | Bi (b clk:Nat) (seen:Option Nat)
structure It where
 d:Nat
 k:zB
def Gj (h:aT):AV->Option zB
 | .kg=>some .nil
 | .fm [] _=>some (.fix none [])
 | .fm [x] _=>some (.fix none [x])
 | .hm b=>match h.get b with
   | some (.map [] c)=>some (.Bi b c none)
   | some (.map [_] c)=>some (.Bi b c none)
   | _=>none
 | _=>none
def Dq (C:jH) (h:aT) (t:Nat) (x:AV):Option zB:=match C.T t with
 | some ti=>match ti.kind with
   | .map _ _=>Gj h x
   | _=>none
 | none=>none
def tX (h:aT):zB->Option (Option (AV×AV)×zB)
 | .nil=>some (none,.nil)
 | .fix last []=>some (none,.fix last [])
 | .fix _ (x::l)=>some (some x,.fix (some x) l)
 | .Bi b clk seen=>match h.get b with
   | some (.map es c)=>match Nat.beq c clk,es,seen with
     | true,[],s=>some (none,.Bi b clk s)
     | true,[(k,v,n)],none=>some (some (k,v),.Bi b clk (some n))
     | true,[(_,_,n)],some n'=>match Nat.beq n n' with
       | true=>some (none,.Bi b clk (some n'))
       | false=>none
     | _,_,_=>none
   | _=>none
def y4 (h:aT):zB->Option (AV×AV)
 | .fix (some x) _=>some x
 | .Bi b clk (some n)=>match h.get b with
   | some (.map [(k,v,n')] c)=>match Nat.beq c clk&&Nat.beq n' n with
     | true=>some (k,v)
     | false=>none
   | _=>none
 | _=>none
abbrev RI:=Option (Option It×Env×aT)
def vX (o:Oper):Bool:=match o.guard with
 | none=>true
 | some _=>false
def sd (it:Option It) (o:Oper):Bool:=match it,o.dst with
 | some i,some d=>!(Nat.beq i.d d)
 | _,_=>true
def y9:Option (AV×AV)->AV
 | none=>.je [.bool false]
 | some x=>.je [.bool true,x.1,x.2]
def JK (h:aT) (o:Oper) (t:Nat) (k:Option It->Env->RI) (e:Env) (it:Option It):RI:=match it with
 | some i=>match Nat.beq i.d t&&sd (some i) o&&vX o with
   | true=>match tX h i.k with
     | some (r,k')=>k (some ⟨i.d,k'⟩) (iS e o (y9 r))
     | none=>none
   | false=>none
 | none=>none
def FR (h:aT) (o:Oper) (t:Nat) (k:Option It->Env->RI) (e:Env) (it:Option It):RI:=match it with
 | some i=>match Nat.beq i.d t&&sd (some i) o&&vX o with
   | true=>match y4 h i.k with
     | some x=>k (some i) (iS e o (.je [x.1,x.2]))
     | none=>none
   | false=>none
 | none=>none
def Gm (o:Oper) (x:Option zB) (k:Option It->Env->RI) (e:Env):RI:=match x,o.dst,vX o with
 | some l,some d,true=>k (some ⟨d,l⟩) (D1 e d .undef)
 | _,_,_=>none
inductive OpK where
 | range (t:Nat) (x:Operand)
 | next (t:Nat)
 | entry (t:Nat)
 | plain
 | bad
def D8:Op->OpK
 | .range t x=>.range t x
 | .next (.tmp t) false=>.next t
 | .next _ _=>.bad
 | .entry (.tmp t)=>.entry t
 | .entry _=>.bad
 | _=>.plain
def DE (X:Ctx) (it:Option It) (k:Env->aT->RI) (o:Oper) (e:Env) (h:aT):Option Bool->RI
 | none=>none
 | some true=>match jt o.op X e h o.dst with
   | some (v,h)=>fH h λh=>k (iS e o v) h
   | none=>none
 | some false=>k (iS e o (.je [])) h
def yB (X:Ctx) (all:List Oper):List Oper->Option It->Env->aT->RI
 | [],it,e,h=>some (it,e,h)
 | o::rest,it,e,h=>match D8 o.op with
   | .range t x=>Gm o (Dq X.C h t (iJ e x)) (λit e=>yB X all rest it e h) e
   | .next t=>JK h o t (λit e=>yB X all rest it e h) e it
   | .entry t=>FR h o t (λit e=>yB X all rest it e h) e it
   | .plain=>match sd it o with
     | true=>DE X it (λe h=>yB X all rest it e h) o e h (jg all e o)
     | false=>none
   | .bad=>none
abbrev tS:=Option (Ex×Option It×Env×aT)
def UA:RI->tS
 | some (it,e,h)=>some (.ka,it,e,h)
 | none=>none
def CP (k:Option It->Env->aT->tS):tS->tS
 | some (.ka,it,e,h)=>k it e h
 | r=>r
def vI (live:List Nat) (k:Env->aT->tS) (e:Env) (h:aT):tS:=zc live e λe=>vN live h.iq λm=>k e { h with iq:=m }
def SY (id:Nat):tS->tS
 | some (.ext id',it,e,h)=>match Nat.beq id' id with
   | true=>some (.ka,it,e,h)
   | false=>some (.ext id',it,e,h)
 | r=>r
def AG:Nat->(Option It->Env->aT->tS)->Option It->Env->aT->tS
 | 0,_,_,_,_=>none
 | n+1,f,it,e,h=>match f it e h with
   | some (.ka,it,e,h)=>AG n f it e h
   | r=>r
abbrev yt:=lB->Option It->Env->aT->tS
def Tw (a b:yt):yt:=λan it e h=>match an with
 | .seq live x y=>CP (λit e h=>vI live (b y it) e h) (a x it e h)
 | .sq x y=>CP (b y) (a x it e h)
 | _=>none
def Pj (c:Operand) (a b:yt):yt:=λan it e h=>match an with
 | .two x y=>match (iJ e c).bool? with
   | some true=>a x it e h
   | some false=>b y it e h
   | none=>none
 | _=>none
def Kn (it:Option It):RC->tS
 | some (x,e,h)=>some (x,it,e,h)
 | none=>none
def mN (X:Ctx) (n:Nat):Code->yt
 | .skip=>λ_ it e h=>some (.ka,it,e,h)
 | .region _ ops false=>λ_ it e h=>UA (yB X ops.toList ops.toList it e h)
 | .region _ ops true=>λan it e h=>match ops.toList.all (sd it) with
   | true=>Kn it (yj X ops an e h)
   | false=>none
 | .seq a b=>Tw (mN X n a) (mN X n b)
 | .cond c a b=>Pj c (mN X n a) (mN X n b)
 | .block id a=>λan it e h=>SY id (mN X n a an it e h)
 | .loop a=>λan it e h=>match an with
   | .loop live x=>AG n (λit e h=>vI live (mN X n a x it) e h) it e h
   | _=>none
 | .exit id=>λ_ it e h=>some (.ext id,it,e,h)
 | .scope a=>mN X n a
 | .label _=>λ_ it e h=>some (.ka,it,e,h)
 | .ret=>λ_ it e h=>some (.ret,it,e,h)
 | _=>λ_ _ _ _=>none
def Kh:tS->RC
 | some (x,_,e,h)=>some (x,e,h)
 | none=>none
def Bk (X:Ctx) (n:Nat) (c:Code) (an:lB) (e:Env) (h:aT):Bool->RC
 | true=>Kh (mN X n c an none e h)
 | false=>jS X (kJ n) c an e h
def GS (C:jH) (e:Env) (h:aT):ResultVar->Option AV
 | .tmp t=>some (iJ e (.tmp t))
 | .cell a t=>match C.T t with
   | some ti=>re (iJ e (.tmp a)) h ti
   | none=>none
def B1 (C:jH) (e:Env) (h:aT):List ResultVar->Option (List AV)
 | []=>some []
 | r::l=>match GS C e h r with
   | none=>none
   | some v=>match B1 C e h l with
     | none=>none
     | some l=>some (v::l)
def params:Nat->List AV->Env
 | _,[]=>[]
 | i,v::l=>(i,v)::params (i+1) l
def result:List AV->AV
 | [v]=>v
 | vs=>.je vs
def leave (C:jH) (res:List ResultVar):RC->R2
 | some (.ka,e,h)=>leave1 e h
 | some (.ret,e,h)=>leave1 e h
 | _=>none
where
 leave1 (e:Env) (h:aT):R2:=match B1 C e h res with
  | some vs=>match vs.all AV.nq with
    | true=>some (result vs,h)
    | false=>none
  | none=>none
def tl (C:jH) (fa:iA) (call:qD) (n:Nat) (args:List AV) (h:aT):Option (AV×aT) :=
 leave C fa.res (Bk ⟨C,fa,call⟩ n fa.body fa.lV (params 0 args) h fa.iter)
abbrev kP:=Nat->Option iA
abbrev kx:=Nat->Option (Bool->List AV->aT->Option (AV×aT))
def lf (h:aT) (args:List AV):Option (List AV):=match args.any AV.qI with
 | true=>ju (freeze true h 8) args
 | false=>some args
def frozen:aT->R2->R2
 | h,some (v,h')=>match freeze false h' 8 v with
   | none=>none
   | some v=>some (v,h)
 | _,none=>none
def su (C:jH) (fa:iA) (call:qD) (lp:Nat) (shd:Bool) (args:List AV) (h:aT):Option (AV×aT) :=
 match shd with
 | true=>tl C fa call lp args h
 | false=>match lf h args with
   | none=>none
   | some args'=>frozen h (tl C fa call lp args' aT.empty)
def lT (C:jH) (F:kP) (P:kx):Nat->qD
 | 0,_,_,_,_=>none
 | n+1,shd,f,args,h=>match P f with
   | some p=>p shd args h
   | none=>match F f with
     | none=>none
     | some fa=>su C fa (lT C F P n) n shd args h
end Go.Sx
namespace Go.Sx
open Go
def nW:mQ->Nat->Nat->Prop
 | .nil,_,_=>False
 | .exact n,_,c=>c=n
 | .kb,l,c=>l<=c
 | .lU,l,c=>l<=c
def pf:mQ->Bool
 | .lU=>true
 | _=>false
def MA (ents:Array MapEntry) (clk:Nat):Prop:=(∀ (i:Nat) (e:MapEntry),ents[i]?=some e->e.born<clk)/\(ents.toList.map (·.born)).Nodup
inductive PR (w:World) (T:Bool->Nat->Prop):Bool->AV->Value->Prop
 | undef (m:Bool) (v:Value) (h:v.oneCell'=true):PR w T m .undef v
 | bool (m b:Bool):PR w T m (.bool b) (.bool b)
 | int (m:Bool) (k:IntKind) (n:Int):PR w T m (.int k n) (.int k n)
 | str (m:Bool) (s:List UInt8) (b:ByteArray) (h:b.data.toList=s):PR w T m (.str s) (.string b)
 | j4 (m:Bool):PR w T m .j4 (.pointer none)
 | ip (m:Bool) (cells:List AV) (off:Nat) (sn:Bool) (B base:Nat) (c:Array Value) (e:TypeId) (fr:Nat×Nat) (f:Nat->Value) (hm:sn=true->m=true)
    (hB:w.heap[B]?=some (.cells c e fr)) (hI:T sn B)
    (hc:∀ (i:Nat) (x:AV),cells[i]?=some x->c[base+i]?=some (f i)) (h1:∀ (i:Nat) (x:AV),cells[i]?=some x->(f i).oneCell'=true)
    (hr:∀ (i:Nat) (x:AV),cells[i]?=some x->PR w T sn x (f i)):PR w T m (.ip cells off sn) (.pointer (some ⟨B,base+off,none⟩))
 | slnil (m:Bool):PR w T m (.sl [] .nil) (.slice none 0 0)
 | m4 (m:Bool) (cap:mQ) (a:Addr) (c:Nat) (hm:pf cap=true->m=true) (h:nW cap 0 c):PR w T m (.sl [] cap) (.slice (some a) 0 c)
 | sl (m:Bool) (xs:List (List AV)) (cap:mQ) (B base:Nat) (c:Array Value) (e:TypeId) (fr:Nat×Nat) (cap' esz:Nat) (f:Nat->Nat->Value)
    (hm:pf cap=true->m=true)
    (hB:w.heap[B]?=some (.cells c e fr)) (hI:T (pf cap) B) (hcap:nW cap xs.length cap') (hle:xs.length<=cap')
    (hz:∀ (i:Nat) (cs:List AV),xs[i]?=some cs->cs.length=esz)
    (hc:∀ (i:Nat) (cs:List AV) (j:Nat) (x:AV),xs[i]?=some cs->cs[j]?=some x->c[base+i*esz+j]?=some (f i j))
    (h1:∀ (i:Nat) (cs:List AV) (j:Nat) (x:AV),xs[i]?=some cs->cs[j]?=some x->(f i j).oneCell'=true)
    (hr:∀ (i:Nat) (cs:List AV) (j:Nat) (x:AV),xs[i]?=some cs->cs[j]?=some x->PR w T (pf cap) x (f i j)) :
    PR w T m (.sl xs cap) (.slice (some ⟨B,base,none⟩) xs.length cap')
 | kg (m:Bool):PR w T m .kg (.map none)
 | fm (m:Bool) (es:List (AV×AV)) (sn:Bool) (r:Nat) (ents:Array MapEntry) (clk:Nat) (hm:sn=true->m=true) (hB:w.heap[r]?=some (.map ents clk)) (hI:T sn r)
    (hl:es.length=ents.size) (hy:MA ents clk) (hko:∀ (i:Nat) (p:AV×AV),es[i]?=some p->p.1.pA=true)
    (hk:∀ (i:Nat) (p:AV×AV) (e:MapEntry),es[i]?=some p->ents[i]?=some e->PR w T sn p.1 e.key)
    (hv:∀ (i:Nat) (p:AV×AV) (e:MapEntry),es[i]?=some p->ents[i]?=some e->PR w T sn p.2 e.val):PR w T m (.fm es sn) (.map (some r))
 | kZ (m:Bool):PR w T m .kZ .nilFunc
 | jN (m:Bool) (g:Nat) (a c:List AV) (a' c':Array Value) (ha:a.length=a'.size) (hc:c.length=c'.size)
    (hra:∀ (i:Nat) (x:AV) (y:Value),a[i]?=some x->a'[i]?=some y->PR w T m x y) (hrc:∀ (i:Nat) (x:AV) (y:Value),c[i]?=some x->c'[i]?=some y->PR w T m x y) :
    PR w T m (.jN g a c) (.func (.func g) a' c')
 | agg (m:Bool) (l:List AV) (vs:Array Value) (hl:l.length=vs.size) (h1:∀ (i:Nat) (y:Value),vs[i]?=some y->y.oneCell'=true)
    (hr:∀ (i:Nat) (x:AV) (y:Value),l[i]?=some x->vs[i]?=some y->PR w T m x y):PR w T m (.agg l) (.agg vs)
def PR.mono {w w':World} {T T':Bool->Nat->Prop} {m:Bool} {v:AV} {u:Value} (h:PR w T m v u)
  (hI:∀ s B,T s B->T' s B) (hw:∀ s B,T s B->w'.heap[B]?=w.heap[B]?):PR w' T' m v u:=by
 induction h with
 | undef m v h=>exact .undef m v h
 | bool m b=>exact .bool m b
 | int m k n=>exact .int m k n
 | str m s b h=>exact .str m s b h
 | j4 m=>exact .j4 m
 | ip m cells off sn B base c e fr f hm hB hB' hc h1 hr ih=>exact .ip m cells off sn B base c e fr f hm (by grind) (hI _ B hB') hc h1 ih
 | slnil m=>exact .slnil m
 | m4 m cap a c hm h=>exact .m4 m cap a c hm h
 | sl m xs cap B base c e fr cap' esz f hm hB hB' hcap hle hz hc h1 hr ih =>
   exact .sl m xs cap B base c e fr cap' esz f hm (by grind) (hI _ B hB') hcap hle hz hc h1 ih
 | kg m=>exact .kg m
 | fm m es sn r ents clk hm hB hB' hl hy hko hk hv ihk ihv=>exact .fm m es sn r ents clk hm (by grind) (hI _ r hB') hl hy hko ihk ihv
 | kZ m=>exact .kZ m
 | jN m g a c a' c' ha hc hra hrc iha ihc=>exact .jN m g a c a' c' ha hc iha ihc
 | agg m l vs hl h1 hr ih=>exact .agg m l vs hl h1 ih
def PR.up {w:World} {T:Bool->Nat->Prop} {m:Bool} {v:AV} {u:Value} (h:PR w T m v u) (hm:m=false):PR w T true v u:=by
 induction h with
 | undef m v h=>exact .undef _ v h
 | bool m b=>exact .bool _ b
 | int m k n=>exact .int _ k n
 | str m s b h=>exact .str _ s b h
 | j4 m=>exact .j4 _
 | ip m cells off sn B base c e fr f hm hB hB' hc h1 hr ih=>exact .ip _ cells off sn B base c e fr f (λ_=>rfl) hB hB' hc h1 hr
 | slnil m=>exact .slnil _
 | m4 m cap a c hm h=>exact .m4 _ cap a c (λ_=>rfl) h
 | sl m xs cap B base c e fr cap' esz f hm hB hB' hcap hle hz hc h1 hr ih=>exact .sl _ xs cap B base c e fr cap' esz f (λ_=>rfl) hB hB' hcap hle hz hc h1 hr
 | kg m=>exact .kg _
 | fm m es sn r ents clk hm hB hB' hl hy hko hk hv ihk ihv=>exact .fm _ es sn r ents clk (λ_=>rfl) hB hB' hl hy hko hk hv
 | kZ m=>exact .kZ _
 | jN m g a c a' c' ha hc hra hrc iha ihc=>exact .jN _ g a c a' c' ha hc (λi x y hx hy=>iha i x y hx hy hm) (λi x y hx hy=>ihc i x y hx hy hm)
 | agg m l vs hl h1 hr ih=>exact .agg _ l vs hl h1 (λi x y hx hy=>ih i x y hx hy hm)
def PR.GB {w:World} {T:Bool->Nat->Prop} {m:Bool} {v:AV} {u:Value} (h:PR w T m v u):PR w T true v u:=by
 cases m
 ·exact h.up rfl
 ·exact h
structure Loc where
 B:Nat
 base:Nat
 cap:Nat
structure Ga where
 w:World
 T:Bool->Nat->Prop
 h:aT
 pi:Nat->Option Loc
 L:Nat->Option Nat
def AV.ko:AV->Bool
 | .bool _ | .int _ _ | .str _ | .j4 | .ip _ _ _ | .sl _ _ | .kg | .fm _ _ | .kZ=>true
 | _=>false
def AV.mM:AV->Bool
 | .la _ _ | .je _=>false
 | _=>true
inductive VR (G:Ga):AV->Value->Prop
 | undef (v:Value):VR G .undef v
 | jn {v:AV} {u:Value} (hp:v.ko=true) (h:PR G.w G.T true v u):VR G v u
 | ptr (b g i o:Nat) (a:Addr) (hb:b<G.h.size) (hg:∀ g0 z xs,G.h.get b=some (.iG g0 z xs)->g<=g0)
    (h:∀ z xs,G.h.get b=some (.iG g z xs)->∃ l,G.pi b=some l/\a=⟨l.B,l.base+i*z+o,none⟩) :
    VR G (.ptr b g i o) (.pointer (some a))
 | hs (b g off len:Nat) (a:Addr) (cap':Nat) (hb:b<G.h.size) (hg:∀ g0 z xs,G.h.get b=some (.iG g0 z xs)->g<=g0) (hle:len<=cap')
    (h:∀ z xs,G.h.get b=some (.iG g z xs)->∃ l,G.pi b=some l/\off+cap'=l.cap/\(0<cap'->a=⟨l.B,l.base+off*z,none⟩)) :
    VR G (.hs b g off len) (.slice (some a) len cap')
 | hm (b r:Nat) (hb:b<G.h.size) (h:∀ es c,G.h.get b=some (.map es c)->∃ l,G.pi b=some l/\r=l.B):VR G (.hm b) (.map (some r))
 | la (d o B:Nat) (hd:G.L d=some B):VR G (.la d o) (.pointer (some ⟨B,o,none⟩))
 | jN (g:Nat) (a c:List AV) (a' c':Array Value) (ha:a.length=a'.size) (hc:c.length=c'.size) (hna:∀ x∈a,x.mM=true) (hnc:∀ x∈c,x.mM=true)
    (hra:∀ (i:Nat) (x:AV) (y:Value),a[i]?=some x->a'[i]?=some y->VR G x y) (hrc:∀ (i:Nat) (x:AV) (y:Value),c[i]?=some x->c'[i]?=some y->VR G x y) :
    VR G (.jN g a c) (.func (.func g) a' c')
 | agg (l:List AV) (vs:Array Value) (hl:l.length=vs.size) (hn:∀ x∈l,x.mM=true) (h1:∀ (i:Nat) (y:Value),vs[i]?=some y->y.oneCell'=true)
    (hr:∀ (i:Nat) (x:AV) (y:Value),l[i]?=some x->vs[i]?=some y->VR G x y):VR G (.agg l) (.agg vs)
 | je (l:List AV) (vs:Array Value) (hl:l.length=vs.size) (hr:∀ (i:Nat) (x:AV) (y:Value),l[i]?=some x->vs[i]?=some y->VR G x y):VR G (.je l) (.tuple vs)
structure Ext (G G':Ga):Prop where
 T:∀ s B,G.T s B->G'.T s B
 keep:∀ s B,G.T s B->G'.w.heap[B]?=G.w.heap[B]?
 size:G.h.size<=G'.h.size
 iG:∀ b,b<G.h.size->∀ g' z' xs',G'.h.get b=some (.iG g' z' xs') ->
  ∃ g z xs,G.h.get b=some (.iG g z xs)/\g<=g'/\(g=g'->z=z'/\∀ l,G.pi b=some l->G'.pi b=some l)
 map:∀ b,b<G.h.size->∀ es' c',G'.h.get b=some (.map es' c')->∃ es c,G.h.get b=some (.map es c)/\∀ l,G.pi b=some l->G'.pi b=some l
 iq:∀ d B,G.L d=some B->G'.L d=some B
def VR.mono {G G':Ga} (E:Ext G G') {v:AV} {u:Value} (h:VR G v u):VR G' v u:=by
 induction h with
 | undef v=>exact .undef v
 | jn hp h=>exact .jn hp (h.mono E.T E.keep)
 | ptr b g i o a hb hg h =>
   refine .ptr b g i o a (Nat.lt_of_lt_of_le hb E.size) ?_ ?_
   ·intro g0 z xs hx
    obtain ⟨g1,z1,xs1,h1,hle,_⟩:=E.iG b hb g0 z xs hx
    grind
   ·intro z xs hx
    obtain ⟨g1,z1,xs1,h1,hle,heq⟩:=E.iG b hb g z xs hx
    grind
 | hs b g off len a cap' hb hg hle' h =>
   refine .hs b g off len a cap' (Nat.lt_of_lt_of_le hb E.size) ?_ hle' ?_
   ·intro g0 z xs hx
    obtain ⟨g1,z1,xs1,h1,hle,_⟩:=E.iG b hb g0 z xs hx
    grind
   ·intro z xs hx
    obtain ⟨g1,z1,xs1,h1,hle,heq⟩:=E.iG b hb g z xs hx
    grind
 | hm b r hb h =>
   refine .hm b r (Nat.lt_of_lt_of_le hb E.size) ?_
   intro es c hx
   obtain ⟨es1,c1,h1,hp⟩:=E.map b hb es c hx
   grind
 | la d o B hd=>exact .la d o B (E.iq d B hd)
 | jN g a c a' c' ha hc hna hnc hra hrc iha ihc=>exact .jN g a c a' c' ha hc hna hnc iha ihc
 | agg l vs hl hn h1 hr ih=>exact .agg l vs hl hn h1 ih
 | je l vs hl hr ih=>exact .je l vs hl ih
def Ext.refl (G:Ga):Ext G G where
 T:=λ_ _ h=>h
 keep:=λ_ _ _=>rfl
 size:=Nat.le_refl _
 iG:=λ_ _ g z xs h=>⟨g,z,xs,h,Nat.le_refl _,λ_=>⟨rfl,λ_ h=>h⟩⟩
 map:=λ_ _ es c h=>⟨es,c,h,λ_ h=>h⟩
 iq:=λ_ _ h=>h
theorem Ext.trans {A B C:Ga} (h:Ext A B) (k:Ext B C):Ext A C where
 T:=λs b hb=>k.T s b (h.T s b hb)
 keep:=λs b hb=>(k.keep s b (h.T s b hb)).trans (h.keep s b hb)
 size:=Nat.le_trans h.size k.size
 iG:=by
  intro b hb g z xs hx
  obtain ⟨g1,z1,xs1,h1,hle,he⟩:=k.iG b (Nat.lt_of_lt_of_le hb h.size) g z xs hx
  obtain ⟨g2,z2,xs2,h2,hle2,he2⟩:=h.iG b hb g1 z1 xs1 h1
  grind
 map:=by
  intro b hb es c hx
  obtain ⟨es1,c1,h1,p1⟩:=k.map b (Nat.lt_of_lt_of_le hb h.size) es c hx
  obtain ⟨es2,c2,h2,p2⟩:=h.map b hb es1 c1 h1
  grind
 iq:=λd B hd=>k.iq d B (h.iq d B hd)
theorem PR.mM {w:World} {T:Bool->Nat->Prop} {m:Bool} {v:AV} {u:Value} (h:PR w T m v u):v.mM=true:=by cases h<;>rfl
def PR.yu {w:World} {T:Bool->Nat->Prop} {m:Bool} {l:List AV} {vs:Array Value} (hl:l.length=vs.size) (h:∀ (i:Nat) (x:AV) (y:Value),l[i]?=some x->vs[i]?=some y->PR w T m x y):∀ x∈l,x.mM=true:=by
 intro x hx
 obtain ⟨i,hi⟩:=List.getElem?_of_mem hx
 have hlt:i<vs.size:=by grind
 exact (h i x vs[i] hi (by simp)).mM
structure VC (G:Ga) (x:AV) (v:Value):Prop where
 vr:VR G x v
 na:x.mM=true
def VC.mono {G G':Ga} (E:Ext G G') {x:AV} {v:Value} (h:VC G x v):VC G' x v:=⟨h.vr.mono E,h.na⟩
def nu (G:Ga) (l:Loc) (z:Nat) (xs:List (List AV)):Prop :=
 ∃ c e,G.w.heap[l.B]?=some (.cells c e (0,0))/\xs.length<=l.cap/\l.base+l.cap*z<=c.size/\(∀ (i:Nat) (cs:List AV),xs[i]?=some cs->cs.length=z) /\
   (∀ (i:Nat) (cs:List AV) (j:Nat) (x:AV),xs[i]?=some cs->cs[j]?=some x->∃ v,c[l.base+i*z+j]?=some v/\v.oneCell'=true/\VC G x v)
def pt (es:List (AV×AV×Nat)) (clk:Nat):Prop:=(∀ p∈es,p.2.2<clk)/\(es.map (·.2.2)).Nodup
def pt.Tm {es:List (AV×AV×Nat)} {ents:Array MapEntry} {clk:Nat} (h:pt es clk) (hlen:es.length=ents.size) (hb:∀ (i:Nat) (p:AV×AV×Nat) (e:MapEntry),es[i]?=some p->ents[i]?=some e->p.2.2=e.born):MA ents clk:=by
 have hm:es.map (·.2.2)=ents.toList.map (·.born):=by
  apply List.ext_getElem?
  intro i
  simp only [List.getElem?_map,Array.getElem?_toList]
  cases hp:es[i]? with
  | none=>rw [Array.getElem?_eq_none (by rw [<- hlen]; exact List.getElem?_eq_none_iff.1 hp)]; rfl
  | some p =>
    have hi:i<ents.size:=by rw [<- hlen]; exact (List.getElem?_eq_some_iff.1 hp).1
    have he:ents[i]?=some ents[i]:=by simp
    rw [he]
    exact congrArg some (hb i p _ hp he)
 refine ⟨λi e he=>?_,hm▸h.2⟩
 have hi:i<es.length:=by rw [hlen]; exact (Array.getElem?_eq_some_iff.1 he).1
 have hei:es[i]?=some es[i]:=by simp
 rw [<- hb i _ e hei he]
 exact h.1 _ (List.getElem_mem hi)
def rp (G:Ga) (r:Nat) (es:List (AV×AV×Nat)) (clk:Nat):Prop :=
 ∃ ents,G.w.heap[r]?=some (.map ents clk)/\es.length=ents.size/\pt es clk /\
   ∀ (i:Nat) (p:AV×AV×Nat) (e:MapEntry),es[i]?=some p->ents[i]?=some e->p.1.pA=true/\PR G.w G.T false p.1 e.key/\VC G p.2.1 e.val/\p.2.2=e.born
def uR (G:Ga) (B:Nat) (cs:List AV):Prop :=
 ∃ c e,G.w.heap[B]?=some (.cells c e (0,0))/\c.size=cs.length/\(∀ (i:Nat) (x:AV) (v:Value),cs[i]?=some x->c[i]?=some v->VC G x v)/\(∀ (i:Nat) (v:Value),c[i]?=some v->v.oneCell'=true)
structure WR (G:Ga):Prop where
 iG:∀ b l g z xs,G.pi b=some l->G.h.get b=some (.iG g z xs)->nu G l z xs
 map:∀ b l es c,G.pi b=some l->G.h.get b=some (.map es c)->rp G l.B es c
 loc:∀ d B cs,G.L d=some B->jK G.h.iq d=some cs->uR G B cs
 kD:∀ b l,G.pi b=some l->l.B<G.w.heap.size/\b<G.h.size
 mG:∀ b b' l l',G.pi b=some l->G.pi b'=some l'->l.B=l'.B->b=b'
 p9:∀ s b l,G.pi b=some l->¬ G.T s l.B
 oc:∀ d d' B,G.L d=some B->G.L d'=some B->d=d'
 LT:∀ s d B,G.L d=some B->¬ G.T s B
 oM:∀ d B b l,G.L d=some B->G.pi b=some l->B≠l.B
 lX:∀ d B,G.L d=some B->B<G.w.heap.size/\(jK G.h.iq d).isSome=true
 m0:∀ s B,G.T s B->B<G.w.heap.size
 lo:G.h.lo<=G.h.size
 lt:∀ b o,G.h.get b=some o->b<G.h.size
def PR.yo {G:Ga} {m:Bool} {v:AV} {u:Value} (h:PR G.w G.T m v u):VR G v u:=by
 have h':=h.GB
 clear h
 generalize hm:true=m' at h'
 induction h' with
 | undef m v h=>exact .undef v
 | bool m b=>exact .jn rfl (.bool _ b)
 | int m k n=>exact .jn rfl (.int _ k n)
 | str m s b h=>exact .jn rfl (.str _ s b h)
 | j4 m=>exact .jn rfl (.j4 _)
 | ip m cells off sn B base c e fr f hm' hB hB' hc h1 hr ih=>exact .jn rfl (.ip _ cells off sn B base c e fr f (λ_=>rfl) hB hB' hc h1 hr)
 | slnil m=>exact .jn rfl (.slnil _)
 | m4 m cap a c hm' h=>exact .jn rfl (.m4 _ cap a c (λ_=>rfl) h)
 | sl m xs cap B base c e fr cap' esz f hm' hB hB' hcap hle hz hc h1 hr ih=>exact .jn rfl (.sl _ xs cap B base c e fr cap' esz f (λ_=>rfl) hB hB' hcap hle hz hc h1 hr)
 | kg m=>exact .jn rfl (.kg _)
 | fm m es sn r ents clk hm' hB hB' hl hy hko hk hv ihk ihv=>exact .jn rfl (.fm _ es sn r ents clk (λ_=>rfl) hB hB' hl hy hko hk hv)
 | kZ m=>exact .jn rfl (.kZ _)
 | jN m g a c a' c' ha hc hra hrc iha ihc=>exact .jN g a c a' c' ha hc (PR.yu ha hra) (PR.yu hc hrc) (λi x y hx hy=>iha i x y hx hy hm) (λi x y hx hy=>ihc i x y hx hy hm)
 | agg m l vs hl h1 hr ih=>exact .agg l vs hl (PR.yu hl hr) h1 (λi x y hx hy=>ih i x y hx hy hm)
def PR.ve {G:Ga} {m:Bool} {v:AV} {u:Value} (h:PR G.w G.T m v u):VC G v u:=⟨h.yo,h.mM⟩
end Go.Sx
namespace Go.Sx
open Go
def I0:TypeDesc->Bool
 | .struct _ | .array _ _=>true
 | _=>false
def U7 (P:Program) (d:TypeDesc):TK->Prop
 | .bool=>d=.bool
 | .int k=>d=.int k
 | .str=>d=.string
 | .ptr=>∃ e,d=.pointer e
 | .slice e=>d=.slice e
 | .array n e=>d=.array n e
 | .map k e=>d=.map k e
 | .struct fs=>∃ F,d=.struct F/\fs=F.toList.map (λf=>(f.offset,f.type))/\∀ f∈F.toList,∃ i,P.info? f.type=some i/\i.size≠0
 | .func=>∃ a b c,d=.func a b c
 | .other=>True
def L7 {t:TK} {a:AV} (h:rh t a=true):tZ a=true:=by
 cases t<;>cases a<;>simp_all [rh,tZ]
def xI:∀ {ts:List TK} {l:List AV},fitAll ts l=true->∀ x∈l,tZ x=true
 | [],[],_,x,hx=>by cases hx
 | t::ts,a::l,h,x,hx=>by
   simp only [fitAll,Bool.and_eq_true] at h
   rcases List.mem_cons.1 hx with rfl | hx
   ·exact L7 h.1
   ·exact xI h.2 x hx
 | [],_::_,h,_,_=>by cases h
 | _::_,[],h,_,_=>by cases h
structure m8 (P:Program) (t:Nat) (ti:TI):Prop where
 info:∃ i z,P.info? t=some i/\i.size=ti.size/\i.bytes=ti.bytes/\i.zero=some z/\ti.zero=z.cells.toList.map EI/\z.cells.size=ti.size /\
  (∀ c∈z.cells.toList,c.oneCell'=true)/\(ti.agg=true->∃ cs,z=.agg cs)/\(ti.agg=false->z.oneCell'=true)
 desc:∃ d,P.underlying t=some d/\I0 d=ti.agg/\U7 P d ti.kind
 bytes:ti.bytes<=1048576
 guard:ti.flat=true->P.eqGuardType P.depth t=false
 flat:ti.flat=true->ti.agg=true->∀ (l m:List AV) (xs ys:Array Value) (b:Bool) (w:World) (T:Bool->Nat->Prop),fitAll ti.sc l=true->l.length=ti.size->m.length=ti.size ->
  PR w T true (.agg l) (.agg xs)->PR w T true (.agg m) (.agg ys)->me l m=some b->(Op.equalIn 10000 t (.agg xs) (.agg ys)).run P w=.ok b w
 key:ti.flat=true->ti.agg=true->∀ (e:Bool) (xs:Array Value) (w:World),xs.size=ti.size->(Instr.checkKey e 10000 t (.agg xs)).run P w=.ok () w
structure jX (P:Program) (C:jH):Prop where
 ty:∀ t ti,C.T t=some ti->m8 P t ti
section runs
variable {P:Program} {t:Nat} {ti:TI}
theorem m8.isAgg (h:m8 P t ti) (w:World):(isAgg t).run P w=.ok ti.agg w:=by
 obtain ⟨d,hd,ha,_⟩:=h.desc
 unfold Go.isAgg
 rw [Sem.run_bind,run_underlying hd w]
 rw [<- ha]
 cases d<;>rfl
theorem m8.sizeOf (h:m8 P t ti) (w:World):(sizeOf t).run P w=.ok ti.size w:=by
 obtain ⟨i,z,hi,hs,_⟩:=h.info
 simp [Go.sizeOf,typeInfo,hi,hs]
def m8.L2 (h:m8 P t ti):(P.info? t).map (·.size)=some ti.size:=by
 obtain ⟨i,z,hi,hs,_⟩:=h.info
 grind
def yX (R:AV->Value->Prop) (cs:List AV) (c:Array Value) (base:Nat):Prop :=
 ∀ i x,cs[i]?=some x->∃ u,c[base+i]?=some u/\u.oneCell'=true/\R x u
theorem oO (B o n:Nat):(⟨B,o,none⟩:Addr).add n=⟨B,o+n,none⟩:=by
 grind [Addr.add]
theorem Cn (w:World) (B base:Nat) (c:Array Value) (e:TypeId) (fr:Nat×Nat) (hB:w.heap[B]?=some (.cells c e fr)) (n:Nat) (hn:base+n<=c.size) :
  (loadCells ⟨B,base,none⟩ n).run P w=.ok (c.extract base (base+n)) w:=by
 have h:=run_loadCells_list (P:=P) w ⟨B,base,none⟩ (c.extract base (base+n)).toList (λj v hv=>by
  rw [oO,cell_of_row w B (base+j) c e fr hB]
  grind)
 have hl:(c.extract base (base+n)).toList.length=n:=by grind
 rw [hl,Array.toArray_toList] at h
 exact h
def zm {cs:List AV} {o:Nat} {l:List AV} (ha:ti.agg=true) (hp:part ti cs o=some (.agg l)):l=(cs.drop o).take ti.size/\l.length=ti.size/\(ti.size=0\/o+ti.size<=cs.length):=by
 simp only [part,ha,oI,yy] at hp
 split at hp
 ·rename_i hb
  simp only [Option.some.injEq,AV.agg.injEq] at hp
  subst hp
  simp only [Nat.beq_eq] at hb
  grind
 grind
def Fk (hT:m8 P t ti) {w:World} {B base o:Nat} {c:Array Value} {e:TypeId} {fr:Nat×Nat} {R:AV->Value->Prop} {cs:List AV} {v:AV}
  (hB:w.heap[B]?=some (.cells c e fr)) (hU:yX R cs c base) (hp:part ti cs o=some v) :
  ∃ u,(loadVar t ⟨B,base+o,none⟩).run P w=.ok u w /\
    ((∃ l vs,ti.agg=true/\v=.agg l/\u=.agg vs/\l.length=ti.size/\l.length=vs.size/\(∀ (i:Nat) (y:Value),vs[i]?=some y->y.oneCell'=true)/\∀ (i:Nat) (x:AV) (y:Value),l[i]?=some x->vs[i]?=some y->R x y)
      \/ (ti.agg=false/\u.oneCell'=true/\R v u)):=by
 cases ha:ti.agg with
 | false =>
   simp only [part,ha] at hp
   obtain ⟨u,hu,h1,hr⟩:=hU o v hp
   refine ⟨u,?_,.inr ⟨rfl,h1,hr⟩⟩
   unfold loadVar
   rw [Sem.run_bind,hT.isAgg,ha]
   simp [cell_of_row w B (base+o) c e fr hB,hu]
 | true =>
   have hv:∃ l,v=.agg l:=by
    grind [part,oI,yy]
   obtain ⟨l,rfl⟩:=hv
   obtain ⟨hl,hlen,hle⟩:=zm ha hp
   have hbase:ti.size=0\/base+o+ti.size<=c.size:=by
    rcases hle with h0 | hle
    ·omega
    ·by_cases hz:ti.size=0
     ·omega
     ·right
      have hi:o+ti.size - 1<cs.length:=by omega
      obtain ⟨u,hu,_⟩:=hU (o+ti.size - 1) cs[o+ti.size - 1] (by simp [hi])
      grind
   by_cases hz:ti.size=0
   ·have hl0:l=[]:=by grind
    subst hl0
    refine ⟨.agg #[],?_,.inl ⟨[],#[],rfl,rfl,rfl,by simp [hz],rfl,by simp,by simp⟩⟩
    unfold loadVar
    rw [Sem.run_bind,hT.isAgg,ha]
    simp [hT.sizeOf,hz,loadCells,loadCellsFrom]
   ·have hb:=hbase.resolve_left hz
    refine ⟨.agg (c.extract (base+o) (base+o+ti.size)),?_,.inl ⟨l,_,rfl,rfl,rfl,hlen,?_,?_,?_⟩⟩
    ·unfold loadVar
     rw [Sem.run_bind,hT.isAgg,ha]
     simp [hT.sizeOf,Cn w B (base+o) c e fr hB ti.size hb]
    ·grind
    ·intro i y hy
     rw [Array.getElem?_extract] at hy
     split at hy
     ·rename_i hi
      have hi':o+i<cs.length:=by omega
      obtain ⟨u,hu,h1,_⟩:=hU (o+i) cs[o+i] (by simp)
      grind
     grind
    ·intro i x y hx hy
     rw [Array.getElem?_extract] at hy
     split at hy
     ·rename_i hi
      rw [hl,List.getElem?_take,List.getElem?_drop] at hx
      split at hx
      ·obtain ⟨u,hu,h1,hr⟩:=hU (o+i) x hx
       grind
      omega
     grind
end runs
end Go.Sx
namespace Go.Sx
open Go
section
variable {P:Program} {C:jH} {G:Ga} {t:Nat} {ti:TI}
def VR.uA {l:List AV} {u:Value} (h:VR G (.agg l) u):∃ vs,u=.agg vs/\l.length=vs.size/\(∀ (i:Nat) (y:Value),vs[i]?=some y->y.oneCell'=true) /\
  ∀ (i:Nat) (x:AV) (y:Value),l[i]?=some x->vs[i]?=some y->VC G x y:=by
 cases h with
 | jn hp _=>simp [AV.ko] at hp
 | agg l vs hl hn h1 hr=>exact ⟨vs,rfl,hl,h1,λi x y hx hy=>⟨hr i x y hx hy,hn x (List.mem_of_getElem? hx)⟩⟩
theorem VR.of_int {k:IntKind} {n:Int} {u:Value} (h:VR G (.int k n) u):u=.int k n:=by
 cases h with
 | jn _ h=>cases h; rfl
theorem VR.of_bool {b:Bool} {u:Value} (h:VR G (.bool b) u):u=.bool b:=by
 cases h with
 | jn _ h=>cases h; rfl
def VR.sO {s:List UInt8} {u:Value} (h:VR G (.str s) u):∃ b,u=.string b/\b.data.toList=s:=by
 cases h with
 | jn _ h=>cases h<;>grind
theorem VR.int (k:IntKind) (n:Int):VR G (.int k n) (.int k n):=.jn rfl (.int _ k n)
theorem VR.bool (b:Bool):VR G (.bool b) (.bool b):=.jn rfl (.bool _ b)
theorem VR.str {s:List UInt8} {b:ByteArray} (h:b.data.toList=s):VR G (.str s) (.string b):=.jn rfl (.str _ s b h)
def int?_eq {v:AV} {k:IntKind} {n:Int} (h:v.int?=some (k,n)):v=.int k n:=by
 cases v<;>simp [AV.int?] at h
 grind
theorem bool?_eq {v:AV} {b:Bool} (h:v.bool?=some b):v=.bool b:=by
 cases v<;>simp [AV.bool?] at h
 grind
def str?_eq {v:AV} {b:List UInt8} (h:v.str?=some b):v=.str b:=by
 cases v<;>simp [AV.str?] at h
 grind
def agg?_eq {v:AV} {b:List AV} (h:v.agg?=some b):v=.agg b:=by
 cases v<;>simp [AV.agg?] at h
 grind
def xb {v:AV} {n:Nat} (h:oW v=some n):∃ k,v=.int k (n:Int):=by
 unfold oW at h
 split at h
 ·rename_i k m hm
  have:=int?_eq hm
  subst this
  cases m<;>grind [Th]
 ·cases h
def VC.yu {l:List AV} {vs:Array Value} (hl:l.length=vs.size) (h:∀ (i:Nat) (x:AV) (y:Value),l[i]?=some x->vs[i]?=some y->VC G x y):∀ x∈l,x.mM=true:=by
 intro x hx
 obtain ⟨i,hi⟩:=List.getElem?_of_mem hx
 have hlt:i<vs.size:=by grind
 exact (h i x vs[i] hi (by simp)).na
def VR.CT {l:List AV} {vs:Array Value} {R:AV->Value->Prop} (hR:∀ x y,R x y->VC G x y) (hl:l.length=vs.size)
  (h1:∀ (i:Nat) (y:Value),vs[i]?=some y->y.oneCell'=true) (hr:∀ (i:Nat) (x:AV) (y:Value),l[i]?=some x->vs[i]?=some y->R x y):VR G (.agg l) (.agg vs) :=
 .agg l vs hl (VC.yu hl λi x y hx hy=>hR x y (hr i x y hx hy)) h1 λi x y hx hy=>(hR x y (hr i x y hx hy)).vr
def Shaped (ti:TI) (v:AV) (u:Value):Prop :=
 (ti.agg=true/\∃ l vs,v=.agg l/\u=.agg vs/\l.length=ti.size/\vs.size=ti.size)\/(ti.agg=false/\u.oneCell'=true)
def wu {R:AV->Value->Prop} (hR:∀ x y,R x y->VC G x y) (hT:m8 P t ti) {B base o:Nat} {c:Array Value} {e:TypeId} {fr:Nat×Nat} {cs:List AV} {v:AV}
  (hB:G.w.heap[B]?=some (.cells c e fr)) (hU:yX R cs c base) (hp:part ti cs o=some v) :
  ∃ u,(loadVar t ⟨B,base+o,none⟩).run P G.w=.ok u G.w/\VR G v u/\Shaped ti v u:=by
 obtain ⟨u,hu,h | h⟩:=Fk hT hB hU hp
 ·obtain ⟨l,vs,ha,rfl,rfl,hlen,hl,h1,hr⟩:=h
  exact ⟨_,hu,VR.CT hR hl h1 hr,.inl ⟨ha,l,vs,rfl,rfl,hlen,by omega⟩⟩
 ·obtain ⟨ha,h1,hr⟩:=h
  exact ⟨u,hu,(hR _ _ hr).vr,.inr ⟨ha,h1⟩⟩
def Ax (hW:WR G) (hT:m8 P t ti) {av v:AV} {a:Value} (hv:VR G av a) (h:re av G.h ti=some v) :
  ∃ u,(Instr.loadAt t a).run P G.w=.ok u G.w/\VR G v u/\Shaped ti v u:=by
 unfold re at h
 split at h
 ·
  rename_i d o
  cases hv with
  | jn hp _=>simp [AV.ko] at hp
  | la _ _ B hd =>
    unfold Iy at h
    split at h
    ·rename_i cs hcs
     obtain ⟨c,e,hB,hs,hr,h1⟩:=hW.loc d B cs hd hcs
     have hU:yX (VC G) cs c 0:=by
      intro i x hx
      have hi:i<c.size:=by grind
      refine ⟨c[i],by simp [hi],h1 i c[i] (by simp [hi]),hr i x c[i] hx (by simp [hi])⟩
     obtain ⟨u,hu,hvu,hs⟩:=wu (P:=P) (λ_ _ h=>h) hT hB hU h
     grind [Instr.loadAt,Instr.sureAddr]
    ·cases h
 ·
  rename_i cs o s
  cases hv with
  | jn _ h' =>
    cases h' with
    | ip _ _ _ _ B base c e fr f hm hB hI hc h1 hr =>
      have hU:yX (λx y=>PR G.w G.T s x y) cs c base:=by
       intro i x hx
       grind
      obtain ⟨u,hu,hvu,hs⟩:=wu (P:=P) (λ_ _ h=>PR.ve h) hT hB hU h
      grind [Instr.loadAt,Instr.sureAddr]
 ·
  rename_i b g i o
  cases hv with
  | jn hp _=>simp [AV.ko] at hp
  | ptr _ _ _ _ a hb hg hl =>
    unfold AH at h
    split at h
    ·rename_i g' z xs hget
     split at h
     ·rename_i hgg
      have hgg:=Nat.eq_of_beq_eq_true hgg
      subst hgg
      split at h
      ·rename_i cs hcs
       obtain ⟨l,hpi,ha⟩:=hl z xs hget
       subst ha
       obtain ⟨c,e,hB,hcap,hsz,hz,hr⟩:=hW.iG b l g z xs hpi hget
       have hU:yX (VC G) cs c (l.base+i*z):=by
        intro j x hx
        grind
       obtain ⟨u,hu,hvu,hs⟩:=wu (P:=P) (λ_ _ h=>h) hT hB hU h
       grind [Instr.loadAt,Instr.sureAddr]
      ·cases h
     ·cases h
    ·cases h
 ·cases h
def Ak {av v:AV} {a:Value} {k:Nat} (hv:VR G av a) (h:zW av k=some v):∃ x,a=.pointer (some x)/\VR G v (.pointer (some (x.add k))):=by
 unfold zW at h
 split at h
 ·rename_i d o
  simp only [MC,nf,Option.some.injEq] at h
  subst h
  cases hv with
  | jn hp _=>simp [AV.ko] at hp
  | la _ _ B hd=>exact ⟨_,rfl,by rw [oO]; exact .la d (o+k) B hd⟩
 ·rename_i cs o s
  simp only [MK,nf,Option.some.injEq] at h
  subst h
  cases hv with
  | jn _ h' =>
    cases h' with
    | ip _ _ _ _ B base c e fr f hm hB hI hc h1 hr =>
      refine ⟨_,rfl,?_⟩
      rw [oO,Nat.add_assoc]
      exact .jn rfl (.ip _ cs (o+k) s B base c e fr f hm hB hI hc h1 hr)
 ·rename_i b g i o
  simp only [CS,nf,Option.some.injEq] at h
  subst h
  cases hv with
  | jn hp _=>simp [AV.ko] at hp
  | ptr _ _ _ _ a hb hg hl =>
    refine ⟨_,rfl,.ptr b g i (o+k) _ hb hg ?_⟩
    grind [oO]
 ·cases h
def Bv (hC:jX P C) {av:AV} {a:Value} {f:Nat} {r:AV×aT} (hv:VR G av a) (h:pZ C G.h t av f=some r) :
  r.2=G.h/\∃ u,(Instr.fieldAt t a f).run P G.w=.ok u G.w/\VR G r.1 u/\u.oneCell'=true:=by
 unfold pZ at h
 split at h
 ·cases h
 ·rename_i ti hti
  split at h
  ·rename_i fs hk
   split at h
   ·rename_i off ft hf
    unfold kz at h
    split at h
    ·rename_i v hv'
     simp only [Option.some.injEq] at h
     subst h
     obtain ⟨d,hd,ha,hko⟩:=(hC.ty t ti hti).desc
     rw [hk] at hko
     obtain ⟨F,rfl,hfs,hsz⟩:=hko
     subst hfs
     simp only [List.getElem?_map,Array.getElem?_toList,Option.map_eq_some_iff] at hf
     obtain ⟨fl,hfl,he⟩:=hf
     simp only [Prod.mk.injEq] at he
     obtain ⟨rfl,rfl⟩:=he
     obtain ⟨x,rfl,hx⟩:=Ak hv hv'
     refine ⟨rfl,.pointer (some (x.add fl.offset)),?_,hx,rfl⟩
     obtain ⟨i,hi,hne⟩:=hsz fl (by
      grind)
     simp_all [Instr.fieldAt,run_underlying,Instr.sureAddr,fieldPlace,Go.sizeOf,typeInfo]
    ·cases h
   ·cases h
  ·cases h
end
end Go.Sx
namespace Go.Sx
open Go
def mH (P:Program) (G:Ga) (s:Sem Value) (r:AV×aT):Prop :=
 r.2=G.h/\∃ u,s.run P G.w=.ok u G.w/\VR G r.1 u
section
variable {P:Program} {C:jH} {G:Ga} {t:Nat} {ti:TI}
theorem mc {h:aT} {o:Option AV} {r:AV×aT} (e:kz h o=some r):∃ v,o=some v/\r=(v,h):=by
 unfold kz at e
 grind
def IE {c a b:AV} {c' a' b':Value} {r:AV×aT} (hc:VR G c c') (ha:VR G a a') (hb:VR G b b') (h:C0 G.h c a b=some r) :
  mH P G (do pure (if <- asBool c' then a' else b')) r:=by
 unfold C0 at h
 split at h
 ·rename_i hb'
  cases h
  have:=bool?_eq hb'; subst this
  have:=hc.of_bool; subst this
  exact ⟨rfl,a',by rfl,ha⟩
 ·rename_i hb'
  cases h
  have:=bool?_eq hb'; subst this
  have:=hc.of_bool; subst this
  exact ⟨rfl,b',by rfl,hb⟩
 ·cases h
def AB {l:List AV} {vs:Array Value} {o:Nat} {v:AV} (hT:m8 P t ti) (hl:l.length=vs.size) (h1:∀ (i:Nat) (y:Value),vs[i]?=some y->y.oneCell'=true)
  (hr:∀ (i:Nat) (x:AV) (y:Value),l[i]?=some x->vs[i]?=some y->VC G x y) (hp:Sx.part ti l o=some v) :
  ∃ u,(Go.part t vs o).run P G.w=.ok u G.w/\VR G v u:=by
 have hU:yX (VC G) l vs 0:=by
  intro i x hx
  have hi:i<vs.size:=by grind
  exact ⟨vs[i],by simp [hi],h1 i _ (by simp [hi]),hr i x _ hx (by simp [hi])⟩
 cases ha:ti.agg with
 | false =>
   simp only [Sx.part,ha] at hp
   obtain ⟨u,hu,_,hx⟩:=hU o v hp
   refine ⟨u,?_,hx.vr⟩
   unfold Go.part
   rw [Sem.run_bind,hT.isAgg,ha]
   simp_all
 | true =>
   have hv:∃ m,v=.agg m:=by
    grind [Sx.part,oI,yy]
   obtain ⟨m,rfl⟩:=hv
   obtain ⟨hm,hlen,hle⟩:=zm ha hp
   refine ⟨.agg (vs.extract o (o+ti.size)),?_,?_⟩
   ·unfold Go.part
    rw [Sem.run_bind,hT.isAgg,ha]
    simp [hT.sizeOf]
   ·refine VR.CT (R:=VC G) (λ_ _ h=>h) ?_ ?_ ?_
    ·grind
    ·intro i y hy
     rw [Array.getElem?_extract] at hy
     grind
    grind
def Fe (hC:jX P C) {x:AV} {x':Value} {f:Nat} {r:AV×aT} (hx:VR G x x') (h:A3 C G.h t x f=some r):mH P G (Instr.field t x' f) r:=by
 unfold A3 at h
 split at h
 ·cases h
 ·rename_i ti hti
  split at h
  ·rename_i fs hk
   split at h
   ·rename_i off ft hf
    split at h
    ·rename_i cs hcs
     split at h
     ·rename_i tf htf
      obtain ⟨v,hv,rfl⟩:=mc h
      have:=agg?_eq hcs; subst this
      obtain ⟨vs,rfl,hl,h1,hr⟩:=hx.uA
      obtain ⟨d,hd,ha,hko⟩:=(hC.ty t ti hti).desc
      rw [hk] at hko
      obtain ⟨F,rfl,hfs,hsz⟩:=hko
      subst hfs
      simp only [List.getElem?_map,Array.getElem?_toList,Option.map_eq_some_iff] at hf
      obtain ⟨fl,hfl,he⟩:=hf
      simp only [Prod.mk.injEq] at he
      obtain ⟨rfl,rfl⟩:=he
      obtain ⟨u,hu,hvu⟩:=AB (hC.ty _ tf htf) hl h1 hr hv
      refine ⟨rfl,u,?_,hvu⟩
      simp_all [Instr.field,run_underlying,Go.asAgg]
     ·cases h
    ·cases h
   ·cases h
  ·cases h
def CM {x:AV} {x':Value} {i:Nat} {r:AV×aT} (hx:VR G x x') (h:w7 G.h x i=some r):mH P G (Instr.extract x' i) r:=by
 unfold w7 at h
 split at h
 ·rename_i vs
  obtain ⟨v,hv,rfl⟩:=mc h
  cases hx with
  | jn hp _=>simp [AV.ko] at hp
  | je _ vs' hl hr =>
    have hi:i<vs'.size:=by grind
    exact ⟨rfl,vs'[i],by simp [Instr.extract,hi],hr i v _ hv (by simp [hi])⟩
 ·cases h
def E4 {x v:AV} {x':Value} (hx:VR G x x') (h:Bs x=some v) :
  VR G v x'/\((∃ a,x'=.pointer (some a))\/∃ g a c,x'=.func (.func g) a c):=by
 unfold Bs at h
 split at h
 ·cases h
  cases hx with
  | jn hp _=>simp [AV.ko] at hp
  | ptr _ _ _ _ a hb hg hl=>exact ⟨.ptr _ _ _ _ a hb hg hl,.inl ⟨_,rfl⟩⟩
 ·cases h
  refine ⟨hx,.inl ?_⟩
  cases hx with
  | jn _ h'=>cases h'<;>grind
 ·cases h
  refine ⟨hx,.inl ?_⟩
  cases hx<;>grind [AV.ko]
 ·cases h
  refine ⟨hx,.inr ?_⟩
  cases hx<;>grind [AV.ko]
 ·cases h
theorem z7 (b:Bool):tv b=some (.bool !b):=by cases b<;>rfl
theorem zU {op:BinOp} {k:IntKind} {x y:Int} (xT:TypeId) (h:op=.add\/op=.sub\/op=.mul) :
  (Go.binOp op xT (.int k x) (.int k y)).run P G.w=(Op.intArith op k x y).run P G.w:=by
 grind [Go.binOp]
theorem KG {op:BinOp} {k:IntKind} {x y:Int} (xT:TypeId) (h:op=.quo\/op=.rem) :
  (Go.binOp op xT (.int k x) (.int k y)).run P G.w=(Op.intDiv op k x y).run P G.w:=by
 grind [Go.binOp]
theorem zg {op:BinOp} {k:IntKind} {x y:Int} (xT:TypeId) (h:op=.and\/op=.or\/op=.xor\/op=.andNot) :
  (Go.binOp op xT (.int k x) (.int k y)).run P G.w=(Op.intBits op k x y).run P G.w:=by
 grind [Go.binOp]
theorem v7 {op:BinOp} {k:IntKind} {x y:Int} (xT:TypeId) (h:op=.eql\/op=.neq\/op=.lss\/op=.leq\/op=.gtr\/op=.geq) :
  (Go.binOp op xT (.int k x) (.int k y)).run P G.w=(Op.intCmp op x y).run P G.w:=by
 grind [Go.binOp]
def Dz {op:BinOp} {k:IntKind} {x y:Int} {v:AV} (h:lI op k x y=some v) (hs:tL op=false) (xT:TypeId) :
  ∃ u,(Go.binOp op xT (.int k x) (.int k y)).run P G.w=.ok u G.w/\VR G v u:=by
 cases op<;>simp only [tL,Bool.true_eq_false] at hs<;>simp only [lI,Hx,Jh,Qb,Q5,OY,Iv,Jd,GR,Iz,HU,IT,Pw,T7,Ah,DZ,Tx,tq,wH,nO,zL,z7,rU,BK,B3,o7,vM,reduceCtorEq] at h
 case add=>cases h; rw [zU xT (by simp)]; exact ⟨_,rfl,VR.int _ _⟩
 case sub=>cases h; rw [zU xT (by simp)]; exact ⟨_,rfl,by grind [VR.int]⟩
 case mul=>cases h; rw [zU xT (by simp)]; exact ⟨_,rfl,VR.int _ _⟩
 case quo =>
  split at h
  ·cases h
  ·rename_i hy
   cases h; simp_all [KG,Op.intDiv,VR.int]
 case rem =>
  split at h
  ·cases h
  ·rename_i hy
   cases h; simp_all [KG,Op.intDiv,VR.int]
 case and=>cases h; rw [zg xT (by simp)]; exact ⟨_,rfl,VR.int _ _⟩
 case or=>cases h; rw [zg xT (by simp)]; exact ⟨_,rfl,VR.int _ _⟩
 case xor=>cases h; rw [zg xT (by simp)]; exact ⟨_,rfl,VR.int _ _⟩
 case andNot=>cases h; rw [zg xT (by simp)]; exact ⟨_,rfl,VR.int _ _⟩
 case eql=>cases h; rw [v7 xT (by simp)]; exact ⟨_,rfl,VR.bool _⟩
 case neq=>cases h; rw [v7 xT (by simp)]; exact ⟨_,rfl,VR.bool _⟩
 case lss =>
  cases h; rw [v7 xT (by simp)]
  refine ⟨_,rfl,?_⟩
  have e:(!decide (y<=x))=decide (x<y):=by grind
  rw [e]; exact VR.bool _
 case leq=>cases h; rw [v7 xT (by simp)]; exact ⟨_,rfl,VR.bool _⟩
 case gtr =>
  cases h; rw [v7 xT (by simp)]
  refine ⟨_,rfl,?_⟩
  have e:(!decide (x<=y))=decide (x > y):=by grind
  rw [e]; exact VR.bool _
 case geq=>cases h; rw [v7 xT (by simp)]; exact ⟨_,rfl,VR.bool _⟩
theorem SO (k k':IntKind) (x y:Int) (xT:TypeId) (w:World) (hy:¬ y<0) :
  (Go.binOp .shl xT (.int k x) (.int k' y)).run P w=.ok (.int k (k.wrap (x*2 ^ (min y.toNat k.bits)))) w:=by
 show (Op.shift .shl k x k' y).run P w = _
 unfold Op.shift
 rw [if_neg hy]
 rfl
theorem Sp (k k':IntKind) (x y:Int) (xT:TypeId) (w:World) (hy:¬ y<0) :
  (Go.binOp .shr xT (.int k x) (.int k' y)).run P w=.ok (.int k (x.fdiv (2 ^ (min y.toNat k.bits)))) w:=by
 show (Op.shift .shr k x k' y).run P w = _
 unfold Op.shift
 rw [if_neg hy]
 rfl
def Fj {op:BinOp} {k k':IntKind} {x y:Int} {v:AV} (h:lI op k x y=some v) (hs:tL op=true) (xT:TypeId) :
  ∃ u,(Go.binOp op xT (.int k x) (.int k' y)).run P G.w=.ok u G.w/\VR G v u:=by
 cases op<;>simp only [tL,Bool.false_eq_true] at hs
 ·have h:(if y<0 then none else fI (sw k (x*2 ^ (min y.toNat k.bits))) (nO k))=some v:=h
  rw [tq,rU] at h
  split at h
  ·cases h
  ·rename_i hy
   cases h
   simp_all [SO,VR.int]
 ·have h:(if y<0 then none else fI (x.fdiv (2 ^ (min y.toNat k.bits))) (nO k))=some v:=h
  rw [tq] at h
  split at h
  ·cases h
  ·rename_i hy
   cases h
   simp_all [Sp,VR.int]
theorem bytesLess_eq:∀ (x y:List UInt8),bytesLess x y=Op.bytesLess x y
 | _,[]=>by simp [bytesLess,Op.bytesLess]
 | [],_::_=>by rfl
 | a::x,b::y=>by simp [bytesLess,Op.bytesLess,bytesLess_eq x y]
theorem um {b:ByteArray} {s:List UInt8} (h:b.data.toList=s):b.size=s.length:=by
 subst h; rfl
theorem toList_data (b:ByteArray):b.toList=b.data.toList:=ByteArray.toList_eq b
def DJ {op:BinOp} {x y:List UInt8} {bx by':ByteArray} {v:AV} (hx:bx.data.toList=x) (hy:by'.data.toList=y)
  (h:AW op x y=some v) (xT:TypeId):∃ u,(Go.binOp op xT (.string bx) (.string by')).run P G.w=.ok u G.w/\VR G v u:=by
 have hb:∀ o:BinOp,(Go.binOp o xT (.string bx) (.string by')).run P G.w=(Op.stringOp o bx by').run P G.w:=by
  intro o; cases o<;>rfl
 rw [hb]
 unfold Op.stringOp
 simp only [toList_data,hx,hy,<- bytesLess_eq]
 cases op<;>simp only [AW,reduceCtorEq,oI] at h
 case add =>
  split at h
  ·rename_i hle
   cases h
   have hle:=Nat.le_of_ble_eq_true hle
   have hm:IntKind.i64.max=9223372036854775807:=by decide
   rw [if_neg (by grind [um])]
   simp_all [VR.str]
  ·cases h
 all_goals
  cases h
  exact ⟨_,rfl,VR.bool _⟩
def vb {x:AV} {x':Value} {b:Bool} (h:LA x=some b) (hx:VR G x x'):∃ a,x'=.pointer a/\a.isNone=b:=by
 unfold LA at h
 split at h<;>simp only [Option.some.injEq,reduceCtorEq] at h<;>subst h
 ·cases hx with
  | jn _ h=>cases h<;>grind
 ·cases hx<;>grind [AV.ko]
 ·cases hx with
  | jn _ h=>cases h<;>grind
 ·cases hx<;>grind [AV.ko]
def uI {x:AV} {x':Value} {b:Bool} (h:Mo x=some b) (hx:VR G x x'):∃ a n c,x'=.slice a n c/\a.isNone=b:=by
 unfold Mo at h
 split at h<;>simp only [Option.some.injEq,reduceCtorEq] at h<;>subst h
 ·cases hx with
  | jn _ h=>cases h with
    | slnil=>simp
    | m4 _ _ _ _ _ hc=>cases hc
    | sl _ _ _ _ _ _ _ _ _ _ _ _ _ _ hc=>cases hc
 ·rename_i hne
  cases hx with
  | jn _ h=>cases h<;>grind
 ·cases hx<;>grind [AV.ko]
def uZ {x:AV} {x':Value} {b:Bool} (h:Mg x=some b) (hx:VR G x x'):∃ a,x'=.map a/\a.isNone=b:=by
 unfold Mg at h
 split at h<;>simp only [Option.some.injEq,reduceCtorEq] at h<;>subst h
 ·cases hx with
  | jn _ h=>cases h<;>grind
 ·cases hx<;>grind [AV.ko]
 ·cases hx with
  | jn _ h=>cases h<;>grind
def uL {x:AV} {x':Value} {b:Bool} (h:MY x=some b) (hx:VR G x x'):(b=true/\x'=.nilFunc)\/(b=false/\∃ f a c,x'=.func f a c):=by
 unfold MY at h
 split at h<;>simp only [Option.some.injEq,reduceCtorEq] at h<;>subst h
 ·cases hx with
  | jn _ h=>cases h<;>grind
 ·cases hx<;>grind [AV.ko]
def VR.FY {l:List AV} {vs:Array Value} (h:VR G (.agg l) (.agg vs)) (hs:∀ x∈l,∃ b,mj x x=some b):PR G.w G.T true (.agg l) (.agg vs):=by
 obtain ⟨vs',e,hl,h1,hr⟩:=h.uA
 cases e
 refine .agg _ l vs hl h1 ?_
 intro i x y hx hy
 obtain ⟨b,hb⟩:=hs x (List.mem_of_getElem? hx)
 have:=(hr i x y hx hy).vr
 cases this with
 | jn _ h=>exact h
 | undef=>simp [mj,pQ] at hb
 | ptr=>simp [mj,pQ] at hb
 | hs=>simp [mj,pQ] at hb
 | hm=>simp [mj,pQ] at hb
 | la=>simp [mj,pQ] at hb
 | jN=>simp [mj,pQ] at hb
 | agg=>simp [mj,pQ] at hb
 | je=>simp [mj,pQ] at hb
def Jz {x y:AV} {b:Bool} (h:mj x y=some b):(∃ b,mj x x=some b)/\∃ b,mj y y=some b:=by
 cases x<;>simp only [mj,pQ,yk,uB,y5,reduceCtorEq] at h<;>cases y<;>simp only [AV.bool?,AV.int?,AV.str?,reduceCtorEq] at h
 ·exact ⟨⟨_,rfl⟩,⟨_,rfl⟩⟩
 ·refine ⟨?_,?_⟩<;>simp [mj,uB,AV.int?,(qP _ _).2 rfl]
 ·exact ⟨⟨_,rfl⟩,⟨_,rfl⟩⟩
def Ce:∀ {l m:List AV} {b:Bool},me l m=some b->(∀ x∈l,∃ b,mj x x=some b)/\∀ x∈m,∃ b,mj x x=some b
 | [],[],_,_=>by simp
 | [],_::_,_,h=>by cases h
 | _::_,[],_,h=>by cases h
 | a::x,b::y,c,h=>by
   simp only [me] at h
   have hrest:∃ d,me x y=some d/\∃ e,mj a b=some e:=by
    split at h
    ·rename_i he; exact ⟨_,h,_,he⟩
    ·rename_i he
     split at h
     ·rename_i hd; exact ⟨_,hd,_,he⟩
     ·cases h
    ·cases h
   obtain ⟨d,hd,e,he⟩:=hrest
   obtain ⟨h1,h2⟩:=Ce hd
   obtain ⟨k1,k2⟩:=Jz he
   constructor
   ·intro z hz
    rcases List.mem_cons.1 hz with rfl | hz
    ·exact k1
    ·exact h1 z hz
   ·intro z hz
    rcases List.mem_cons.1 hz with rfl | hz
    ·exact k2
    ·exact h2 z hz
end
end Go.Sx
namespace Go.Sx
open Go
section
variable {P:Program} {C:jH} {G:Ga} {t:Nat} {ti:TI}
theorem MX (op:BinOp) (ox oy:Operand) (k k':IntKind) (a b:Int) (w:World):(eqGuard op t ox oy (.int k a) (.int k' b)).run P w=.ok () w:=by cases op<;>rfl
theorem MS (op:BinOp) (ox oy:Operand) (a b:ByteArray) (w:World):(eqGuard op t ox oy (.string a) (.string b)).run P w=.ok () w:=by cases op<;>rfl
def M3 (op:BinOp) (ox oy:Operand) (a b:Bool) (w:World):(eqGuard op t ox oy (.bool a) (.bool b)).run P w=.ok () w:=by cases op<;>rfl
def Ei (op:BinOp) (ox oy:Operand) (a b:Option Addr) (w:World):(eqGuard op t ox oy (.pointer a) (.pointer b)).run P w=.ok () w:=by cases op<;>rfl
def D3 (op:BinOp) (ox oy:Operand) (a b:Option Nat) (w:World):(eqGuard op t ox oy (.map a) (.map b)).run P w=.ok () w:=by cases op<;>rfl
def Et (op:BinOp) (ox oy:Operand) (a b:Option Addr) (n c m d:Nat) (w:World):(eqGuard op t ox oy (.slice a n c) (.slice b m d)).run P w=.ok () w:=by cases op<;>rfl
def Dm (op:BinOp) (ox oy:Operand) (y:Value) (w:World):(eqGuard op t ox oy .nilFunc y).run P w=.ok () w:=by cases op<;>rfl
def M9 (op:BinOp) (ox oy:Operand) (f:Fn) (a c:Array Value) (y:Value) (w:World):(eqGuard op t ox oy (.func f a c) y).run P w=.ok () w:=by cases op<;>rfl
theorem Vl (d:Nat) {e:TypeId} (h:P.underlying t=some (.pointer e)) (b:Option Addr) (w:World):(Op.equalIn (d+1) t (.pointer none) (.pointer b)).run P w=.ok b.isNone w:=by
 simp [Op.equalIn,run_underlying h]
theorem Vk (d:Nat) {e:TypeId} (h:P.underlying t=some (.pointer e)) (a:Addr) (w:World):(Op.equalIn (d+1) t (.pointer (some a)) (.pointer none)).run P w=.ok false w:=by
 simp [Op.equalIn,run_underlying h]
theorem UI (d:Nat) {e:TypeId} (h:P.underlying t=some (.slice e)) (b:Option Addr) (n c m k:Nat) (w:World):(Op.equalIn (d+1) t (.slice none n c) (.slice b m k)).run P w=.ok b.isNone w:=by
 simp [Op.equalIn,run_underlying h]
theorem Vr (d:Nat) {e:TypeId} (h:P.underlying t=some (.slice e)) (a:Addr) (n c m k:Nat) (w:World):(Op.equalIn (d+1) t (.slice (some a) n c) (.slice none m k)).run P w=.ok false w:=by
 simp [Op.equalIn,run_underlying h]
theorem UE (d:Nat) {e e':TypeId} (h:P.underlying t=some (.map e e')) (b:Option Nat) (w:World):(Op.equalIn (d+1) t (.map none) (.map b)).run P w=.ok b.isNone w:=by
 simp [Op.equalIn,run_underlying h]
theorem TO (d:Nat) {e e':TypeId} (h:P.underlying t=some (.map e e')) (a:Nat) (w:World):(Op.equalIn (d+1) t (.map (some a)) (.map none)).run P w=.ok false w:=by
 simp [Op.equalIn,run_underlying h]
def UR (d:Nat) {p q:Array TypeId} {r:Bool} (h:P.underlying t=some (.func p q r)) (w:World):(Op.equalIn (d+1) t .nilFunc .nilFunc).run P w=.ok true w:=by
 simp [Op.equalIn,run_underlying h]
def Vt (d:Nat) {p q:Array TypeId} {r:Bool} (h:P.underlying t=some (.func p q r)) (f:Fn) (a c:Array Value) (w:World):(Op.equalIn (d+1) t .nilFunc (.func f a c)).run P w=.ok false w:=by
 simp [Op.equalIn,run_underlying h]
def R4 (d:Nat) {p q:Array TypeId} {r:Bool} (h:P.underlying t=some (.func p q r)) (f:Fn) (a c:Array Value) (w:World):(Op.equalIn (d+1) t (.func f a c) .nilFunc).run P w=.ok false w:=by
 simp [Op.equalIn,run_underlying h]
def oB {x y:Value} {b:Bool} {w:World} (he:(Op.equalIn 10000 t x y).run P w=.ok b w) (hn:∀ o:BinOp,o=.eql\/o=.neq->Go.binOp o t x y=(if o=.eql then do pure (.bool (<- Op.equal t x y)) else do pure (.bool (!(<- Op.equal t x y))))) :
  (Go.binOp .eql t x y).run P w=.ok (.bool b) w/\(Go.binOp .neq t x y).run P w=.ok (.bool !b) w:=by
 rw [hn .eql (by simp),hn .neq (by simp)]
 have he':(Op.equal t x y).run P w=.ok b w:=he
 simp_all
def zx (hT:m8 P t ti) {x y:AV} {x' y':Value} {b:Bool} (hx:VR G x x') (hy:VR G y y') (h:yP ti x y=some b) (ox oy:Operand) :
  (∀ o:BinOp,(eqGuard o t ox oy x' y').run P G.w=.ok () G.w)/\(Go.binOp .eql t x' y').run P G.w=.ok (.bool b) G.w/\(Go.binOp .neq t x' y').run P G.w=.ok (.bool !b) G.w:=by
 obtain ⟨d,hd,ha,hk⟩:=hT.desc
 unfold yP at h
 split at h
 ·
  rename_i hki
  rw [hki] at hk
  have hk:d=.bool:=hk
  subst hk
  unfold Ky at h
  split at h
  ·rename_i a c h1 h2
   cases h
   have:=bool?_eq h1; subst this
   have:=bool?_eq h2; subst this
   rw [hx.of_bool,hy.of_bool]
   exact ⟨λo=>M3 o ox oy _ _ _,oB (run_equalIn_bool' G.w 9999 t _ _ hd) (by rintro o (rfl | rfl)<;>rfl)⟩
  ·cases h
 ·
  rename_i hki
  rw [hki] at hk
  obtain ⟨e,rfl⟩:=hk
  unfold tG at h
  split at h
  ·rename_i c h1 h2
   cases h
   obtain ⟨a,rfl,h1⟩:=vb h1 hx
   obtain ⟨a',rfl,h2⟩:=vb h2 hy
   refine ⟨λo=>Ei o ox oy _ _ _,oB ?_ (by rintro o (rfl | rfl)<;>rfl)⟩
   simp_all [Vl]
  ·rename_i h1 h2
   cases h
   obtain ⟨a,rfl,h1⟩:=vb h1 hx
   obtain ⟨a',rfl,h2⟩:=vb h2 hy
   refine ⟨λo=>Ei o ox oy _ _ _,oB ?_ (by rintro o (rfl | rfl)<;>rfl)⟩
   cases a with
   | none=>simp at h1
   | some a=>simp_all [Vk]
  ·cases h
 ·
  rename_i hki
  rw [hki] at hk
  have hk:d=.slice _:=hk
  subst hk
  unfold tG at h
  split at h
  ·rename_i c h1 h2
   cases h
   obtain ⟨a,n,c,rfl,h1⟩:=uI h1 hx
   obtain ⟨a',n',c',rfl,h2⟩:=uI h2 hy
   refine ⟨λo=>Et o ox oy _ _ _ _ _ _ _,oB ?_ (by rintro o (rfl | rfl)<;>rfl)⟩
   simp_all [UI]
  ·rename_i h1 h2
   cases h
   obtain ⟨a,n,c,rfl,h1⟩:=uI h1 hx
   obtain ⟨a',n',c',rfl,h2⟩:=uI h2 hy
   refine ⟨λo=>Et o ox oy _ _ _ _ _ _ _,oB ?_ (by rintro o (rfl | rfl)<;>rfl)⟩
   cases a with
   | none=>simp at h1
   | some a=>simp_all [Vr]
  ·cases h
 ·
  rename_i hki
  rw [hki] at hk
  have hk:d=.map _ _:=hk
  subst hk
  unfold tG at h
  split at h
  ·rename_i c h1 h2
   cases h
   obtain ⟨a,rfl,h1⟩:=uZ h1 hx
   obtain ⟨a',rfl,h2⟩:=uZ h2 hy
   refine ⟨λo=>D3 o ox oy _ _ _,oB ?_ (by rintro o (rfl | rfl)<;>rfl)⟩
   cases a<;>grind [UE]
  ·rename_i h1 h2
   cases h
   obtain ⟨a,rfl,h1⟩:=uZ h1 hx
   obtain ⟨a',rfl,h2⟩:=uZ h2 hy
   refine ⟨λo=>D3 o ox oy _ _ _,oB ?_ (by rintro o (rfl | rfl)<;>rfl)⟩
   cases a with
   | none=>simp at h1
   | some a=>cases a'<;>grind [TO]
  ·cases h
 ·
  rename_i hki
  rw [hki] at hk
  obtain ⟨p,q,r,rfl⟩:=hk
  unfold tG at h
  split at h
  ·rename_i c h1 h2
   cases h
   rcases uL h1 hx with ⟨_,rfl⟩ | ⟨h0,_⟩
   ·rcases uL h2 hy with ⟨rfl,rfl⟩ | ⟨rfl,f,a,c,rfl⟩
    ·exact ⟨λo=>Dm o ox oy _ _,oB (UR 9999 hd _) (by rintro o (rfl | rfl)<;>rfl)⟩
    ·exact ⟨λo=>Dm o ox oy _ _,oB (Vt 9999 hd _ _ _ _) (by rintro o (rfl | rfl)<;>rfl)⟩
   grind
  ·rename_i h1 h2
   cases h
   rcases uL h1 hx with ⟨h0,_⟩ | ⟨_,f,a,c,rfl⟩
   ·cases h0
   ·rcases uL h2 hy with ⟨_,rfl⟩ | ⟨h0,_⟩
    ·exact ⟨λo=>M9 o ox oy _ _ _ _ _,oB (R4 9999 hd _ _ _ _) (by rintro o (rfl | rfl)<;>rfl)⟩
    grind
  ·cases h
 all_goals first
  | (cases h; done)
  | (rename_i hki
     have hagg:ti.agg=true:=by
      rw [hki] at hk
      rw [<- ha]
      first
       | (obtain ⟨F,rfl,_⟩:=hk; rfl)
       | (have hk:d=.array _ _:=hk; subst hk; rfl)
     unfold DR at h
     split at h
     ·rename_i a c hf h1 h2
      split at h
      ·rename_i hlen
       simp only [Bool.and_eq_true,Nat.beq_eq] at hlen
       have:=agg?_eq h1; subst this
       have:=agg?_eq h2; subst this
       obtain ⟨vs,rfl,hl1,h11,hr1⟩:=hx.uA
       obtain ⟨us,rfl,hl2,h12,hr2⟩:=hy.uA
       obtain ⟨s1,s2⟩:=Ce h
       have e:=hT.flat hf hagg _ _ vs us b G.w G.T hlen.2 hlen.1.1 hlen.1.2 (hx.FY s1) (hy.FY s2) h
       exact ⟨λo=>run_eqGuard_agg G.w o t ox oy vs us (hT.guard hf),oB e (by rintro o (rfl | rfl)<;>rfl)⟩
      ·cases h
     ·cases h)
def Fg (hC:jX P C) {op:BinOp} {x y v:AV} {x' y':Value} (hx:VR G x x') (hy:VR G y y') (h:binOp C op t x y=some v) (ox oy:Operand) :
  ∃ u,(do eqGuard op t ox oy x' y'; Go.binOp op t x' y':Sem Value).run P G.w=.ok u G.w/\VR G v u:=by
 unfold binOp at h
 split at h
 ·rename_i p hp
  obtain ⟨k,a⟩:=p
  have:=int?_eq hp; subst this
  rw [hx.of_int]
  unfold DX at h
  split at h
  ·rename_i k' b hb
   have:=int?_eq hb; subst this
   rw [hy.of_int]
   simp only [Sem.run_bind,MX,Result.andThen_ok]
   split at h
   ·rename_i hk
    cases hs:tL op with
    | true=>exact Fj h hs t
    | false =>
      rw [hs,Bool.or_false] at hk
      have:=(qP _ _).1 hk
      simp only at this
      subst this
      exact Dz h hs t
   ·cases h
  ·cases h
 ·split at h
  ·rename_i a ha
   have:=str?_eq ha; subst this
   obtain ⟨bx,rfl,hbx⟩:=hx.sO
   unfold Ds at h
   split at h
   ·rename_i b hb
    have:=str?_eq hb; subst this
    obtain ⟨by',rfl,hby⟩:=hy.sO
    simp only [Sem.run_bind,MS,Result.andThen_ok]
    exact DJ hbx hby h t
   ·cases h
  ·unfold Bl at h
   split at h
   ·cases h
   ·rename_i ti hti
    split at h
    ·split at h
     ·rename_i b hb
      cases h
      obtain ⟨h1,h2,h3⟩:=zx (hC.ty t ti hti) hx hy hb ox oy
      simp_all [VR.bool]
     ·cases h
    ·split at h
     ·rename_i b hb
      rw [z7] at h
      cases h
      obtain ⟨h1,h2,h3⟩:=zx (hC.ty t ti hti) hx hy hb ox oy
      simp_all [VR.bool]
     ·cases h
    ·cases h
def Hu {op:UnOp} {x v:AV} {x':Value} (hx:VR G x x') (h:unOp op x=some v):∃ u,(Op.unary op x').run P G.w=.ok u G.w/\VR G v u:=by
 unfold unOp at h
 split at h
 ·split at h
  ·rename_i b hb
   have:=bool?_eq hb; subst this
   rw [hx.of_bool]
   rw [z7] at h
   cases h
   exact ⟨_,rfl,VR.bool _⟩
  ·cases h
 ·split at h
  ·rename_i k n hb
   have:=int?_eq hb; subst this
   rw [hx.of_int]
   simp only [tq,nO,rU,B3] at h
   cases h
   refine ⟨_,rfl,?_⟩
   grind [VR.int]
  ·cases h
 ·split at h
  ·rename_i k n hb
   have:=int?_eq hb; subst this
   rw [hx.of_int]
   simp only [Ah,tq,nO] at h
   cases h
   exact ⟨_,rfl,VR.int _ _⟩
  ·cases h
 ·cases h
def Ia {x y v:AV} {x' y':Value} (hx:VR G x x') (hy:VR G y y') (h:min2 x y=some v):∃ u,(Builtin.min2 x' y').run P G.w=.ok u G.w/\VR G v u:=by
 unfold min2 at h
 split at h
 ·cases h
  rw [hx.of_int,hy.of_int]
  exact ⟨_,rfl,VR.int _ _⟩
 ·cases h
def HC {x y v:AV} {x' y':Value} (hx:VR G x x') (hy:VR G y y') (h:max2 x y=some v):∃ u,(Builtin.max2 x' y').run P G.w=.ok u G.w/\VR G v u:=by
 unfold max2 at h
 split at h
 ·cases h
  rw [hx.of_int,hy.of_int]
  exact ⟨_,rfl,VR.int _ _⟩
 ·cases h
def w0 {f:AV->AV->Option AV} {g:Value->Value->Sem Value} (hfg:∀ {x y v:AV} {x' y':Value},VR G x x'->VR G y y'->f x y=some v->∃ u,(g x' y').run P G.w=.ok u G.w/\VR G v u) :
  ∀ {l:List AV} {l':List Value} {x v:AV} {x':Value},VR G x x'->l.length=l'.length->(∀ (i:Nat) a b,l[i]?=some a->l'[i]?=some b->VR G a b)->Bh f x l=some v ->
    ∃ u,(l'.foldlM g x').run P G.w=.ok u G.w/\VR G v u
 | [],[],x,v,x',hx,_,_,h=>by
   simp_all [Bh]
 | [],_::_,_,_,_,_,hl,_,_=>by simp at hl
 | _::_,[],_,_,_,_,hl,_,_=>by simp at hl
 | a::l,b::l',x,v,x',hx,hl,hr,h=>by
   simp only [Bh] at h
   split at h
   ·rename_i c hc
    obtain ⟨u,hu,hcu⟩:=hfg hx (hr 0 a b rfl rfl) hc
    obtain ⟨z,hz,hvz⟩:=w0 hfg hcu (by grind) (λi p q hp hq=>hr (i+1) p q hp hq) h
    simp_all
   ·cases h
end
end Go.Sx
