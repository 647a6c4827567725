/- Proves rules for the walks and their soundness. -/
import GoSem.Core.Code
import GoSem.Core.Program
import GoSem.Core.View
import Derived.Calls
import Derived.Laws.Append
import Derived.Laws.Tables
import Derived.Laws.StructEq
import Derived.Laws.IdiomCopy
import Derived.Laws.Slices
import Derived.Laws.Rows
import Derived.Laws.Cells
import Derived.Laws.CopyRow
set_option linter.all false
namespace Go.Sx
inductive ml where
 | nil
 | exact (n:Nat)
 | iB
 | qC
 deriving DecidableEq,Inhabited
inductive AV where
 | undef
 | bool (b:Bool)
 | int (k:IntKind) (n:Int)
 | str (s:List UInt8)
 | iL
 | ip (cells:List AV) (off:Nat) (sn:Bool)
 | la (d off:Nat)
 | ptr (b g i off:Nat)
 | sl (xs:List (List AV)) (cap:ml)
 | hs (b g off len:Nat)
 | iw
 | fm (es:List (AV×AV)) (sn:Bool)
 | hm (b:Nat)
 | gx (f:Nat) (first cap:List AV)
 | j7
 | agg (cells:List AV)
 | fG (vs:List AV)
 deriving Inhabited
section force
variable {β:Type}
@[inline] def fB (b:Bool) (k:Bool->β) : β:=match b with
  | true=>k true
  | false=>k false
@[inline] def fN (n:Nat) (k:Nat->β) : β:=match n with
  | 0=>k 0
  | m+1=>k (m+1)
@[inline] def fI (n:Int) (k:Int->β) : β:=match n with
  | .ofNat m=>fN m λm=>k (.ofNat m)
  | .negSucc m=>fN m λm=>k (.negSucc m)
def yZ {α:Type}:List α->(List α->β)->β
 | [],k=>k []
 | a::l,k=>yZ l λl=>k (a::l)
def f1 (v:AV) (k:AV->β) : β:=match v with
 | .bool b=>fB b λb=>k (.bool b)
 | .int kd n=>fI n λn=>k (.int kd n)
 | .str s=>yZ s λs=>k (.str s)
 | .ip c o s=>fN o λo=>fB s λs=>k (.ip c o s)
 | .la d o=>fN o λo=>k (.la d o)
 | .ptr b g i o=>fN b λb=>fN g λg=>fN i λi=>fN o λo=>k (.ptr b g i o)
 | .hs b g o l=>fN b λb=>fN g λg=>fN o λo=>fN l λl=>k (.hs b g o l)
 | .hm b=>fN b λb=>k (.hm b)
 | .sl xs c=>yZ xs λxs=>k (.sl xs c)
 | v=>k v
def fL:List AV->(List AV->β)->β
 | [],k=>k []
 | a::l,k=>f1 a λa=>fL l λl=>k (a::l)
def Po:List (List AV)->(List (List AV)->β)->β
 | [],k=>k []
 | a::l,k=>fL a λa=>Po l λl=>k (a::l)
end force
section forceEq
variable {β:Type}
@[simp] theorem xR (b:Bool) (k:Bool->β):fB b k=k b:=by cases b<;>rfl
@[simp] theorem mA (b:Nat) (k:Nat->β):fN b k=k b:=by cases b<;>rfl
@[simp] theorem vM (b:Int) (k:Int->β):fI b k=k b:=by cases b<;>simp [fI]
@[simp] theorem pv {α:Type} (l:List α) (k:List α->β):yZ l k=k l:=by
  induction l generalizing k with
  | nil=>rfl
  | cons a l ih=>simp [yZ,ih]
@[simp] theorem abl (v:AV) (k:AV->β):f1 v k=k v:=by cases v<;>simp [f1]
@[simp] theorem yt (l:List AV) (k:List AV->β):fL l k=k l:=by
  induction l generalizing k with
  | nil=>rfl
  | cons a l ih=>simp [fL,ih]
@[simp] theorem abj (l:List (List AV)) (k:List (List AV)->β):Po l k=k l:=by
  induction l generalizing k with
  | nil=>rfl
  | cons a l ih=>simp [Po,ih]
end forceEq
inductive jM where
 | fc (gen esz:Nat) (xs:List (List AV))
 | map (es:List (AV×AV×Nat)) (clock:Nat)
 deriving Inhabited
inductive Tr (α:Type) where
 | leaf
 | node (l:Tr α) (v:Option α) (r:Tr α)
namespace Tr
variable {α β:Type}
def get:Tr α->Nat->Option α
 | .leaf,_=>none
 | .node l v r,n=>match n with
   | 0=>v
   | m+1=>match Nat.beq (m % 2) 0 with
     | true=>get l (m / 2)
     | false=>get r (m / 2)
def ins (x : α):Nat->Nat->Tr α->(Tr α->β)->β
 | 0,_,t,k=>k t
 | f+1,n,.leaf,k=>match n with
   | 0=>k (.node .leaf (some x) .leaf)
   | m+1=>match Nat.beq (m % 2) 0 with
     | true=>ins x f (m / 2) .leaf λl=>k (.node l none .leaf)
     | false=>ins x f (m / 2) .leaf λr=>k (.node .leaf none r)
 | f+1,n,.node l v r,k=>match n with
   | 0=>k (.node l (some x) r)
   | m+1=>match Nat.beq (m % 2) 0 with
     | true=>ins x f (m / 2) l λl=>k (.node l v r)
     | false=>ins x f (m / 2) r λr=>k (.node l v r)
end Tr
structure au where
 tr:Tr jM
 size:Nat
 lo:Nat
 aT:List (Nat×List AV)
def au.empty:au:=⟨.leaf,0,0,[]⟩
def au.get (h:au) (b:Nat):Option jM:=match Nat.ble h.lo b with
 | true=>h.tr.get b
 | false=>none
def fO {β:Type} (o:jM) (k:jM->β) : β:=match o with
 | .fc g z xs=>fN g λg=>fN z λz=>Po xs λxs=>k (.fc g z xs)
 | .map es c=>fN c λc=>yZ es λes=>k (.map es c)
@[simp] theorem Pg {β:Type} (o:jM) (k:jM->β):fO o k=k o:=by cases o<;>simp [fO]
def au.set (h:au) (b:Nat) (o:jM):au:=fO o λo=>h.tr.ins o (b+1) b λt=>⟨t,h.size,h.lo,h.aT⟩
def au.push (h:au) (o:jM):au:=fO o λo=>fN (h.size+1) λs=>h.tr.ins o s h.size λt=>⟨t,s,h.lo,h.aT⟩
def fH {β:Type} (h:au) (k:au->β) : β:=match h with
 | ⟨t,s,l,m⟩=>k ⟨t,s,l,m⟩
@[simp] theorem xZ {β:Type} (h:au) (k:au->β):fH h k=k h:=rfl
abbrev iN:=List (Nat×List AV)
def gM:iN->Nat->Option (List AV)
 | [],_=>none
 | p::e,t=>match Nat.beq t p.1 with
   | true=>some p.2
   | false=>gM e t
def tu:iN->Nat->List AV->iN
 | [],_,_=>[]
 | p::e,t,v=>match Nat.beq t p.1 with
   | true=>(t,v)::e
   | false=>p::tu e t v
abbrev Env:=List (Nat×AV)
def j5:Env->Nat->AV
 | [],_=>.undef
 | p::e,t=>match Nat.beq t p.1 with
   | true=>p.2
   | false=>j5 e t
def y6 (e:Env) (t:Nat) (v:AV):Env:=(t,v)::e
def AV.wN (t:Nat):AV->Bool
 | .la d o=>Nat.beq t d&&Nat.beq o 0
 | .fG _=>false
 | _=>true
def keep (t:Nat) (v:AV):AV:=match v.wN t with
 | true=>v
 | false=>.undef
def proj (live:List Nat) (e:Env):Env:=live.map λt=>(t,keep t (j5 e t))
def iu:List Nat->iN->iN
 | [],_=>[]
 | t::l,m=>match gM m t with
   | some c=>(t,c)::iu l m
   | none=>iu l m
def EZ {β:Type} (t:Nat) (k:AV->β):Env->β
 | []=>k .undef
 | (a,v)::e=>match Nat.beq t a with
   | true=>k v
   | false=>EZ t k e
def AA {β:Type}:List Nat->Env->(Env->β)->β
 | [],_,k=>k []
 | t::l,e,k=>EZ t (λv=>match v.wN t with
   | true=>AA l e λr=>k ((t,v)::r)
   | false=>AA l e λr=>k ((t,.undef)::r)) e
def wZ {β:Type}:List Nat->iN->(iN->β)->β
 | [],_,k=>k []
 | t::l,m,k=>match gM m t with
   | some c=>wZ l m λr=>k ((t,c)::r)
   | none=>wZ l m k
theorem Mp {β:Type} (t:Nat) (k:AV->β) (e:Env):EZ t k e=k (j5 e t):=by
 induction e<;>grind [EZ,j5]
@[simp] theorem aaX {β:Type} (l:List Nat) (e:Env) (k:Env->β):AA l e k=k (proj l e):=by
  induction l generalizing k with
  | nil=>rfl
  | cons t l ih =>
    simp only [AA,Mp,proj,List.map_cons,keep]
    cases h:(j5 e t).wN t
    ·exact ih _
    ·exact ih _
@[simp] theorem YD {β:Type} (l:List Nat) (m:iN) (k:iN->β):wZ l m k=k (iu l m):=by
  induction l generalizing k with
  | nil=>rfl
  | cons t l ih =>
    simp only [wZ,iu]
    cases h:gM m t
    ·exact ih _
    ·exact ih _
inductive TK where
 | bool | int (k:IntKind) | str | ptr | slice (elem:Nat) | array (len elem:Nat) | map (key elem:Nat) | struct (fs:List (Nat×Nat)) | func | other
structure TI where
 kind:TK
 agg:Bool
 size:Nat
 bytes:Nat
 zero:List AV
 flat:Bool
 sc:List TK
def GY:Value->AV
 | .bool b=>.bool b
 | .int k n=>.int k n
 | .string s=>.str s.data.toList
 | .pointer none=>.iL
 | .slice none 0 0=>.sl [] .nil
 | .map none=>.iw
 | .nilFunc=>.j7
 | _=>.undef
def Rt:Value->Bool
 | .bool _ | .int _ _ | .string _ | .pointer none | .slice none 0 0 | .map none | .nilFunc=>true
 | _=>false
def cv:Value->AV
 | .agg cs=>match cs.toList.all Rt with
   | true=>.agg (cs.toList.map GY)
   | false=>.undef
 | v=>GY v
def fg (e:Env):Operand->AV
 | .tmp t=>j5 e t
 | .const v=>cv v
 | .global _=>.undef
 | .func f=>.gx f [] []
def AV.gY:AV->Bool
 | .undef | .la _ _ | .agg _ | .fG _=>false
 | _=>true
def AV.ka:AV->Bool
 | .bool _ | .int _ _ | .str _ | .iL | .ip _ _ false | .iw | .fm _ false | .j7=>true
 | .sl _ .qC=>false
 | .sl _ _=>true
 | _=>false
def AV.AM:AV->Bool
 | .gx _ a c=>a.all AV.ka&&c.all AV.ka
 | v=>v.ka
def AV.int?:AV->Option (IntKind×Int)
 | .int k n=>some (k,n)
 | _=>none
def AV.str?:AV->Option (List UInt8)
 | .str s=>some s
 | _=>none
def AV.bool?:AV->Option Bool
 | .bool s=>some s
 | _=>none
def AV.agg?:AV->Option (List AV)
 | .agg s=>some s
 | _=>none
def cellsOf (ti:TI) (v:AV):Option (List AV) :=
 match ti.agg with
 | true=>match v.agg? with
   | some l=>match Nat.beq l.length ti.size with
     | true=>some l
     | false=>none
   | none=>none
 | false=>match v.gY&&Nat.beq ti.size 1 with
   | true=>some [v]
   | false=>none
def CO (n:Nat) (r:List AV):Option AV:=match Nat.beq r.length n with
 | true=>some (.agg r)
 | false=>none
def part (ti:TI) (cs:List AV) (o:Nat):Option AV:=match ti.agg with
 | true=>yZ ((cs.drop o).take ti.size) (CO ti.size)
 | false=>cs[o]?
def lS (cs:List AV) (o:Nat) (new:List AV):Option (List AV) :=
 match Nat.ble (o+new.length) cs.length with
 | true=>yZ (cs.take o++new++cs.drop (o+new.length)) some
 | false=>none
structure gv where
 T:Nat->Option TI
def G6:Int->Int->Bool
 | .ofNat a,.ofNat b=>Nat.beq a b
 | .negSucc a,.negSucc b=>Nat.beq a b
 | _,_=>false
def yW:Int->Int->Bool
 | .ofNat a,.ofNat b=>Nat.ble a b
 | .negSucc a,.negSucc b=>Nat.ble b a
 | .negSucc _,.ofNat _=>true
 | .ofNat _,.negSucc _=>false
def JO:Int->Int->Int
 | .ofNat a,.ofNat b=>.ofNat (Nat.add a b)
 | .ofNat a,.negSucc b=>match Nat.ble (Nat.succ b) a with
   | true=>.ofNat (Nat.sub a (Nat.succ b))
   | false=>.negSucc (Nat.sub b a)
 | .negSucc b,.ofNat a=>match Nat.ble (Nat.succ b) a with
   | true=>.ofNat (Nat.sub a (Nat.succ b))
   | false=>.negSucc (Nat.sub b a)
 | .negSucc a,.negSucc b=>.negSucc (Nat.succ (Nat.add a b))
def Kf:Int->Int
 | .ofNat 0=>.ofNat 0
 | .ofNat (n+1)=>.negSucc n
 | .negSucc n=>.ofNat (n+1)
def sw (k:IntKind) (n:Int):Int:=match k,n with
 | .i64,.ofNat a=>match Nat.ble a 4611686018427387904 with
   | true=>.ofNat a
   | false=>IntKind.wrap .i64 (.ofNat a)
 | .i64,.negSucc a=>match Nat.ble a 4611686018427387904 with
   | true=>.negSucc a
   | false=>IntKind.wrap .i64 (.negSucc a)
 | k,n=>k.wrap n
def NJ:IntKind->Nat
 | .i8=>0
 | .i16=>1
 | .i32=>2
 | .i64=>3
 | .u8=>4
 | .u16=>5
 | .u32=>6
 | .u64=>7
def oE (a b:IntKind):Bool:=Nat.beq (NJ a) (NJ b)
theorem pS (a b:IntKind):oE a b=true↔a=b:=by cases a<;>cases b<;>simp [oE,NJ]
def vq (k:IntKind) (a:Int) (y:AV):Option Bool:=match y.int? with
 | some (k',b)=>match oE k k' with
   | true=>some (G6 a b)
   | false=>none
 | none=>none
def Ay (a:List UInt8) (y:AV):Option Bool:=match y.str? with
 | some b=>some (a==b)
 | none=>none
def zW (a:Bool) (y:AV):Option Bool:=match y.bool? with
 | some b=>some (a==b)
 | none=>none
def pr (_:AV):Option Bool:=none
def kT:AV->AV->Option Bool
 | .bool a=>zW a
 | .int k a=>vq k a
 | .str a=>Ay a
 | _=>pr
def ki:List AV->List AV->Option Bool
 | [],[]=>some true
 | a::x,b::y=>match kT a b with
   | some true=>ki x y
   | some false=>match ki x y with
     | some _=>some false
     | none=>none
   | none=>none
 | _,_=>none
def zD (x:List AV) (y:AV):Option Bool:=match y.agg? with
 | some y=>ki x y
 | none=>none
def jc (x y:AV):Option Bool:=match x.agg? with
 | some l=>zD l y
 | none=>kT x y
def findKey (k:AV):List (AV×AV×Nat)->Nat->Option (Option (Nat×AV))
 | [],_=>some none
 | (k',v,_)::es,i=>match jc k k' with
   | some true=>some (some (i,v))
   | some false=>findKey k es (i+1)
   | none=>none
def qz (k:AV):List (AV×AV)->Option (Option AV)
 | []=>some none
 | (k',v)::es=>match jc k k' with
   | some true=>some (some v)
   | some false=>qz k es
   | none=>none
def bytesLess:List UInt8->List UInt8->Bool
 | _,[]=>false
 | [],_::_=>true
 | a::x,b::y=>a<b||(a==b&&bytesLess x y)
theorem oo (a b:Int):G6 a b=(a==b):=by
 apply Bool.eq_iff_iff.2
 cases a<;>cases b<;>simp only [G6,Nat.beq_eq,beq_iff_eq,Int.ofNat_eq_natCast,Int.negSucc_eq,Bool.false_eq_true,false_iff]<;>omega
theorem s7 (a b:Int):yW a b=decide (a<=b):=by
 apply Bool.eq_iff_iff.2
 cases a<;>cases b<;>simp only [yW,Nat.ble_eq,decide_eq_true_eq,Int.ofNat_eq_natCast,Int.negSucc_eq,Bool.false_eq_true,false_iff,true_iff]<;>omega
theorem DE (a b:Int):JO a b=a+b:=by
 cases a<;>cases b<;>simp only [JO,Nat.add_eq,Nat.sub_eq]
 ·rfl
 ·split
  ·rename_i h; simp only [Nat.ble_eq] at h; grind
  ·rename_i h
   have h:=(Bool.not_eq_true _).symm.mp h
   simp only [Nat.ble_eq] at h; grind
 ·split
  ·rename_i h; simp only [Nat.ble_eq] at h; grind
  ·rename_i h
   have h:=(Bool.not_eq_true _).symm.mp h
   simp only [Nat.ble_eq] at h; grind
 rfl
theorem Db (a:Int):Kf a = -a:=by
 rcases a with (_ | n) | n<;>simp only [Kf,Int.ofNat_eq_natCast,Int.negSucc_eq]<;>omega
theorem uj (n:Int) (h1 : -9223372036854775808<=n) (h2:n<=9223372036854775807):IntKind.wrap .i64 n=n:=by
 grind [IntKind.wrap,IntKind.bits,IntKind.signed]
theorem sp (k:IntKind) (n:Int):sw k n=k.wrap n:=by
 unfold sw
 split
 ·split
  ·rename_i h
   simp only [Nat.ble_eq] at h
   grind [uj]
  ·rfl
 ·split
  ·rename_i h
   simp only [Nat.ble_eq] at h
   grind [uj]
  ·rfl
 ·rfl
def nS (k:IntKind) (n:Int):Option AV:=some (.int k n)
def BL (b:Bool):Option AV:=some (.bool b)
def sC:Bool->Option AV
 | true=>some (.bool false)
 | false=>some (.bool true)
abbrev IB:=IntKind->Int->Int->Option AV
def Jq:IB:=λk x y=>fI (sw k (JO x y)) (nS k)
def Ke:IB:=λk x y=>fI (sw k (JO x (Kf y))) (nS k)
def PD:IB:=λk x y=>fI (sw k (x*y)) (nS k)
def OU:IB:=λk x y=>if y=0 then none else fI (sw k (x.tdiv y)) (nS k)
def NZ:IB:=λk x y=>if y=0 then none else fI (x.tmod y) (nS k)
def JF:IB:=λ_ x y=>fB (G6 x y) BL
def JB:IB:=λ_ x y=>fB (G6 x y) sC
def JX:IB:=λ_ x y=>fB (yW y x) sC
def JM:IB:=λ_ x y=>fB (yW x y) BL
def JQ:IB:=λ_ x y=>fB (yW x y) sC
def JZ:IB:=λ_ x y=>fB (yW y x) BL
def PW:IB:=λk x y=>fI (k.wrap (BitVec.ofInt k.bits x &&& BitVec.ofInt k.bits y).toNat) (nS k)
def S9:IB:=λk x y=>fI (k.wrap (BitVec.ofInt k.bits x ||| BitVec.ofInt k.bits y).toNat) (nS k)
def Ev:IB:=λk x y=>fI (k.wrap (BitVec.ofInt k.bits x ^^^ BitVec.ofInt k.bits y).toNat) (nS k)
def He:IB:=λk x y=>fI (k.wrap (BitVec.ofInt k.bits x &&& ~~~ BitVec.ofInt k.bits y).toNat) (nS k)
def VZ:IB:=λk x y=>if y<0 then none else fI (sw k (x*2 ^ (min y.toNat k.bits))) (nS k)
def XF:IB:=λk x y=>if y<0 then none else fI (x.fdiv (2 ^ (min y.toNat k.bits))) (nS k)
def Ti:IB:=λ_ _ _=>none
def ui:BinOp->Bool
 | .shl | .shr=>true
 | _=>false
def kE:BinOp->IB
 | .add=>Jq
 | .sub=>Ke
 | .mul=>PD
 | .quo=>OU
 | .rem=>NZ
 | .eql=>JF
 | .neq=>JB
 | .lss=>JX
 | .leq=>JM
 | .gtr=>JQ
 | .geq=>JZ
 | .and=>PW
 | .or=>S9
 | .xor=>Ev
 | .andNot=>He
 | .shl=>VZ
 | .shr=>XF
def CT (op:BinOp) (x y:List UInt8):Option AV :=
 match op with
 | .add=>match Nat.ble (x.length+y.length) 1099511627776 with
   | true=>yZ (x++y) λs=>some (.str s)
   | false=>none
 | .eql=>some (.bool (x==y))
 | .neq=>some (.bool !(x==y))
 | .lss=>some (.bool (bytesLess x y))
 | .leq=>some (.bool (bytesLess x y||x==y))
 | .gtr=>some (.bool !(bytesLess x y||x==y))
 | .geq=>some (.bool !(bytesLess x y))
 | _=>none
def MK:AV->Option Bool
 | .iL=>some true
 | .ptr ..=>some false
 | .ip ..=>some false
 | .la ..=>some false
 | _=>none
def MS:AV->Option Bool
 | .sl _ .nil=>some true
 | .sl ..=>some false
 | .hs ..=>some false
 | _=>none
def Nh:AV->Option Bool
 | .iw=>some true
 | .hm _=>some false
 | .fm ..=>some false
 | _=>none
def NC:AV->Option Bool
 | .j7=>some true
 | .gx ..=>some false
 | _=>none
def tR (f:AV->Option Bool) (x y:AV):Option Bool:=match f x,f y with
 | some true,some b=>some b
 | some false,some true=>some false
 | _,_=>none
def rn:TK->AV->Bool
 | .int kd,.int k _=>oE kd k
 | .str,.str _=>true
 | .bool,.bool _=>true
 | _,_=>false
def uv:AV->Bool
 | .bool _ | .int .. | .str _=>true
 | _=>false
def fitAll:List TK->List AV->Bool
 | [],[]=>true
 | t::ts,a::l=>rn t a&&fitAll ts l
 | _,_=>false
def Ge (ti:TI) (x y:AV):Option Bool:=match ti.flat,x.agg?,y.agg? with
 | true,some a,some b=>match Nat.beq a.length ti.size&&Nat.beq b.length ti.size&&fitAll ti.sc a with
   | true=>ki a b
   | false=>none
 | _,_,_=>none
def KM (x y:AV):Option Bool:=match x.bool?,y.bool? with
 | some a,some b=>some (a==b)
 | _,_=>none
def vA (ti:TI) (x y:AV):Option Bool:=match ti.kind with
 | .bool=>KM x y
 | .ptr=>tR MK x y
 | .slice _=>tR MS x y
 | .map _ _=>tR Nh x y
 | .func=>tR NC x y
 | .struct _=>Ge ti x y
 | .array _ _=>Ge ti x y
 | _=>none
def zg (C:gv) (op:BinOp) (t:Nat) (x y:AV):Option AV:=match C.T t with
 | none=>none
 | some ti=>match op with
   | .eql=>match vA ti x y with
     | some b=>some (.bool b)
     | none=>none
   | .neq=>match vA ti x y with
     | some b=>sC b
     | none=>none
   | _=>none
def FP (op:BinOp) (p:IntKind×Int) (y:AV):Option AV:=match y.int? with
 | some (k,b)=>match oE p.1 k||ui op with
   | true=>kE op p.1 p.2 b
   | false=>none
 | none=>none
def FJ (op:BinOp) (a:List UInt8) (y:AV):Option AV:=match y.str? with
 | some b=>CT op a b
 | none=>none
def binOp (C:gv) (op:BinOp) (t:Nat) (x y:AV):Option AV:=match x.int? with
 | some p=>FP op p y
 | none=>match x.str? with
   | some a=>FJ op a y
   | none=>zg C op t x y
def unOp (op:UnOp) (x:AV):Option AV:=match op with
 | .not=>match x.bool? with
   | some b=>sC b
   | none=>none
 | .neg=>match x.int? with
   | some (k,n)=>fI (sw k (Kf n)) (nS k)
   | none=>none
 | .xor=>match x.int? with
   | some (k,n)=>Ev k (if k.signed then -1 else k.max) n
   | none=>none
 | _=>none
def min2:AV->AV->Option AV
 | .int k x,.int _ y=>some (.int k (if y<x then y else x))
 | _,_=>none
def max2:AV->AV->Option AV
 | .int k x,.int _ y=>some (.int k (if y > x then y else x))
 | _,_=>none
def Cj (f:AV->AV->Option AV):AV->List AV->Option AV
 | a,[]=>some a
 | a,b::l=>match f a b with
   | some c=>Cj f c l
   | none=>none
def elems (h:au):AV->Option (List (List AV))
 | .sl xs _=>some xs
 | .hs b g off len=>match h.get b with
   | some (.fc g' _ xs)=>match Nat.beq g g'&&Nat.ble (off+len) xs.length with
     | true=>some ((xs.drop off).take len)
     | false=>none
   | _=>none
 | _=>none
def AI (ys:List (List AV)):Bool:=ys.all λc=>c.all AV.gY
def rP (ys:List (List AV)):Bool:=ys.all λc=>c.all AV.AM
def nm (n:Nat) (ys:List (List AV)):Bool:=ys.all λc=>Nat.beq c.length n
def overwrite (xs:List (List AV)) (at_:Nat) (ys:List (List AV)):List (List AV):=xs.take at_++ys++xs.drop (at_+ys.length)
def o5:Nat:=1048576
def rD (n:Nat) (h:au) (xs ys:List (List AV)):Option (AV×au) :=
 match nm n xs&&Nat.ble (xs.length+ys.length) o5 with
 | true=>fN (xs.length+ys.length) λm=>some (.hs h.size 0 0 m,h.push (.fc 0 n (xs++ys)))
 | false=>none
def Cs (n:Nat) (h:au) (b g off len:Nat) (ys:List (List AV)):Option (AV×au) :=
 match h.get b with
 | some (.fc g' z xs)=>match Nat.beq g g'&&Nat.beq z n&&Nat.ble (off+len+ys.length) o5 with
   | false=>none
   | true=>match Nat.ble (off+len+ys.length) xs.length with
     | true=>fN (len+ys.length) λm=>some (.hs b g off m,h.set b (.fc g z (overwrite xs (off+len) ys)))
     | false=>match Nat.beq (off+len) xs.length with
       | true=>fN (len+ys.length) λm=>some (.hs b (g+1) 0 m,h.set b (.fc (g+1) z (xs.drop off++ys)))
       | false=>none
 | _=>none
def append (n:Nat) (h:au) (s:AV) (ys:List (List AV)):Option (AV×au) :=
 match ys with
 | []=>match s with
   | .sl xs c=>some (.sl xs c,h)
   | .hs b g off len=>some (.hs b g off len,h)
   | _=>none
 | _::_=>match nm n ys with
   | false=>none
   | true=>match s with
     | .sl xs .nil=>rD n h xs ys
     | .sl xs (.exact m)=>match Nat.blt m (xs.length+ys.length) with
       | true=>rD n h xs ys
       | false=>none
     | .hs b g off len=>Cs n h b g off len ys
     | _=>none
def SN:Int->Option Nat
 | .ofNat n=>some n
 | .negSucc _=>none
def pV (v:AV):Option Nat:=match v.int? with
 | some (_,n)=>SN n
 | none=>none
def bound (x:Option AV) (dflt:Nat):Option Nat :=
 match x with
 | none=>some dflt
 | some v=>pV v
def J4 (s:List UInt8) (lo hi mx:Option AV):Option AV:=match bound lo 0,bound hi s.length,mx with
 | some l,some r,none=>match Nat.ble l r&&Nat.ble r s.length with
   | true=>yZ ((s.drop l).take (r - l)) λs=>some (.str s)
   | false=>none
 | _,_,_=>none
def pA (l:Nat):ml->ml
 | .exact n=>.exact (n - l)
 | c=>c
def sQ (n:Nat):ml->ml
 | .nil=>.nil
 | .qC=>.qC
 | _=>.exact n
def o1 (n:Nat):List (List AV)->Bool
 | []=>true
 | c::_=>Nat.beq c.length n
def qm (hi:Option AV):Option AV->Option (Option Nat)
 | none=>some none
 | some m=>match hi,pV m with
   | some _,some m=>some (some m)
   | _,_=>none
def zi:ml->ml
 | .qC=>.iB
 | c=>c
def BW (l m:Nat) (cap:ml):List (List AV)->Option AV
 | []=>some (.sl [] (sQ (m - l) (zi cap)))
 | x::xs=>some (.sl (x::xs) (sQ (m - l) cap))
def xN (n:Nat) (xs:List (List AV)) (cap:ml) (lo hi mx:Option AV):Option AV:=match bound lo 0,bound hi xs.length,qm hi mx with
 | some l,some r,some none=>match Nat.ble l r&&Nat.ble r xs.length&&o1 n xs with
   | true=>yZ ((xs.drop l).take (r - l)) λxs=>some (.sl xs (pA l cap))
   | false=>none
 | some l,some r,some (some m)=>match Nat.ble l r&&Nat.ble r m&&Nat.ble m xs.length&&o1 n xs with
   | true=>yZ ((xs.drop l).take (r - l)) (BW l m cap)
   | false=>none
 | _,_,_=>none
def EK (b g off:Nat) (l r:Nat):Option Nat->Option AV
 | none=>fN (off+l) λo=>fN (r - l) λk=>some (.hs b g o k)
 | some m=>match Nat.ble r m with
   | true=>match Nat.beq l m with
     | true=>some (.sl [] (.exact 0))
     | false=>some .undef
   | false=>none
def FA (n:Nat) (h:au) (b g off len:Nat) (lo hi mx:Option AV):Option AV:=match h.get b with
 | some (.fc g' z xs)=>match Nat.beq g g'&&Nat.beq z n with
   | false=>none
   | true=>match bound lo 0,bound hi len,qm hi mx with
     | some l,some r,some m=>match Nat.ble l r&&Nat.ble (off+r) xs.length&&Nat.ble (off+m.getD 0) xs.length with
       | true=>EK b g off l r m
       | false=>none
     | _,_,_=>none
 | _=>none
def slice (n:Nat) (h:au) (x:AV) (lo hi mx:Option AV):Option AV :=
 match x with
 | .sl xs cap=>xN n xs cap lo hi mx
 | .hs b g off len=>FA n h b g off len lo hi mx
 | _=>none
abbrev Kj:=au->TI->Option AV
def IW (d o:Nat):Kj:=λh ti=>match gM h.aT d with
 | some cs=>part ti cs o
 | none=>none
def Uh (cs:List AV) (o:Nat) (_:Bool):Kj:=λ_ ti=>part ti cs o
def C1 (b g i o:Nat):Kj:=λh ti=>match h.get b with
 | some (.fc g' _ xs)=>match Nat.beq g g' with
   | true=>match xs[i]? with
     | some cs=>part ti cs o
     | none=>none
   | false=>none
 | _=>none
def RL:Kj:=λ_ _=>none
def rz:AV->Kj
 | .la d o=>IW d o
 | .ip cs o s=>Uh cs o s
 | .ptr b g i o=>C1 b g i o
 | _=>RL
abbrev OH:=List AV->au->Option au
def Mz (d o:Nat):OH:=λnew h=>match gM h.aT d with
 | some cs=>match lS cs o new with
   | some cs=>some { h with aT:=tu h.aT d cs }
   | none=>none
 | none=>none
def EF (b g i o:Nat):OH:=λnew h=>match h.get b with
 | some (.fc g' z xs)=>match Nat.beq g g' with
   | true=>match xs[i]? with
     | some cs=>match lS cs o new with
       | some cs=>some (h.set b (.fc g z (xs.set i cs)))
       | none=>none
     | none=>none
   | false=>none
 | _=>none
def RB:OH:=λ_ _=>none
def zM:AV->OH
 | .la d o=>Mz d o
 | .ptr b g i o=>EF b g i o
 | _=>RB
def xi (h:au) (ti:TI) (a v:AV):Option au :=
 match cellsOf ti v with
 | none=>none
 | some new=>match new.all AV.gY with
   | true=>zM a new h
   | false=>none
def L7 (d o:Nat) (k:Nat):Option AV:=fN (o+k) λo=>some (.la d o)
def NR (cs:List AV) (o:Nat) (s:Bool) (k:Nat):Option AV:=fN (o+k) λo=>some (.ip cs o s)
def EC (b g i o:Nat) (k:Nat):Option AV:=fN (o+k) λo=>some (.ptr b g i o)
def T7 (_:Nat):Option AV:=none
def BO:AV->Nat->Option AV
 | .la d o=>L7 d o
 | .ip cs o s=>NR cs o s
 | .ptr b g i o=>EC b g i o
 | _=>T7
def Av:Bool->ml
 | true=>.qC
 | false=>.iB
def fU (f:AV->Option AV):List AV->Option (List AV)
 | []=>some []
 | v::l=>match f v with
   | none=>none
   | some w=>match fU f l with
     | none=>none
     | some l'=>some (w::l')
def lT (f:AV->Option AV):List (List AV)->Option (List (List AV))
 | []=>some []
 | v::l=>match fU f v with
   | none=>none
   | some w=>match lT f l with
     | none=>none
     | some l'=>some (w::l')
def nb (f:AV->Option AV):List (AV×AV×Nat)->Option (List (AV×AV))
 | []=>some []
 | (k,v,_)::l=>match f v with
   | none=>none
   | some w=>match nb f l with
     | none=>none
     | some l'=>some ((k,w)::l')
def freeze (sn:Bool) (h:au):Nat->AV->Option AV
 | 0,_=>none
 | n+1,v=>match v with
   | .bool _ | .int _ _ | .str _ | .iL | .iw | .j7=>some v
   | .ip _ _ s=>match s&&!sn with
     | true=>none
     | false=>some v
   | .fm _ s=>match s&&!sn with
     | true=>none
     | false=>some v
   | .sl _ .qC=>match sn with
     | true=>some v
     | false=>none
   | .sl _ _=>some v
   | .ptr b g i o=>match h.get b with
     | some (.fc g' _ xs)=>match Nat.beq g g' with
       | true=>match xs[i]? with
         | some cs=>match fU (freeze sn h n) cs with
           | some cs=>some (.ip cs o sn)
           | none=>none
         | none=>none
       | false=>none
     | _=>none
   | .hs b g off len=>match h.get b with
     | some (.fc g' _ xs)=>match Nat.beq g g'&&Nat.ble (off+len) xs.length with
       | true=>match lT (freeze sn h n) ((xs.drop off).take len) with
         | some xs=>some (.sl xs (Av sn))
         | none=>none
       | false=>none
     | _=>none
   | .hm b=>match h.get b with
     | some (.map es _)=>match nb (freeze sn h n) es with
       | some es=>some (.fm es sn)
       | none=>none
     | _=>none
   | .gx f a c=>match fU (freeze sn h n) a,fU (freeze sn h n) c with
     | some a,some c=>some (.gx f a c)
     | _,_=>none
   | .agg l=>match fU (freeze sn h n) l with
     | some l=>some (.agg l)
     | none=>none
   | .fG l=>match fU (freeze sn h n) l with
     | some l=>some (.fG l)
     | none=>none
   | .undef | .la _ _=>none
def AV.p5:AV->Bool
 | .ptr .. | .hs .. | .hm _=>true
 | .agg l=>l.any λ| .ptr .. | .hs .. | .hm _=>true | .gx _ a c=>!(a.all AV.ka&&c.all AV.ka) | _=>false
 | .gx _ a c=>!(a.all AV.ka&&c.all AV.ka)
 | _=>false
def AV.kK:AV->Bool
 | .la .. | .fG _=>false
 | _=>true
abbrev eZ:AV:=.int .i64 0
abbrev ee:AV:=.sl [] .nil
abbrev eV:AV:=.bool false
inductive ga where
 | nil
 | seq (live:List Nat) (a b:ga)
 | sq (a b:ga)
 | two (a b:ga)
 | loop (live:List Nat) (a:ga)
 | uB (sch:List (Nat×List Nat))
 deriving Inhabited
def lK {α:Type} (f : α->α->Bool):List α->List α->Bool
 | [],[]=>true
 | a::x,b::y=>f a b&&lK f x y
 | _,_=>false
def Aw:ml->ml->Bool
 | .nil,.nil=>true
 | .exact n,.exact m=>Nat.beq n m
 | .iB,.iB=>true
 | .qC,.qC=>true
 | _,_=>false
def C3:Bool->Bool->Bool
 | true,b=>b
 | false,true=>false
 | false,false=>true
def iR:Nat->AV->AV->Bool
 | 0,_,_=>false
 | n+1,a,b=>match a,b with
   | .undef,.undef=>true
   | .bool x,.bool y=>C3 x y
   | .int k x,.int l y=>oE k l&&G6 x y
   | .str x,.str y=>x==y
   | .iL,.iL=>true
   | .ip c o s,.ip d p t=>lK (iR n) c d&&Nat.beq o p&&C3 s t
   | .la d o,.la e p=>Nat.beq d e&&Nat.beq o p
   | .ptr b g i o,.ptr b' g' i' o'=>Nat.beq b b'&&Nat.beq g g'&&Nat.beq i i'&&Nat.beq o o'
   | .sl xs c,.sl ys d=>lK (lK (iR n)) xs ys&&Aw c d
   | .hs b g i o,.hs b' g' i' o'=>Nat.beq b b'&&Nat.beq g g'&&Nat.beq i i'&&Nat.beq o o'
   | .iw,.iw=>true
   | .hm b,.hm c=>Nat.beq b c
   | .fm x s,.fm y t=>lK (λp q=>iR n p.1 q.1&&iR n p.2 q.2) x y&&C3 s t
   | .j7,.j7=>true
   | .agg x,.agg y=>lK (iR n) x y
   | _,_=>false
structure eY where
 body:Code
 lE:ga
 aT:List Nat
 vc:List Nat
 fY:List Nat
 res:List ResultVar
 iter:Bool
inductive Ex where
 | gH
 | ext (id:Nat)
 | ret
 deriving DecidableEq
abbrev mN:=Bool->Nat->List AV->au->Option (AV×au)
def sG (C:gv) (ti:TI):List (Nat×AV)->List AV->Option (List AV)
 | [],cs=>some cs
 | (i,v)::rest,cs =>
   match (match ti.kind with
    | .struct fs=>fs[i]?
    | .array n el=>match C.T el with
      | some t=>if i<n then some (i*t.size,el) else none
      | none=>none
    | _=>none) with
   | none=>none
   | some (off,ft)=>match C.T ft with
     | none=>none
     | some t=>match cellsOf t v with
       | none=>none
       | some new=>if new.all AV.gY then match lS cs off new with
         | none=>none
         | some cs=>sG C ti rest cs else none
def tY (t:TI):List (Nat×AV)->List (List AV)->Option (List (List AV))
 | [],xs=>some xs
 | (i,v)::rest,xs=>match cellsOf t v with
   | none=>none
   | some new=>match new.all AV.gY&&Nat.blt i xs.length with
     | true=>tY t rest (xs.set i new)
     | false=>none
def BP (fa:eY) (n:Nat) (dst:Option Nat) (h:au) (xs:List (List AV)):Option (AV×au) :=
 match dst with
 | none=>none
 | some d=>match fa.vc.elem d||!(rP xs) with
   | true=>some (.hs h.size 0 0 xs.length,h.push (.fc 0 n xs))
   | false=>some (.sl xs (.exact xs.length),h)
def sV (C:gv) (t:Nat):Option TI :=
 match C.T t with
 | some ti=>match ti.kind with
   | .slice el=>C.T el
   | _=>none
 | none=>none
def zK (k v:AV) (es:List (AV×AV×Nat)) (clock:Nat):Option (List (AV×AV×Nat)×Nat) :=
 match findKey k es 0 with
 | none=>none
 | some none=>some (es++[(k,v,clock)],clock+1)
 | some (some (i,_))=>some (es.modify i (λe=>(k,v,e.2.2)),clock)
def wQ (k:AV) (es:List (AV×AV×Nat)):Option (List (AV×AV×Nat)) :=
 match findKey k es 0 with
 | none=>none
 | some none=>some es
 | some (some (i,_))=>some (es.eraseIdx i)
def po (n:Int) (v:AV):List (AV×AV×Nat)->Option (List (AV×AV×Nat))
 | []=>none
 | (k,w,b)::es=>if (b:Int)==n then some ((k,v,b)::es) else match po n v es with
   | none=>none
   | some es=>some ((k,w,b)::es)
def AV.pP:AV->Bool
 | .bool _ | .int .. | .str _=>true
 | .agg l=>l.all λ| .bool _ | .int .. | .str _=>true | _=>false
 | _=>false
def pE (tk:TI) (k:AV):Bool:=match tk.agg with
 | false=>rn tk.kind k
 | true=>match k.agg? with
   | some l=>tk.flat&&Nat.beq l.length tk.size&&fitAll tk.sc l
   | none=>false
def oP (C:gv) (kt:Nat) (k:AV):Bool:=match C.T kt with
 | some tk=>pE tk k
 | none=>false
def mapKey (C:gv) (t:Nat) (k:AV):Bool:=match C.T t with
 | some tm=>match tm.kind with
   | .map kt _=>oP C kt k
   | _=>false
 | none=>false
def AV.ye:AV->Bool
 | .la .. | .fG _=>false
 | .agg l=>l.all AV.gY
 | _=>true
abbrev R2:=Option (AV×au)
def iJ (h:au):Option AV->R2
 | some v=>some (v,h)
 | none=>none
def LU (x:AV):Option Nat:=match x.str? with
 | some s=>some s.length
 | none=>none
def vv:AV->Option Nat
 | .sl xs _=>some xs.length
 | .hs _ _ _ len=>some len
 | _=>none
def Gi (h:au):AV->Option Nat
 | .iw=>some 0
 | .fm es _=>some es.length
 | .hm b=>match h.get b with
   | some (.map es _)=>some es.length
   | _=>none
 | _=>none
def wD (h:au) (x:AV):TK->Option Nat
 | .array n _=>some n
 | .str=>LU x
 | .slice _=>vv x
 | .map _ _=>Gi h x
 | _=>none
def oR (h:au):Option Nat->R2
 | some n=>some (.int .i64 n,h)
 | none=>none
def uC (C:gv) (ats:List Nat) (args:List AV) (h:au):R2:=match ats,args with
 | t::_,[x]=>match C.T t with
   | some ti=>oR h (wD h x ti.kind)
   | none=>none
 | _,_=>none
def O7:AV->Option Nat
 | .sl _ .nil=>some 0
 | .sl _ (.exact n)=>some n
 | _=>none
def pX (C:gv):List Nat->Option TI
 | t::_=>sV C t
 | []=>none
def Dn (C:gv) (ats:List Nat) (args:List AV) (h:au):R2:=match pX C ats,args with
 | some _,[x]=>oR h (O7 x)
 | _,_=>none
def mF (h:au) (x:AV):Option (List (List AV)):=match x.str? with
 | some l=>some (l.map λc=>[AV.int .u8 c.toNat])
 | none=>elems h x
def Ax:TK->Bool
 | .slice _=>true
 | .str=>true
 | _=>false
def Bn (C:gv):List Nat->Bool
 | [_,t]=>match C.T t with
   | some ti=>Ax ti.kind
   | none=>false
 | _=>false
def rT (C:gv) (ats:List Nat) (args:List AV) (h:au):R2:=match pX C ats,args with
 | some ti,[s,x]=>match Bn C ats with
   | true=>match mF h x with
     | none=>none
     | some ys=>match AI ys with
       | true=>append ti.size h s ys
       | false=>none
   | false=>none
 | _,_=>none
def Gn (n:Nat) (h:au) (ys:List (List AV)):AV->R2
 | .hs b g off len=>match h.get b with
   | some (.fc g' z xs)=>match Nat.beq g g'&&Nat.beq z n&&Nat.ble (off+len) xs.length&&AI ys&&nm n ys with
     | true=>some (.int .i64 ((min ys.length len:Nat):Int),h.set b (.fc g z (overwrite xs off (ys.take (min ys.length len)))))
     | false=>none
   | _=>none
 | .sl [] _=>some (.int .i64 0,h)
 | _=>none
def Cd (C:gv) (ats:List Nat) (args:List AV) (h:au):R2:=match pX C ats,args with
 | some ti,[d,x]=>match elems h x with
   | some ys=>Gn ti.size h ys d
   | none=>none
 | _,_=>none
def wR (C:gv) (k:AV):List Nat->Bool
 | t::_=>mapKey C t k
 | []=>false
def ug (C:gv) (ats:List Nat) (args:List AV) (h:au):R2:=match args with
 | [.iw,k]=>match wR C k ats with
   | true=>some (.fG [],h)
   | false=>none
 | [.hm b,k]=>match h.get b with
   | some (.map es c)=>match wR C k ats with
     | true=>match wQ k es with
       | some es=>some (.fG [],h.set b (.map es c))
       | none=>none
     | false=>none
   | _=>none
 | _=>none
def KR (ti:TI) (h:au):AV->R2
 | .sl [] _=>some (.fG [],h)
 | .hs b g off len=>match h.get b with
   | some (.fc g' z xs)=>match Nat.beq g g'&&Nat.beq z ti.size&&Nat.ble (off+len) xs.length with
     | true=>some (.fG [],h.set b (.fc g z (overwrite xs off (List.replicate len ti.zero))))
     | false=>none
   | _=>none
 | _=>none
def Aj (C:gv) (ats:List Nat) (args:List AV) (h:au):R2:=match pX C ats,args with
 | some ti,[x]=>KR ti h x
 | _,_=>none
def qQ (f:AV->AV->Option AV) (args:List AV) (h:au):R2:=match args with
 | x::rest=>iJ h (Cj f x rest)
 | []=>none
abbrev Bg:=gv->List Nat->List AV->au->R2
def xy:Bg:=uC
def Of:Bg:=Dn
def BB:Bg:=rT
def Ut:Bg:=Cd
def Gx:Bg:=λC ats a h=>ug C ats a h
def QT:Bg:=Aj
def OD:Bg:=λ_ _ a h=>qQ max2 a h
def PS:Bg:=λ_ _ a h=>qQ min2 a h
def Ry:Bg:=λ_ _ _ _=>none
def lz:Builtin->Bg
 | .len=>xy
 | .cap=>Of
 | .append=>BB
 | .copy=>Ut
 | .delete=>Gx
 | .clear=>QT
 | .max=>OD
 | .min=>PS
 | _=>Ry
def np (f:Operand->AV):Option Operand->Option AV
 | none=>none
 | some x=>some (f x)
def asAgg (ti:TI) (cs:List AV):Option AV:=match ti.agg with
 | true=>some (.agg cs)
 | false=>match cs with
   | [v]=>some v
   | _=>none
def py (h:au) (k:AV):AV->Option (Option AV)
 | .iw=>some none
 | .fm es _=>qz k es
 | .hm b=>match h.get b with
   | some (.map es _)=>match findKey k es 0 with
     | none=>none
     | some none=>some none
     | some (some (_,v))=>some (some v)
   | _=>none
 | _=>none
def yf (ok b:Bool) (v:AV):Option AV:=match ok with
 | true=>some (.fG [v,.bool b])
 | false=>some v
def pN (C:gv) (t:Nat) (h:au) (m k:AV) (ok:Bool):Option AV:=match C.T t with
 | none=>none
 | some tm=>match tm.kind with
   | .map kt el=>match C.T el with
     | none=>none
     | some ti=>match oP C kt k with
       | false=>none
       | true=>match py h k m with
         | none=>none
         | some (some v)=>yf ok true v
         | some none=>match asAgg ti ti.zero with
           | none=>none
           | some z=>yf ok false z
   | _=>none
def EH (h:au) (c a b:AV):R2:=match c.bool? with
 | some true=>some (a,h)
 | some false=>some (b,h)
 | none=>none
def newVar (fa:eY) (d:Nat) (h:au) (cs:List AV):R2:=match fa.aT.elem d with
 | true=>match gM h.aT d with
   | none=>some (.la d 0,{ h with aT:=(d,cs)::h.aT })
   | some _=>none
 | false=>some (.ptr h.size 0 0 0,h.push (.fc 0 cs.length [cs]))
def BV (C:gv) (fa:eY) (dst:Option Nat) (h:au) (t:Nat):R2:=match C.T t with
 | some ti=>match dst with
   | some d=>newVar fa d h ti.zero
   | none=>none
 | none=>none
def GU (C:gv) (fa:eY) (dst:Option Nat) (h:au) (t:Nat) (x:AV):R2:=match C.T t with
 | some ti=>match dst with
   | some d=>match cellsOf ti x with
     | some cs=>match cs.all AV.gY with
       | true=>newVar fa d h cs
       | false=>none
     | none=>none
   | none=>none
 | none=>none
def oc (e:Env) (ps:Array (Nat×Operand)):List (Nat×AV):=ps.toList.map λp=>(p.1,fg e p.2)
def buildable (C:gv):TK->Bool
 | .struct _=>true
 | .array _ el=>(C.T el).isSome
 | _=>false
def zH (C:gv) (h:au) (t:Nat) (ps:List (Nat×AV)):R2:=match C.T t with
 | some ti=>match buildable C ti.kind with
   | true=>match sG C ti ps ti.zero with
     | some cs=>some (.agg cs,h)
     | none=>none
   | false=>none
 | none=>none
def sv (C:gv) (fa:eY) (dst:Option Nat) (h:au) (t n:Nat) (ps:List (Nat×AV)):R2:=match sV C t with
 | some ti=>match Nat.ble (n*ti.size) 16777216 with
   | true=>match tY ti ps (List.replicate n ti.zero) with
     | some xs=>BP fa ti.size dst h xs
     | none=>none
   | false=>none
 | none=>none
def vw (C:gv) (h:au) (t:Nat) (a:AV):R2:=match C.T t with
 | some ti=>iJ h (rz a h ti)
 | none=>none
def xj (C:gv) (h:au) (t:Nat) (a x:AV):R2:=match C.T t with
 | some ti=>match xi h ti a x with
   | some h=>some (.undef,h)
   | none=>none
 | none=>none
def Cq:AV->Option AV
 | .ptr b g i o=>some (.ptr b g i o)
 | .ip cs o s=>some (.ip cs o s)
 | .la d o=>some (.la d o)
 | .gx f a c=>some (.gx f a c)
 | _=>none
def yF (C:gv) (h:au) (s d:Nat) (x:AV):R2:=match C.T s,C.T d with
 | some _,some ti=>match ti.kind with
   | .int k=>match x.int? with
     | some (_,n)=>iJ h (fI (sw k n) (nS k))
     | none=>none
   | .str=>match x.str? with
     | some s=>some (.str s,h)
     | none=>none
   | _=>none
 | _,_=>none
def sT (h:au) (fn:Fn) (a c:List AV):R2:=match fn with
 | .func f=>match a.all AV.gY&&c.all AV.gY with
   | true=>some (.gx f a c,h)
   | false=>none
 | _=>none
def tJ (C:gv) (h:au) (t:Nat) (l c:AV):R2:=match sV C t,l.int?,c.int? with
 | some ti,some (_,l),some (_,c) =>
   match yW 0 l&&yW l c&&yW c 4294967295&&Nat.ble (c.toNat*ti.bytes) 140737488355328 with
   | true=>some (.hs h.size 0 0 l.toNat,h.push (.fc 0 ti.size (List.replicate c.toNat ti.zero)))
   | false=>none
 | _,_,_=>none
def pF (C:gv) (h:au) (t:Nat) (x:AV) (lo hi mx:Option AV):R2:=match C.T t with
 | none=>none
 | some ti=>match ti.kind with
   | .slice el=>match C.T el with
     | some ti=>iJ h (slice ti.size h x lo hi mx)
     | none=>none
   | .str=>match x.str? with
     | some s=>iJ h (J4 s lo hi mx)
     | none=>none
   | _=>none
def pO (C:gv) (h:au) (t:Nat) (x:AV) (f:Nat):R2:=match C.T t with
 | none=>none
 | some ti=>match ti.kind with
   | .struct fs=>match fs[f]? with
     | some (off,_)=>iJ h (BO x off)
     | none=>none
   | _=>none
def B2 (C:gv) (h:au) (t:Nat) (x:AV) (f:Nat):R2:=match C.T t with
 | none=>none
 | some ti=>match ti.kind with
   | .struct fs=>match fs[f]? with
     | some (off,ft)=>match x.agg? with
       | some cs=>match C.T ft with
         | some ti=>iJ h (part ti cs off)
         | none=>none
       | none=>none
     | none=>none
   | _=>none
def oU:ml->Bool
 | .qC=>true
 | _=>false
def p8 (n:Nat) (h:au) (x:AV) (i:Nat):R2:=match x with
 | .sl xs c=>match xs[i]? with
   | some cs=>match Nat.beq cs.length n with
     | true=>some (.ip cs 0 (oU c),h)
     | false=>none
   | none=>none
 | .hs b g off len=>match h.get b with
   | some (.fc _ z _)=>match Nat.blt i len&&Nat.beq z n with
     | true=>fN (off+i) λk=>some (.ptr b g k 0,h)
     | false=>none
   | _=>none
 | _=>none
def nE (C:gv) (h:au) (t:Nat) (x i:AV):R2:=match C.T t with
 | none=>none
 | some ti=>match pV i with
   | none=>none
   | some i=>match ti.kind with
     | .slice el=>match C.T el with
       | some ti=>p8 ti.size h x i
       | none=>none
     | .array n el=>match C.T el with
       | some ti=>match Nat.blt i n with
         | true=>iJ h (BO x (i*ti.size))
         | false=>none
       | none=>none
     | _=>none
def zE (C:gv) (h:au) (t:Nat) (x i:AV):R2:=match C.T t with
 | none=>none
 | some ti=>match pV i with
   | none=>none
   | some i=>match ti.kind with
     | .str=>match x.str? with
       | some s=>match s[i]? with
         | some c=>some (.int .u8 c.toNat,h)
         | none=>none
       | none=>none
     | .array n el=>match C.T el with
       | some ti=>match x.agg? with
         | some cs=>match Nat.blt i n with
           | true=>iJ h (part ti cs (i*ti.size))
           | false=>none
         | none=>none
       | none=>none
     | _=>none
def tX (C:gv) (h:au) (t:Nat) (m k x:AV):R2:=match m with
 | .hm b=>match h.get b with
   | some (.map es c)=>match mapKey C t k&&x.ye with
     | true=>match zK k x es c with
       | some (es,c)=>some (.undef,h.set b (.map es c))
       | none=>none
     | false=>none
   | _=>none
 | _=>none
def xn (es:List (AV×AV×Nat)) (i:Nat):Nat:=match es[i]? with
 | some x=>x.2.2
 | none=>0
def s5 (C:gv) (h:au) (t:Nat) (m k:AV):R2:=match C.T t with
 | none=>none
 | some tm=>match tm.kind,m with
   | .map kt el,.hm b=>match C.T el,h.get b with
     | some ti,some (.map es c)=>match oP C kt k with
       | false=>none
       | true=>match findKey k es 0 with
         | some (some (i,v))=>some (.fG [v,.int .i64 (xn es i)],h.set b (.map (es.modify i λx=>(k,x.2)) c))
         | some none=>match asAgg ti ti.zero with
           | some z=>some (.fG [z,.int .i64 c],h.set b (.map (es++[(k,z,c)]) (c+1)))
           | none=>none
         | none=>none
     | _,_=>none
   | _,_=>none
def sF (h:au) (m s x:AV):R2:=match m,s.int? with
 | .hm b,some (_,n)=>match h.get b with
   | some (.map es c)=>match x.ye with
     | true=>match po n x es with
       | some es=>some (.undef,h.set b (.map es c))
       | none=>none
     | false=>none
   | _=>none
 | _,_=>none
def xI (h:au) (t:AV) (i:Nat):R2:=match t with
 | .fG vs=>iJ h vs[i]?
 | _=>none
def sR (m:iN):R2->R2
 | some (v,h)=>some (v,{ h with aT:=m })
 | none=>none
def rB (fa:eY) (call:mN) (h:au) (f:AV) (args:List AV):R2:=match f with
 | .gx g a cp=>fL (a++args++cp) λargs=>match args.all AV.kK with
   | true=>sR h.aT (call (fa.fY.elem g) g args { h with aT:=[] })
   | false=>none
 | _=>none
def mM (C:gv) (fa:eY) (call:mN) (e:Env) (h:au) (c:Call):R2:=match c.callee with
 | .builtin b=>lz b C c.argTypes.toList (c.args.toList.map (fg e)) h
 | .value f=>rB fa call h (fg e f) (c.args.toList.map (fg e))
 | .invoke ..=>none
structure Ctx where
 C:gv
 fa:eY
 call:mN
abbrev nX:=Ctx->Env->au->Option Nat->R2
def Jy (x:Operand):nX:=λ_ e h _=>some (fg e x,h)
def Ka (c a b:Operand):nX:=λ_ e h _=>EH h (fg e c) (fg e a) (fg e b)
def L2 (t:Nat):nX:=λX e h d=>BV X.C X.fa d h t
def J8 (t:Nat) (x:Operand):nX:=λX e h d=>GU X.C X.fa d h t (fg e x)
def Ci (t:Nat) (ps:Array (Nat×Operand)):nX:=λX e h _=>zH X.C h t (oc e ps)
def wL (t n:Nat) (ps:Array (Nat×Operand)):nX:=λX e h d=>sv X.C X.fa d h t n (oc e ps)
def yK (t:Nat) (a:Operand):nX:=λX e h _=>vw X.C h t (fg e a)
def Aa (t:Nat) (a x:Operand):nX:=λX e h _=>xj X.C h t (fg e a) (fg e x)
def wb (x:Operand):nX:=λ_ e h _=>iJ h (Cq (fg e x))
def zd (op:BinOp) (t:Nat) (x y:Operand) (_:Nat):nX:=λX e h _=>iJ h (binOp X.C op t (fg e x) (fg e y))
def Uo (op:UnOp) (_:Nat) (x:Operand):nX:=λ_ e h _=>iJ h (unOp op (fg e x))
def Bx (s d:Nat) (x:Operand):nX:=λX e h _=>yF X.C h s d (fg e x)
def wa (fn:Fn) (a c:Array Operand):nX:=λ_ e h _=>sT h fn (a.toList.map (fg e)) (c.toList.map (fg e))
def GZ (_:Nat):Option Operand->nX
 | none=>λ_ _ h _=>some (.hm h.size,h.push (.map [] 0))
 | some _=>λ_ _ _ _=>none
def yH (t:Nat) (l c:Operand):nX:=λX e h d=>tJ X.C h t (fg e l) (fg e c)
def qj (t:Nat) (x:Operand) (lo hi mx:Option Operand):nX:=λX e h _=>pF X.C h t (fg e x) (np (fg e) lo) (np (fg e) hi) (np (fg e) mx)
def rj (t:Nat) (x:Operand) (f:Nat):nX:=λX e h _=>pO X.C h t (fg e x) f
def G5 (t:Nat) (x:Operand) (f:Nat):nX:=λX e h _=>B2 X.C h t (fg e x) f
def oK (t:Nat) (x i:Operand):nX:=λX e h _=>nE X.C h t (fg e x) (fg e i)
def Cf (t:Nat) (x i:Operand):nX:=λX e h _=>zE X.C h t (fg e x) (fg e i)
def si (t:Nat) (m k:Operand) (ok:Bool):nX:=λX e h _=>iJ h (pN X.C t h (fg e m) (fg e k) ok)
def tP (t:Nat) (m k x:Operand):nX:=λX e h _=>tX X.C h t (fg e m) (fg e k) (fg e x)
def vf (t:Nat) (m k:Operand):nX:=λX e h _=>s5 X.C h t (fg e m) (fg e k)
def wG (_:Nat) (m s x:Operand):nX:=λ_ e h _=>sF h (fg e m) (fg e s) (fg e x)
def BQ (t:Operand) (i:Nat):nX:=λ_ e h _=>xI h (fg e t) i
def nG (c:Call):nX:=λX e h _=>mM X.C X.fa X.call e h c
def VT:nX:=λ_ _ _ _=>none
def gd:Op->nX
 | .move x=>Jy x
 | .assign x=>Jy x
 | .pick c a b=>Ka c a b
 | .alloc t=>L2 t
 | .box t x=>J8 t x
 | .build t ps=>Ci t ps
 | .buildSlice t n ps=>wL t n ps
 | .load t a=>yK t a
 | .store t a x=>Aa t a x
 | .nilCheck x=>wb x
 | .binOp op t x y u=>zd op t x y u
 | .unOp op t x=>Uo op t x
 | .convert s d x=>Bx s d x
 | .makeFunc fn a c=>wa fn a c
 | .makeMap t r=>GZ t r
 | .makeSlice t l c=>yH t l c
 | .slice t x lo hi mx=>qj t x lo hi mx
 | .fieldAddr t x f=>rj t x f
 | .field t x f=>G5 t x f
 | .indexAddr t x i=>oK t x i
 | .index t x i=>Cf t x i
 | .lookup t m k ok=>si t m k ok
 | .mapUpdate t m k x=>tP t m k x
 | .insert t m k x=>tP t m k x
 | .mapEntry t m k=>vf t m k
 | .entryStore t m s x=>wG t m s x
 | .extract t i=>BQ t i
 | .call c=>nG c
 | _=>VT
def Iv (want:Bool):AV->Option Bool
 | .bool b=>some (C3 b want)
 | .fG []=>some false
 | _=>none
def fE (all:List Oper) (e:Env) (o:Oper):Option Bool :=
 match o.guard with
 | none=>some true
 | some (j,want)=>match all[j]? with
   | some o'=>match o'.dst with
     | some d=>Iv want (j5 e d)
     | none=>none
   | none=>none
def fp (e:Env) (o:Oper) (v:AV):Env :=
 match o.dst with
 | some d=>y6 e d v
 | none=>e
abbrev RE:=Option (Env×au)
def oY (X:Ctx) (k:Env->au->RE) (o:Oper) (e:Env) (h:au):Option Bool->RE
 | none=>none
 | some true=>match gd o.op X e h o.dst with
   | some (v,h)=>fH h λh=>k (fp e o v) h
   | none=>none
 | some false=>k (fp e o (.fG [])) h
def uJ (X:Ctx) (all:List Oper):List Oper->Env->au->RE
 | [],e,h=>some (e,h)
 | o::rest,e,h=>oY X (uJ X all rest) o e h (fE all e o)
def GI (e:Env) (d:Nat):Option (AV×au)->Bool
 | some (v,_)=>iR 8 v (j5 e d)
 | none=>false
def again (X:Ctx) (all:List Oper) (e:Env) (h:au) (i:Nat):Bool:=match all[i]? with
 | none=>false
 | some o=>match fE all e o with
   | none=>false
   | some false=>true
   | some true=>match o.dst with
     | none=>false
     | some d=>GI e d (gd o.op X e h (some d))
def tA (X:Ctx) (all:List Oper):List (Nat×List Nat)->Env->au->RE
 | [],e,h=>some (e,h)
 | (i,chk)::rest,e,h=>match all[i]? with
   | none=>none
   | some o=>oY X (λe h=>match chk.all (again X all e h) with
     | true=>tA X all rest e h
     | false=>none) o e h (fE all e o)
abbrev Az:=(Env->au->Option (Ex×Env×au))->Env->au->Option (Ex×Env×au)
def iC:Nat->Az
 | 0,_,_,_=>none
 | n+1,f,e,h=>match f e h with
   | some (.gH,e,h)=>iC n f e h
   | r=>r
abbrev RC:=Option (Ex×Env×au)
abbrev qo:=ga->Env->au->RC
def sB:RE->RC
 | some (e,h)=>some (.gH,e,h)
 | none=>none
def s6 (X:Ctx) (ops:Array Oper):qo:=λan e h=>match an with
 | .uB sch=>sB (tA X ops.toList sch e h)
 | _=>none
def EX (X:Ctx) (ops:Array Oper):qo:=λ_ e h=>sB (uJ X ops.toList ops.toList e h)
def sr (X:Ctx) (ops:Array Oper):Bool->qo
 | true=>s6 X ops
 | false=>EX X ops
def andThen (k:Env->au->RC):RC->RC
 | some (.gH,e,h)=>k e h
 | r=>r
def jo (live:List Nat) (k:Env->au->RC) (e:Env) (h:au):RC:=AA live e λe=>wZ live h.aT λm=>k e { h with aT:=m }
def yI (a b:qo):qo:=λan e h=>match an with
 | .seq live x y=>andThen (λe h=>jo live (b y) e h) (a x e h)
 | .sq x y=>andThen (b y) (a x e h)
 | _=>none
def Cv (x y:Env->au->RC) (e:Env) (h:au) (c:AV):RC:=match c.bool? with
 | some true=>x e h
 | some false=>y e h
 | none=>none
def CM (c:Operand) (a b:qo):qo:=λan e h=>match an with
 | .two x y=>Cv (a x) (b y) e h (fg e c)
 | _=>none
def atEnd (id:Nat):RC->RC
 | some (.ext id',e,h)=>match Nat.beq id' id with
   | true=>some (.gH,e,h)
   | false=>some (.ext id',e,h)
 | r=>r
def ux (id:Nat) (a:qo):qo:=λan e h=>atEnd id (a an e h)
def Jv (lp:Az) (a:qo):qo:=λan e h=>match an with
 | .loop live x=>lp (jo live (a x)) e h
 | _=>none
def gF (X:Ctx) (lp:Az):Code->qo
 | .skip=>λ_ e h=>some (.gH,e,h)
 | .region _ ops draw=>sr X ops draw
 | .seq a b=>yI (gF X lp a) (gF X lp b)
 | .cond c a b=>CM c (gF X lp a) (gF X lp b)
 | .block id a=>ux id (gF X lp a)
 | .loop a=>Jv lp (gF X lp a)
 | .exit id=>λ_ e h=>some (.ext id,e,h)
 | .scope a=>gF X lp a
 | .label _=>λ_ e h=>some (.gH,e,h)
 | .ret=>λ_ e h=>some (.ret,e,h)
 | _=>λ_ _ _=>none
inductive A9 where
 | nil
 | fix (last:Option (AV×AV)) (left:List (AV×AV))
 | BX (b clk:Nat) (seen:Option Nat)
structure It where
 d:Nat
 k:A9
def IG (h:au):AV->Option A9
 | .iw=>some .nil
 | .fm [] _=>some (.fix none [])
 | .fm [x] _=>some (.fix none [x])
 | .hm b=>match h.get b with
   | some (.map [] c)=>some (.BX b c none)
   | some (.map [_] c)=>some (.BX b c none)
   | _=>none
 | _=>none
def Gd (C:gv) (h:au) (t:Nat) (x:AV):Option A9:=match C.T t with
 | some ti=>match ti.kind with
   | .map _ _=>IG h x
   | _=>none
 | none=>none
def uW (h:au):A9->Option (Option (AV×AV)×A9)
 | .nil=>some (none,.nil)
 | .fix last []=>some (none,.fix last [])
 | .fix _ (x::l)=>some (some x,.fix (some x) l)
 | .BX b clk seen=>match h.get b with
   | some (.map es c)=>match Nat.beq c clk,es,seen with
     | true,[],s=>some (none,.BX b clk s)
     | true,[(k,v,n)],none=>some (some (k,v),.BX b clk (some n))
     | true,[(_,_,n)],some n'=>match Nat.beq n n' with
       | true=>some (none,.BX b clk (some n'))
       | false=>none
     | _,_,_=>none
   | _=>none
def AL (h:au):A9->Option (AV×AV)
 | .fix (some x) _=>some x
 | .BX b clk (some n)=>match h.get b with
   | some (.map [(k,v,n')] c)=>match Nat.beq c clk&&Nat.beq n' n with
     | true=>some (k,v)
     | false=>none
   | _=>none
 | _=>none
abbrev RI:=Option (Option It×Env×au)
def oj (o:Oper):Bool:=match o.guard with
 | none=>true
 | some _=>false
def sa (it:Option It) (o:Oper):Bool:=match it,o.dst with
 | some i,some d=>!(Nat.beq i.d d)
 | _,_=>true
def qv:Option (AV×AV)->AV
 | none=>.fG [.bool false]
 | some x=>.fG [.bool true,x.1,x.2]
def Lg (h:au) (o:Oper) (t:Nat) (k:Option It->Env->RI) (e:Env) (it:Option It):RI:=match it with
 | some i=>match Nat.beq i.d t&&sa (some i) o&&oj o with
   | true=>match uW h i.k with
     | some (r,k')=>k (some ⟨i.d,k'⟩) (fp e o (qv r))
     | none=>none
   | false=>none
 | none=>none
def IN (h:au) (o:Oper) (t:Nat) (k:Option It->Env->RI) (e:Env) (it:Option It):RI:=match it with
 | some i=>match Nat.beq i.d t&&sa (some i) o&&oj o with
   | true=>match AL h i.k with
     | some x=>k (some i) (fp e o (.fG [x.1,x.2]))
     | none=>none
   | false=>none
 | none=>none
def HL (o:Oper) (x:Option A9) (k:Option It->Env->RI) (e:Env):RI:=match x,o.dst,oj o with
 | some l,some d,true=>k (some ⟨d,l⟩) (y6 e d .undef)
 | _,_,_=>none
inductive YR where
 | range (t:Nat) (x:Operand)
 | next (t:Nat)
 | entry (t:Nat)
 | plain
 | bad
def sO:Op->YR
 | .range t x=>.range t x
 | .next (.tmp t) false=>.next t
 | .next _ _=>.bad
 | .entry (.tmp t)=>.entry t
 | .entry _=>.bad
 | _=>.plain
def Fe (X:Ctx) (it:Option It) (k:Env->au->RI) (o:Oper) (e:Env) (h:au):Option Bool->RI
 | none=>none
 | some true=>match gd o.op X e h o.dst with
   | some (v,h)=>fH h λh=>k (fp e o v) h
   | none=>none
 | some false=>k (fp e o (.fG [])) h
def Ae (X:Ctx) (all:List Oper):List Oper->Option It->Env->au->RI
 | [],it,e,h=>some (it,e,h)
 | o::rest,it,e,h=>match sO o.op with
   | .range t x=>HL o (Gd X.C h t (fg e x)) (λit e=>Ae X all rest it e h) e
   | .next t=>Lg h o t (λit e=>Ae X all rest it e h) e it
   | .entry t=>IN h o t (λit e=>Ae X all rest it e h) e it
   | .plain=>match sa it o with
     | true=>Fe X it (λe h=>Ae X all rest it e h) o e h (fE all e o)
     | false=>none
   | .bad=>none
abbrev uA:=Option (Ex×Option It×Env×au)
def S6:RI->uA
 | some (it,e,h)=>some (.gH,it,e,h)
 | none=>none
def Ey (k:Option It->Env->au->uA):uA->uA
 | some (.gH,it,e,h)=>k it e h
 | r=>r
def xd (live:List Nat) (k:Env->au->uA) (e:Env) (h:au):uA:=AA live e λe=>wZ live h.aT λm=>k e { h with aT:=m }
def S5 (id:Nat):uA->uA
 | some (.ext id',it,e,h)=>match Nat.beq id' id with
   | true=>some (.gH,it,e,h)
   | false=>some (.ext id',it,e,h)
 | r=>r
def Cn:Nat->(Option It->Env->au->uA)->Option It->Env->au->uA
 | 0,_,_,_,_=>none
 | n+1,f,it,e,h=>match f it e h with
   | some (.gH,it,e,h)=>Cn n f it e h
   | r=>r
abbrev zN:=ga->Option It->Env->au->uA
def RU (a b:zN):zN:=λan it e h=>match an with
 | .seq live x y=>Ey (λit e h=>xd live (b y it) e h) (a x it e h)
 | .sq x y=>Ey (b y) (a x it e h)
 | _=>none
def PK (c:Operand) (a b:zN):zN:=λan it e h=>match an with
 | .two x y=>match (fg e c).bool? with
   | some true=>a x it e h
   | some false=>b y it e h
   | none=>none
 | _=>none
def L4 (it:Option It):RC->uA
 | some (x,e,h)=>some (x,it,e,h)
 | none=>none
def lU (X:Ctx) (n:Nat):Code->zN
 | .skip=>λ_ it e h=>some (.gH,it,e,h)
 | .region _ ops false=>λ_ it e h=>S6 (Ae X ops.toList ops.toList it e h)
 | .region _ ops true=>λan it e h=>match ops.toList.all (sa it) with
   | true=>L4 it (s6 X ops an e h)
   | false=>none
 | .seq a b=>RU (lU X n a) (lU X n b)
 | .cond c a b=>PK c (lU X n a) (lU X n b)
 | .block id a=>λan it e h=>S5 id (lU X n a an it e h)
 | .loop a=>λan it e h=>match an with
   | .loop live x=>Cn n (λit e h=>xd live (lU X n a x it) e h) it e h
   | _=>none
 | .exit id=>λ_ it e h=>some (.ext id,it,e,h)
 | .scope a=>lU X n a
 | .label _=>λ_ it e h=>some (.gH,it,e,h)
 | .ret=>λ_ it e h=>some (.ret,it,e,h)
 | _=>λ_ _ _ _=>none
def KQ:uA->RC
 | some (x,_,e,h)=>some (x,e,h)
 | none=>none
def Cg (X:Ctx) (n:Nat) (c:Code) (an:ga) (e:Env) (h:au):Bool->RC
 | true=>KQ (lU X n c an none e h)
 | false=>gF X (iC n) c an e h
def I0 (C:gv) (e:Env) (h:au):ResultVar->Option AV
 | .tmp t=>some (fg e (.tmp t))
 | .cell a t=>match C.T t with
   | some ti=>rz (fg e (.tmp a)) h ti
   | none=>none
def Dv (C:gv) (e:Env) (h:au):List ResultVar->Option (List AV)
 | []=>some []
 | r::l=>match I0 C e h r with
   | none=>none
   | some v=>match Dv C e h l with
     | none=>none
     | some l=>some (v::l)
def params:Nat->List AV->Env
 | _,[]=>[]
 | i,v::l=>(i,v)::params (i+1) l
def result:List AV->AV
 | [v]=>v
 | vs=>.fG vs
def leave (C:gv) (res:List ResultVar):RC->R2
 | some (.gH,e,h)=>leave1 e h
 | some (.ret,e,h)=>leave1 e h
 | _=>none
where
 leave1 (e:Env) (h:au):R2:=match Dv C e h res with
  | some vs=>match vs.all AV.kK with
    | true=>some (result vs,h)
    | false=>none
  | none=>none
def tH (C:gv) (fa:eY) (call:mN) (n:Nat) (args:List AV) (h:au):Option (AV×au) :=
 leave C fa.res (Cg ⟨C,fa,call⟩ n fa.body fa.lE (params 0 args) h fa.iter)
abbrev gX:=Nat->Option eY
abbrev gQ:=Nat->Option (Bool->List AV->au->Option (AV×au))
def gT (h:au) (args:List AV):Option (List AV):=match args.any AV.p5 with
 | true=>fU (freeze true h 8) args
 | false=>some args
def frozen:au->R2->R2
 | h,some (v,h')=>match freeze false h' 8 v with
   | none=>none
   | some v=>some (v,h)
 | _,none=>none
def rG (C:gv) (fa:eY) (call:mN) (lp:Nat) (shd:Bool) (args:List AV) (h:au):Option (AV×au) :=
 match shd with
 | true=>tH C fa call lp args h
 | false=>match gT h args with
   | none=>none
   | some args'=>frozen h (tH C fa call lp args' au.empty)
def gP (C:gv) (F:gX) (P:gQ):Nat->mN
 | 0,_,_,_,_=>none
 | n+1,shd,f,args,h=>match P f with
   | some p=>p shd args h
   | none=>match F f with
     | none=>none
     | some fa=>rG C fa (gP C F P n) n shd args h
open Go
def nJ:ml->Nat->Nat->Prop
 | .nil,_,_=>False
 | .exact n,_,c=>c=n
 | .iB,l,c=>l<=c
 | .qC,l,c=>l<=c
def o6:ml->Bool
 | .qC=>true
 | _=>false
def Mv (ents:Array MapEntry) (clk:Nat):Prop:=(∀ (i:Nat) (e:MapEntry),ents[i]?=some e->e.born<clk)/\(ents.toList.map (·.born)).Nodup
inductive PR (w:World) (T:Bool->Nat->Prop):Bool->AV->Value->Prop
 | undef (m:Bool) (v:Value) (h:v.oneCell'=true):PR w T m .undef v
 | bool (m b:Bool):PR w T m (.bool b) (.bool b)
 | int (m:Bool) (k:IntKind) (n:Int):PR w T m (.int k n) (.int k n)
 | str (m:Bool) (s:List UInt8) (b:ByteArray) (h:b.data.toList=s):PR w T m (.str s) (.string b)
 | iL (m:Bool):PR w T m .iL (.pointer none)
 | ip (m:Bool) (cells:List AV) (off:Nat) (sn:Bool) (B base:Nat) (c:Array Value) (e:TypeId) (fr:Nat×Nat) (f:Nat->Value) (hm:sn=true->m=true)
    (hB:w.heap[B]?=some (.cells c e fr)) (hI:T sn B)
    (hc:∀ (i:Nat) (x:AV),cells[i]?=some x->c[base+i]?=some (f i)) (h1:∀ (i:Nat) (x:AV),cells[i]?=some x->(f i).oneCell'=true)
    (hr:∀ (i:Nat) (x:AV),cells[i]?=some x->PR w T sn x (f i)):PR w T m (.ip cells off sn) (.pointer (some ⟨B,base+off,none⟩))
 | slnil (m:Bool):PR w T m (.sl [] .nil) (.slice none 0 0)
 | my (m:Bool) (cap:ml) (a:Addr) (c:Nat) (hm:o6 cap=true->m=true) (h:nJ cap 0 c):PR w T m (.sl [] cap) (.slice (some a) 0 c)
 | sl (m:Bool) (xs:List (List AV)) (cap:ml) (B base:Nat) (c:Array Value) (e:TypeId) (fr:Nat×Nat) (cap' esz:Nat) (f:Nat->Nat->Value)
    (hm:o6 cap=true->m=true)
    (hB:w.heap[B]?=some (.cells c e fr)) (hI:T (o6 cap) B) (hcap:nJ cap xs.length cap') (hle:xs.length<=cap')
    (hz:∀ (i:Nat) (cs:List AV),xs[i]?=some cs->cs.length=esz)
    (hc:∀ (i:Nat) (cs:List AV) (j:Nat) (x:AV),xs[i]?=some cs->cs[j]?=some x->c[base+i*esz+j]?=some (f i j))
    (h1:∀ (i:Nat) (cs:List AV) (j:Nat) (x:AV),xs[i]?=some cs->cs[j]?=some x->(f i j).oneCell'=true)
    (hr:∀ (i:Nat) (cs:List AV) (j:Nat) (x:AV),xs[i]?=some cs->cs[j]?=some x->PR w T (o6 cap) x (f i j)) :
    PR w T m (.sl xs cap) (.slice (some ⟨B,base,none⟩) xs.length cap')
 | iw (m:Bool):PR w T m .iw (.map none)
 | fm (m:Bool) (es:List (AV×AV)) (sn:Bool) (r:Nat) (ents:Array MapEntry) (clk:Nat) (hm:sn=true->m=true) (hB:w.heap[r]?=some (.map ents clk)) (hI:T sn r)
    (hl:es.length=ents.size) (hy:Mv ents clk) (hko:∀ (i:Nat) (p:AV×AV),es[i]?=some p->p.1.pP=true)
    (hk:∀ (i:Nat) (p:AV×AV) (e:MapEntry),es[i]?=some p->ents[i]?=some e->PR w T sn p.1 e.key)
    (hv:∀ (i:Nat) (p:AV×AV) (e:MapEntry),es[i]?=some p->ents[i]?=some e->PR w T sn p.2 e.val):PR w T m (.fm es sn) (.map (some r))
 | j7 (m:Bool):PR w T m .j7 .nilFunc
 | gx (m:Bool) (g:Nat) (a c:List AV) (a' c':Array Value) (ha:a.length=a'.size) (hc:c.length=c'.size)
    (hra:∀ (i:Nat) (x:AV) (y:Value),a[i]?=some x->a'[i]?=some y->PR w T m x y) (hrc:∀ (i:Nat) (x:AV) (y:Value),c[i]?=some x->c'[i]?=some y->PR w T m x y) :
    PR w T m (.gx g a c) (.func (.func g) a' c')
 | agg (m:Bool) (l:List AV) (vs:Array Value) (hl:l.length=vs.size) (h1:∀ (i:Nat) (y:Value),vs[i]?=some y->y.oneCell'=true)
    (hr:∀ (i:Nat) (x:AV) (y:Value),l[i]?=some x->vs[i]?=some y->PR w T m x y):PR w T m (.agg l) (.agg vs)
def PR.mono {w w':World} {T T':Bool->Nat->Prop} {m:Bool} {v:AV} {u:Value} (h:PR w T m v u)
  (hI:∀ s B,T s B->T' s B) (hw:∀ s B,T s B->w'.heap[B]?=w.heap[B]?):PR w' T' m v u:=by
 induction h with
 | undef m v h=>exact .undef m v h
 | bool m b=>exact .bool m b
 | int m k n=>exact .int m k n
 | str m s b h=>exact .str m s b h
 | iL m=>exact .iL m
 | ip m cells off sn B base c e fr f hm hB hB' hc h1 hr ih=>exact .ip m cells off sn B base c e fr f hm (by grind) (hI _ B hB') hc h1 ih
 | slnil m=>exact .slnil m
 | my m cap a c hm h=>exact .my m cap a c hm h
 | sl m xs cap B base c e fr cap' esz f hm hB hB' hcap hle hz hc h1 hr ih =>
   exact .sl m xs cap B base c e fr cap' esz f hm (by grind) (hI _ B hB') hcap hle hz hc h1 ih
 | iw m=>exact .iw m
 | fm m es sn r ents clk hm hB hB' hl hy hko hk hv ihk ihv=>exact .fm m es sn r ents clk hm (by grind) (hI _ r hB') hl hy hko ihk ihv
 | j7 m=>exact .j7 m
 | gx m g a c a' c' ha hc hra hrc iha ihc=>exact .gx m g a c a' c' ha hc iha ihc
 | agg m l vs hl h1 hr ih=>exact .agg m l vs hl h1 ih
def PR.up {w:World} {T:Bool->Nat->Prop} {m:Bool} {v:AV} {u:Value} (h:PR w T m v u) (hm:m=false):PR w T true v u:=by
 induction h with
 | undef m v h=>exact .undef _ v h
 | bool m b=>exact .bool _ b
 | int m k n=>exact .int _ k n
 | str m s b h=>exact .str _ s b h
 | iL m=>exact .iL _
 | ip m cells off sn B base c e fr f hm hB hB' hc h1 hr ih=>exact .ip _ cells off sn B base c e fr f (λ_=>rfl) hB hB' hc h1 hr
 | slnil m=>exact .slnil _
 | my m cap a c hm h=>exact .my _ cap a c (λ_=>rfl) h
 | sl m xs cap B base c e fr cap' esz f hm hB hB' hcap hle hz hc h1 hr ih=>exact .sl _ xs cap B base c e fr cap' esz f (λ_=>rfl) hB hB' hcap hle hz hc h1 hr
 | iw m=>exact .iw _
 | fm m es sn r ents clk hm hB hB' hl hy hko hk hv ihk ihv=>exact .fm _ es sn r ents clk (λ_=>rfl) hB hB' hl hy hko hk hv
 | j7 m=>exact .j7 _
 | gx m g a c a' c' ha hc hra hrc iha ihc=>exact .gx _ g a c a' c' ha hc (λi x y hx hy=>iha i x y hx hy hm) (λi x y hx hy=>ihc i x y hx hy hm)
 | agg m l vs hl h1 hr ih=>exact .agg _ l vs hl h1 (λi x y hx hy=>ih i x y hx hy hm)
def PR.D6 {w:World} {T:Bool->Nat->Prop} {m:Bool} {v:AV} {u:Value} (h:PR w T m v u):PR w T true v u:=by
 cases m
 ·exact h.up rfl
 ·exact h
structure Loc where
 B:Nat
 base:Nat
 cap:Nat
structure Ga where
 w:World
 T:Bool->Nat->Prop
 h:au
 pi:Nat->Option Loc
 L:Nat->Option Nat
def AV.iA:AV->Bool
 | .bool _ | .int _ _ | .str _ | .iL | .ip _ _ _ | .sl _ _ | .iw | .fm _ _ | .j7=>true
 | _=>false
def AV.lR:AV->Bool
 | .la _ _ | .fG _=>false
 | _=>true
inductive VR (G:Ga):AV->Value->Prop
 | undef (v:Value):VR G .undef v
 | gf {v:AV} {u:Value} (hp:v.iA=true) (h:PR G.w G.T true v u):VR G v u
 | ptr (b g i o:Nat) (a:Addr) (hb:b<G.h.size) (hg:∀ g0 z xs,G.h.get b=some (.fc g0 z xs)->g<=g0)
    (h:∀ z xs,G.h.get b=some (.fc g z xs)->∃ l,G.pi b=some l/\a=⟨l.B,l.base+i*z+o,none⟩) :
    VR G (.ptr b g i o) (.pointer (some a))
 | hs (b g off len:Nat) (a:Addr) (cap':Nat) (hb:b<G.h.size) (hg:∀ g0 z xs,G.h.get b=some (.fc g0 z xs)->g<=g0) (hle:len<=cap')
    (h:∀ z xs,G.h.get b=some (.fc g z xs)->∃ l,G.pi b=some l/\off+cap'=l.cap/\(0<cap'->a=⟨l.B,l.base+off*z,none⟩)) :
    VR G (.hs b g off len) (.slice (some a) len cap')
 | hm (b r:Nat) (hb:b<G.h.size) (h:∀ es c,G.h.get b=some (.map es c)->∃ l,G.pi b=some l/\r=l.B):VR G (.hm b) (.map (some r))
 | la (d o B:Nat) (hd:G.L d=some B):VR G (.la d o) (.pointer (some ⟨B,o,none⟩))
 | gx (g:Nat) (a c:List AV) (a' c':Array Value) (ha:a.length=a'.size) (hc:c.length=c'.size) (hna:∀ x∈a,x.lR=true) (hnc:∀ x∈c,x.lR=true)
    (hra:∀ (i:Nat) (x:AV) (y:Value),a[i]?=some x->a'[i]?=some y->VR G x y) (hrc:∀ (i:Nat) (x:AV) (y:Value),c[i]?=some x->c'[i]?=some y->VR G x y) :
    VR G (.gx g a c) (.func (.func g) a' c')
 | agg (l:List AV) (vs:Array Value) (hl:l.length=vs.size) (hn:∀ x∈l,x.lR=true) (h1:∀ (i:Nat) (y:Value),vs[i]?=some y->y.oneCell'=true)
    (hr:∀ (i:Nat) (x:AV) (y:Value),l[i]?=some x->vs[i]?=some y->VR G x y):VR G (.agg l) (.agg vs)
 | fG (l:List AV) (vs:Array Value) (hl:l.length=vs.size) (hr:∀ (i:Nat) (x:AV) (y:Value),l[i]?=some x->vs[i]?=some y->VR G x y):VR G (.fG l) (.tuple vs)
structure Ext (G G':Ga):Prop where
 T:∀ s B,G.T s B->G'.T s B
 keep:∀ s B,G.T s B->G'.w.heap[B]?=G.w.heap[B]?
 size:G.h.size<=G'.h.size
 fc:∀ b,b<G.h.size->∀ g' z' xs',G'.h.get b=some (.fc g' z' xs') ->
  ∃ g z xs,G.h.get b=some (.fc g z xs)/\g<=g'/\(g=g'->z=z'/\∀ l,G.pi b=some l->G'.pi b=some l)
 map:∀ b,b<G.h.size->∀ es' c',G'.h.get b=some (.map es' c')->∃ es c,G.h.get b=some (.map es c)/\∀ l,G.pi b=some l->G'.pi b=some l
 aT:∀ d B,G.L d=some B->G'.L d=some B
def VR.mono {G G':Ga} (E:Ext G G') {v:AV} {u:Value} (h:VR G v u):VR G' v u:=by
 induction h with
 | undef v=>exact .undef v
 | gf hp h=>exact .gf hp (h.mono E.T E.keep)
 | ptr b g i o a hb hg h =>
   refine .ptr b g i o a (Nat.lt_of_lt_of_le hb E.size) ?_ ?_
   ·intro g0 z xs hx
    obtain ⟨g1,z1,xs1,h1,hle,_⟩:=E.fc b hb g0 z xs hx
    grind
   ·intro z xs hx
    obtain ⟨g1,z1,xs1,h1,hle,heq⟩:=E.fc b hb g z xs hx
    grind
 | hs b g off len a cap' hb hg hle' h =>
   refine .hs b g off len a cap' (Nat.lt_of_lt_of_le hb E.size) ?_ hle' ?_
   ·intro g0 z xs hx
    obtain ⟨g1,z1,xs1,h1,hle,_⟩:=E.fc b hb g0 z xs hx
    grind
   ·intro z xs hx
    obtain ⟨g1,z1,xs1,h1,hle,heq⟩:=E.fc b hb g z xs hx
    grind
 | hm b r hb h =>
   refine .hm b r (Nat.lt_of_lt_of_le hb E.size) ?_
   intro es c hx
   obtain ⟨es1,c1,h1,hp⟩:=E.map b hb es c hx
   grind
 | la d o B hd=>exact .la d o B (E.aT d B hd)
 | gx g a c a' c' ha hc hna hnc hra hrc iha ihc=>exact .gx g a c a' c' ha hc hna hnc iha ihc
 | agg l vs hl hn h1 hr ih=>exact .agg l vs hl hn h1 ih
 | fG l vs hl hr ih=>exact .fG l vs hl ih
def Ext.refl (G:Ga):Ext G G where
 T:=λ_ _ h=>h
 keep:=λ_ _ _=>rfl
 size:=Nat.le_refl _
 fc:=λ_ _ g z xs h=>⟨g,z,xs,h,Nat.le_refl _,λ_=>⟨rfl,λ_ h=>h⟩⟩
 map:=λ_ _ es c h=>⟨es,c,h,λ_ h=>h⟩
 aT:=λ_ _ h=>h
theorem Ext.trans {A B C:Ga} (h:Ext A B) (k:Ext B C):Ext A C where
 T:=λs b hb=>k.T s b (h.T s b hb)
 keep:=λs b hb=>(k.keep s b (h.T s b hb)).trans (h.keep s b hb)
 size:=Nat.le_trans h.size k.size
 fc:=by
  intro b hb g z xs hx
  obtain ⟨g1,z1,xs1,h1,hle,he⟩:=k.fc b (Nat.lt_of_lt_of_le hb h.size) g z xs hx
  obtain ⟨g2,z2,xs2,h2,hle2,he2⟩:=h.fc b hb g1 z1 xs1 h1
  grind
 map:=by
  intro b hb es c hx
  obtain ⟨es1,c1,h1,p1⟩:=k.map b (Nat.lt_of_lt_of_le hb h.size) es c hx
  obtain ⟨es2,c2,h2,p2⟩:=h.map b hb es1 c1 h1
  grind
 aT:=λd B hd=>k.aT d B (h.aT d B hd)
theorem PR.lR {w:World} {T:Bool->Nat->Prop} {m:Bool} {v:AV} {u:Value} (h:PR w T m v u):v.lR=true:=by cases h<;>rfl
def PR.Ap {w:World} {T:Bool->Nat->Prop} {m:Bool} {l:List AV} {vs:Array Value} (hl:l.length=vs.size) (h:∀ (i:Nat) (x:AV) (y:Value),l[i]?=some x->vs[i]?=some y->PR w T m x y):∀ x∈l,x.lR=true:=by
 intro x hx
 obtain ⟨i,hi⟩:=List.getElem?_of_mem hx
 have hlt:i<vs.size:=by grind
 exact (h i x vs[i] hi (by simp)).lR
structure VC (G:Ga) (x:AV) (v:Value):Prop where
 vr:VR G x v
 na:x.lR=true
def VC.mono {G G':Ga} (E:Ext G G') {x:AV} {v:Value} (h:VC G x v):VC G' x v:=⟨h.vr.mono E,h.na⟩
def ng (G:Ga) (l:Loc) (z:Nat) (xs:List (List AV)):Prop :=
 ∃ c e,G.w.heap[l.B]?=some (.cells c e (0,0))/\xs.length<=l.cap/\l.base+l.cap*z<=c.size/\(∀ (i:Nat) (cs:List AV),xs[i]?=some cs->cs.length=z) /\
   (∀ (i:Nat) (cs:List AV) (j:Nat) (x:AV),xs[i]?=some cs->cs[j]?=some x->∃ v,c[l.base+i*z+j]?=some v/\v.oneCell'=true/\VC G x v)
def o9 (es:List (AV×AV×Nat)) (clk:Nat):Prop:=(∀ p∈es,p.2.2<clk)/\(es.map (·.2.2)).Nodup
def o9.Zf {es:List (AV×AV×Nat)} {ents:Array MapEntry} {clk:Nat} (h:o9 es clk) (hlen:es.length=ents.size) (hb:∀ (i:Nat) (p:AV×AV×Nat) (e:MapEntry),es[i]?=some p->ents[i]?=some e->p.2.2=e.born):Mv ents clk:=by
 have hm:es.map (·.2.2)=ents.toList.map (·.born):=by
  apply List.ext_getElem?
  intro i
  simp only [List.getElem?_map,Array.getElem?_toList]
  cases hp:es[i]? with
  | none=>rw [Array.getElem?_eq_none (by rw [<- hlen]; exact List.getElem?_eq_none_iff.1 hp)]; rfl
  | some p =>
    have hi:i<ents.size:=by rw [<- hlen]; exact (List.getElem?_eq_some_iff.1 hp).1
    have he:ents[i]?=some ents[i]:=by simp
    rw [he]
    exact congrArg some (hb i p _ hp he)
 refine ⟨λi e he=>?_,hm▸h.2⟩
 have hi:i<es.length:=by rw [hlen]; exact (Array.getElem?_eq_some_iff.1 he).1
 have hei:es[i]?=some es[i]:=by simp
 rw [<- hb i _ e hei he]
 exact h.1 _ (List.getElem_mem hi)
def rh (G:Ga) (r:Nat) (es:List (AV×AV×Nat)) (clk:Nat):Prop :=
 ∃ ents,G.w.heap[r]?=some (.map ents clk)/\es.length=ents.size/\o9 es clk /\
   ∀ (i:Nat) (p:AV×AV×Nat) (e:MapEntry),es[i]?=some p->ents[i]?=some e->p.1.pP=true/\PR G.w G.T false p.1 e.key/\VC G p.2.1 e.val/\p.2.2=e.born
def vF (G:Ga) (B:Nat) (cs:List AV):Prop :=
 ∃ c e,G.w.heap[B]?=some (.cells c e (0,0))/\c.size=cs.length/\(∀ (i:Nat) (x:AV) (v:Value),cs[i]?=some x->c[i]?=some v->VC G x v)/\(∀ (i:Nat) (v:Value),c[i]?=some v->v.oneCell'=true)
structure WR (G:Ga):Prop where
 fc:∀ b l g z xs,G.pi b=some l->G.h.get b=some (.fc g z xs)->ng G l z xs
 map:∀ b l es c,G.pi b=some l->G.h.get b=some (.map es c)->rh G l.B es c
 loc:∀ d B cs,G.L d=some B->gM G.h.aT d=some cs->vF G B cs
 iU:∀ b l,G.pi b=some l->l.B<G.w.heap.size/\b<G.h.size
 ma:∀ b b' l l',G.pi b=some l->G.pi b'=some l'->l.B=l'.B->b=b'
 qf:∀ s b l,G.pi b=some l->¬ G.T s l.B
 ou:∀ d d' B,G.L d=some B->G.L d'=some B->d=d'
 LT:∀ s d B,G.L d=some B->¬ G.T s B
 oT:∀ d B b l,G.L d=some B->G.pi b=some l->B≠l.B
 kN:∀ d B,G.L d=some B->B<G.w.heap.size/\(gM G.h.aT d).isSome=true
 mv:∀ s B,G.T s B->B<G.w.heap.size
 lo:G.h.lo<=G.h.size
 lt:∀ b o,G.h.get b=some o->b<G.h.size
def PR.tj {G:Ga} {m:Bool} {v:AV} {u:Value} (h:PR G.w G.T m v u):VR G v u:=by
 have h':=h.D6
 clear h
 generalize hm:true=m' at h'
 induction h' with
 | undef m v h=>exact .undef v
 | bool m b=>exact .gf rfl (.bool _ b)
 | int m k n=>exact .gf rfl (.int _ k n)
 | str m s b h=>exact .gf rfl (.str _ s b h)
 | iL m=>exact .gf rfl (.iL _)
 | ip m cells off sn B base c e fr f hm' hB hB' hc h1 hr ih=>exact .gf rfl (.ip _ cells off sn B base c e fr f (λ_=>rfl) hB hB' hc h1 hr)
 | slnil m=>exact .gf rfl (.slnil _)
 | my m cap a c hm' h=>exact .gf rfl (.my _ cap a c (λ_=>rfl) h)
 | sl m xs cap B base c e fr cap' esz f hm' hB hB' hcap hle hz hc h1 hr ih=>exact .gf rfl (.sl _ xs cap B base c e fr cap' esz f (λ_=>rfl) hB hB' hcap hle hz hc h1 hr)
 | iw m=>exact .gf rfl (.iw _)
 | fm m es sn r ents clk hm' hB hB' hl hy hko hk hv ihk ihv=>exact .gf rfl (.fm _ es sn r ents clk (λ_=>rfl) hB hB' hl hy hko hk hv)
 | j7 m=>exact .gf rfl (.j7 _)
 | gx m g a c a' c' ha hc hra hrc iha ihc=>exact .gx g a c a' c' ha hc (PR.Ap ha hra) (PR.Ap hc hrc) (λi x y hx hy=>iha i x y hx hy hm) (λi x y hx hy=>ihc i x y hx hy hm)
 | agg m l vs hl h1 hr ih=>exact .agg l vs hl (PR.Ap hl hr) h1 (λi x y hx hy=>ih i x y hx hy hm)
def PR.wv {G:Ga} {m:Bool} {v:AV} {u:Value} (h:PR G.w G.T m v u):VC G v u:=⟨h.tj,h.lR⟩
def JA:TypeDesc->Bool
 | .struct _ | .array _ _=>true
 | _=>false
def TZ (P:Program) (d:TypeDesc):TK->Prop
 | .bool=>d=.bool
 | .int k=>d=.int k
 | .str=>d=.string
 | .ptr=>∃ e,d=.pointer e
 | .slice e=>d=.slice e
 | .array n e=>d=.array n e
 | .map k e=>d=.map k e
 | .struct fs=>∃ F,d=.struct F/\fs=F.toList.map (λf=>(f.offset,f.type))/\∀ f∈F.toList,∃ i,P.info? f.type=some i/\i.size≠0
 | .func=>∃ a b c,d=.func a b c
 | .other=>True
def MA {t:TK} {a:AV} (h:rn t a=true):uv a=true:=by
 cases t<;>cases a<;>simp_all [rn,uv]
def zj:∀ {ts:List TK} {l:List AV},fitAll ts l=true->∀ x∈l,uv x=true
 | [],[],_,x,hx=>by cases hx
 | t::ts,a::l,h,x,hx=>by
   simp only [fitAll,Bool.and_eq_true] at h
   rcases List.mem_cons.1 hx with rfl | hx
   ·exact MA h.1
   ·exact zj h.2 x hx
 | [],_::_,h,_,_=>by cases h
 | _::_,[],h,_,_=>by cases h
structure mz (P:Program) (t:Nat) (ti:TI):Prop where
 info:∃ i z,P.info? t=some i/\i.size=ti.size/\i.bytes=ti.bytes/\i.zero=some z/\ti.zero=z.cells.toList.map GY/\z.cells.size=ti.size /\
  (∀ c∈z.cells.toList,c.oneCell'=true)/\(ti.agg=true->∃ cs,z=.agg cs)/\(ti.agg=false->z.oneCell'=true)
 desc:∃ d,P.underlying t=some d/\JA d=ti.agg/\TZ P d ti.kind
 bytes:ti.bytes<=1048576
 guard:ti.flat=true->P.eqGuardType P.depth t=false
 flat:ti.flat=true->ti.agg=true->∀ (l m:List AV) (xs ys:Array Value) (b:Bool) (w:World) (T:Bool->Nat->Prop),fitAll ti.sc l=true->l.length=ti.size->m.length=ti.size ->
  PR w T true (.agg l) (.agg xs)->PR w T true (.agg m) (.agg ys)->ki l m=some b->(Op.equalIn 10000 t (.agg xs) (.agg ys)).run P w=.ok b w
 key:ti.flat=true->ti.agg=true->∀ (e:Bool) (xs:Array Value) (w:World),xs.size=ti.size->(Instr.checkKey e 10000 t (.agg xs)).run P w=.ok () w
structure gR (P:Program) (C:gv):Prop where
 ty:∀ t ti,C.T t=some ti->mz P t ti
section runs
variable {P:Program} {t:Nat} {ti:TI}
theorem mz.isAgg (h:mz P t ti) (w:World):(isAgg t).run P w=.ok ti.agg w:=by
 obtain ⟨d,hd,ha,_⟩:=h.desc
 unfold Go.isAgg
 rw [Sem.run_bind,run_underlying hd w]
 rw [<- ha]
 cases d<;>rfl
theorem mz.sizeOf (h:mz P t ti) (w:World):(sizeOf t).run P w=.ok ti.size w:=by
 obtain ⟨i,z,hi,hs,_⟩:=h.info
 simp [Go.sizeOf,typeInfo,hi,hs]
def mz.Ns (h:mz P t ti):(P.info? t).map (·.size)=some ti.size:=by
 obtain ⟨i,z,hi,hs,_⟩:=h.info
 grind
def AO (R:AV->Value->Prop) (cs:List AV) (c:Array Value) (base:Nat):Prop :=
 ∀ i x,cs[i]?=some x->∃ u,c[base+i]?=some u/\u.oneCell'=true/\R x u
theorem oO (B o n:Nat):(⟨B,o,none⟩:Addr).add n=⟨B,o+n,none⟩:=by
 grind [Addr.add]
theorem D2 (w:World) (B base:Nat) (c:Array Value) (e:TypeId) (fr:Nat×Nat) (hB:w.heap[B]?=some (.cells c e fr)) (n:Nat) (hn:base+n<=c.size) :
  (loadCells ⟨B,base,none⟩ n).run P w=.ok (c.extract base (base+n)) w:=by
 have h:=run_loadCells_list (P:=P) w ⟨B,base,none⟩ (c.extract base (base+n)).toList (λj v hv=>by
  rw [oO,cell_of_row w B (base+j) c e fr hB]
  grind)
 have hl:(c.extract base (base+n)).toList.length=n:=by grind
 rw [hl,Array.toArray_toList] at h
 exact h
def A3 {cs:List AV} {o:Nat} {l:List AV} (ha:ti.agg=true) (hp:part ti cs o=some (.agg l)):l=(cs.drop o).take ti.size/\l.length=ti.size/\(ti.size=0\/o+ti.size<=cs.length):=by
 simp only [part,ha,pv,CO] at hp
 split at hp
 ·rename_i hb
  simp only [Option.some.injEq,AV.agg.injEq] at hp
  subst hp
  simp only [Nat.beq_eq] at hb
  grind
 grind
def Hh (hT:mz P t ti) {w:World} {B base o:Nat} {c:Array Value} {e:TypeId} {fr:Nat×Nat} {R:AV->Value->Prop} {cs:List AV} {v:AV}
  (hB:w.heap[B]?=some (.cells c e fr)) (hU:AO R cs c base) (hp:part ti cs o=some v) :
  ∃ u,(loadVar t ⟨B,base+o,none⟩).run P w=.ok u w /\
    ((∃ l vs,ti.agg=true/\v=.agg l/\u=.agg vs/\l.length=ti.size/\l.length=vs.size/\(∀ (i:Nat) (y:Value),vs[i]?=some y->y.oneCell'=true)/\∀ (i:Nat) (x:AV) (y:Value),l[i]?=some x->vs[i]?=some y->R x y)
      \/ (ti.agg=false/\u.oneCell'=true/\R v u)):=by
 cases ha:ti.agg with
 | false =>
   simp only [part,ha] at hp
   obtain ⟨u,hu,h1,hr⟩:=hU o v hp
   refine ⟨u,?_,.inr ⟨rfl,h1,hr⟩⟩
   unfold loadVar
   rw [Sem.run_bind,hT.isAgg,ha]
   simp [cell_of_row w B (base+o) c e fr hB,hu]
 | true =>
   have hv:∃ l,v=.agg l:=by
    grind [part,pv,CO]
   obtain ⟨l,rfl⟩:=hv
   obtain ⟨hl,hlen,hle⟩:=A3 ha hp
   have hbase:ti.size=0\/base+o+ti.size<=c.size:=by
    rcases hle with h0 | hle
    ·omega
    ·by_cases hz:ti.size=0
     ·omega
     ·right
      have hi:o+ti.size - 1<cs.length:=by omega
      obtain ⟨u,hu,_⟩:=hU (o+ti.size - 1) cs[o+ti.size - 1] (by simp [hi])
      grind
   by_cases hz:ti.size=0
   ·have hl0:l=[]:=by grind
    subst hl0
    refine ⟨.agg #[],?_,.inl ⟨[],#[],rfl,rfl,rfl,by simp [hz],rfl,by simp,by simp⟩⟩
    unfold loadVar
    rw [Sem.run_bind,hT.isAgg,ha]
    simp [hT.sizeOf,hz,loadCells,loadCellsFrom]
   ·have hb:=hbase.resolve_left hz
    refine ⟨.agg (c.extract (base+o) (base+o+ti.size)),?_,.inl ⟨l,_,rfl,rfl,rfl,hlen,?_,?_,?_⟩⟩
    ·unfold loadVar
     rw [Sem.run_bind,hT.isAgg,ha]
     simp [hT.sizeOf,D2 w B (base+o) c e fr hB ti.size hb]
    ·grind
    ·intro i y hy
     rw [Array.getElem?_extract] at hy
     split at hy
     ·rename_i hi
      have hi':o+i<cs.length:=by omega
      obtain ⟨u,hu,h1,_⟩:=hU (o+i) cs[o+i] (by simp)
      grind
     grind
    ·intro i x y hx hy
     rw [Array.getElem?_extract] at hy
     split at hy
     ·rename_i hi
      rw [hl,List.getElem?_take,List.getElem?_drop] at hx
      split at hx
      ·obtain ⟨u,hu,h1,hr⟩:=hU (o+i) x hx
       grind
      omega
     grind
end runs
section
variable {P:Program} {C:gv} {G:Ga} {t:Nat} {ti:TI}
def VR.uX {l:List AV} {u:Value} (h:VR G (.agg l) u):∃ vs,u=.agg vs/\l.length=vs.size/\(∀ (i:Nat) (y:Value),vs[i]?=some y->y.oneCell'=true) /\
  ∀ (i:Nat) (x:AV) (y:Value),l[i]?=some x->vs[i]?=some y->VC G x y:=by
 cases h with
 | gf hp _=>simp [AV.iA] at hp
 | agg l vs hl hn h1 hr=>exact ⟨vs,rfl,hl,h1,λi x y hx hy=>⟨hr i x y hx hy,hn x (List.mem_of_getElem? hx)⟩⟩
theorem VR.of_int {k:IntKind} {n:Int} {u:Value} (h:VR G (.int k n) u):u=.int k n:=by
 cases h with
 | gf _ h=>cases h; rfl
theorem VR.of_bool {b:Bool} {u:Value} (h:VR G (.bool b) u):u=.bool b:=by
 cases h with
 | gf _ h=>cases h; rfl
def VR.s8 {s:List UInt8} {u:Value} (h:VR G (.str s) u):∃ b,u=.string b/\b.data.toList=s:=by
 cases h with
 | gf _ h=>cases h<;>grind
theorem VR.int (k:IntKind) (n:Int):VR G (.int k n) (.int k n):=.gf rfl (.int _ k n)
theorem VR.bool (b:Bool):VR G (.bool b) (.bool b):=.gf rfl (.bool _ b)
theorem VR.str {s:List UInt8} {b:ByteArray} (h:b.data.toList=s):VR G (.str s) (.string b):=.gf rfl (.str _ s b h)
def int?_eq {v:AV} {k:IntKind} {n:Int} (h:v.int?=some (k,n)):v=.int k n:=by
 cases v<;>simp [AV.int?] at h
 grind
theorem bool?_eq {v:AV} {b:Bool} (h:v.bool?=some b):v=.bool b:=by
 cases v<;>simp [AV.bool?] at h
 grind
def str?_eq {v:AV} {b:List UInt8} (h:v.str?=some b):v=.str b:=by
 cases v<;>simp [AV.str?] at h
 grind
def agg?_eq {v:AV} {b:List AV} (h:v.agg?=some b):v=.agg b:=by
 cases v<;>simp [AV.agg?] at h
 grind
def xW {v:AV} {n:Nat} (h:pV v=some n):∃ k,v=.int k (n:Int):=by
 unfold pV at h
 split at h
 ·rename_i k m hm
  have:=int?_eq hm
  subst this
  cases m<;>grind [SN]
 ·cases h
def VC.Ap {l:List AV} {vs:Array Value} (hl:l.length=vs.size) (h:∀ (i:Nat) (x:AV) (y:Value),l[i]?=some x->vs[i]?=some y->VC G x y):∀ x∈l,x.lR=true:=by
 intro x hx
 obtain ⟨i,hi⟩:=List.getElem?_of_mem hx
 have hlt:i<vs.size:=by grind
 exact (h i x vs[i] hi (by simp)).na
def VR.EN {l:List AV} {vs:Array Value} {R:AV->Value->Prop} (hR:∀ x y,R x y->VC G x y) (hl:l.length=vs.size)
  (h1:∀ (i:Nat) (y:Value),vs[i]?=some y->y.oneCell'=true) (hr:∀ (i:Nat) (x:AV) (y:Value),l[i]?=some x->vs[i]?=some y->R x y):VR G (.agg l) (.agg vs) :=
 .agg l vs hl (VC.Ap hl λi x y hx hy=>hR x y (hr i x y hx hy)) h1 λi x y hx hy=>(hR x y (hr i x y hx hy)).vr
def Shaped (ti:TI) (v:AV) (u:Value):Prop :=
 (ti.agg=true/\∃ l vs,v=.agg l/\u=.agg vs/\l.length=ti.size/\vs.size=ti.size)\/(ti.agg=false/\u.oneCell'=true)
def xA {R:AV->Value->Prop} (hR:∀ x y,R x y->VC G x y) (hT:mz P t ti) {B base o:Nat} {c:Array Value} {e:TypeId} {fr:Nat×Nat} {cs:List AV} {v:AV}
  (hB:G.w.heap[B]?=some (.cells c e fr)) (hU:AO R cs c base) (hp:part ti cs o=some v) :
  ∃ u,(loadVar t ⟨B,base+o,none⟩).run P G.w=.ok u G.w/\VR G v u/\Shaped ti v u:=by
 obtain ⟨u,hu,h | h⟩:=Hh hT hB hU hp
 ·obtain ⟨l,vs,ha,rfl,rfl,hlen,hl,h1,hr⟩:=h
  exact ⟨_,hu,VR.EN hR hl h1 hr,.inl ⟨ha,l,vs,rfl,rfl,hlen,by omega⟩⟩
 ·obtain ⟨ha,h1,hr⟩:=h
  exact ⟨u,hu,(hR _ _ hr).vr,.inr ⟨ha,h1⟩⟩
def Cr (hW:WR G) (hT:mz P t ti) {av v:AV} {a:Value} (hv:VR G av a) (h:rz av G.h ti=some v) :
  ∃ u,(Instr.loadAt t a).run P G.w=.ok u G.w/\VR G v u/\Shaped ti v u:=by
 unfold rz at h
 split at h
 ·
  rename_i d o
  cases hv with
  | gf hp _=>simp [AV.iA] at hp
  | la _ _ B hd =>
    unfold IW at h
    split at h
    ·rename_i cs hcs
     obtain ⟨c,e,hB,hs,hr,h1⟩:=hW.loc d B cs hd hcs
     have hU:AO (VC G) cs c 0:=by
      intro i x hx
      have hi:i<c.size:=by grind
      refine ⟨c[i],by simp [hi],h1 i c[i] (by simp [hi]),hr i x c[i] hx (by simp [hi])⟩
     obtain ⟨u,hu,hvu,hs⟩:=xA (P:=P) (λ_ _ h=>h) hT hB hU h
     grind [Instr.loadAt,Instr.sureAddr]
    ·cases h
 ·
  rename_i cs o s
  cases hv with
  | gf _ h' =>
    cases h' with
    | ip _ _ _ _ B base c e fr f hm hB hI hc h1 hr =>
      have hU:AO (λx y=>PR G.w G.T s x y) cs c base:=by
       intro i x hx
       grind
      obtain ⟨u,hu,hvu,hs⟩:=xA (P:=P) (λ_ _ h=>PR.wv h) hT hB hU h
      grind [Instr.loadAt,Instr.sureAddr]
 ·
  rename_i b g i o
  cases hv with
  | gf hp _=>simp [AV.iA] at hp
  | ptr _ _ _ _ a hb hg hl =>
    unfold C1 at h
    split at h
    ·rename_i g' z xs hget
     split at h
     ·rename_i hgg
      have hgg:=Nat.eq_of_beq_eq_true hgg
      subst hgg
      split at h
      ·rename_i cs hcs
       obtain ⟨l,hpi,ha⟩:=hl z xs hget
       subst ha
       obtain ⟨c,e,hB,hcap,hsz,hz,hr⟩:=hW.fc b l g z xs hpi hget
       have hU:AO (VC G) cs c (l.base+i*z):=by
        intro j x hx
        grind
       obtain ⟨u,hu,hvu,hs⟩:=xA (P:=P) (λ_ _ h=>h) hT hB hU h
       grind [Instr.loadAt,Instr.sureAddr]
      ·cases h
     ·cases h
    ·cases h
 ·cases h
def CQ {av v:AV} {a:Value} {k:Nat} (hv:VR G av a) (h:BO av k=some v):∃ x,a=.pointer (some x)/\VR G v (.pointer (some (x.add k))):=by
 unfold BO at h
 split at h
 ·rename_i d o
  simp only [L7,mA,Option.some.injEq] at h
  subst h
  cases hv with
  | gf hp _=>simp [AV.iA] at hp
  | la _ _ B hd=>exact ⟨_,rfl,by rw [oO]; exact .la d (o+k) B hd⟩
 ·rename_i cs o s
  simp only [NR,mA,Option.some.injEq] at h
  subst h
  cases hv with
  | gf _ h' =>
    cases h' with
    | ip _ _ _ _ B base c e fr f hm hB hI hc h1 hr =>
      refine ⟨_,rfl,?_⟩
      rw [oO,Nat.add_assoc]
      exact .gf rfl (.ip _ cs (o+k) s B base c e fr f hm hB hI hc h1 hr)
 ·rename_i b g i o
  simp only [EC,mA,Option.some.injEq] at h
  subst h
  cases hv with
  | gf hp _=>simp [AV.iA] at hp
  | ptr _ _ _ _ a hb hg hl =>
    refine ⟨_,rfl,.ptr b g i (o+k) _ hb hg ?_⟩
    grind [oO]
 ·cases h
def C2 (hC:gR P C) {av:AV} {a:Value} {f:Nat} {r:AV×au} (hv:VR G av a) (h:pO C G.h t av f=some r) :
  r.2=G.h/\∃ u,(Instr.fieldAt t a f).run P G.w=.ok u G.w/\VR G r.1 u/\u.oneCell'=true:=by
 unfold pO at h
 split at h
 ·cases h
 ·rename_i ti hti
  split at h
  ·rename_i fs hk
   split at h
   ·rename_i off ft hf
    unfold iJ at h
    split at h
    ·rename_i v hv'
     simp only [Option.some.injEq] at h
     subst h
     obtain ⟨d,hd,ha,hko⟩:=(hC.ty t ti hti).desc
     rw [hk] at hko
     obtain ⟨F,rfl,hfs,hsz⟩:=hko
     subst hfs
     simp only [List.getElem?_map,Array.getElem?_toList,Option.map_eq_some_iff] at hf
     obtain ⟨fl,hfl,he⟩:=hf
     simp only [Prod.mk.injEq] at he
     obtain ⟨rfl,rfl⟩:=he
     obtain ⟨x,rfl,hx⟩:=CQ hv hv'
     refine ⟨rfl,.pointer (some (x.add fl.offset)),?_,hx,rfl⟩
     obtain ⟨i,hi,hne⟩:=hsz fl (by
      grind)
     simp_all [Instr.fieldAt,run_underlying,Instr.sureAddr,fieldPlace,Go.sizeOf,typeInfo]
    ·cases h
   ·cases h
  ·cases h
end
def lO (P:Program) (G:Ga) (s:Sem Value) (r:AV×au):Prop :=
 r.2=G.h/\∃ u,s.run P G.w=.ok u G.w/\VR G r.1 u
section
variable {P:Program} {C:gv} {G:Ga} {t:Nat} {ti:TI}
theorem kR {h:au} {o:Option AV} {r:AV×au} (e:iJ h o=some r):∃ v,o=some v/\r=(v,h):=by
 unfold iJ at e
 grind
def J9 {c a b:AV} {c' a' b':Value} {r:AV×au} (hc:VR G c c') (ha:VR G a a') (hb:VR G b b') (h:EH G.h c a b=some r) :
  lO P G (do pure (if <- asBool c' then a' else b')) r:=by
 unfold EH at h
 split at h
 ·rename_i hb'
  cases h
  have:=bool?_eq hb'; subst this
  have:=hc.of_bool; subst this
  exact ⟨rfl,a',by rfl,ha⟩
 ·rename_i hb'
  cases h
  have:=bool?_eq hb'; subst this
  have:=hc.of_bool; subst this
  exact ⟨rfl,b',by rfl,hb⟩
 ·cases h
def CW {l:List AV} {vs:Array Value} {o:Nat} {v:AV} (hT:mz P t ti) (hl:l.length=vs.size) (h1:∀ (i:Nat) (y:Value),vs[i]?=some y->y.oneCell'=true)
  (hr:∀ (i:Nat) (x:AV) (y:Value),l[i]?=some x->vs[i]?=some y->VC G x y) (hp:Sx.part ti l o=some v) :
  ∃ u,(Go.part t vs o).run P G.w=.ok u G.w/\VR G v u:=by
 have hU:AO (VC G) l vs 0:=by
  intro i x hx
  have hi:i<vs.size:=by grind
  exact ⟨vs[i],by simp [hi],h1 i _ (by simp [hi]),hr i x _ hx (by simp [hi])⟩
 cases ha:ti.agg with
 | false =>
   simp only [Sx.part,ha] at hp
   obtain ⟨u,hu,_,hx⟩:=hU o v hp
   refine ⟨u,?_,hx.vr⟩
   unfold Go.part
   rw [Sem.run_bind,hT.isAgg,ha]
   simp_all
 | true =>
   have hv:∃ m,v=.agg m:=by
    grind [Sx.part,pv,CO]
   obtain ⟨m,rfl⟩:=hv
   obtain ⟨hm,hlen,hle⟩:=A3 ha hp
   refine ⟨.agg (vs.extract o (o+ti.size)),?_,?_⟩
   ·unfold Go.part
    rw [Sem.run_bind,hT.isAgg,ha]
    simp [hT.sizeOf]
   ·refine VR.EN (R:=VC G) (λ_ _ h=>h) ?_ ?_ ?_
    ·grind
    ·intro i y hy
     rw [Array.getElem?_extract] at hy
     grind
    grind
def Hq (hC:gR P C) {x:AV} {x':Value} {f:Nat} {r:AV×au} (hx:VR G x x') (h:B2 C G.h t x f=some r):lO P G (Instr.field t x' f) r:=by
 unfold B2 at h
 split at h
 ·cases h
 ·rename_i ti hti
  split at h
  ·rename_i fs hk
   split at h
   ·rename_i off ft hf
    split at h
    ·rename_i cs hcs
     split at h
     ·rename_i tf htf
      obtain ⟨v,hv,rfl⟩:=kR h
      have:=agg?_eq hcs; subst this
      obtain ⟨vs,rfl,hl,h1,hr⟩:=hx.uX
      obtain ⟨d,hd,ha,hko⟩:=(hC.ty t ti hti).desc
      rw [hk] at hko
      obtain ⟨F,rfl,hfs,hsz⟩:=hko
      subst hfs
      simp only [List.getElem?_map,Array.getElem?_toList,Option.map_eq_some_iff] at hf
      obtain ⟨fl,hfl,he⟩:=hf
      simp only [Prod.mk.injEq] at he
      obtain ⟨rfl,rfl⟩:=he
      obtain ⟨u,hu,hvu⟩:=CW (hC.ty _ tf htf) hl h1 hr hv
      refine ⟨rfl,u,?_,hvu⟩
      simp_all [Instr.field,run_underlying,Go.asAgg]
     ·cases h
    ·cases h
   ·cases h
  ·cases h
def Es {x:AV} {x':Value} {i:Nat} {r:AV×au} (hx:VR G x x') (h:xI G.h x i=some r):lO P G (Instr.extract x' i) r:=by
 unfold xI at h
 split at h
 ·rename_i vs
  obtain ⟨v,hv,rfl⟩:=kR h
  cases hx with
  | gf hp _=>simp [AV.iA] at hp
  | fG _ vs' hl hr =>
    have hi:i<vs'.size:=by grind
    exact ⟨rfl,vs'[i],by simp [Instr.extract,hi],hr i v _ hv (by simp [hi])⟩
 ·cases h
def Gb {x v:AV} {x':Value} (hx:VR G x x') (h:Cq x=some v) :
  VR G v x'/\((∃ a,x'=.pointer (some a))\/∃ g a c,x'=.func (.func g) a c):=by
 unfold Cq at h
 split at h
 ·cases h
  cases hx with
  | gf hp _=>simp [AV.iA] at hp
  | ptr _ _ _ _ a hb hg hl=>exact ⟨.ptr _ _ _ _ a hb hg hl,.inl ⟨_,rfl⟩⟩
 ·cases h
  refine ⟨hx,.inl ?_⟩
  cases hx with
  | gf _ h'=>cases h'<;>grind
 ·cases h
  refine ⟨hx,.inl ?_⟩
  cases hx<;>grind [AV.iA]
 ·cases h
  refine ⟨hx,.inr ?_⟩
  cases hx<;>grind [AV.iA]
 ·cases h
theorem Bu (b:Bool):sC b=some (.bool !b):=by cases b<;>rfl
theorem BE {op:BinOp} {k:IntKind} {x y:Int} (xT:TypeId) (h:op=.add\/op=.sub\/op=.mul) :
  (Go.binOp op xT (.int k x) (.int k y)).run P G.w=(Op.intArith op k x y).run P G.w:=by
 grind [Go.binOp]
theorem KF {op:BinOp} {k:IntKind} {x y:Int} (xT:TypeId) (h:op=.quo\/op=.rem) :
  (Go.binOp op xT (.int k x) (.int k y)).run P G.w=(Op.intDiv op k x y).run P G.w:=by
 grind [Go.binOp]
theorem AJ {op:BinOp} {k:IntKind} {x y:Int} (xT:TypeId) (h:op=.and\/op=.or\/op=.xor\/op=.andNot) :
  (Go.binOp op xT (.int k x) (.int k y)).run P G.w=(Op.intBits op k x y).run P G.w:=by
 grind [Go.binOp]
theorem xg {op:BinOp} {k:IntKind} {x y:Int} (xT:TypeId) (h:op=.eql\/op=.neq\/op=.lss\/op=.leq\/op=.gtr\/op=.geq) :
  (Go.binOp op xT (.int k x) (.int k y)).run P G.w=(Op.intCmp op x y).run P G.w:=by
 grind [Go.binOp]
def FU {op:BinOp} {k:IntKind} {x y:Int} {v:AV} (h:kE op k x y=some v) (hs:ui op=false) (xT:TypeId) :
  ∃ u,(Go.binOp op xT (.int k x) (.int k y)).run P G.w=.ok u G.w/\VR G v u:=by
 cases op<;>simp only [ui,Bool.true_eq_false] at hs<;>simp only [kE,Jq,Ke,PD,OU,NZ,JF,JB,JX,JM,JQ,JZ,PW,S9,Ev,He,Ti,vM,xR,nS,BL,Bu,sp,DE,Db,oo,s7,reduceCtorEq] at h
 case add=>cases h; rw [BE xT (by simp)]; exact ⟨_,rfl,VR.int _ _⟩
 case sub=>cases h; rw [BE xT (by simp)]; exact ⟨_,rfl,by grind [VR.int]⟩
 case mul=>cases h; rw [BE xT (by simp)]; exact ⟨_,rfl,VR.int _ _⟩
 case quo =>
  split at h
  ·cases h
  ·rename_i hy
   cases h; simp_all [KF,Op.intDiv,VR.int]
 case rem =>
  split at h
  ·cases h
  ·rename_i hy
   cases h; simp_all [KF,Op.intDiv,VR.int]
 case and=>cases h; rw [AJ xT (by simp)]; exact ⟨_,rfl,VR.int _ _⟩
 case or=>cases h; rw [AJ xT (by simp)]; exact ⟨_,rfl,VR.int _ _⟩
 case xor=>cases h; rw [AJ xT (by simp)]; exact ⟨_,rfl,VR.int _ _⟩
 case andNot=>cases h; rw [AJ xT (by simp)]; exact ⟨_,rfl,VR.int _ _⟩
 case eql=>cases h; rw [xg xT (by simp)]; exact ⟨_,rfl,VR.bool _⟩
 case neq=>cases h; rw [xg xT (by simp)]; exact ⟨_,rfl,VR.bool _⟩
 case lss =>
  cases h; rw [xg xT (by simp)]
  refine ⟨_,rfl,?_⟩
  have e:(!decide (y<=x))=decide (x<y):=by grind
  rw [e]; exact VR.bool _
 case leq=>cases h; rw [xg xT (by simp)]; exact ⟨_,rfl,VR.bool _⟩
 case gtr =>
  cases h; rw [xg xT (by simp)]
  refine ⟨_,rfl,?_⟩
  have e:(!decide (x<=y))=decide (x > y):=by grind
  rw [e]; exact VR.bool _
 case geq=>cases h; rw [xg xT (by simp)]; exact ⟨_,rfl,VR.bool _⟩
theorem Q1 (k k':IntKind) (x y:Int) (xT:TypeId) (w:World) (hy:¬ y<0) :
  (Go.binOp .shl xT (.int k x) (.int k' y)).run P w=.ok (.int k (k.wrap (x*2 ^ (min y.toNat k.bits)))) w:=by
 show (Op.shift .shl k x k' y).run P w = _
 unfold Op.shift
 rw [if_neg hy]
 rfl
theorem Qv (k k':IntKind) (x y:Int) (xT:TypeId) (w:World) (hy:¬ y<0) :
  (Go.binOp .shr xT (.int k x) (.int k' y)).run P w=.ok (.int k (x.fdiv (2 ^ (min y.toNat k.bits)))) w:=by
 show (Op.shift .shr k x k' y).run P w = _
 unfold Op.shift
 rw [if_neg hy]
 rfl
def Ht {op:BinOp} {k k':IntKind} {x y:Int} {v:AV} (h:kE op k x y=some v) (hs:ui op=true) (xT:TypeId) :
  ∃ u,(Go.binOp op xT (.int k x) (.int k' y)).run P G.w=.ok u G.w/\VR G v u:=by
 cases op<;>simp only [ui,Bool.false_eq_true] at hs
 ·have h:(if y<0 then none else fI (sw k (x*2 ^ (min y.toNat k.bits))) (nS k))=some v:=h
  rw [vM,sp] at h
  split at h
  ·cases h
  ·rename_i hy
   cases h
   simp_all [Q1,VR.int]
 ·have h:(if y<0 then none else fI (x.fdiv (2 ^ (min y.toNat k.bits))) (nS k))=some v:=h
  rw [vM] at h
  split at h
  ·cases h
  ·rename_i hy
   cases h
   simp_all [Qv,VR.int]
theorem bytesLess_eq:∀ (x y:List UInt8),bytesLess x y=Op.bytesLess x y
 | _,[]=>by simp [bytesLess,Op.bytesLess]
 | [],_::_=>by rfl
 | a::x,b::y=>by simp [bytesLess,Op.bytesLess,bytesLess_eq x y]
theorem uO {b:ByteArray} {s:List UInt8} (h:b.data.toList=s):b.size=s.length:=by
 subst h; rfl
theorem toList_data (b:ByteArray):b.toList=b.data.toList:=ByteArray.toList_eq b
def GQ {op:BinOp} {x y:List UInt8} {bx by':ByteArray} {v:AV} (hx:bx.data.toList=x) (hy:by'.data.toList=y)
  (h:CT op x y=some v) (xT:TypeId):∃ u,(Go.binOp op xT (.string bx) (.string by')).run P G.w=.ok u G.w/\VR G v u:=by
 have hb:∀ o:BinOp,(Go.binOp o xT (.string bx) (.string by')).run P G.w=(Op.stringOp o bx by').run P G.w:=by
  intro o; cases o<;>rfl
 rw [hb]
 unfold Op.stringOp
 simp only [toList_data,hx,hy,<- bytesLess_eq]
 cases op<;>simp only [CT,reduceCtorEq,pv] at h
 case add =>
  split at h
  ·rename_i hle
   cases h
   have hle:=Nat.le_of_ble_eq_true hle
   have hm:IntKind.i64.max=9223372036854775807:=by decide
   rw [if_neg (by grind [uO])]
   simp_all [VR.str]
  ·cases h
 all_goals
  cases h
  exact ⟨_,rfl,VR.bool _⟩
def vV {x:AV} {x':Value} {b:Bool} (h:MK x=some b) (hx:VR G x x'):∃ a,x'=.pointer a/\a.isNone=b:=by
 unfold MK at h
 split at h<;>simp only [Option.some.injEq,reduceCtorEq] at h<;>subst h
 ·cases hx with
  | gf _ h=>cases h<;>grind
 ·cases hx<;>grind [AV.iA]
 ·cases hx with
  | gf _ h=>cases h<;>grind
 ·cases hx<;>grind [AV.iA]
def wj {x:AV} {x':Value} {b:Bool} (h:MS x=some b) (hx:VR G x x'):∃ a n c,x'=.slice a n c/\a.isNone=b:=by
 unfold MS at h
 split at h<;>simp only [Option.some.injEq,reduceCtorEq] at h<;>subst h
 ·cases hx with
  | gf _ h=>cases h with
    | slnil=>simp
    | my _ _ _ _ _ hc=>cases hc
    | sl _ _ _ _ _ _ _ _ _ _ _ _ _ _ hc=>cases hc
 ·rename_i hne
  cases hx with
  | gf _ h=>cases h<;>grind
 ·cases hx<;>grind [AV.iA]
def vk {x:AV} {x':Value} {b:Bool} (h:Nh x=some b) (hx:VR G x x'):∃ a,x'=.map a/\a.isNone=b:=by
 unfold Nh at h
 split at h<;>simp only [Option.some.injEq,reduceCtorEq] at h<;>subst h
 ·cases hx with
  | gf _ h=>cases h<;>grind
 ·cases hx<;>grind [AV.iA]
 ·cases hx with
  | gf _ h=>cases h<;>grind
def vU {x:AV} {x':Value} {b:Bool} (h:NC x=some b) (hx:VR G x x'):(b=true/\x'=.nilFunc)\/(b=false/\∃ f a c,x'=.func f a c):=by
 unfold NC at h
 split at h<;>simp only [Option.some.injEq,reduceCtorEq] at h<;>subst h
 ·cases hx with
  | gf _ h=>cases h<;>grind
 ·cases hx<;>grind [AV.iA]
def VR.Iq {l:List AV} {vs:Array Value} (h:VR G (.agg l) (.agg vs)) (hs:∀ x∈l,∃ b,kT x x=some b):PR G.w G.T true (.agg l) (.agg vs):=by
 obtain ⟨vs',e,hl,h1,hr⟩:=h.uX
 cases e
 refine .agg _ l vs hl h1 ?_
 intro i x y hx hy
 obtain ⟨b,hb⟩:=hs x (List.mem_of_getElem? hx)
 have:=(hr i x y hx hy).vr
 cases this with
 | gf _ h=>exact h
 | undef=>simp [kT,pr] at hb
 | ptr=>simp [kT,pr] at hb
 | hs=>simp [kT,pr] at hb
 | hm=>simp [kT,pr] at hb
 | la=>simp [kT,pr] at hb
 | gx=>simp [kT,pr] at hb
 | agg=>simp [kT,pr] at hb
 | fG=>simp [kT,pr] at hb
def Kg {x y:AV} {b:Bool} (h:kT x y=some b):(∃ b,kT x x=some b)/\∃ b,kT y y=some b:=by
 cases x<;>simp only [kT,pr,zW,vq,Ay,reduceCtorEq] at h<;>cases y<;>simp only [AV.bool?,AV.int?,AV.str?,reduceCtorEq] at h
 ·exact ⟨⟨_,rfl⟩,⟨_,rfl⟩⟩
 ·refine ⟨?_,?_⟩<;>simp [kT,vq,AV.int?,(pS _ _).2 rfl]
 ·exact ⟨⟨_,rfl⟩,⟨_,rfl⟩⟩
def DJ:∀ {l m:List AV} {b:Bool},ki l m=some b->(∀ x∈l,∃ b,kT x x=some b)/\∀ x∈m,∃ b,kT x x=some b
 | [],[],_,_=>by simp
 | [],_::_,_,h=>by cases h
 | _::_,[],_,h=>by cases h
 | a::x,b::y,c,h=>by
   simp only [ki] at h
   have hrest:∃ d,ki x y=some d/\∃ e,kT a b=some e:=by
    split at h
    ·rename_i he; exact ⟨_,h,_,he⟩
    ·rename_i he
     split at h
     ·rename_i hd; exact ⟨_,hd,_,he⟩
     ·cases h
    ·cases h
   obtain ⟨d,hd,e,he⟩:=hrest
   obtain ⟨h1,h2⟩:=DJ hd
   obtain ⟨k1,k2⟩:=Kg he
   constructor
   ·intro z hz
    rcases List.mem_cons.1 hz with rfl | hz
    ·exact k1
    ·exact h1 z hz
   ·intro z hz
    rcases List.mem_cons.1 hz with rfl | hz
    ·exact k2
    ·exact h2 z hz
end
section
variable {P:Program} {C:gv} {G:Ga} {t:Nat} {ti:TI}
theorem MU (op:BinOp) (ox oy:Operand) (k k':IntKind) (a b:Int) (w:World):(eqGuard op t ox oy (.int k a) (.int k' b)).run P w=.ok () w:=by cases op<;>rfl
theorem NS (op:BinOp) (ox oy:Operand) (a b:ByteArray) (w:World):(eqGuard op t ox oy (.string a) (.string b)).run P w=.ok () w:=by cases op<;>rfl
def M6 (op:BinOp) (ox oy:Operand) (a b:Bool) (w:World):(eqGuard op t ox oy (.bool a) (.bool b)).run P w=.ok () w:=by cases op<;>rfl
def Fo (op:BinOp) (ox oy:Operand) (a b:Option Addr) (w:World):(eqGuard op t ox oy (.pointer a) (.pointer b)).run P w=.ok () w:=by cases op<;>rfl
def Gj (op:BinOp) (ox oy:Operand) (a b:Option Nat) (w:World):(eqGuard op t ox oy (.map a) (.map b)).run P w=.ok () w:=by cases op<;>rfl
def Gm (op:BinOp) (ox oy:Operand) (a b:Option Addr) (n c m d:Nat) (w:World):(eqGuard op t ox oy (.slice a n c) (.slice b m d)).run P w=.ok () w:=by cases op<;>rfl
def Fx (op:BinOp) (ox oy:Operand) (y:Value) (w:World):(eqGuard op t ox oy .nilFunc y).run P w=.ok () w:=by cases op<;>rfl
def Mu (op:BinOp) (ox oy:Operand) (f:Fn) (a c:Array Value) (y:Value) (w:World):(eqGuard op t ox oy (.func f a c) y).run P w=.ok () w:=by cases op<;>rfl
theorem R7 (d:Nat) {e:TypeId} (h:P.underlying t=some (.pointer e)) (b:Option Addr) (w:World):(Op.equalIn (d+1) t (.pointer none) (.pointer b)).run P w=.ok b.isNone w:=by
 simp [Op.equalIn,run_underlying h]
theorem SY (d:Nat) {e:TypeId} (h:P.underlying t=some (.pointer e)) (a:Addr) (w:World):(Op.equalIn (d+1) t (.pointer (some a)) (.pointer none)).run P w=.ok false w:=by
 simp [Op.equalIn,run_underlying h]
theorem Up (d:Nat) {e:TypeId} (h:P.underlying t=some (.slice e)) (b:Option Addr) (n c m k:Nat) (w:World):(Op.equalIn (d+1) t (.slice none n c) (.slice b m k)).run P w=.ok b.isNone w:=by
 simp [Op.equalIn,run_underlying h]
theorem RR (d:Nat) {e:TypeId} (h:P.underlying t=some (.slice e)) (a:Addr) (n c m k:Nat) (w:World):(Op.equalIn (d+1) t (.slice (some a) n c) (.slice none m k)).run P w=.ok false w:=by
 simp [Op.equalIn,run_underlying h]
theorem TH (d:Nat) {e e':TypeId} (h:P.underlying t=some (.map e e')) (b:Option Nat) (w:World):(Op.equalIn (d+1) t (.map none) (.map b)).run P w=.ok b.isNone w:=by
 simp [Op.equalIn,run_underlying h]
theorem TD (d:Nat) {e e':TypeId} (h:P.underlying t=some (.map e e')) (a:Nat) (w:World):(Op.equalIn (d+1) t (.map (some a)) (.map none)).run P w=.ok false w:=by
 simp [Op.equalIn,run_underlying h]
def RS (d:Nat) {p q:Array TypeId} {r:Bool} (h:P.underlying t=some (.func p q r)) (w:World):(Op.equalIn (d+1) t .nilFunc .nilFunc).run P w=.ok true w:=by
 simp [Op.equalIn,run_underlying h]
def TC (d:Nat) {p q:Array TypeId} {r:Bool} (h:P.underlying t=some (.func p q r)) (f:Fn) (a c:Array Value) (w:World):(Op.equalIn (d+1) t .nilFunc (.func f a c)).run P w=.ok false w:=by
 simp [Op.equalIn,run_underlying h]
def Qp (d:Nat) {p q:Array TypeId} {r:Bool} (h:P.underlying t=some (.func p q r)) (f:Fn) (a c:Array Value) (w:World):(Op.equalIn (d+1) t (.func f a c) .nilFunc).run P w=.ok false w:=by
 simp [Op.equalIn,run_underlying h]
def oh {x y:Value} {b:Bool} {w:World} (he:(Op.equalIn 10000 t x y).run P w=.ok b w) (hn:∀ o:BinOp,o=.eql\/o=.neq->Go.binOp o t x y=(if o=.eql then do pure (.bool (<- Op.equal t x y)) else do pure (.bool (!(<- Op.equal t x y))))) :
  (Go.binOp .eql t x y).run P w=.ok (.bool b) w/\(Go.binOp .neq t x y).run P w=.ok (.bool !b) w:=by
 rw [hn .eql (by simp),hn .neq (by simp)]
 have he':(Op.equal t x y).run P w=.ok b w:=he
 simp_all
def A5 (hT:mz P t ti) {x y:AV} {x' y':Value} {b:Bool} (hx:VR G x x') (hy:VR G y y') (h:vA ti x y=some b) (ox oy:Operand) :
  (∀ o:BinOp,(eqGuard o t ox oy x' y').run P G.w=.ok () G.w)/\(Go.binOp .eql t x' y').run P G.w=.ok (.bool b) G.w/\(Go.binOp .neq t x' y').run P G.w=.ok (.bool !b) G.w:=by
 obtain ⟨d,hd,ha,hk⟩:=hT.desc
 unfold vA at h
 split at h
 ·
  rename_i hki
  rw [hki] at hk
  have hk:d=.bool:=hk
  subst hk
  unfold KM at h
  split at h
  ·rename_i a c h1 h2
   cases h
   have:=bool?_eq h1; subst this
   have:=bool?_eq h2; subst this
   rw [hx.of_bool,hy.of_bool]
   exact ⟨λo=>M6 o ox oy _ _ _,oh (run_equalIn_bool' G.w 9999 t _ _ hd) (by rintro o (rfl | rfl)<;>rfl)⟩
  ·cases h
 ·
  rename_i hki
  rw [hki] at hk
  obtain ⟨e,rfl⟩:=hk
  unfold tR at h
  split at h
  ·rename_i c h1 h2
   cases h
   obtain ⟨a,rfl,h1⟩:=vV h1 hx
   obtain ⟨a',rfl,h2⟩:=vV h2 hy
   refine ⟨λo=>Fo o ox oy _ _ _,oh ?_ (by rintro o (rfl | rfl)<;>rfl)⟩
   simp_all [R7]
  ·rename_i h1 h2
   cases h
   obtain ⟨a,rfl,h1⟩:=vV h1 hx
   obtain ⟨a',rfl,h2⟩:=vV h2 hy
   refine ⟨λo=>Fo o ox oy _ _ _,oh ?_ (by rintro o (rfl | rfl)<;>rfl)⟩
   cases a with
   | none=>simp at h1
   | some a=>simp_all [SY]
  ·cases h
 ·
  rename_i hki
  rw [hki] at hk
  have hk:d=.slice _:=hk
  subst hk
  unfold tR at h
  split at h
  ·rename_i c h1 h2
   cases h
   obtain ⟨a,n,c,rfl,h1⟩:=wj h1 hx
   obtain ⟨a',n',c',rfl,h2⟩:=wj h2 hy
   refine ⟨λo=>Gm o ox oy _ _ _ _ _ _ _,oh ?_ (by rintro o (rfl | rfl)<;>rfl)⟩
   simp_all [Up]
  ·rename_i h1 h2
   cases h
   obtain ⟨a,n,c,rfl,h1⟩:=wj h1 hx
   obtain ⟨a',n',c',rfl,h2⟩:=wj h2 hy
   refine ⟨λo=>Gm o ox oy _ _ _ _ _ _ _,oh ?_ (by rintro o (rfl | rfl)<;>rfl)⟩
   cases a with
   | none=>simp at h1
   | some a=>simp_all [RR]
  ·cases h
 ·
  rename_i hki
  rw [hki] at hk
  have hk:d=.map _ _:=hk
  subst hk
  unfold tR at h
  split at h
  ·rename_i c h1 h2
   cases h
   obtain ⟨a,rfl,h1⟩:=vk h1 hx
   obtain ⟨a',rfl,h2⟩:=vk h2 hy
   refine ⟨λo=>Gj o ox oy _ _ _,oh ?_ (by rintro o (rfl | rfl)<;>rfl)⟩
   cases a<;>grind [TH]
  ·rename_i h1 h2
   cases h
   obtain ⟨a,rfl,h1⟩:=vk h1 hx
   obtain ⟨a',rfl,h2⟩:=vk h2 hy
   refine ⟨λo=>Gj o ox oy _ _ _,oh ?_ (by rintro o (rfl | rfl)<;>rfl)⟩
   cases a with
   | none=>simp at h1
   | some a=>cases a'<;>grind [TD]
  ·cases h
 ·
  rename_i hki
  rw [hki] at hk
  obtain ⟨p,q,r,rfl⟩:=hk
  unfold tR at h
  split at h
  ·rename_i c h1 h2
   cases h
   rcases vU h1 hx with ⟨_,rfl⟩ | ⟨h0,_⟩
   ·rcases vU h2 hy with ⟨rfl,rfl⟩ | ⟨rfl,f,a,c,rfl⟩
    ·exact ⟨λo=>Fx o ox oy _ _,oh (RS 9999 hd _) (by rintro o (rfl | rfl)<;>rfl)⟩
    ·exact ⟨λo=>Fx o ox oy _ _,oh (TC 9999 hd _ _ _ _) (by rintro o (rfl | rfl)<;>rfl)⟩
   grind
  ·rename_i h1 h2
   cases h
   rcases vU h1 hx with ⟨h0,_⟩ | ⟨_,f,a,c,rfl⟩
   ·cases h0
   ·rcases vU h2 hy with ⟨_,rfl⟩ | ⟨h0,_⟩
    ·exact ⟨λo=>Mu o ox oy _ _ _ _ _,oh (Qp 9999 hd _ _ _ _) (by rintro o (rfl | rfl)<;>rfl)⟩
    grind
  ·cases h
 all_goals first
  | (cases h; done)
  | (rename_i hki
     have hagg:ti.agg=true:=by
      rw [hki] at hk
      rw [<- ha]
      first
       | (obtain ⟨F,rfl,_⟩:=hk; rfl)
       | (have hk:d=.array _ _:=hk; subst hk; rfl)
     unfold Ge at h
     split at h
     ·rename_i a c hf h1 h2
      split at h
      ·rename_i hlen
       simp only [Bool.and_eq_true,Nat.beq_eq] at hlen
       have:=agg?_eq h1; subst this
       have:=agg?_eq h2; subst this
       obtain ⟨vs,rfl,hl1,h11,hr1⟩:=hx.uX
       obtain ⟨us,rfl,hl2,h12,hr2⟩:=hy.uX
       obtain ⟨s1,s2⟩:=DJ h
       have e:=hT.flat hf hagg _ _ vs us b G.w G.T hlen.2 hlen.1.1 hlen.1.2 (hx.Iq s1) (hy.Iq s2) h
       exact ⟨λo=>run_eqGuard_agg G.w o t ox oy vs us (hT.guard hf),oh e (by rintro o (rfl | rfl)<;>rfl)⟩
      ·cases h
     ·cases h)
def Hy (hC:gR P C) {op:BinOp} {x y v:AV} {x' y':Value} (hx:VR G x x') (hy:VR G y y') (h:binOp C op t x y=some v) (ox oy:Operand) :
  ∃ u,(do eqGuard op t ox oy x' y'; Go.binOp op t x' y':Sem Value).run P G.w=.ok u G.w/\VR G v u:=by
 unfold binOp at h
 split at h
 ·rename_i p hp
  obtain ⟨k,a⟩:=p
  have:=int?_eq hp; subst this
  rw [hx.of_int]
  unfold FP at h
  split at h
  ·rename_i k' b hb
   have:=int?_eq hb; subst this
   rw [hy.of_int]
   simp only [Sem.run_bind,MU,Result.andThen_ok]
   split at h
   ·rename_i hk
    cases hs:ui op with
    | true=>exact Ht h hs t
    | false =>
      rw [hs,Bool.or_false] at hk
      have:=(pS _ _).1 hk
      simp only at this
      subst this
      exact FU h hs t
   ·cases h
  ·cases h
 ·split at h
  ·rename_i a ha
   have:=str?_eq ha; subst this
   obtain ⟨bx,rfl,hbx⟩:=hx.s8
   unfold FJ at h
   split at h
   ·rename_i b hb
    have:=str?_eq hb; subst this
    obtain ⟨by',rfl,hby⟩:=hy.s8
    simp only [Sem.run_bind,NS,Result.andThen_ok]
    exact GQ hbx hby h t
   ·cases h
  ·unfold zg at h
   split at h
   ·cases h
   ·rename_i ti hti
    split at h
    ·split at h
     ·rename_i b hb
      cases h
      obtain ⟨h1,h2,h3⟩:=A5 (hC.ty t ti hti) hx hy hb ox oy
      simp_all [VR.bool]
     ·cases h
    ·split at h
     ·rename_i b hb
      rw [Bu] at h
      cases h
      obtain ⟨h1,h2,h3⟩:=A5 (hC.ty t ti hti) hx hy hb ox oy
      simp_all [VR.bool]
     ·cases h
    ·cases h
def JE {op:UnOp} {x v:AV} {x':Value} (hx:VR G x x') (h:unOp op x=some v):∃ u,(Op.unary op x').run P G.w=.ok u G.w/\VR G v u:=by
 unfold unOp at h
 split at h
 ·split at h
  ·rename_i b hb
   have:=bool?_eq hb; subst this
   rw [hx.of_bool]
   rw [Bu] at h
   cases h
   exact ⟨_,rfl,VR.bool _⟩
  ·cases h
 ·split at h
  ·rename_i k n hb
   have:=int?_eq hb; subst this
   rw [hx.of_int]
   simp only [vM,nS,sp,Db] at h
   cases h
   refine ⟨_,rfl,?_⟩
   grind [VR.int]
  ·cases h
 ·split at h
  ·rename_i k n hb
   have:=int?_eq hb; subst this
   rw [hx.of_int]
   simp only [Ev,vM,nS] at h
   cases h
   exact ⟨_,rfl,VR.int _ _⟩
  ·cases h
 ·cases h
def Jh {x y v:AV} {x' y':Value} (hx:VR G x x') (hy:VR G y y') (h:min2 x y=some v):∃ u,(Builtin.min2 x' y').run P G.w=.ok u G.w/\VR G v u:=by
 unfold min2 at h
 split at h
 ·cases h
  rw [hx.of_int,hy.of_int]
  exact ⟨_,rfl,VR.int _ _⟩
 ·cases h
def Je {x y v:AV} {x' y':Value} (hx:VR G x x') (hy:VR G y y') (h:max2 x y=some v):∃ u,(Builtin.max2 x' y').run P G.w=.ok u G.w/\VR G v u:=by
 unfold max2 at h
 split at h
 ·cases h
  rw [hx.of_int,hy.of_int]
  exact ⟨_,rfl,VR.int _ _⟩
 ·cases h
def yl {f:AV->AV->Option AV} {g:Value->Value->Sem Value} (hfg:∀ {x y v:AV} {x' y':Value},VR G x x'->VR G y y'->f x y=some v->∃ u,(g x' y').run P G.w=.ok u G.w/\VR G v u) :
  ∀ {l:List AV} {l':List Value} {x v:AV} {x':Value},VR G x x'->l.length=l'.length->(∀ (i:Nat) a b,l[i]?=some a->l'[i]?=some b->VR G a b)->Cj f x l=some v ->
    ∃ u,(l'.foldlM g x').run P G.w=.ok u G.w/\VR G v u
 | [],[],x,v,x',hx,_,_,h=>by
   simp_all [Cj]
 | [],_::_,_,_,_,_,hl,_,_=>by simp at hl
 | _::_,[],_,_,_,_,hl,_,_=>by simp at hl
 | a::l,b::l',x,v,x',hx,hl,hr,h=>by
   simp only [Cj] at h
   split at h
   ·rename_i c hc
    obtain ⟨u,hu,hcu⟩:=hfg hx (hr 0 a b rfl rfl) hc
    obtain ⟨z,hz,hvz⟩:=yl hfg hcu (by grind) (λi p q hp hq=>hr (i+1) p q hp hq) h
    simp_all
   ·cases h
end
end Go.Sx
