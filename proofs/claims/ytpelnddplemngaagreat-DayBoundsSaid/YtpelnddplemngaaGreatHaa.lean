/- Proves rules for the walks and their soundness. -/
import GoSem.Core.Code
import GoSem.Core.Program
import GoSem.Core.View
import Derived.Calls
import Derived.Laws.Append
import Derived.Laws.Tables
import Derived.Laws.StructEq
import Derived.Laws.IdiomCopy
import Derived.Laws.Slices
import Derived.Laws.Rows
import Derived.Laws.Cells
import Derived.Laws.CopyRow
set_option linter.all false
namespace Go.Sx
inductive m6 where
 | nil
 | exact (n:Nat)
 | jc
 | oR
 deriving DecidableEq,Inhabited
inductive AV where
 | undef
 | bool (b:Bool)
 | int (k:IntKind) (n:Int)
 | str (s:List UInt8)
 | ky
 | ip (cells:List AV) (off:Nat) (sn:Bool)
 | la (d off:Nat)
 | ptr (b g i off:Nat)
 | sl (xs:List (List AV)) (cap:m6)
 | hs (b g off len:Nat)
 | kJ
 | fm (es:List (AV×AV)) (sn:Bool)
 | hm (b:Nat)
 | jQ (f:Nat) (first cap:List AV)
 | ly
 | agg (cells:List AV)
 | jl (vs:List AV)
 deriving Inhabited
section force
variable {β:Type}
@[inline] def fB (b:Bool) (k:Bool->β) : β:=match b with
  | true=>k true
  | false=>k false
@[inline] def fN (n:Nat) (k:Nat->β) : β:=match n with
  | 0=>k 0
  | m+1=>k (m+1)
@[inline] def fI (n:Int) (k:Int->β) : β:=match n with
  | .ofNat m=>fN m λm=>k (.ofNat m)
  | .negSucc m=>fN m λm=>k (.negSucc m)
def xN {α:Type}:List α->(List α->β)->β
 | [],k=>k []
 | a::l,k=>xN l λl=>k (a::l)
def f1 (v:AV) (k:AV->β) : β:=match v with
 | .bool b=>fB b λb=>k (.bool b)
 | .int kd n=>fI n λn=>k (.int kd n)
 | .str s=>xN s λs=>k (.str s)
 | .ip c o s=>fN o λo=>fB s λs=>k (.ip c o s)
 | .la d o=>fN o λo=>k (.la d o)
 | .ptr b g i o=>fN b λb=>fN g λg=>fN i λi=>fN o λo=>k (.ptr b g i o)
 | .hs b g o l=>fN b λb=>fN g λg=>fN o λo=>fN l λl=>k (.hs b g o l)
 | .hm b=>fN b λb=>k (.hm b)
 | .sl xs c=>xN xs λxs=>k (.sl xs c)
 | v=>k v
def fL:List AV->(List AV->β)->β
 | [],k=>k []
 | a::l,k=>f1 a λa=>fL l λl=>k (a::l)
def O2:List (List AV)->(List (List AV)->β)->β
 | [],k=>k []
 | a::l,k=>fL a λa=>O2 l λl=>k (a::l)
end force
section forceEq
variable {β:Type}
@[simp] theorem w8 (b:Bool) (k:Bool->β):fB b k=k b:=by cases b<;>rfl
@[simp] theorem nH (b:Nat) (k:Nat->β):fN b k=k b:=by cases b<;>rfl
@[simp] theorem tG (b:Int) (k:Int->β):fI b k=k b:=by cases b<;>simp [fI]
@[simp] theorem p3 {α:Type} (l:List α) (k:List α->β):xN l k=k l:=by
  induction l generalizing k with
  | nil=>rfl
  | cons a l ih=>simp [xN,ih]
@[simp] theorem aiN (v:AV) (k:AV->β):f1 v k=k v:=by cases v<;>simp [f1]
@[simp] theorem BW (l:List AV) (k:List AV->β):fL l k=k l:=by
  induction l generalizing k with
  | nil=>rfl
  | cons a l ih=>simp [fL,ih]
@[simp] theorem aiL (l:List (List AV)) (k:List (List AV)->β):O2 l k=k l:=by
  induction l generalizing k with
  | nil=>rfl
  | cons a l ih=>simp [O2,ih]
end forceEq
inductive kH where
 | iQ (gen esz:Nat) (xs:List (List AV))
 | map (es:List (AV×AV×Nat)) (clock:Nat)
 deriving Inhabited
inductive Tr (α:Type) where
 | leaf
 | node (l:Tr α) (v:Option α) (r:Tr α)
namespace Tr
variable {α β:Type}
def get:Tr α->Nat->Option α
 | .leaf,_=>none
 | .node l v r,n=>match n with
   | 0=>v
   | m+1=>match Nat.beq (m % 2) 0 with
     | true=>get l (m / 2)
     | false=>get r (m / 2)
def ins (x : α):Nat->Nat->Tr α->(Tr α->β)->β
 | 0,_,t,k=>k t
 | f+1,n,.leaf,k=>match n with
   | 0=>k (.node .leaf (some x) .leaf)
   | m+1=>match Nat.beq (m % 2) 0 with
     | true=>ins x f (m / 2) .leaf λl=>k (.node l none .leaf)
     | false=>ins x f (m / 2) .leaf λr=>k (.node .leaf none r)
 | f+1,n,.node l v r,k=>match n with
   | 0=>k (.node l (some x) r)
   | m+1=>match Nat.beq (m % 2) 0 with
     | true=>ins x f (m / 2) l λl=>k (.node l v r)
     | false=>ins x f (m / 2) r λr=>k (.node l v r)
end Tr
structure aT where
 tr:Tr kH
 size:Nat
 lo:Nat
 iI:List (Nat×List AV)
def aT.empty:aT:=⟨.leaf,0,0,[]⟩
def aT.get (h:aT) (b:Nat):Option kH:=match Nat.ble h.lo b with
 | true=>h.tr.get b
 | false=>none
def fO {β:Type} (o:kH) (k:kH->β) : β:=match o with
 | .iQ g z xs=>fN g λg=>fN z λz=>O2 xs λxs=>k (.iQ g z xs)
 | .map es c=>fN c λc=>xN es λes=>k (.map es c)
@[simp] theorem PD {β:Type} (o:kH) (k:kH->β):fO o k=k o:=by cases o<;>simp [fO]
def aT.set (h:aT) (b:Nat) (o:kH):aT:=fO o λo=>h.tr.ins o (b+1) b λt=>⟨t,h.size,h.lo,h.iI⟩
def aT.push (h:aT) (o:kH):aT:=fO o λo=>fN (h.size+1) λs=>h.tr.ins o s h.size λt=>⟨t,s,h.lo,h.iI⟩
def fH {β:Type} (h:aT) (k:aT->β) : β:=match h with
 | ⟨t,s,l,m⟩=>k ⟨t,s,l,m⟩
@[simp] theorem zc {β:Type} (h:aT) (k:aT->β):fH h k=k h:=rfl
abbrev lh:=List (Nat×List AV)
def ka:lh->Nat->Option (List AV)
 | [],_=>none
 | p::e,t=>match Nat.beq t p.1 with
   | true=>some p.2
   | false=>ka e t
def uK:lh->Nat->List AV->lh
 | [],_,_=>[]
 | p::e,t,v=>match Nat.beq t p.1 with
   | true=>(t,v)::e
   | false=>p::uK e t v
abbrev Env:=List (Nat×AV)
def lM:Env->Nat->AV
 | [],_=>.undef
 | p::e,t=>match Nat.beq t p.1 with
   | true=>p.2
   | false=>lM e t
def Fv (e:Env) (t:Nat) (v:AV):Env:=(t,v)::e
def AV.wo (t:Nat):AV->Bool
 | .la d o=>Nat.beq t d&&Nat.beq o 0
 | .jl _=>false
 | _=>true
def keep (t:Nat) (v:AV):AV:=match v.wo t with
 | true=>v
 | false=>.undef
def proj (live:List Nat) (e:Env):Env:=live.map λt=>(t,keep t (lM e t))
def lz:List Nat->lh->lh
 | [],_=>[]
 | t::l,m=>match ka m t with
   | some c=>(t,c)::lz l m
   | none=>lz l m
def Dt {β:Type} (t:Nat) (k:AV->β):Env->β
 | []=>k .undef
 | (a,v)::e=>match Nat.beq t a with
   | true=>k v
   | false=>Dt t k e
def zI {β:Type}:List Nat->Env->(Env->β)->β
 | [],_,k=>k []
 | t::l,e,k=>Dt t (λv=>match v.wo t with
   | true=>zI l e λr=>k ((t,v)::r)
   | false=>zI l e λr=>k ((t,.undef)::r)) e
def wX {β:Type}:List Nat->lh->(lh->β)->β
 | [],_,k=>k []
 | t::l,m,k=>match ka m t with
   | some c=>wX l m λr=>k ((t,c)::r)
   | none=>wX l m k
theorem MM {β:Type} (t:Nat) (k:AV->β) (e:Env):Dt t k e=k (lM e t):=by
 induction e<;>grind [Dt,lM]
@[simp] theorem air {β:Type} (l:List Nat) (e:Env) (k:Env->β):zI l e k=k (proj l e):=by
  induction l generalizing k with
  | nil=>rfl
  | cons t l ih =>
    simp only [zI,MM,proj,List.map_cons,keep]
    cases h:(lM e t).wo t
    ·exact ih _
    ·exact ih _
@[simp] theorem aeN {β:Type} (l:List Nat) (m:lh) (k:lh->β):wX l m k=k (lz l m):=by
  induction l generalizing k with
  | nil=>rfl
  | cons t l ih =>
    simp only [wX,lz]
    cases h:ka m t
    ·exact ih _
    ·exact ih _
inductive TK where
 | bool | int (k:IntKind) | str | ptr | slice (elem:Nat) | array (len elem:Nat) | map (key elem:Nat) | struct (fs:List (Nat×Nat)) | func | other
structure TI where
 kind:TK
 agg:Bool
 size:Nat
 bytes:Nat
 zero:List AV
 flat:Bool
 sc:List TK
def E6:Value->AV
 | .bool b=>.bool b
 | .int k n=>.int k n
 | .string s=>.str s.data.toList
 | .pointer none=>.ky
 | .slice none 0 0=>.sl [] .nil
 | .map none=>.kJ
 | .nilFunc=>.ly
 | _=>.undef
def UZ:Value->Bool
 | .bool _ | .int _ _ | .string _ | .pointer none | .slice none 0 0 | .map none | .nilFunc=>true
 | _=>false
def cv:Value->AV
 | .agg cs=>match cs.toList.all UZ with
   | true=>.agg (cs.toList.map E6)
   | false=>.undef
 | v=>E6 v
def iZ (e:Env):Operand->AV
 | .tmp t=>lM e t
 | .const v=>cv v
 | .global _=>.undef
 | .func f=>.jQ f [] []
def AV.kK:AV->Bool
 | .undef | .la _ _ | .agg _ | .jl _=>false
 | _=>true
def AV.lV:AV->Bool
 | .bool _ | .int _ _ | .str _ | .ky | .ip _ _ false | .kJ | .fm _ false | .ly=>true
 | .sl _ .oR=>false
 | .sl _ _=>true
 | _=>false
def AV.zd:AV->Bool
 | .jQ _ a c=>a.all AV.lV&&c.all AV.lV
 | v=>v.lV
def AV.int?:AV->Option (IntKind×Int)
 | .int k n=>some (k,n)
 | _=>none
def AV.str?:AV->Option (List UInt8)
 | .str s=>some s
 | _=>none
def AV.bool?:AV->Option Bool
 | .bool s=>some s
 | _=>none
def AV.agg?:AV->Option (List AV)
 | .agg s=>some s
 | _=>none
def cellsOf (ti:TI) (v:AV):Option (List AV) :=
 match ti.agg with
 | true=>match v.agg? with
   | some l=>match Nat.beq l.length ti.size with
     | true=>some l
     | false=>none
   | none=>none
 | false=>match v.kK&&Nat.beq ti.size 1 with
   | true=>some [v]
   | false=>none
def Bv (n:Nat) (r:List AV):Option AV:=match Nat.beq r.length n with
 | true=>some (.agg r)
 | false=>none
def part (ti:TI) (cs:List AV) (o:Nat):Option AV:=match ti.agg with
 | true=>xN ((cs.drop o).take ti.size) (Bv ti.size)
 | false=>cs[o]?
def nu (cs:List AV) (o:Nat) (new:List AV):Option (List AV) :=
 match Nat.ble (o+new.length) cs.length with
 | true=>xN (cs.take o++new++cs.drop (o+new.length)) some
 | false=>none
structure jZ where
 T:Nat->Option TI
def GZ:Int->Int->Bool
 | .ofNat a,.ofNat b=>Nat.beq a b
 | .negSucc a,.negSucc b=>Nat.beq a b
 | _,_=>false
def BL:Int->Int->Bool
 | .ofNat a,.ofNat b=>Nat.ble a b
 | .negSucc a,.negSucc b=>Nat.ble b a
 | .negSucc _,.ofNat _=>true
 | .ofNat _,.negSucc _=>false
def If:Int->Int->Int
 | .ofNat a,.ofNat b=>.ofNat (Nat.add a b)
 | .ofNat a,.negSucc b=>match Nat.ble (Nat.succ b) a with
   | true=>.ofNat (Nat.sub a (Nat.succ b))
   | false=>.negSucc (Nat.sub b a)
 | .negSucc b,.ofNat a=>match Nat.ble (Nat.succ b) a with
   | true=>.ofNat (Nat.sub a (Nat.succ b))
   | false=>.negSucc (Nat.sub b a)
 | .negSucc a,.negSucc b=>.negSucc (Nat.succ (Nat.add a b))
def JL:Int->Int
 | .ofNat 0=>.ofNat 0
 | .ofNat (n+1)=>.negSucc n
 | .negSucc n=>.ofNat (n+1)
def ry (k:IntKind) (n:Int):Int:=match k,n with
 | .i64,.ofNat a=>match Nat.ble a 4611686018427387904 with
   | true=>.ofNat a
   | false=>IntKind.wrap .i64 (.ofNat a)
 | .i64,.negSucc a=>match Nat.ble a 4611686018427387904 with
   | true=>.negSucc a
   | false=>IntKind.wrap .i64 (.negSucc a)
 | k,n=>k.wrap n
def NS:IntKind->Nat
 | .i8=>0
 | .i16=>1
 | .i32=>2
 | .i64=>3
 | .u8=>4
 | .u16=>5
 | .u32=>6
 | .u64=>7
def pa (a b:IntKind):Bool:=Nat.beq (NS a) (NS b)
theorem rl (a b:IntKind):pa a b=true↔a=b:=by cases a<;>cases b<;>simp [pa,NS]
def vE (k:IntKind) (a:Int) (y:AV):Option Bool:=match y.int? with
 | some (k',b)=>match pa k k' with
   | true=>some (GZ a b)
   | false=>none
 | none=>none
def y8 (a:List UInt8) (y:AV):Option Bool:=match y.str? with
 | some b=>some (a==b)
 | none=>none
def yS (a:Bool) (y:AV):Option Bool:=match y.bool? with
 | some b=>some (a==b)
 | none=>none
def pT (_:AV):Option Bool:=none
def mz:AV->AV->Option Bool
 | .bool a=>yS a
 | .int k a=>vE k a
 | .str a=>y8 a
 | _=>pT
def mh:List AV->List AV->Option Bool
 | [],[]=>some true
 | a::x,b::y=>match mz a b with
   | some true=>mh x y
   | some false=>match mh x y with
     | some _=>some false
     | none=>none
   | none=>none
 | _,_=>none
def BJ (x:List AV) (y:AV):Option Bool:=match y.agg? with
 | some y=>mh x y
 | none=>none
def lR (x y:AV):Option Bool:=match x.agg? with
 | some l=>BJ l y
 | none=>mz x y
def findKey (k:AV):List (AV×AV×Nat)->Nat->Option (Option (Nat×AV))
 | [],_=>some none
 | (k',v,_)::es,i=>match lR k k' with
   | some true=>some (some (i,v))
   | some false=>findKey k es (i+1)
   | none=>none
def ra (k:AV):List (AV×AV)->Option (Option AV)
 | []=>some none
 | (k',v)::es=>match lR k k' with
   | some true=>some (some v)
   | some false=>ra k es
   | none=>none
def bytesLess:List UInt8->List UInt8->Bool
 | _,[]=>false
 | [],_::_=>true
 | a::x,b::y=>a<b||(a==b&&bytesLess x y)
theorem qC (a b:Int):GZ a b=(a==b):=by
 apply Bool.eq_iff_iff.2
 cases a<;>cases b<;>simp only [GZ,Nat.beq_eq,beq_iff_eq,Int.ofNat_eq_natCast,Int.negSucc_eq,Bool.false_eq_true,false_iff]<;>omega
theorem wS (a b:Int):BL a b=decide (a<=b):=by
 apply Bool.eq_iff_iff.2
 cases a<;>cases b<;>simp only [BL,Nat.ble_eq,decide_eq_true_eq,Int.ofNat_eq_natCast,Int.negSucc_eq,Bool.false_eq_true,false_iff,true_iff]<;>omega
theorem Cv (a b:Int):If a b=a+b:=by
 cases a<;>cases b<;>simp only [If,Nat.add_eq,Nat.sub_eq]
 ·rfl
 ·split
  ·rename_i h; simp only [Nat.ble_eq] at h; grind
  ·rename_i h
   have h:=(Bool.not_eq_true _).symm.mp h
   simp only [Nat.ble_eq] at h; grind
 ·split
  ·rename_i h; simp only [Nat.ble_eq] at h; grind
  ·rename_i h
   have h:=(Bool.not_eq_true _).symm.mp h
   simp only [Nat.ble_eq] at h; grind
 rfl
theorem CA (a:Int):JL a = -a:=by
 rcases a with (_ | n) | n<;>simp only [JL,Int.ofNat_eq_natCast,Int.negSucc_eq]<;>omega
theorem zm (n:Int) (h1 : -9223372036854775808<=n) (h2:n<=9223372036854775807):IntKind.wrap .i64 n=n:=by
 grind [IntKind.wrap,IntKind.bits,IntKind.signed]
theorem qS (k:IntKind) (n:Int):ry k n=k.wrap n:=by
 unfold ry
 split
 ·split
  ·rename_i h
   simp only [Nat.ble_eq] at h
   grind [zm]
  ·rfl
 ·split
  ·rename_i h
   simp only [Nat.ble_eq] at h
   grind [zm]
  ·rfl
 ·rfl
def oi (k:IntKind) (n:Int):Option AV:=some (.int k n)
def Av (b:Bool):Option AV:=some (.bool b)
def tK:Bool->Option AV
 | true=>some (.bool false)
 | false=>some (.bool true)
abbrev IB:=IntKind->Int->Int->Option AV
def Ht:IB:=λk x y=>fI (ry k (If x y)) (oi k)
def JW:IB:=λk x y=>fI (ry k (If x (JL y))) (oi k)
def TD:IB:=λk x y=>fI (ry k (x*y)) (oi k)
def Rj:IB:=λk x y=>if y=0 then none else fI (ry k (x.tdiv y)) (oi k)
def Pq:IB:=λk x y=>if y=0 then none else fI (x.tmod y) (oi k)
def IT:IB:=λ_ x y=>fB (GZ x y) Av
def HX:IB:=λ_ x y=>fB (GZ x y) tK
def I0:IB:=λ_ x y=>fB (BL y x) tK
def Ic:IB:=λ_ x y=>fB (BL x y) Av
def Ho:IB:=λ_ x y=>fB (BL x y) tK
def Hn:IB:=λ_ x y=>fB (BL y x) Av
def Tt:IB:=λk x y=>fI (k.wrap (BitVec.ofInt k.bits x &&& BitVec.ofInt k.bits y).toNat) (oi k)
def Wf:IB:=λk x y=>fI (k.wrap (BitVec.ofInt k.bits x ||| BitVec.ofInt k.bits y).toNat) (oi k)
def DG:IB:=λk x y=>fI (k.wrap (BitVec.ofInt k.bits x ^^^ BitVec.ofInt k.bits y).toNat) (oi k)
def Es:IB:=λk x y=>fI (k.wrap (BitVec.ofInt k.bits x &&& ~~~ BitVec.ofInt k.bits y).toNat) (oi k)
def adB:IB:=λk x y=>if y<0 then none else fI (ry k (x*2 ^ (min y.toNat k.bits))) (oi k)
def abX:IB:=λk x y=>if y<0 then none else fI (x.fdiv (2 ^ (min y.toNat k.bits))) (oi k)
def Vy:IB:=λ_ _ _=>none
def ue:BinOp->Bool
 | .shl | .shr=>true
 | _=>false
def l9:BinOp->IB
 | .add=>Ht
 | .sub=>JW
 | .mul=>TD
 | .quo=>Rj
 | .rem=>Pq
 | .eql=>IT
 | .neq=>HX
 | .lss=>I0
 | .leq=>Ic
 | .gtr=>Ho
 | .geq=>Hn
 | .and=>Tt
 | .or=>Wf
 | .xor=>DG
 | .andNot=>Es
 | .shl=>adB
 | .shr=>abX
def B2 (op:BinOp) (x y:List UInt8):Option AV :=
 match op with
 | .add=>match Nat.ble (x.length+y.length) 1099511627776 with
   | true=>xN (x++y) λs=>some (.str s)
   | false=>none
 | .eql=>some (.bool (x==y))
 | .neq=>some (.bool !(x==y))
 | .lss=>some (.bool (bytesLess x y))
 | .leq=>some (.bool (bytesLess x y||x==y))
 | .gtr=>some (.bool !(bytesLess x y||x==y))
 | .geq=>some (.bool !(bytesLess x y))
 | _=>none
def Md:AV->Option Bool
 | .ky=>some true
 | .ptr ..=>some false
 | .ip ..=>some false
 | .la ..=>some false
 | _=>none
def Nl:AV->Option Bool
 | .sl _ .nil=>some true
 | .sl ..=>some false
 | .hs ..=>some false
 | _=>none
def MG:AV->Option Bool
 | .kJ=>some true
 | .hm _=>some false
 | .fm ..=>some false
 | _=>none
def Nc:AV->Option Bool
 | .ly=>some true
 | .jQ ..=>some false
 | _=>none
def tN (f:AV->Option Bool) (x y:AV):Option Bool:=match f x,f y with
 | some true,some b=>some b
 | some false,some true=>some false
 | _,_=>none
def rM:TK->AV->Bool
 | .int kd,.int k _=>pa kd k
 | .str,.str _=>true
 | .bool,.bool _=>true
 | _,_=>false
def uY:AV->Bool
 | .bool _ | .int .. | .str _=>true
 | _=>false
def fitAll:List TK->List AV->Bool
 | [],[]=>true
 | t::ts,a::l=>rM t a&&fitAll ts l
 | _,_=>false
def Fs (ti:TI) (x y:AV):Option Bool:=match ti.flat,x.agg?,y.agg? with
 | true,some a,some b=>match Nat.beq a.length ti.size&&Nat.beq b.length ti.size&&fitAll ti.sc a with
   | true=>mh a b
   | false=>none
 | _,_,_=>none
def LC (x y:AV):Option Bool:=match x.bool?,y.bool? with
 | some a,some b=>some (a==b)
 | _,_=>none
def zp (ti:TI) (x y:AV):Option Bool:=match ti.kind with
 | .bool=>LC x y
 | .ptr=>tN Md x y
 | .slice _=>tN Nl x y
 | .map _ _=>tN MG x y
 | .func=>tN Nc x y
 | .struct _=>Fs ti x y
 | .array _ _=>Fs ti x y
 | _=>none
def Bx (C:jZ) (op:BinOp) (t:Nat) (x y:AV):Option AV:=match C.T t with
 | none=>none
 | some ti=>match op with
   | .eql=>match zp ti x y with
     | some b=>some (.bool b)
     | none=>none
   | .neq=>match zp ti x y with
     | some b=>tK b
     | none=>none
   | _=>none
def EH (op:BinOp) (p:IntKind×Int) (y:AV):Option AV:=match y.int? with
 | some (k,b)=>match pa p.1 k||ue op with
   | true=>l9 op p.1 p.2 b
   | false=>none
 | none=>none
def EO (op:BinOp) (a:List UInt8) (y:AV):Option AV:=match y.str? with
 | some b=>B2 op a b
 | none=>none
def binOp (C:jZ) (op:BinOp) (t:Nat) (x y:AV):Option AV:=match x.int? with
 | some p=>EH op p y
 | none=>match x.str? with
   | some a=>EO op a y
   | none=>Bx C op t x y
def unOp (op:UnOp) (x:AV):Option AV:=match op with
 | .not=>match x.bool? with
   | some b=>tK b
   | none=>none
 | .neg=>match x.int? with
   | some (k,n)=>fI (ry k (JL n)) (oi k)
   | none=>none
 | .xor=>match x.int? with
   | some (k,n)=>DG k (if k.signed then -1 else k.max) n
   | none=>none
 | _=>none
def min2:AV->AV->Option AV
 | .int k x,.int _ y=>some (.int k (if y<x then y else x))
 | _,_=>none
def max2:AV->AV->Option AV
 | .int k x,.int _ y=>some (.int k (if y > x then y else x))
 | _,_=>none
def A9 (f:AV->AV->Option AV):AV->List AV->Option AV
 | a,[]=>some a
 | a,b::l=>match f a b with
   | some c=>A9 f c l
   | none=>none
def elems (h:aT):AV->Option (List (List AV))
 | .sl xs _=>some xs
 | .hs b g off len=>match h.get b with
   | some (.iQ g' _ xs)=>match Nat.beq g g'&&Nat.ble (off+len) xs.length with
     | true=>some ((xs.drop off).take len)
     | false=>none
   | _=>none
 | _=>none
def zD (ys:List (List AV)):Bool:=ys.all λc=>c.all AV.kK
def so (ys:List (List AV)):Bool:=ys.all λc=>c.all AV.zd
def nU (n:Nat) (ys:List (List AV)):Bool:=ys.all λc=>Nat.beq c.length n
def overwrite (xs:List (List AV)) (at_:Nat) (ys:List (List AV)):List (List AV):=xs.take at_++ys++xs.drop (at_+ys.length)
def sv:Nat:=1048576
def rH (n:Nat) (h:aT) (xs ys:List (List AV)):Option (AV×aT) :=
 match nU n xs&&Nat.ble (xs.length+ys.length) sv with
 | true=>fN (xs.length+ys.length) λm=>some (.hs h.size 0 0 m,h.push (.iQ 0 n (xs++ys)))
 | false=>none
def AY (n:Nat) (h:aT) (b g off len:Nat) (ys:List (List AV)):Option (AV×aT) :=
 match h.get b with
 | some (.iQ g' z xs)=>match Nat.beq g g'&&Nat.beq z n&&Nat.ble (off+len+ys.length) sv with
   | false=>none
   | true=>match Nat.ble (off+len+ys.length) xs.length with
     | true=>fN (len+ys.length) λm=>some (.hs b g off m,h.set b (.iQ g z (overwrite xs (off+len) ys)))
     | false=>match Nat.beq (off+len) xs.length with
       | true=>fN (len+ys.length) λm=>some (.hs b (g+1) 0 m,h.set b (.iQ (g+1) z (xs.drop off++ys)))
       | false=>none
 | _=>none
def append (n:Nat) (h:aT) (s:AV) (ys:List (List AV)):Option (AV×aT) :=
 match ys with
 | []=>match s with
   | .sl xs c=>some (.sl xs c,h)
   | .hs b g off len=>some (.hs b g off len,h)
   | _=>none
 | _::_=>match nU n ys with
   | false=>none
   | true=>match s with
     | .sl xs .nil=>rH n h xs ys
     | .sl xs (.exact m)=>match Nat.blt m (xs.length+ys.length) with
       | true=>rH n h xs ys
       | false=>none
     | .hs b g off len=>AY n h b g off len ys
     | _=>none
def Wq:Int->Option Nat
 | .ofNat n=>some n
 | .negSucc _=>none
def p9 (v:AV):Option Nat:=match v.int? with
 | some (_,n)=>Wq n
 | none=>none
def bound (x:Option AV) (dflt:Nat):Option Nat :=
 match x with
 | none=>some dflt
 | some v=>p9 v
def IV (s:List UInt8) (lo hi mx:Option AV):Option AV:=match bound lo 0,bound hi s.length,mx with
 | some l,some r,none=>match Nat.ble l r&&Nat.ble r s.length with
   | true=>xN ((s.drop l).take (r - l)) λs=>some (.str s)
   | false=>none
 | _,_,_=>none
def pv (l:Nat):m6->m6
 | .exact n=>.exact (n - l)
 | c=>c
def sW (n:Nat):m6->m6
 | .nil=>.nil
 | .oR=>.oR
 | _=>.exact n
def oj (n:Nat):List (List AV)->Bool
 | []=>true
 | c::_=>Nat.beq c.length n
def qf (hi:Option AV):Option AV->Option (Option Nat)
 | none=>some none
 | some m=>match hi,p9 m with
   | some _,some m=>some (some m)
   | _,_=>none
def yL:m6->m6
 | .oR=>.jc
 | c=>c
def Bi (l m:Nat) (cap:m6):List (List AV)->Option AV
 | []=>some (.sl [] (sW (m - l) (yL cap)))
 | x::xs=>some (.sl (x::xs) (sW (m - l) cap))
def vD (n:Nat) (xs:List (List AV)) (cap:m6) (lo hi mx:Option AV):Option AV:=match bound lo 0,bound hi xs.length,qf hi mx with
 | some l,some r,some none=>match Nat.ble l r&&Nat.ble r xs.length&&oj n xs with
   | true=>xN ((xs.drop l).take (r - l)) λxs=>some (.sl xs (pv l cap))
   | false=>none
 | some l,some r,some (some m)=>match Nat.ble l r&&Nat.ble r m&&Nat.ble m xs.length&&oj n xs with
   | true=>xN ((xs.drop l).take (r - l)) (Bi l m cap)
   | false=>none
 | _,_,_=>none
def Dx (b g off:Nat) (l r:Nat):Option Nat->Option AV
 | none=>fN (off+l) λo=>fN (r - l) λk=>some (.hs b g o k)
 | some m=>match Nat.ble r m with
   | true=>match Nat.beq l m with
     | true=>some (.sl [] (.exact 0))
     | false=>some .undef
   | false=>none
def Ee (n:Nat) (h:aT) (b g off len:Nat) (lo hi mx:Option AV):Option AV:=match h.get b with
 | some (.iQ g' z xs)=>match Nat.beq g g'&&Nat.beq z n with
   | false=>none
   | true=>match bound lo 0,bound hi len,qf hi mx with
     | some l,some r,some m=>match Nat.ble l r&&Nat.ble (off+r) xs.length&&Nat.ble (off+m.getD 0) xs.length with
       | true=>Dx b g off l r m
       | false=>none
     | _,_,_=>none
 | _=>none
def slice (n:Nat) (h:aT) (x:AV) (lo hi mx:Option AV):Option AV :=
 match x with
 | .sl xs cap=>vD n xs cap lo hi mx
 | .hs b g off len=>Ee n h b g off len lo hi mx
 | _=>none
abbrev KK:=aT->TI->Option AV
def M5 (d o:Nat):KK:=λh ti=>match ka h.iI d with
 | some cs=>part ti cs o
 | none=>none
def VZ (cs:List AV) (o:Nat) (_:Bool):KK:=λ_ ti=>part ti cs o
def Bt (b g i o:Nat):KK:=λh ti=>match h.get b with
 | some (.iQ g' _ xs)=>match Nat.beq g g' with
   | true=>match xs[i]? with
     | some cs=>part ti cs o
     | none=>none
   | false=>none
 | _=>none
def U1:KK:=λ_ _=>none
def sG:AV->KK
 | .la d o=>M5 d o
 | .ip cs o s=>VZ cs o s
 | .ptr b g i o=>Bt b g i o
 | _=>U1
abbrev TE:=List AV->aT->Option aT
def NQ (d o:Nat):TE:=λnew h=>match ka h.iI d with
 | some cs=>match nu cs o new with
   | some cs=>some { h with iI:=uK h.iI d cs }
   | none=>none
 | none=>none
def Dr (b g i o:Nat):TE:=λnew h=>match h.get b with
 | some (.iQ g' z xs)=>match Nat.beq g g' with
   | true=>match xs[i]? with
     | some cs=>match nu cs o new with
       | some cs=>some (h.set b (.iQ g z (xs.set i cs)))
       | none=>none
     | none=>none
   | false=>none
 | _=>none
def Wj:TE:=λ_ _=>none
def yv:AV->TE
 | .la d o=>NQ d o
 | .ptr b g i o=>Dr b g i o
 | _=>Wj
def wa (h:aT) (ti:TI) (a v:AV):Option aT :=
 match cellsOf ti v with
 | none=>none
 | some new=>match new.all AV.kK with
   | true=>yv a new h
   | false=>none
def UX (d o:Nat) (k:Nat):Option AV:=fN (o+k) λo=>some (.la d o)
def Nd (cs:List AV) (o:Nat) (s:Bool) (k:Nat):Option AV:=fN (o+k) λo=>some (.ip cs o s)
def Du (b g i o:Nat) (k:Nat):Option AV:=fN (o+k) λo=>some (.ptr b g i o)
def WE (_:Nat):Option AV:=none
def Cz:AV->Nat->Option AV
 | .la d o=>UX d o
 | .ip cs o s=>Nd cs o s
 | .ptr b g i o=>Du b g i o
 | _=>WE
def A1:Bool->m6
 | true=>.oR
 | false=>.jc
def jJ (f:AV->Option AV):List AV->Option (List AV)
 | []=>some []
 | v::l=>match f v with
   | none=>none
   | some w=>match jJ f l with
     | none=>none
     | some l'=>some (w::l')
def np (f:AV->Option AV):List (List AV)->Option (List (List AV))
 | []=>some []
 | v::l=>match jJ f v with
   | none=>none
   | some w=>match np f l with
     | none=>none
     | some l'=>some (w::l')
def o6 (f:AV->Option AV):List (AV×AV×Nat)->Option (List (AV×AV))
 | []=>some []
 | (k,v,_)::l=>match f v with
   | none=>none
   | some w=>match o6 f l with
     | none=>none
     | some l'=>some ((k,w)::l')
def freeze (sn:Bool) (h:aT):Nat->AV->Option AV
 | 0,_=>none
 | n+1,v=>match v with
   | .bool _ | .int _ _ | .str _ | .ky | .kJ | .ly=>some v
   | .ip _ _ s=>match s&&!sn with
     | true=>none
     | false=>some v
   | .fm _ s=>match s&&!sn with
     | true=>none
     | false=>some v
   | .sl _ .oR=>match sn with
     | true=>some v
     | false=>none
   | .sl _ _=>some v
   | .ptr b g i o=>match h.get b with
     | some (.iQ g' _ xs)=>match Nat.beq g g' with
       | true=>match xs[i]? with
         | some cs=>match jJ (freeze sn h n) cs with
           | some cs=>some (.ip cs o sn)
           | none=>none
         | none=>none
       | false=>none
     | _=>none
   | .hs b g off len=>match h.get b with
     | some (.iQ g' _ xs)=>match Nat.beq g g'&&Nat.ble (off+len) xs.length with
       | true=>match np (freeze sn h n) ((xs.drop off).take len) with
         | some xs=>some (.sl xs (A1 sn))
         | none=>none
       | false=>none
     | _=>none
   | .hm b=>match h.get b with
     | some (.map es _)=>match o6 (freeze sn h n) es with
       | some es=>some (.fm es sn)
       | none=>none
     | _=>none
   | .jQ f a c=>match jJ (freeze sn h n) a,jJ (freeze sn h n) c with
     | some a,some c=>some (.jQ f a c)
     | _,_=>none
   | .agg l=>match jJ (freeze sn h n) l with
     | some l=>some (.agg l)
     | none=>none
   | .jl l=>match jJ (freeze sn h n) l with
     | some l=>some (.jl l)
     | none=>none
   | .undef | .la _ _=>none
def AV.qZ:AV->Bool
 | .ptr .. | .hs .. | .hm _=>true
 | .agg l=>l.any λ| .ptr .. | .hs .. | .hm _=>true | .jQ _ a c=>!(a.all AV.lV&&c.all AV.lV) | _=>false
 | .jQ _ a c=>!(a.all AV.lV&&c.all AV.lV)
 | _=>false
def AV.nA:AV->Bool
 | .la .. | .jl _=>false
 | _=>true
abbrev iS:AV:=.sl [] .nil
abbrev iR:AV:=.bool false
end Go.Sx
namespace Go.Sx
inductive lK where
 | nil
 | seq (live:List Nat) (a b:lK)
 | sq (a b:lK)
 | two (a b:lK)
 | loop (live:List Nat) (a:lK)
 | oU (sch:List (Nat×List Nat))
 deriving Inhabited
def oK {α:Type} (f : α->α->Bool):List α->List α->Bool
 | [],[]=>true
 | a::x,b::y=>f a b&&oK f x y
 | _,_=>false
def J0:m6->m6->Bool
 | .nil,.nil=>true
 | .exact n,.exact m=>Nat.beq n m
 | .jc,.jc=>true
 | .oR,.oR=>true
 | _,_=>false
def Em:Bool->Bool->Bool
 | true,b=>b
 | false,true=>false
 | false,false=>true
def og:Nat->AV->AV->Bool
 | 0,_,_=>false
 | n+1,a,b=>match a,b with
   | .undef,.undef=>true
   | .bool x,.bool y=>Em x y
   | .int k x,.int l y=>pa k l&&GZ x y
   | .str x,.str y=>x==y
   | .ky,.ky=>true
   | .ip c o s,.ip d p t=>oK (og n) c d&&Nat.beq o p&&Em s t
   | .la d o,.la e p=>Nat.beq d e&&Nat.beq o p
   | .ptr b g i o,.ptr b' g' i' o'=>Nat.beq b b'&&Nat.beq g g'&&Nat.beq i i'&&Nat.beq o o'
   | .sl xs c,.sl ys d=>oK (oK (og n)) xs ys&&J0 c d
   | .hs b g i o,.hs b' g' i' o'=>Nat.beq b b'&&Nat.beq g g'&&Nat.beq i i'&&Nat.beq o o'
   | .kJ,.kJ=>true
   | .hm b,.hm c=>Nat.beq b c
   | .fm x s,.fm y t=>oK (λp q=>og n p.1 q.1&&og n p.2 q.2) x y&&Em s t
   | .ly,.ly=>true
   | .agg x,.agg y=>oK (og n) x y
   | _,_=>false
structure iN where
 body:Code
 lX:lK
 iI:List Nat
 sZ:List Nat
 jw:List Nat
 res:List ResultVar
 iter:Bool
inductive Ex where
 | kE
 | ext (id:Nat)
 | ret
 deriving DecidableEq
abbrev qR:=Bool->Nat->List AV->aT->Option (AV×aT)
def Bs (C:jZ) (ti:TI):List (Nat×AV)->List AV->Option (List AV)
 | [],cs=>some cs
 | (i,v)::rest,cs =>
   match (match ti.kind with
    | .struct fs=>fs[i]?
    | .array n el=>match C.T el with
      | some t=>if i<n then some (i*t.size,el) else none
      | none=>none
    | _=>none) with
   | none=>none
   | some (off,ft)=>match C.T ft with
     | none=>none
     | some t=>match cellsOf t v with
       | none=>none
       | some new=>if new.all AV.kK then match nu cs off new with
         | none=>none
         | some cs=>Bs C ti rest cs else none
def tO (t:TI):List (Nat×AV)->List (List AV)->Option (List (List AV))
 | [],xs=>some xs
 | (i,v)::rest,xs=>match cellsOf t v with
   | none=>none
   | some new=>match new.all AV.kK&&Nat.blt i xs.length with
     | true=>tO t rest (xs.set i new)
     | false=>none
def An (fa:iN) (n:Nat) (dst:Option Nat) (h:aT) (xs:List (List AV)):Option (AV×aT) :=
 match dst with
 | none=>none
 | some d=>match fa.sZ.elem d||!(so xs) with
   | true=>some (.hs h.size 0 0 xs.length,h.push (.iQ 0 n xs))
   | false=>some (.sl xs (.exact xs.length),h)
def uq (C:jZ) (t:Nat):Option TI :=
 match C.T t with
 | some ti=>match ti.kind with
   | .slice el=>C.T el
   | _=>none
 | none=>none
def yC (k v:AV) (es:List (AV×AV×Nat)) (clock:Nat):Option (List (AV×AV×Nat)×Nat) :=
 match findKey k es 0 with
 | none=>none
 | some none=>some (es++[(k,v,clock)],clock+1)
 | some (some (i,_))=>some (es.modify i (λe=>(k,v,e.2.2)),clock)
def Gs (k:AV) (es:List (AV×AV×Nat)):Option (List (AV×AV×Nat)) :=
 match findKey k es 0 with
 | none=>none
 | some none=>some es
 | some (some (i,_))=>some (es.eraseIdx i)
def pY (n:Int) (v:AV):List (AV×AV×Nat)->Option (List (AV×AV×Nat))
 | []=>none
 | (k,w,b)::es=>if (b:Int)==n then some ((k,v,b)::es) else match pY n v es with
   | none=>none
   | some es=>some ((k,w,b)::es)
def AV.pM:AV->Bool
 | .bool _ | .int .. | .str _=>true
 | .agg l=>l.all λ| .bool _ | .int .. | .str _=>true | _=>false
 | _=>false
def pZ (tk:TI) (k:AV):Bool:=match tk.agg with
 | false=>rM tk.kind k
 | true=>match k.agg? with
   | some l=>tk.flat&&Nat.beq l.length tk.size&&fitAll tk.sc l
   | none=>false
def qQ (C:jZ) (kt:Nat) (k:AV):Bool:=match C.T kt with
 | some tk=>pZ tk k
 | none=>false
def mapKey (C:jZ) (t:Nat) (k:AV):Bool:=match C.T t with
 | some tm=>match tm.kind with
   | .map kt _=>qQ C kt k
   | _=>false
 | none=>false
def AV.zj:AV->Bool
 | .la .. | .jl _=>false
 | .agg l=>l.all AV.kK
 | _=>true
abbrev R2:=Option (AV×aT)
def kV (h:aT):Option AV->R2
 | some v=>some (v,h)
 | none=>none
def LS (x:AV):Option Nat:=match x.str? with
 | some s=>some s.length
 | none=>none
def u5:AV->Option Nat
 | .sl xs _=>some xs.length
 | .hs _ _ _ len=>some len
 | _=>none
def Ej (h:aT):AV->Option Nat
 | .kJ=>some 0
 | .fm es _=>some es.length
 | .hm b=>match h.get b with
   | some (.map es _)=>some es.length
   | _=>none
 | _=>none
def vW (h:aT) (x:AV):TK->Option Nat
 | .array n _=>some n
 | .str=>LS x
 | .slice _=>u5 x
 | .map _ _=>Ej h x
 | _=>none
def py (h:aT):Option Nat->R2
 | some n=>some (.int .i64 n,h)
 | none=>none
def uV (C:jZ) (ats:List Nat) (args:List AV) (h:aT):R2:=match ats,args with
 | t::_,[x]=>match C.T t with
   | some ti=>py h (vW h x ti.kind)
   | none=>none
 | _,_=>none
def P0:AV->Option Nat
 | .sl _ .nil=>some 0
 | .sl _ (.exact n)=>some n
 | _=>none
def rZ (C:jZ):List Nat->Option TI
 | t::_=>uq C t
 | []=>none
def CC (C:jZ) (ats:List Nat) (args:List AV) (h:aT):R2:=match rZ C ats,args with
 | some _,[x]=>py h (P0 x)
 | _,_=>none
def pV (h:aT) (x:AV):Option (List (List AV)):=match x.str? with
 | some l=>some (l.map λc=>[AV.int .u8 c.toNat])
 | none=>elems h x
def za:TK->Bool
 | .slice _=>true
 | .str=>true
 | _=>false
def Fo (C:jZ):List Nat->Bool
 | [_,t]=>match C.T t with
   | some ti=>za ti.kind
   | none=>false
 | _=>false
def sm (C:jZ) (ats:List Nat) (args:List AV) (h:aT):R2:=match rZ C ats,args with
 | some ti,[s,x]=>match Fo C ats with
   | true=>match pV h x with
     | none=>none
     | some ys=>match zD ys with
       | true=>append ti.size h s ys
       | false=>none
   | false=>none
 | _,_=>none
def Fp (n:Nat) (h:aT) (ys:List (List AV)):AV->R2
 | .hs b g off len=>match h.get b with
   | some (.iQ g' z xs)=>match Nat.beq g g'&&Nat.beq z n&&Nat.ble (off+len) xs.length&&zD ys&&nU n ys with
     | true=>some (.int .i64 ((min ys.length len:Nat):Int),h.set b (.iQ g z (overwrite xs off (ys.take (min ys.length len)))))
     | false=>none
   | _=>none
 | .sl [] _=>some (.int .i64 0,h)
 | _=>none
def B9 (C:jZ) (ats:List Nat) (args:List AV) (h:aT):R2:=match rZ C ats,args with
 | some ti,[d,x]=>match elems h x with
   | some ys=>Fp ti.size h ys d
   | none=>none
 | _,_=>none
def zo (C:jZ) (k:AV):List Nat->Bool
 | t::_=>mapKey C t k
 | []=>false
def vZ (C:jZ) (ats:List Nat) (args:List AV) (h:aT):R2:=match args with
 | [.kJ,k]=>match zo C k ats with
   | true=>some (.jl [],h)
   | false=>none
 | [.hm b,k]=>match h.get b with
   | some (.map es c)=>match zo C k ats with
     | true=>match Gs k es with
       | some es=>some (.jl [],h.set b (.map es c))
       | none=>none
     | false=>none
   | _=>none
 | _=>none
def K8 (ti:TI) (h:aT):AV->R2
 | .sl [] _=>some (.jl [],h)
 | .hs b g off len=>match h.get b with
   | some (.iQ g' z xs)=>match Nat.beq g g'&&Nat.beq z ti.size&&Nat.ble (off+len) xs.length with
     | true=>some (.jl [],h.set b (.iQ g z (overwrite xs off (List.replicate len ti.zero))))
     | false=>none
   | _=>none
 | _=>none
def yn (C:jZ) (ats:List Nat) (args:List AV) (h:aT):R2:=match rZ C ats,args with
 | some ti,[x]=>K8 ti h x
 | _,_=>none
def rn (f:AV->AV->Option AV) (args:List AV) (h:aT):R2:=match args with
 | x::rest=>kV h (A9 f x rest)
 | []=>none
abbrev Ag:=jZ->List Nat->List AV->aT->R2
def w7:Ag:=uV
def Qm:Ag:=CC
def Aj:Ag:=sm
def UM:Ag:=B9
def L9:Ag:=λC ats a h=>vZ C ats a h
def TZ:Ag:=yn
def Se:Ag:=λ_ _ a h=>rn max2 a h
def Pn:Ag:=λ_ _ a h=>rn min2 a h
def VW:Ag:=λ_ _ _ _=>none
def mH:Builtin->Ag
 | .len=>w7
 | .cap=>Qm
 | .append=>Aj
 | .copy=>UM
 | .delete=>L9
 | .clear=>TZ
 | .max=>Se
 | .min=>Pn
 | _=>VW
def nE (f:Operand->AV):Option Operand->Option AV
 | none=>none
 | some x=>some (f x)
def asAgg (ti:TI) (cs:List AV):Option AV:=match ti.agg with
 | true=>some (.agg cs)
 | false=>match cs with
   | [v]=>some v
   | _=>none
def qA (h:aT) (k:AV):AV->Option (Option AV)
 | .kJ=>some none
 | .fm es _=>ra k es
 | .hm b=>match h.get b with
   | some (.map es _)=>match findKey k es 0 with
     | none=>none
     | some none=>some none
     | some (some (_,v))=>some (some v)
   | _=>none
 | _=>none
def zJ (ok b:Bool) (v:AV):Option AV:=match ok with
 | true=>some (.jl [v,.bool b])
 | false=>some v
def re (C:jZ) (t:Nat) (h:aT) (m k:AV) (ok:Bool):Option AV:=match C.T t with
 | none=>none
 | some tm=>match tm.kind with
   | .map kt el=>match C.T el with
     | none=>none
     | some ti=>match qQ C kt k with
       | false=>none
       | true=>match qA h k m with
         | none=>none
         | some (some v)=>zJ ok true v
         | some none=>match asAgg ti ti.zero with
           | none=>none
           | some z=>zJ ok false z
   | _=>none
def DK (h:aT) (c a b:AV):R2:=match c.bool? with
 | some true=>some (a,h)
 | some false=>some (b,h)
 | none=>none
def newVar (fa:iN) (d:Nat) (h:aT) (cs:List AV):R2:=match fa.iI.elem d with
 | true=>match ka h.iI d with
   | none=>some (.la d 0,{ h with iI:=(d,cs)::h.iI })
   | some _=>none
 | false=>some (.ptr h.size 0 0 0,h.push (.iQ 0 cs.length [cs]))
def Bo (C:jZ) (fa:iN) (dst:Option Nat) (h:aT) (t:Nat):R2:=match C.T t with
 | some ti=>match dst with
   | some d=>newVar fa d h ti.zero
   | none=>none
 | none=>none
def Jn (C:jZ) (fa:iN) (dst:Option Nat) (h:aT) (t:Nat) (x:AV):R2:=match C.T t with
 | some ti=>match dst with
   | some d=>match cellsOf ti x with
     | some cs=>match cs.all AV.kK with
       | true=>newVar fa d h cs
       | false=>none
     | none=>none
   | none=>none
 | none=>none
def pD (e:Env) (ps:Array (Nat×Operand)):List (Nat×AV):=ps.toList.map λp=>(p.1,iZ e p.2)
def buildable (C:jZ):TK->Bool
 | .struct _=>true
 | .array _ el=>(C.T el).isSome
 | _=>false
def BB (C:jZ) (h:aT) (t:Nat) (ps:List (Nat×AV)):R2:=match C.T t with
 | some ti=>match buildable C ti.kind with
   | true=>match Bs C ti ps ti.zero with
     | some cs=>some (.agg cs,h)
     | none=>none
   | false=>none
 | none=>none
def sH (C:jZ) (fa:iN) (dst:Option Nat) (h:aT) (t n:Nat) (ps:List (Nat×AV)):R2:=match uq C t with
 | some ti=>match Nat.ble (n*ti.size) 16777216 with
   | true=>match tO ti ps (List.replicate n ti.zero) with
     | some xs=>An fa ti.size dst h xs
     | none=>none
   | false=>none
 | none=>none
def xp (C:jZ) (h:aT) (t:Nat) (a:AV):R2:=match C.T t with
 | some ti=>kV h (sG a h ti)
 | none=>none
def wF (C:jZ) (h:aT) (t:Nat) (a x:AV):R2:=match C.T t with
 | some ti=>match wa h ti a x with
   | some h=>some (.undef,h)
   | none=>none
 | none=>none
def Cf:AV->Option AV
 | .ptr b g i o=>some (.ptr b g i o)
 | .ip cs o s=>some (.ip cs o s)
 | .la d o=>some (.la d o)
 | .jQ f a c=>some (.jQ f a c)
 | _=>none
def uU (C:jZ) (h:aT) (s d:Nat) (x:AV):R2:=match C.T s,C.T d with
 | some _,some ti=>match ti.kind with
   | .int k=>match x.int? with
     | some (_,n)=>kV h (fI (ry k n) (oi k))
     | none=>none
   | .str=>match x.str? with
     | some s=>some (.str s,h)
     | none=>none
   | _=>none
 | _,_=>none
def sY (h:aT) (fn:Fn) (a c:List AV):R2:=match fn with
 | .func f=>match a.all AV.kK&&c.all AV.kK with
   | true=>some (.jQ f a c,h)
   | false=>none
 | _=>none
def w6 (C:jZ) (h:aT) (t:Nat) (l c:AV):R2:=match uq C t,l.int?,c.int? with
 | some ti,some (_,l),some (_,c) =>
   match BL 0 l&&BL l c&&BL c 4294967295&&Nat.ble (c.toNat*ti.bytes) 140737488355328 with
   | true=>some (.hs h.size 0 0 l.toNat,h.push (.iQ 0 ti.size (List.replicate c.toNat ti.zero)))
   | false=>none
 | _,_,_=>none
def pz (C:jZ) (h:aT) (t:Nat) (x:AV) (lo hi mx:Option AV):R2:=match C.T t with
 | none=>none
 | some ti=>match ti.kind with
   | .slice el=>match C.T el with
     | some ti=>kV h (slice ti.size h x lo hi mx)
     | none=>none
   | .str=>match x.str? with
     | some s=>kV h (IV s lo hi mx)
     | none=>none
   | _=>none
def p8 (C:jZ) (h:aT) (t:Nat) (x:AV) (f:Nat):R2:=match C.T t with
 | none=>none
 | some ti=>match ti.kind with
   | .struct fs=>match fs[f]? with
     | some (off,_)=>kV h (Cz x off)
     | none=>none
   | _=>none
def BX (C:jZ) (h:aT) (t:Nat) (x:AV) (f:Nat):R2:=match C.T t with
 | none=>none
 | some ti=>match ti.kind with
   | .struct fs=>match fs[f]? with
     | some (off,ft)=>match x.agg? with
       | some cs=>match C.T ft with
         | some ti=>kV h (part ti cs off)
         | none=>none
       | none=>none
     | none=>none
   | _=>none
def p6:m6->Bool
 | .oR=>true
 | _=>false
def qE (n:Nat) (h:aT) (x:AV) (i:Nat):R2:=match x with
 | .sl xs c=>match xs[i]? with
   | some cs=>match Nat.beq cs.length n with
     | true=>some (.ip cs 0 (p6 c),h)
     | false=>none
   | none=>none
 | .hs b g off len=>match h.get b with
   | some (.iQ _ z _)=>match Nat.blt i len&&Nat.beq z n with
     | true=>fN (off+i) λk=>some (.ptr b g k 0,h)
     | false=>none
   | _=>none
 | _=>none
def pg (C:jZ) (h:aT) (t:Nat) (x i:AV):R2:=match C.T t with
 | none=>none
 | some ti=>match p9 i with
   | none=>none
   | some i=>match ti.kind with
     | .slice el=>match C.T el with
       | some ti=>qE ti.size h x i
       | none=>none
     | .array n el=>match C.T el with
       | some ti=>match Nat.blt i n with
         | true=>kV h (Cz x (i*ti.size))
         | false=>none
       | none=>none
     | _=>none
def yU (C:jZ) (h:aT) (t:Nat) (x i:AV):R2:=match C.T t with
 | none=>none
 | some ti=>match p9 i with
   | none=>none
   | some i=>match ti.kind with
     | .str=>match x.str? with
       | some s=>match s[i]? with
         | some c=>some (.int .u8 c.toNat,h)
         | none=>none
       | none=>none
     | .array n el=>match C.T el with
       | some ti=>match x.agg? with
         | some cs=>match Nat.blt i n with
           | true=>kV h (part ti cs (i*ti.size))
           | false=>none
         | none=>none
       | none=>none
     | _=>none
def tY (C:jZ) (h:aT) (t:Nat) (m k x:AV):R2:=match m with
 | .hm b=>match h.get b with
   | some (.map es c)=>match mapKey C t k&&x.zj with
     | true=>match yC k x es c with
       | some (es,c)=>some (.undef,h.set b (.map es c))
       | none=>none
     | false=>none
   | _=>none
 | _=>none
def wT (es:List (AV×AV×Nat)) (i:Nat):Nat:=match es[i]? with
 | some x=>x.2.2
 | none=>0
def sO (C:jZ) (h:aT) (t:Nat) (m k:AV):R2:=match C.T t with
 | none=>none
 | some tm=>match tm.kind,m with
   | .map kt el,.hm b=>match C.T el,h.get b with
     | some ti,some (.map es c)=>match qQ C kt k with
       | false=>none
       | true=>match findKey k es 0 with
         | some (some (i,v))=>some (.jl [v,.int .i64 (wT es i)],h.set b (.map (es.modify i λx=>(k,x.2)) c))
         | some none=>match asAgg ti ti.zero with
           | some z=>some (.jl [z,.int .i64 c],h.set b (.map (es++[(k,z,c)]) (c+1)))
           | none=>none
         | none=>none
     | _,_=>none
   | _,_=>none
def sI (h:aT) (m s x:AV):R2:=match m,s.int? with
 | .hm b,some (_,n)=>match h.get b with
   | some (.map es c)=>match x.zj with
     | true=>match pY n x es with
       | some es=>some (.undef,h.set b (.map es c))
       | none=>none
     | false=>none
   | _=>none
 | _,_=>none
def xa (h:aT) (t:AV) (i:Nat):R2:=match t with
 | .jl vs=>kV h vs[i]?
 | _=>none
def wI (m:lh):R2->R2
 | some (v,h)=>some (v,{ h with iI:=m })
 | none=>none
def uQ (fa:iN) (call:qR) (h:aT) (f:AV) (args:List AV):R2:=match f with
 | .jQ g a cp=>fL (a++args++cp) λargs=>match args.all AV.nA with
   | true=>wI h.iI (call (fa.jw.elem g) g args { h with iI:=[] })
   | false=>none
 | _=>none
def oO (C:jZ) (fa:iN) (call:qR) (e:Env) (h:aT) (c:Call):R2:=match c.callee with
 | .builtin b=>mH b C c.argTypes.toList (c.args.toList.map (iZ e)) h
 | .value f=>uQ fa call h (iZ e f) (c.args.toList.map (iZ e))
 | .invoke ..=>none
structure Ctx where
 C:jZ
 fa:iN
 call:qR
abbrev oL:=Ctx->Env->aT->Option Nat->R2
def Hv (x:Operand):oL:=λ_ e h _=>some (iZ e x,h)
def I9 (c a b:Operand):oL:=λ_ e h _=>DK h (iZ e c) (iZ e a) (iZ e b)
def Kx (t:Nat):oL:=λX e h d=>Bo X.C X.fa d h t
def MI (t:Nat) (x:Operand):oL:=λX e h d=>Jn X.C X.fa d h t (iZ e x)
def FB (t:Nat) (ps:Array (Nat×Operand)):oL:=λX e h _=>BB X.C h t (pD e ps)
def vR (t n:Nat) (ps:Array (Nat×Operand)):oL:=λX e h d=>sH X.C X.fa d h t n (pD e ps)
def zB (t:Nat) (a:Operand):oL:=λX e h _=>xp X.C h t (iZ e a)
def yc (t:Nat) (a x:Operand):oL:=λX e h _=>wF X.C h t (iZ e a) (iZ e x)
def vG (x:Operand):oL:=λ_ e h _=>kV h (Cf (iZ e x))
def Ao (op:BinOp) (t:Nat) (x y:Operand) (_:Nat):oL:=λX e h _=>kV h (binOp X.C op t (iZ e x) (iZ e y))
def Xm (op:UnOp) (_:Nat) (x:Operand):oL:=λ_ e h _=>kV h (unOp op (iZ e x))
def xu (s d:Nat) (x:Operand):oL:=λX e h _=>uU X.C h s d (iZ e x)
def va (fn:Fn) (a c:Array Operand):oL:=λ_ e h _=>sY h fn (a.toList.map (iZ e)) (c.toList.map (iZ e))
def ET (_:Nat):Option Operand->oL
 | none=>λ_ _ h _=>some (.hm h.size,h.push (.map [] 0))
 | some _=>λ_ _ _ _=>none
def Ba (t:Nat) (l c:Operand):oL:=λX e h d=>w6 X.C h t (iZ e l) (iZ e c)
def pU (t:Nat) (x:Operand) (lo hi mx:Option Operand):oL:=λX e h _=>pz X.C h t (iZ e x) (nE (iZ e) lo) (nE (iZ e) hi) (nE (iZ e) mx)
def rT (t:Nat) (x:Operand) (f:Nat):oL:=λX e h _=>p8 X.C h t (iZ e x) f
def FD (t:Nat) (x:Operand) (f:Nat):oL:=λX e h _=>BX X.C h t (iZ e x) f
def qa (t:Nat) (x i:Operand):oL:=λX e h _=>pg X.C h t (iZ e x) (iZ e i)
def AT (t:Nat) (x i:Operand):oL:=λX e h _=>yU X.C h t (iZ e x) (iZ e i)
def um (t:Nat) (m k:Operand) (ok:Bool):oL:=λX e h _=>kV h (re X.C t h (iZ e m) (iZ e k) ok)
def tM (t:Nat) (m k x:Operand):oL:=λX e h _=>tY X.C h t (iZ e m) (iZ e k) (iZ e x)
def vF (t:Nat) (m k:Operand):oL:=λX e h _=>sO X.C h t (iZ e m) (iZ e k)
def vP (_:Nat) (m s x:Operand):oL:=λ_ e h _=>sI h (iZ e m) (iZ e s) (iZ e x)
def Ay (t:Operand) (i:Nat):oL:=λ_ e h _=>xa h (iZ e t) i
def pJ (c:Call):oL:=λX e h _=>oO X.C X.fa X.call e h c
def aeL:oL:=λ_ _ _ _=>none
def jL:Op->oL
 | .move x=>Hv x
 | .assign x=>Hv x
 | .pick c a b=>I9 c a b
 | .alloc t=>Kx t
 | .box t x=>MI t x
 | .build t ps=>FB t ps
 | .buildSlice t n ps=>vR t n ps
 | .load t a=>zB t a
 | .store t a x=>yc t a x
 | .nilCheck x=>vG x
 | .binOp op t x y u=>Ao op t x y u
 | .unOp op t x=>Xm op t x
 | .convert s d x=>xu s d x
 | .makeFunc fn a c=>va fn a c
 | .makeMap t r=>ET t r
 | .makeSlice t l c=>Ba t l c
 | .slice t x lo hi mx=>pU t x lo hi mx
 | .fieldAddr t x f=>rT t x f
 | .field t x f=>FD t x f
 | .indexAddr t x i=>qa t x i
 | .index t x i=>AT t x i
 | .lookup t m k ok=>um t m k ok
 | .mapUpdate t m k x=>tM t m k x
 | .insert t m k x=>tM t m k x
 | .mapEntry t m k=>vF t m k
 | .entryStore t m s x=>vP t m s x
 | .extract t i=>Ay t i
 | .call c=>pJ c
 | _=>aeL
def Hj (want:Bool):AV->Option Bool
 | .bool b=>some (Em b want)
 | .jl []=>some false
 | _=>none
def jt (all:List Oper) (e:Env) (o:Oper):Option Bool :=
 match o.guard with
 | none=>some true
 | some (j,want)=>match all[j]? with
   | some o'=>match o'.dst with
     | some d=>Hj want (lM e d)
     | none=>none
   | none=>none
def jn (e:Env) (o:Oper) (v:AV):Env :=
 match o.dst with
 | some d=>Fv e d v
 | none=>e
abbrev RE:=Option (Env×aT)
def pX (X:Ctx) (k:Env->aT->RE) (o:Oper) (e:Env) (h:aT):Option Bool->RE
 | none=>none
 | some true=>match jL o.op X e h o.dst with
   | some (v,h)=>fH h λh=>k (jn e o v) h
   | none=>none
 | some false=>k (jn e o (.jl [])) h
def yu (X:Ctx) (all:List Oper):List Oper->Env->aT->RE
 | [],e,h=>some (e,h)
 | o::rest,e,h=>pX X (yu X all rest) o e h (jt all e o)
def Fg (e:Env) (d:Nat):Option (AV×aT)->Bool
 | some (v,_)=>og 8 v (lM e d)
 | none=>false
def again (X:Ctx) (all:List Oper) (e:Env) (h:aT) (i:Nat):Bool:=match all[i]? with
 | none=>false
 | some o=>match jt all e o with
   | none=>false
   | some false=>true
   | some true=>match o.dst with
     | none=>false
     | some d=>Fg e d (jL o.op X e h (some d))
def tb (X:Ctx) (all:List Oper):List (Nat×List Nat)->Env->aT->RE
 | [],e,h=>some (e,h)
 | (i,chk)::rest,e,h=>match all[i]? with
   | none=>none
   | some o=>pX X (λe h=>match chk.all (again X all e h) with
     | true=>tb X all rest e h
     | false=>none) o e h (jt all e o)
abbrev zA:=(Env->aT->Option (Ex×Env×aT))->Env->aT->Option (Ex×Env×aT)
def kP:Nat->zA
 | 0,_,_,_=>none
 | n+1,f,e,h=>match f e h with
   | some (.kE,e,h)=>kP n f e h
   | r=>r
abbrev RC:=Option (Ex×Env×aT)
abbrev qP:=lK->Env->aT->RC
def xH:RE->RC
 | some (e,h)=>some (.kE,e,h)
 | none=>none
def yT (X:Ctx) (ops:Array Oper):qP:=λan e h=>match an with
 | .oU sch=>xH (tb X ops.toList sch e h)
 | _=>none
def IZ (X:Ctx) (ops:Array Oper):qP:=λ_ e h=>xH (yu X ops.toList ops.toList e h)
def wx (X:Ctx) (ops:Array Oper):Bool->qP
 | true=>yT X ops
 | false=>IZ X ops
def andThen (k:Env->aT->RC):RC->RC
 | some (.kE,e,h)=>k e h
 | r=>r
def lQ (live:List Nat) (k:Env->aT->RC) (e:Env) (h:aT):RC:=zI live e λe=>wX live h.iI λm=>k e { h with iI:=m }
def yy (a b:qP):qP:=λan e h=>match an with
 | .seq live x y=>andThen (λe h=>lQ live (b y) e h) (a x e h)
 | .sq x y=>andThen (b y) (a x e h)
 | _=>none
def DC (x y:Env->aT->RC) (e:Env) (h:aT) (c:AV):RC:=match c.bool? with
 | some true=>x e h
 | some false=>y e h
 | none=>none
def Dw (c:Operand) (a b:qP):qP:=λan e h=>match an with
 | .two x y=>DC (a x) (b y) e h (iZ e c)
 | _=>none
def atEnd (id:Nat):RC->RC
 | some (.ext id',e,h)=>match Nat.beq id' id with
   | true=>some (.kE,e,h)
   | false=>some (.ext id',e,h)
 | r=>r
def wD (id:Nat) (a:qP):qP:=λan e h=>atEnd id (a an e h)
def Qd (lp:zA) (a:qP):qP:=λan e h=>match an with
 | .loop live x=>lp (lQ live (a x)) e h
 | _=>none
def kj (X:Ctx) (lp:zA):Code->qP
 | .skip=>λ_ e h=>some (.kE,e,h)
 | .region _ ops draw=>wx X ops draw
 | .seq a b=>yy (kj X lp a) (kj X lp b)
 | .cond c a b=>Dw c (kj X lp a) (kj X lp b)
 | .block id a=>wD id (kj X lp a)
 | .loop a=>Qd lp (kj X lp a)
 | .exit id=>λ_ e h=>some (.ext id,e,h)
 | .scope a=>kj X lp a
 | .label _=>λ_ e h=>some (.kE,e,h)
 | .ret=>λ_ e h=>some (.ret,e,h)
 | _=>λ_ _ _=>none
inductive zP where
 | nil
 | fix (last:Option (AV×AV)) (left:List (AV×AV))
 | A5 (b clk:Nat) (seen:Option Nat)
structure It where
 d:Nat
 k:zP
def GI (h:aT):AV->Option zP
 | .kJ=>some .nil
 | .fm [] _=>some (.fix none [])
 | .fm [x] _=>some (.fix none [x])
 | .hm b=>match h.get b with
   | some (.map [] c)=>some (.A5 b c none)
   | some (.map [_] c)=>some (.A5 b c none)
   | _=>none
 | _=>none
def Eo (C:jZ) (h:aT) (t:Nat) (x:AV):Option zP:=match C.T t with
 | some ti=>match ti.kind with
   | .map _ _=>GI h x
   | _=>none
 | none=>none
def uZ (h:aT):zP->Option (Option (AV×AV)×zP)
 | .nil=>some (none,.nil)
 | .fix last []=>some (none,.fix last [])
 | .fix _ (x::l)=>some (some x,.fix (some x) l)
 | .A5 b clk seen=>match h.get b with
   | some (.map es c)=>match Nat.beq c clk,es,seen with
     | true,[],s=>some (none,.A5 b clk s)
     | true,[(k,v,n)],none=>some (some (k,v),.A5 b clk (some n))
     | true,[(_,_,n)],some n'=>match Nat.beq n n' with
       | true=>some (none,.A5 b clk (some n'))
       | false=>none
     | _,_,_=>none
   | _=>none
def ze (h:aT):zP->Option (AV×AV)
 | .fix (some x) _=>some x
 | .A5 b clk (some n)=>match h.get b with
   | some (.map [(k,v,n')] c)=>match Nat.beq c clk&&Nat.beq n' n with
     | true=>some (k,v)
     | false=>none
   | _=>none
 | _=>none
abbrev RI:=Option (Option It×Env×aT)
def wc (o:Oper):Bool:=match o.guard with
 | none=>true
 | some _=>false
def sp (it:Option It) (o:Oper):Bool:=match it,o.dst with
 | some i,some d=>!(Nat.beq i.d d)
 | _,_=>true
def zr:Option (AV×AV)->AV
 | none=>.jl [.bool false]
 | some x=>.jl [.bool true,x.1,x.2]
def KC (h:aT) (o:Oper) (t:Nat) (k:Option It->Env->RI) (e:Env) (it:Option It):RI:=match it with
 | some i=>match Nat.beq i.d t&&sp (some i) o&&wc o with
   | true=>match uZ h i.k with
     | some (r,k')=>k (some ⟨i.d,k'⟩) (jn e o (zr r))
     | none=>none
   | false=>none
 | none=>none
def Hd (h:aT) (o:Oper) (t:Nat) (k:Option It->Env->RI) (e:Env) (it:Option It):RI:=match it with
 | some i=>match Nat.beq i.d t&&sp (some i) o&&wc o with
   | true=>match ze h i.k with
     | some x=>k (some i) (jn e o (.jl [x.1,x.2]))
     | none=>none
   | false=>none
 | none=>none
def Hi (o:Oper) (x:Option zP) (k:Option It->Env->RI) (e:Env):RI:=match x,o.dst,wc o with
 | some l,some d,true=>k (some ⟨d,l⟩) (Fv e d .undef)
 | _,_,_=>none
inductive OpK where
 | range (t:Nat) (x:Operand)
 | next (t:Nat)
 | entry (t:Nat)
 | plain
 | bad
def EP:Op->OpK
 | .range t x=>.range t x
 | .next (.tmp t) false=>.next t
 | .next _ _=>.bad
 | .entry (.tmp t)=>.entry t
 | .entry _=>.bad
 | _=>.plain
def EZ (X:Ctx) (it:Option It) (k:Env->aT->RI) (o:Oper) (e:Env) (h:aT):Option Bool->RI
 | none=>none
 | some true=>match jL o.op X e h o.dst with
   | some (v,h)=>fH h λh=>k (jn e o v) h
   | none=>none
 | some false=>k (jn e o (.jl [])) h
def yM (X:Ctx) (all:List Oper):List Oper->Option It->Env->aT->RI
 | [],it,e,h=>some (it,e,h)
 | o::rest,it,e,h=>match EP o.op with
   | .range t x=>Hi o (Eo X.C h t (iZ e x)) (λit e=>yM X all rest it e h) e
   | .next t=>KC h o t (λit e=>yM X all rest it e h) e it
   | .entry t=>Hd h o t (λit e=>yM X all rest it e h) e it
   | .plain=>match sp it o with
     | true=>EZ X it (λe h=>yM X all rest it e h) o e h (jt all e o)
     | false=>none
   | .bad=>none
abbrev uN:=Option (Ex×Option It×Env×aT)
def Vt:RI->uN
 | some (it,e,h)=>some (.kE,it,e,h)
 | none=>none
def DD (k:Option It->Env->aT->uN):uN->uN
 | some (.kE,it,e,h)=>k it e h
 | r=>r
def wi (live:List Nat) (k:Env->aT->uN) (e:Env) (h:aT):uN:=zI live e λe=>wX live h.iI λm=>k e { h with iI:=m }
def UT (id:Nat):uN->uN
 | some (.ext id',it,e,h)=>match Nat.beq id' id with
   | true=>some (.kE,it,e,h)
   | false=>some (.ext id',it,e,h)
 | r=>r
def A3:Nat->(Option It->Env->aT->uN)->Option It->Env->aT->uN
 | 0,_,_,_,_=>none
 | n+1,f,it,e,h=>match f it e h with
   | some (.kE,it,e,h)=>A3 n f it e h
   | r=>r
abbrev yj:=lK->Option It->Env->aT->uN
def VQ (a b:yj):yj:=λan it e h=>match an with
 | .seq live x y=>DD (λit e h=>wi live (b y it) e h) (a x it e h)
 | .sq x y=>DD (b y) (a x it e h)
 | _=>none
def Sy (c:Operand) (a b:yj):yj:=λan it e h=>match an with
 | .two x y=>match (iZ e c).bool? with
   | some true=>a x it e h
   | some false=>b y it e h
   | none=>none
 | _=>none
def Kh (it:Option It):RC->uN
 | some (x,e,h)=>some (x,it,e,h)
 | none=>none
def mM (X:Ctx) (n:Nat):Code->yj
 | .skip=>λ_ it e h=>some (.kE,it,e,h)
 | .region _ ops false=>λ_ it e h=>Vt (yM X ops.toList ops.toList it e h)
 | .region _ ops true=>λan it e h=>match ops.toList.all (sp it) with
   | true=>Kh it (yT X ops an e h)
   | false=>none
 | .seq a b=>VQ (mM X n a) (mM X n b)
 | .cond c a b=>Sy c (mM X n a) (mM X n b)
 | .block id a=>λan it e h=>UT id (mM X n a an it e h)
 | .loop a=>λan it e h=>match an with
   | .loop live x=>A3 n (λit e h=>wi live (mM X n a x it) e h) it e h
   | _=>none
 | .exit id=>λ_ it e h=>some (.ext id,it,e,h)
 | .scope a=>mM X n a
 | .label _=>λ_ it e h=>some (.kE,it,e,h)
 | .ret=>λ_ it e h=>some (.ret,it,e,h)
 | _=>λ_ _ _ _=>none
def KF:uN->RC
 | some (x,_,e,h)=>some (x,e,h)
 | none=>none
def Bn (X:Ctx) (n:Nat) (c:Code) (an:lK) (e:Env) (h:aT):Bool->RC
 | true=>KF (mM X n c an none e h)
 | false=>kj X (kP n) c an e h
def JY (C:jZ) (e:Env) (h:aT):ResultVar->Option AV
 | .tmp t=>some (iZ e (.tmp t))
 | .cell a t=>match C.T t with
   | some ti=>sG (iZ e (.tmp a)) h ti
   | none=>none
def Co (C:jZ) (e:Env) (h:aT):List ResultVar->Option (List AV)
 | []=>some []
 | r::l=>match JY C e h r with
   | none=>none
   | some v=>match Co C e h l with
     | none=>none
     | some l=>some (v::l)
def params:Nat->List AV->Env
 | _,[]=>[]
 | i,v::l=>(i,v)::params (i+1) l
def result:List AV->AV
 | [v]=>v
 | vs=>.jl vs
def leave (C:jZ) (res:List ResultVar):RC->R2
 | some (.kE,e,h)=>leave1 e h
 | some (.ret,e,h)=>leave1 e h
 | _=>none
where
 leave1 (e:Env) (h:aT):R2:=match Co C e h res with
  | some vs=>match vs.all AV.nA with
    | true=>some (result vs,h)
    | false=>none
  | none=>none
def tF (C:jZ) (fa:iN) (call:qR) (n:Nat) (args:List AV) (h:aT):Option (AV×aT) :=
 leave C fa.res (Bn ⟨C,fa,call⟩ n fa.body fa.lX (params 0 args) h fa.iter)
abbrev lA:=Nat->Option iN
abbrev kU:=Nat->Option (Bool->List AV->aT->Option (AV×aT))
def lB (h:aT) (args:List AV):Option (List AV):=match args.any AV.qZ with
 | true=>jJ (freeze true h 8) args
 | false=>some args
def frozen:aT->R2->R2
 | h,some (v,h')=>match freeze false h' 8 v with
   | none=>none
   | some v=>some (v,h)
 | _,none=>none
def sD (C:jZ) (fa:iN) (call:qR) (lp:Nat) (shd:Bool) (args:List AV) (h:aT):Option (AV×aT) :=
 match shd with
 | true=>tF C fa call lp args h
 | false=>match lB h args with
   | none=>none
   | some args'=>frozen h (tF C fa call lp args' aT.empty)
def l3 (C:jZ) (F:lA) (P:kU):Nat->qR
 | 0,_,_,_,_=>none
 | n+1,shd,f,args,h=>match P f with
   | some p=>p shd args h
   | none=>match F f with
     | none=>none
     | some fa=>sD C fa (l3 C F P n) n shd args h
end Go.Sx
namespace Go.Sx
open Go
def oz:m6->Nat->Nat->Prop
 | .nil,_,_=>False
 | .exact n,_,c=>c=n
 | .jc,l,c=>l<=c
 | .oR,l,c=>l<=c
def pH:m6->Bool
 | .oR=>true
 | _=>false
def MO (ents:Array MapEntry) (clk:Nat):Prop:=(∀ (i:Nat) (e:MapEntry),ents[i]?=some e->e.born<clk)/\(ents.toList.map (·.born)).Nodup
inductive PR (w:World) (T:Bool->Nat->Prop):Bool->AV->Value->Prop
 | undef (m:Bool) (v:Value) (h:v.oneCell'=true):PR w T m .undef v
 | bool (m b:Bool):PR w T m (.bool b) (.bool b)
 | int (m:Bool) (k:IntKind) (n:Int):PR w T m (.int k n) (.int k n)
 | str (m:Bool) (s:List UInt8) (b:ByteArray) (h:b.data.toList=s):PR w T m (.str s) (.string b)
 | ky (m:Bool):PR w T m .ky (.pointer none)
 | ip (m:Bool) (cells:List AV) (off:Nat) (sn:Bool) (B base:Nat) (c:Array Value) (e:TypeId) (fr:Nat×Nat) (f:Nat->Value) (hm:sn=true->m=true)
    (hB:w.heap[B]?=some (.cells c e fr)) (hI:T sn B)
    (hc:∀ (i:Nat) (x:AV),cells[i]?=some x->c[base+i]?=some (f i)) (h1:∀ (i:Nat) (x:AV),cells[i]?=some x->(f i).oneCell'=true)
    (hr:∀ (i:Nat) (x:AV),cells[i]?=some x->PR w T sn x (f i)):PR w T m (.ip cells off sn) (.pointer (some ⟨B,base+off,none⟩))
 | slnil (m:Bool):PR w T m (.sl [] .nil) (.slice none 0 0)
 | ng (m:Bool) (cap:m6) (a:Addr) (c:Nat) (hm:pH cap=true->m=true) (h:oz cap 0 c):PR w T m (.sl [] cap) (.slice (some a) 0 c)
 | sl (m:Bool) (xs:List (List AV)) (cap:m6) (B base:Nat) (c:Array Value) (e:TypeId) (fr:Nat×Nat) (cap' esz:Nat) (f:Nat->Nat->Value)
    (hm:pH cap=true->m=true)
    (hB:w.heap[B]?=some (.cells c e fr)) (hI:T (pH cap) B) (hcap:oz cap xs.length cap') (hle:xs.length<=cap')
    (hz:∀ (i:Nat) (cs:List AV),xs[i]?=some cs->cs.length=esz)
    (hc:∀ (i:Nat) (cs:List AV) (j:Nat) (x:AV),xs[i]?=some cs->cs[j]?=some x->c[base+i*esz+j]?=some (f i j))
    (h1:∀ (i:Nat) (cs:List AV) (j:Nat) (x:AV),xs[i]?=some cs->cs[j]?=some x->(f i j).oneCell'=true)
    (hr:∀ (i:Nat) (cs:List AV) (j:Nat) (x:AV),xs[i]?=some cs->cs[j]?=some x->PR w T (pH cap) x (f i j)) :
    PR w T m (.sl xs cap) (.slice (some ⟨B,base,none⟩) xs.length cap')
 | kJ (m:Bool):PR w T m .kJ (.map none)
 | fm (m:Bool) (es:List (AV×AV)) (sn:Bool) (r:Nat) (ents:Array MapEntry) (clk:Nat) (hm:sn=true->m=true) (hB:w.heap[r]?=some (.map ents clk)) (hI:T sn r)
    (hl:es.length=ents.size) (hy:MO ents clk) (hko:∀ (i:Nat) (p:AV×AV),es[i]?=some p->p.1.pM=true)
    (hk:∀ (i:Nat) (p:AV×AV) (e:MapEntry),es[i]?=some p->ents[i]?=some e->PR w T sn p.1 e.key)
    (hv:∀ (i:Nat) (p:AV×AV) (e:MapEntry),es[i]?=some p->ents[i]?=some e->PR w T sn p.2 e.val):PR w T m (.fm es sn) (.map (some r))
 | ly (m:Bool):PR w T m .ly .nilFunc
 | jQ (m:Bool) (g:Nat) (a c:List AV) (a' c':Array Value) (ha:a.length=a'.size) (hc:c.length=c'.size)
    (hra:∀ (i:Nat) (x:AV) (y:Value),a[i]?=some x->a'[i]?=some y->PR w T m x y) (hrc:∀ (i:Nat) (x:AV) (y:Value),c[i]?=some x->c'[i]?=some y->PR w T m x y) :
    PR w T m (.jQ g a c) (.func (.func g) a' c')
 | agg (m:Bool) (l:List AV) (vs:Array Value) (hl:l.length=vs.size) (h1:∀ (i:Nat) (y:Value),vs[i]?=some y->y.oneCell'=true)
    (hr:∀ (i:Nat) (x:AV) (y:Value),l[i]?=some x->vs[i]?=some y->PR w T m x y):PR w T m (.agg l) (.agg vs)
def PR.mono {w w':World} {T T':Bool->Nat->Prop} {m:Bool} {v:AV} {u:Value} (h:PR w T m v u)
  (hI:∀ s B,T s B->T' s B) (hw:∀ s B,T s B->w'.heap[B]?=w.heap[B]?):PR w' T' m v u:=by
 induction h with
 | undef m v h=>exact .undef m v h
 | bool m b=>exact .bool m b
 | int m k n=>exact .int m k n
 | str m s b h=>exact .str m s b h
 | ky m=>exact .ky m
 | ip m cells off sn B base c e fr f hm hB hB' hc h1 hr ih=>exact .ip m cells off sn B base c e fr f hm (by grind) (hI _ B hB') hc h1 ih
 | slnil m=>exact .slnil m
 | ng m cap a c hm h=>exact .ng m cap a c hm h
 | sl m xs cap B base c e fr cap' esz f hm hB hB' hcap hle hz hc h1 hr ih =>
   exact .sl m xs cap B base c e fr cap' esz f hm (by grind) (hI _ B hB') hcap hle hz hc h1 ih
 | kJ m=>exact .kJ m
 | fm m es sn r ents clk hm hB hB' hl hy hko hk hv ihk ihv=>exact .fm m es sn r ents clk hm (by grind) (hI _ r hB') hl hy hko ihk ihv
 | ly m=>exact .ly m
 | jQ m g a c a' c' ha hc hra hrc iha ihc=>exact .jQ m g a c a' c' ha hc iha ihc
 | agg m l vs hl h1 hr ih=>exact .agg m l vs hl h1 ih
def PR.up {w:World} {T:Bool->Nat->Prop} {m:Bool} {v:AV} {u:Value} (h:PR w T m v u) (hm:m=false):PR w T true v u:=by
 induction h with
 | undef m v h=>exact .undef _ v h
 | bool m b=>exact .bool _ b
 | int m k n=>exact .int _ k n
 | str m s b h=>exact .str _ s b h
 | ky m=>exact .ky _
 | ip m cells off sn B base c e fr f hm hB hB' hc h1 hr ih=>exact .ip _ cells off sn B base c e fr f (λ_=>rfl) hB hB' hc h1 hr
 | slnil m=>exact .slnil _
 | ng m cap a c hm h=>exact .ng _ cap a c (λ_=>rfl) h
 | sl m xs cap B base c e fr cap' esz f hm hB hB' hcap hle hz hc h1 hr ih=>exact .sl _ xs cap B base c e fr cap' esz f (λ_=>rfl) hB hB' hcap hle hz hc h1 hr
 | kJ m=>exact .kJ _
 | fm m es sn r ents clk hm hB hB' hl hy hko hk hv ihk ihv=>exact .fm _ es sn r ents clk (λ_=>rfl) hB hB' hl hy hko hk hv
 | ly m=>exact .ly _
 | jQ m g a c a' c' ha hc hra hrc iha ihc=>exact .jQ _ g a c a' c' ha hc (λi x y hx hy=>iha i x y hx hy hm) (λi x y hx hy=>ihc i x y hx hy hm)
 | agg m l vs hl h1 hr ih=>exact .agg _ l vs hl h1 (λi x y hx hy=>ih i x y hx hy hm)
def PR.G8 {w:World} {T:Bool->Nat->Prop} {m:Bool} {v:AV} {u:Value} (h:PR w T m v u):PR w T true v u:=by
 cases m
 ·exact h.up rfl
 ·exact h
structure Loc where
 B:Nat
 base:Nat
 cap:Nat
structure Ga where
 w:World
 T:Bool->Nat->Prop
 h:aT
 pi:Nat->Option Loc
 L:Nat->Option Nat
def AV.kL:AV->Bool
 | .bool _ | .int _ _ | .str _ | .ky | .ip _ _ _ | .sl _ _ | .kJ | .fm _ _ | .ly=>true
 | _=>false
def AV.mJ:AV->Bool
 | .la _ _ | .jl _=>false
 | _=>true
inductive VR (G:Ga):AV->Value->Prop
 | undef (v:Value):VR G .undef v
 | jE {v:AV} {u:Value} (hp:v.kL=true) (h:PR G.w G.T true v u):VR G v u
 | ptr (b g i o:Nat) (a:Addr) (hb:b<G.h.size) (hg:∀ g0 z xs,G.h.get b=some (.iQ g0 z xs)->g<=g0)
    (h:∀ z xs,G.h.get b=some (.iQ g z xs)->∃ l,G.pi b=some l/\a=⟨l.B,l.base+i*z+o,none⟩) :
    VR G (.ptr b g i o) (.pointer (some a))
 | hs (b g off len:Nat) (a:Addr) (cap':Nat) (hb:b<G.h.size) (hg:∀ g0 z xs,G.h.get b=some (.iQ g0 z xs)->g<=g0) (hle:len<=cap')
    (h:∀ z xs,G.h.get b=some (.iQ g z xs)->∃ l,G.pi b=some l/\off+cap'=l.cap/\(0<cap'->a=⟨l.B,l.base+off*z,none⟩)) :
    VR G (.hs b g off len) (.slice (some a) len cap')
 | hm (b r:Nat) (hb:b<G.h.size) (h:∀ es c,G.h.get b=some (.map es c)->∃ l,G.pi b=some l/\r=l.B):VR G (.hm b) (.map (some r))
 | la (d o B:Nat) (hd:G.L d=some B):VR G (.la d o) (.pointer (some ⟨B,o,none⟩))
 | jQ (g:Nat) (a c:List AV) (a' c':Array Value) (ha:a.length=a'.size) (hc:c.length=c'.size) (hna:∀ x∈a,x.mJ=true) (hnc:∀ x∈c,x.mJ=true)
    (hra:∀ (i:Nat) (x:AV) (y:Value),a[i]?=some x->a'[i]?=some y->VR G x y) (hrc:∀ (i:Nat) (x:AV) (y:Value),c[i]?=some x->c'[i]?=some y->VR G x y) :
    VR G (.jQ g a c) (.func (.func g) a' c')
 | agg (l:List AV) (vs:Array Value) (hl:l.length=vs.size) (hn:∀ x∈l,x.mJ=true) (h1:∀ (i:Nat) (y:Value),vs[i]?=some y->y.oneCell'=true)
    (hr:∀ (i:Nat) (x:AV) (y:Value),l[i]?=some x->vs[i]?=some y->VR G x y):VR G (.agg l) (.agg vs)
 | jl (l:List AV) (vs:Array Value) (hl:l.length=vs.size) (hr:∀ (i:Nat) (x:AV) (y:Value),l[i]?=some x->vs[i]?=some y->VR G x y):VR G (.jl l) (.tuple vs)
structure Ext (G G':Ga):Prop where
 T:∀ s B,G.T s B->G'.T s B
 keep:∀ s B,G.T s B->G'.w.heap[B]?=G.w.heap[B]?
 size:G.h.size<=G'.h.size
 iQ:∀ b,b<G.h.size->∀ g' z' xs',G'.h.get b=some (.iQ g' z' xs') ->
  ∃ g z xs,G.h.get b=some (.iQ g z xs)/\g<=g'/\(g=g'->z=z'/\∀ l,G.pi b=some l->G'.pi b=some l)
 map:∀ b,b<G.h.size->∀ es' c',G'.h.get b=some (.map es' c')->∃ es c,G.h.get b=some (.map es c)/\∀ l,G.pi b=some l->G'.pi b=some l
 iI:∀ d B,G.L d=some B->G'.L d=some B
def VR.mono {G G':Ga} (E:Ext G G') {v:AV} {u:Value} (h:VR G v u):VR G' v u:=by
 induction h with
 | undef v=>exact .undef v
 | jE hp h=>exact .jE hp (h.mono E.T E.keep)
 | ptr b g i o a hb hg h =>
   refine .ptr b g i o a (Nat.lt_of_lt_of_le hb E.size) ?_ ?_
   ·intro g0 z xs hx
    obtain ⟨g1,z1,xs1,h1,hle,_⟩:=E.iQ b hb g0 z xs hx
    grind
   ·intro z xs hx
    obtain ⟨g1,z1,xs1,h1,hle,heq⟩:=E.iQ b hb g z xs hx
    grind
 | hs b g off len a cap' hb hg hle' h =>
   refine .hs b g off len a cap' (Nat.lt_of_lt_of_le hb E.size) ?_ hle' ?_
   ·intro g0 z xs hx
    obtain ⟨g1,z1,xs1,h1,hle,_⟩:=E.iQ b hb g0 z xs hx
    grind
   ·intro z xs hx
    obtain ⟨g1,z1,xs1,h1,hle,heq⟩:=E.iQ b hb g z xs hx
    grind
 | hm b r hb h =>
   refine .hm b r (Nat.lt_of_lt_of_le hb E.size) ?_
   intro es c hx
   obtain ⟨es1,c1,h1,hp⟩:=E.map b hb es c hx
   grind
 | la d o B hd=>exact .la d o B (E.iI d B hd)
 | jQ g a c a' c' ha hc hna hnc hra hrc iha ihc=>exact .jQ g a c a' c' ha hc hna hnc iha ihc
 | agg l vs hl hn h1 hr ih=>exact .agg l vs hl hn h1 ih
 | jl l vs hl hr ih=>exact .jl l vs hl ih
def Ext.refl (G:Ga):Ext G G where
 T:=λ_ _ h=>h
 keep:=λ_ _ _=>rfl
 size:=Nat.le_refl _
 iQ:=λ_ _ g z xs h=>⟨g,z,xs,h,Nat.le_refl _,λ_=>⟨rfl,λ_ h=>h⟩⟩
 map:=λ_ _ es c h=>⟨es,c,h,λ_ h=>h⟩
 iI:=λ_ _ h=>h
theorem Ext.trans {A B C:Ga} (h:Ext A B) (k:Ext B C):Ext A C where
 T:=λs b hb=>k.T s b (h.T s b hb)
 keep:=λs b hb=>(k.keep s b (h.T s b hb)).trans (h.keep s b hb)
 size:=Nat.le_trans h.size k.size
 iQ:=by
  intro b hb g z xs hx
  obtain ⟨g1,z1,xs1,h1,hle,he⟩:=k.iQ b (Nat.lt_of_lt_of_le hb h.size) g z xs hx
  obtain ⟨g2,z2,xs2,h2,hle2,he2⟩:=h.iQ b hb g1 z1 xs1 h1
  grind
 map:=by
  intro b hb es c hx
  obtain ⟨es1,c1,h1,p1⟩:=k.map b (Nat.lt_of_lt_of_le hb h.size) es c hx
  obtain ⟨es2,c2,h2,p2⟩:=h.map b hb es1 c1 h1
  grind
 iI:=λd B hd=>k.iI d B (h.iI d B hd)
theorem PR.mJ {w:World} {T:Bool->Nat->Prop} {m:Bool} {v:AV} {u:Value} (h:PR w T m v u):v.mJ=true:=by cases h<;>rfl
def PR.yH {w:World} {T:Bool->Nat->Prop} {m:Bool} {l:List AV} {vs:Array Value} (hl:l.length=vs.size) (h:∀ (i:Nat) (x:AV) (y:Value),l[i]?=some x->vs[i]?=some y->PR w T m x y):∀ x∈l,x.mJ=true:=by
 intro x hx
 obtain ⟨i,hi⟩:=List.getElem?_of_mem hx
 have hlt:i<vs.size:=by grind
 exact (h i x vs[i] hi (by simp)).mJ
structure VC (G:Ga) (x:AV) (v:Value):Prop where
 vr:VR G x v
 na:x.mJ=true
def VC.mono {G G':Ga} (E:Ext G G') {x:AV} {v:Value} (h:VC G x v):VC G' x v:=⟨h.vr.mono E,h.na⟩
def nG (G:Ga) (l:Loc) (z:Nat) (xs:List (List AV)):Prop :=
 ∃ c e,G.w.heap[l.B]?=some (.cells c e (0,0))/\xs.length<=l.cap/\l.base+l.cap*z<=c.size/\(∀ (i:Nat) (cs:List AV),xs[i]?=some cs->cs.length=z) /\
   (∀ (i:Nat) (cs:List AV) (j:Nat) (x:AV),xs[i]?=some cs->cs[j]?=some x->∃ v,c[l.base+i*z+j]?=some v/\v.oneCell'=true/\VC G x v)
def pL (es:List (AV×AV×Nat)) (clk:Nat):Prop:=(∀ p∈es,p.2.2<clk)/\(es.map (·.2.2)).Nodup
def pL.V2 {es:List (AV×AV×Nat)} {ents:Array MapEntry} {clk:Nat} (h:pL es clk) (hlen:es.length=ents.size) (hb:∀ (i:Nat) (p:AV×AV×Nat) (e:MapEntry),es[i]?=some p->ents[i]?=some e->p.2.2=e.born):MO ents clk:=by
 have hm:es.map (·.2.2)=ents.toList.map (·.born):=by
  apply List.ext_getElem?
  intro i
  simp only [List.getElem?_map,Array.getElem?_toList]
  cases hp:es[i]? with
  | none=>rw [Array.getElem?_eq_none (by rw [<- hlen]; exact List.getElem?_eq_none_iff.1 hp)]; rfl
  | some p =>
    have hi:i<ents.size:=by rw [<- hlen]; exact (List.getElem?_eq_some_iff.1 hp).1
    have he:ents[i]?=some ents[i]:=by simp
    rw [he]
    exact congrArg some (hb i p _ hp he)
 refine ⟨λi e he=>?_,hm▸h.2⟩
 have hi:i<es.length:=by rw [hlen]; exact (Array.getElem?_eq_some_iff.1 he).1
 have hei:es[i]?=some es[i]:=by simp
 rw [<- hb i _ e hei he]
 exact h.1 _ (List.getElem_mem hi)
def rG (G:Ga) (r:Nat) (es:List (AV×AV×Nat)) (clk:Nat):Prop :=
 ∃ ents,G.w.heap[r]?=some (.map ents clk)/\es.length=ents.size/\pL es clk /\
   ∀ (i:Nat) (p:AV×AV×Nat) (e:MapEntry),es[i]?=some p->ents[i]?=some e->p.1.pM=true/\PR G.w G.T false p.1 e.key/\VC G p.2.1 e.val/\p.2.2=e.born
def vI (G:Ga) (B:Nat) (cs:List AV):Prop :=
 ∃ c e,G.w.heap[B]?=some (.cells c e (0,0))/\c.size=cs.length/\(∀ (i:Nat) (x:AV) (v:Value),cs[i]?=some x->c[i]?=some v->VC G x v)/\(∀ (i:Nat) (v:Value),c[i]?=some v->v.oneCell'=true)
structure WR (G:Ga):Prop where
 iQ:∀ b l g z xs,G.pi b=some l->G.h.get b=some (.iQ g z xs)->nG G l z xs
 map:∀ b l es c,G.pi b=some l->G.h.get b=some (.map es c)->rG G l.B es c
 loc:∀ d B cs,G.L d=some B->ka G.h.iI d=some cs->vI G B cs
 kY:∀ b l,G.pi b=some l->l.B<G.w.heap.size/\b<G.h.size
 mK:∀ b b' l l',G.pi b=some l->G.pi b'=some l'->l.B=l'.B->b=b'
 qp:∀ s b l,G.pi b=some l->¬ G.T s l.B
 oE:∀ d d' B,G.L d=some B->G.L d'=some B->d=d'
 LT:∀ s d B,G.L d=some B->¬ G.T s B
 o9:∀ d B b l,G.L d=some B->G.pi b=some l->B≠l.B
 me:∀ d B,G.L d=some B->B<G.w.heap.size/\(ka G.h.iI d).isSome=true
 nc:∀ s B,G.T s B->B<G.w.heap.size
 lo:G.h.lo<=G.h.size
 lt:∀ b o,G.h.get b=some o->b<G.h.size
def PR.yV {G:Ga} {m:Bool} {v:AV} {u:Value} (h:PR G.w G.T m v u):VR G v u:=by
 have h':=h.G8
 clear h
 generalize hm:true=m' at h'
 induction h' with
 | undef m v h=>exact .undef v
 | bool m b=>exact .jE rfl (.bool _ b)
 | int m k n=>exact .jE rfl (.int _ k n)
 | str m s b h=>exact .jE rfl (.str _ s b h)
 | ky m=>exact .jE rfl (.ky _)
 | ip m cells off sn B base c e fr f hm' hB hB' hc h1 hr ih=>exact .jE rfl (.ip _ cells off sn B base c e fr f (λ_=>rfl) hB hB' hc h1 hr)
 | slnil m=>exact .jE rfl (.slnil _)
 | ng m cap a c hm' h=>exact .jE rfl (.ng _ cap a c (λ_=>rfl) h)
 | sl m xs cap B base c e fr cap' esz f hm' hB hB' hcap hle hz hc h1 hr ih=>exact .jE rfl (.sl _ xs cap B base c e fr cap' esz f (λ_=>rfl) hB hB' hcap hle hz hc h1 hr)
 | kJ m=>exact .jE rfl (.kJ _)
 | fm m es sn r ents clk hm' hB hB' hl hy hko hk hv ihk ihv=>exact .jE rfl (.fm _ es sn r ents clk (λ_=>rfl) hB hB' hl hy hko hk hv)
 | ly m=>exact .jE rfl (.ly _)
 | jQ m g a c a' c' ha hc hra hrc iha ihc=>exact .jQ g a c a' c' ha hc (PR.yH ha hra) (PR.yH hc hrc) (λi x y hx hy=>iha i x y hx hy hm) (λi x y hx hy=>ihc i x y hx hy hm)
 | agg m l vs hl h1 hr ih=>exact .agg l vs hl (PR.yH hl hr) h1 (λi x y hx hy=>ih i x y hx hy hm)
def PR.Ah {G:Ga} {m:Bool} {v:AV} {u:Value} (h:PR G.w G.T m v u):VC G v u:=⟨h.yV,h.mJ⟩
end Go.Sx
namespace Go.Sx
open Go
def I8:TypeDesc->Bool
 | .struct _ | .array _ _=>true
 | _=>false
def Vn (P:Program) (d:TypeDesc):TK->Prop
 | .bool=>d=.bool
 | .int k=>d=.int k
 | .str=>d=.string
 | .ptr=>∃ e,d=.pointer e
 | .slice e=>d=.slice e
 | .array n e=>d=.array n e
 | .map k e=>d=.map k e
 | .struct fs=>∃ F,d=.struct F/\fs=F.toList.map (λf=>(f.offset,f.type))/\∀ f∈F.toList,∃ i,P.info? f.type=some i/\i.size≠0
 | .func=>∃ a b c,d=.func a b c
 | .other=>True
def M9 {t:TK} {a:AV} (h:rM t a=true):uY a=true:=by
 cases t<;>cases a<;>simp_all [rM,uY]
def yo:∀ {ts:List TK} {l:List AV},fitAll ts l=true->∀ x∈l,uY x=true
 | [],[],_,x,hx=>by cases hx
 | t::ts,a::l,h,x,hx=>by
   simp only [fitAll,Bool.and_eq_true] at h
   rcases List.mem_cons.1 hx with rfl | hx
   ·exact M9 h.1
   ·exact yo h.2 x hx
 | [],_::_,h,_,_=>by cases h
 | _::_,[],h,_,_=>by cases h
structure nf (P:Program) (t:Nat) (ti:TI):Prop where
 info:∃ i z,P.info? t=some i/\i.size=ti.size/\i.bytes=ti.bytes/\i.zero=some z/\ti.zero=z.cells.toList.map E6/\z.cells.size=ti.size /\
  (∀ c∈z.cells.toList,c.oneCell'=true)/\(ti.agg=true->∃ cs,z=.agg cs)/\(ti.agg=false->z.oneCell'=true)
 desc:∃ d,P.underlying t=some d/\I8 d=ti.agg/\Vn P d ti.kind
 bytes:ti.bytes<=1048576
 guard:ti.flat=true->P.eqGuardType P.depth t=false
 flat:ti.flat=true->ti.agg=true->∀ (l m:List AV) (xs ys:Array Value) (b:Bool) (w:World) (T:Bool->Nat->Prop),fitAll ti.sc l=true->l.length=ti.size->m.length=ti.size ->
  PR w T true (.agg l) (.agg xs)->PR w T true (.agg m) (.agg ys)->mh l m=some b->(Op.equalIn 10000 t (.agg xs) (.agg ys)).run P w=.ok b w
 key:ti.flat=true->ti.agg=true->∀ (e:Bool) (xs:Array Value) (w:World),xs.size=ti.size->(Instr.checkKey e 10000 t (.agg xs)).run P w=.ok () w
structure kx (P:Program) (C:jZ):Prop where
 ty:∀ t ti,C.T t=some ti->nf P t ti
section runs
variable {P:Program} {t:Nat} {ti:TI}
theorem nf.isAgg (h:nf P t ti) (w:World):(isAgg t).run P w=.ok ti.agg w:=by
 obtain ⟨d,hd,ha,_⟩:=h.desc
 unfold Go.isAgg
 rw [Sem.run_bind,run_underlying hd w]
 rw [<- ha]
 cases d<;>rfl
theorem nf.sizeOf (h:nf P t ti) (w:World):(sizeOf t).run P w=.ok ti.size w:=by
 obtain ⟨i,z,hi,hs,_⟩:=h.info
 simp [Go.sizeOf,typeInfo,hi,hs]
def nf.Mx (h:nf P t ti):(P.info? t).map (·.size)=some ti.size:=by
 obtain ⟨i,z,hi,hs,_⟩:=h.info
 grind
def zk (R:AV->Value->Prop) (cs:List AV) (c:Array Value) (base:Nat):Prop :=
 ∀ i x,cs[i]?=some x->∃ u,c[base+i]?=some u/\u.oneCell'=true/\R x u
theorem pj (B o n:Nat):(⟨B,o,none⟩:Addr).add n=⟨B,o+n,none⟩:=by
 grind [Addr.add]
theorem Db (w:World) (B base:Nat) (c:Array Value) (e:TypeId) (fr:Nat×Nat) (hB:w.heap[B]?=some (.cells c e fr)) (n:Nat) (hn:base+n<=c.size) :
  (loadCells ⟨B,base,none⟩ n).run P w=.ok (c.extract base (base+n)) w:=by
 have h:=run_loadCells_list (P:=P) w ⟨B,base,none⟩ (c.extract base (base+n)).toList (λj v hv=>by
  rw [pj,cell_of_row w B (base+j) c e fr hB]
  grind)
 have hl:(c.extract base (base+n)).toList.length=n:=by grind
 rw [hl,Array.toArray_toList] at h
 exact h
def z8 {cs:List AV} {o:Nat} {l:List AV} (ha:ti.agg=true) (hp:part ti cs o=some (.agg l)):l=(cs.drop o).take ti.size/\l.length=ti.size/\(ti.size=0\/o+ti.size<=cs.length):=by
 simp only [part,ha,p3,Bv] at hp
 split at hp
 ·rename_i hb
  simp only [Option.some.injEq,AV.agg.injEq] at hp
  subst hp
  simp only [Nat.beq_eq] at hb
  grind
 grind
def Gl (hT:nf P t ti) {w:World} {B base o:Nat} {c:Array Value} {e:TypeId} {fr:Nat×Nat} {R:AV->Value->Prop} {cs:List AV} {v:AV}
  (hB:w.heap[B]?=some (.cells c e fr)) (hU:zk R cs c base) (hp:part ti cs o=some v) :
  ∃ u,(loadVar t ⟨B,base+o,none⟩).run P w=.ok u w /\
    ((∃ l vs,ti.agg=true/\v=.agg l/\u=.agg vs/\l.length=ti.size/\l.length=vs.size/\(∀ (i:Nat) (y:Value),vs[i]?=some y->y.oneCell'=true)/\∀ (i:Nat) (x:AV) (y:Value),l[i]?=some x->vs[i]?=some y->R x y)
      \/ (ti.agg=false/\u.oneCell'=true/\R v u)):=by
 cases ha:ti.agg with
 | false =>
   simp only [part,ha] at hp
   obtain ⟨u,hu,h1,hr⟩:=hU o v hp
   refine ⟨u,?_,.inr ⟨rfl,h1,hr⟩⟩
   unfold loadVar
   rw [Sem.run_bind,hT.isAgg,ha]
   simp [cell_of_row w B (base+o) c e fr hB,hu]
 | true =>
   have hv:∃ l,v=.agg l:=by
    grind [part,p3,Bv]
   obtain ⟨l,rfl⟩:=hv
   obtain ⟨hl,hlen,hle⟩:=z8 ha hp
   have hbase:ti.size=0\/base+o+ti.size<=c.size:=by
    rcases hle with h0 | hle
    ·omega
    ·by_cases hz:ti.size=0
     ·omega
     ·right
      have hi:o+ti.size - 1<cs.length:=by omega
      obtain ⟨u,hu,_⟩:=hU (o+ti.size - 1) cs[o+ti.size - 1] (by simp [hi])
      grind
   by_cases hz:ti.size=0
   ·have hl0:l=[]:=by grind
    subst hl0
    refine ⟨.agg #[],?_,.inl ⟨[],#[],rfl,rfl,rfl,by simp [hz],rfl,by simp,by simp⟩⟩
    unfold loadVar
    rw [Sem.run_bind,hT.isAgg,ha]
    simp [hT.sizeOf,hz,loadCells,loadCellsFrom]
   ·have hb:=hbase.resolve_left hz
    refine ⟨.agg (c.extract (base+o) (base+o+ti.size)),?_,.inl ⟨l,_,rfl,rfl,rfl,hlen,?_,?_,?_⟩⟩
    ·unfold loadVar
     rw [Sem.run_bind,hT.isAgg,ha]
     simp [hT.sizeOf,Db w B (base+o) c e fr hB ti.size hb]
    ·grind
    ·intro i y hy
     rw [Array.getElem?_extract] at hy
     split at hy
     ·rename_i hi
      have hi':o+i<cs.length:=by omega
      obtain ⟨u,hu,h1,_⟩:=hU (o+i) cs[o+i] (by simp)
      grind
     grind
    ·intro i x y hx hy
     rw [Array.getElem?_extract] at hy
     split at hy
     ·rename_i hi
      rw [hl,List.getElem?_take,List.getElem?_drop] at hx
      split at hx
      ·obtain ⟨u,hu,h1,hr⟩:=hU (o+i) x hx
       grind
      omega
     grind
end runs
end Go.Sx
namespace Go.Sx
open Go
section
variable {P:Program} {C:jZ} {G:Ga} {t:Nat} {ti:TI}
def VR.uH {l:List AV} {u:Value} (h:VR G (.agg l) u):∃ vs,u=.agg vs/\l.length=vs.size/\(∀ (i:Nat) (y:Value),vs[i]?=some y->y.oneCell'=true) /\
  ∀ (i:Nat) (x:AV) (y:Value),l[i]?=some x->vs[i]?=some y->VC G x y:=by
 cases h with
 | jE hp _=>simp [AV.kL] at hp
 | agg l vs hl hn h1 hr=>exact ⟨vs,rfl,hl,h1,λi x y hx hy=>⟨hr i x y hx hy,hn x (List.mem_of_getElem? hx)⟩⟩
theorem VR.of_int {k:IntKind} {n:Int} {u:Value} (h:VR G (.int k n) u):u=.int k n:=by
 cases h with
 | jE _ h=>cases h; rfl
theorem VR.of_bool {b:Bool} {u:Value} (h:VR G (.bool b) u):u=.bool b:=by
 cases h with
 | jE _ h=>cases h; rfl
def VR.sL {s:List UInt8} {u:Value} (h:VR G (.str s) u):∃ b,u=.string b/\b.data.toList=s:=by
 cases h with
 | jE _ h=>cases h<;>grind
theorem VR.int (k:IntKind) (n:Int):VR G (.int k n) (.int k n):=.jE rfl (.int _ k n)
theorem VR.bool (b:Bool):VR G (.bool b) (.bool b):=.jE rfl (.bool _ b)
theorem VR.str {s:List UInt8} {b:ByteArray} (h:b.data.toList=s):VR G (.str s) (.string b):=.jE rfl (.str _ s b h)
def int?_eq {v:AV} {k:IntKind} {n:Int} (h:v.int?=some (k,n)):v=.int k n:=by
 cases v<;>simp [AV.int?] at h
 grind
theorem bool?_eq {v:AV} {b:Bool} (h:v.bool?=some b):v=.bool b:=by
 cases v<;>simp [AV.bool?] at h
 grind
def str?_eq {v:AV} {b:List UInt8} (h:v.str?=some b):v=.str b:=by
 cases v<;>simp [AV.str?] at h
 grind
def agg?_eq {v:AV} {b:List AV} (h:v.agg?=some b):v=.agg b:=by
 cases v<;>simp [AV.agg?] at h
 grind
def xK {v:AV} {n:Nat} (h:p9 v=some n):∃ k,v=.int k (n:Int):=by
 unfold p9 at h
 split at h
 ·rename_i k m hm
  have:=int?_eq hm
  subst this
  cases m<;>grind [Wq]
 ·cases h
def VC.yH {l:List AV} {vs:Array Value} (hl:l.length=vs.size) (h:∀ (i:Nat) (x:AV) (y:Value),l[i]?=some x->vs[i]?=some y->VC G x y):∀ x∈l,x.mJ=true:=by
 intro x hx
 obtain ⟨i,hi⟩:=List.getElem?_of_mem hx
 have hlt:i<vs.size:=by grind
 exact (h i x vs[i] hi (by simp)).na
def VR.DJ {l:List AV} {vs:Array Value} {R:AV->Value->Prop} (hR:∀ x y,R x y->VC G x y) (hl:l.length=vs.size)
  (h1:∀ (i:Nat) (y:Value),vs[i]?=some y->y.oneCell'=true) (hr:∀ (i:Nat) (x:AV) (y:Value),l[i]?=some x->vs[i]?=some y->R x y):VR G (.agg l) (.agg vs) :=
 .agg l vs hl (VC.yH hl λi x y hx hy=>hR x y (hr i x y hx hy)) h1 λi x y hx hy=>(hR x y (hr i x y hx hy)).vr
def Shaped (ti:TI) (v:AV) (u:Value):Prop :=
 (ti.agg=true/\∃ l vs,v=.agg l/\u=.agg vs/\l.length=ti.size/\vs.size=ti.size)\/(ti.agg=false/\u.oneCell'=true)
def xJ {R:AV->Value->Prop} (hR:∀ x y,R x y->VC G x y) (hT:nf P t ti) {B base o:Nat} {c:Array Value} {e:TypeId} {fr:Nat×Nat} {cs:List AV} {v:AV}
  (hB:G.w.heap[B]?=some (.cells c e fr)) (hU:zk R cs c base) (hp:part ti cs o=some v) :
  ∃ u,(loadVar t ⟨B,base+o,none⟩).run P G.w=.ok u G.w/\VR G v u/\Shaped ti v u:=by
 obtain ⟨u,hu,h | h⟩:=Gl hT hB hU hp
 ·obtain ⟨l,vs,ha,rfl,rfl,hlen,hl,h1,hr⟩:=h
  exact ⟨_,hu,VR.DJ hR hl h1 hr,.inl ⟨ha,l,vs,rfl,rfl,hlen,by omega⟩⟩
 ·obtain ⟨ha,h1,hr⟩:=h
  exact ⟨u,hu,(hR _ _ hr).vr,.inr ⟨ha,h1⟩⟩
def B8 (hW:WR G) (hT:nf P t ti) {av v:AV} {a:Value} (hv:VR G av a) (h:sG av G.h ti=some v) :
  ∃ u,(Instr.loadAt t a).run P G.w=.ok u G.w/\VR G v u/\Shaped ti v u:=by
 unfold sG at h
 split at h
 ·
  rename_i d o
  cases hv with
  | jE hp _=>simp [AV.kL] at hp
  | la _ _ B hd =>
    unfold M5 at h
    split at h
    ·rename_i cs hcs
     obtain ⟨c,e,hB,hs,hr,h1⟩:=hW.loc d B cs hd hcs
     have hU:zk (VC G) cs c 0:=by
      intro i x hx
      have hi:i<c.size:=by grind
      refine ⟨c[i],by simp [hi],h1 i c[i] (by simp [hi]),hr i x c[i] hx (by simp [hi])⟩
     obtain ⟨u,hu,hvu,hs⟩:=xJ (P:=P) (λ_ _ h=>h) hT hB hU h
     grind [Instr.loadAt,Instr.sureAddr]
    ·cases h
 ·
  rename_i cs o s
  cases hv with
  | jE _ h' =>
    cases h' with
    | ip _ _ _ _ B base c e fr f hm hB hI hc h1 hr =>
      have hU:zk (λx y=>PR G.w G.T s x y) cs c base:=by
       intro i x hx
       grind
      obtain ⟨u,hu,hvu,hs⟩:=xJ (P:=P) (λ_ _ h=>PR.Ah h) hT hB hU h
      grind [Instr.loadAt,Instr.sureAddr]
 ·
  rename_i b g i o
  cases hv with
  | jE hp _=>simp [AV.kL] at hp
  | ptr _ _ _ _ a hb hg hl =>
    unfold Bt at h
    split at h
    ·rename_i g' z xs hget
     split at h
     ·rename_i hgg
      have hgg:=Nat.eq_of_beq_eq_true hgg
      subst hgg
      split at h
      ·rename_i cs hcs
       obtain ⟨l,hpi,ha⟩:=hl z xs hget
       subst ha
       obtain ⟨c,e,hB,hcap,hsz,hz,hr⟩:=hW.iQ b l g z xs hpi hget
       have hU:zk (VC G) cs c (l.base+i*z):=by
        intro j x hx
        grind
       obtain ⟨u,hu,hvu,hs⟩:=xJ (P:=P) (λ_ _ h=>h) hT hB hU h
       grind [Instr.loadAt,Instr.sureAddr]
      ·cases h
     ·cases h
    ·cases h
 ·cases h
def BT {av v:AV} {a:Value} {k:Nat} (hv:VR G av a) (h:Cz av k=some v):∃ x,a=.pointer (some x)/\VR G v (.pointer (some (x.add k))):=by
 unfold Cz at h
 split at h
 ·rename_i d o
  simp only [UX,nH,Option.some.injEq] at h
  subst h
  cases hv with
  | jE hp _=>simp [AV.kL] at hp
  | la _ _ B hd=>exact ⟨_,rfl,by rw [pj]; exact .la d (o+k) B hd⟩
 ·rename_i cs o s
  simp only [Nd,nH,Option.some.injEq] at h
  subst h
  cases hv with
  | jE _ h' =>
    cases h' with
    | ip _ _ _ _ B base c e fr f hm hB hI hc h1 hr =>
      refine ⟨_,rfl,?_⟩
      rw [pj,Nat.add_assoc]
      exact .jE rfl (.ip _ cs (o+k) s B base c e fr f hm hB hI hc h1 hr)
 ·rename_i b g i o
  simp only [Du,nH,Option.some.injEq] at h
  subst h
  cases hv with
  | jE hp _=>simp [AV.kL] at hp
  | ptr _ _ _ _ a hb hg hl =>
    refine ⟨_,rfl,.ptr b g i (o+k) _ hb hg ?_⟩
    grind [pj]
 ·cases h
def Bb (hC:kx P C) {av:AV} {a:Value} {f:Nat} {r:AV×aT} (hv:VR G av a) (h:p8 C G.h t av f=some r) :
  r.2=G.h/\∃ u,(Instr.fieldAt t a f).run P G.w=.ok u G.w/\VR G r.1 u/\u.oneCell'=true:=by
 unfold p8 at h
 split at h
 ·cases h
 ·rename_i ti hti
  split at h
  ·rename_i fs hk
   split at h
   ·rename_i off ft hf
    unfold kV at h
    split at h
    ·rename_i v hv'
     simp only [Option.some.injEq] at h
     subst h
     obtain ⟨d,hd,ha,hko⟩:=(hC.ty t ti hti).desc
     rw [hk] at hko
     obtain ⟨F,rfl,hfs,hsz⟩:=hko
     subst hfs
     simp only [List.getElem?_map,Array.getElem?_toList,Option.map_eq_some_iff] at hf
     obtain ⟨fl,hfl,he⟩:=hf
     simp only [Prod.mk.injEq] at he
     obtain ⟨rfl,rfl⟩:=he
     obtain ⟨x,rfl,hx⟩:=BT hv hv'
     refine ⟨rfl,.pointer (some (x.add fl.offset)),?_,hx,rfl⟩
     obtain ⟨i,hi,hne⟩:=hsz fl (by
      grind)
     simp_all [Instr.fieldAt,run_underlying,Instr.sureAddr,fieldPlace,Go.sizeOf,typeInfo]
    ·cases h
   ·cases h
  ·cases h
end
end Go.Sx
namespace Go.Sx
open Go
def mL (P:Program) (G:Ga) (s:Sem Value) (r:AV×aT):Prop :=
 r.2=G.h/\∃ u,s.run P G.w=.ok u G.w/\VR G r.1 u
section
variable {P:Program} {C:jZ} {G:Ga} {t:Nat} {ti:TI}
theorem mi {h:aT} {o:Option AV} {r:AV×aT} (e:kV h o=some r):∃ v,o=some v/\r=(v,h):=by
 unfold kV at e
 grind
def Je {c a b:AV} {c' a' b':Value} {r:AV×aT} (hc:VR G c c') (ha:VR G a a') (hb:VR G b b') (h:DK G.h c a b=some r) :
  mL P G (do pure (if <- asBool c' then a' else b')) r:=by
 unfold DK at h
 split at h
 ·rename_i hb'
  cases h
  have:=bool?_eq hb'; subst this
  have:=hc.of_bool; subst this
  exact ⟨rfl,a',by rfl,ha⟩
 ·rename_i hb'
  cases h
  have:=bool?_eq hb'; subst this
  have:=hc.of_bool; subst this
  exact ⟨rfl,b',by rfl,hb⟩
 ·cases h
def Bw {l:List AV} {vs:Array Value} {o:Nat} {v:AV} (hT:nf P t ti) (hl:l.length=vs.size) (h1:∀ (i:Nat) (y:Value),vs[i]?=some y->y.oneCell'=true)
  (hr:∀ (i:Nat) (x:AV) (y:Value),l[i]?=some x->vs[i]?=some y->VC G x y) (hp:Sx.part ti l o=some v) :
  ∃ u,(Go.part t vs o).run P G.w=.ok u G.w/\VR G v u:=by
 have hU:zk (VC G) l vs 0:=by
  intro i x hx
  have hi:i<vs.size:=by grind
  exact ⟨vs[i],by simp [hi],h1 i _ (by simp [hi]),hr i x _ hx (by simp [hi])⟩
 cases ha:ti.agg with
 | false =>
   simp only [Sx.part,ha] at hp
   obtain ⟨u,hu,_,hx⟩:=hU o v hp
   refine ⟨u,?_,hx.vr⟩
   unfold Go.part
   rw [Sem.run_bind,hT.isAgg,ha]
   simp_all
 | true =>
   have hv:∃ m,v=.agg m:=by
    grind [Sx.part,p3,Bv]
   obtain ⟨m,rfl⟩:=hv
   obtain ⟨hm,hlen,hle⟩:=z8 ha hp
   refine ⟨.agg (vs.extract o (o+ti.size)),?_,?_⟩
   ·unfold Go.part
    rw [Sem.run_bind,hT.isAgg,ha]
    simp [hT.sizeOf]
   ·refine VR.DJ (R:=VC G) (λ_ _ h=>h) ?_ ?_ ?_
    ·grind
    ·intro i y hy
     rw [Array.getElem?_extract] at hy
     grind
    grind
def Gb (hC:kx P C) {x:AV} {x':Value} {f:Nat} {r:AV×aT} (hx:VR G x x') (h:BX C G.h t x f=some r):mL P G (Instr.field t x' f) r:=by
 unfold BX at h
 split at h
 ·cases h
 ·rename_i ti hti
  split at h
  ·rename_i fs hk
   split at h
   ·rename_i off ft hf
    split at h
    ·rename_i cs hcs
     split at h
     ·rename_i tf htf
      obtain ⟨v,hv,rfl⟩:=mi h
      have:=agg?_eq hcs; subst this
      obtain ⟨vs,rfl,hl,h1,hr⟩:=hx.uH
      obtain ⟨d,hd,ha,hko⟩:=(hC.ty t ti hti).desc
      rw [hk] at hko
      obtain ⟨F,rfl,hfs,hsz⟩:=hko
      subst hfs
      simp only [List.getElem?_map,Array.getElem?_toList,Option.map_eq_some_iff] at hf
      obtain ⟨fl,hfl,he⟩:=hf
      simp only [Prod.mk.injEq] at he
      obtain ⟨rfl,rfl⟩:=he
      obtain ⟨u,hu,hvu⟩:=Bw (hC.ty _ tf htf) hl h1 hr hv
      refine ⟨rfl,u,?_,hvu⟩
      simp_all [Instr.field,run_underlying,Go.asAgg]
     ·cases h
    ·cases h
   ·cases h
  ·cases h
def Di {x:AV} {x':Value} {i:Nat} {r:AV×aT} (hx:VR G x x') (h:xa G.h x i=some r):mL P G (Instr.extract x' i) r:=by
 unfold xa at h
 split at h
 ·rename_i vs
  obtain ⟨v,hv,rfl⟩:=mi h
  cases hx with
  | jE hp _=>simp [AV.kL] at hp
  | jl _ vs' hl hr =>
    have hi:i<vs'.size:=by grind
    exact ⟨rfl,vs'[i],by simp [Instr.extract,hi],hr i v _ hv (by simp [hi])⟩
 ·cases h
def EY {x v:AV} {x':Value} (hx:VR G x x') (h:Cf x=some v) :
  VR G v x'/\((∃ a,x'=.pointer (some a))\/∃ g a c,x'=.func (.func g) a c):=by
 unfold Cf at h
 split at h
 ·cases h
  cases hx with
  | jE hp _=>simp [AV.kL] at hp
  | ptr _ _ _ _ a hb hg hl=>exact ⟨.ptr _ _ _ _ a hb hg hl,.inl ⟨_,rfl⟩⟩
 ·cases h
  refine ⟨hx,.inl ?_⟩
  cases hx with
  | jE _ h'=>cases h'<;>grind
 ·cases h
  refine ⟨hx,.inl ?_⟩
  cases hx<;>grind [AV.kL]
 ·cases h
  refine ⟨hx,.inr ?_⟩
  cases hx<;>grind [AV.kL]
 ·cases h
theorem Ak (b:Bool):tK b=some (.bool !b):=by cases b<;>rfl
theorem Ai {op:BinOp} {k:IntKind} {x y:Int} (xT:TypeId) (h:op=.add\/op=.sub\/op=.mul) :
  (Go.binOp op xT (.int k x) (.int k y)).run P G.w=(Op.intArith op k x y).run P G.w:=by
 grind [Go.binOp]
theorem La {op:BinOp} {k:IntKind} {x y:Int} (xT:TypeId) (h:op=.quo\/op=.rem) :
  (Go.binOp op xT (.int k x) (.int k y)).run P G.w=(Op.intDiv op k x y).run P G.w:=by
 grind [Go.binOp]
theorem zE {op:BinOp} {k:IntKind} {x y:Int} (xT:TypeId) (h:op=.and\/op=.or\/op=.xor\/op=.andNot) :
  (Go.binOp op xT (.int k x) (.int k y)).run P G.w=(Op.intBits op k x y).run P G.w:=by
 grind [Go.binOp]
theorem wW {op:BinOp} {k:IntKind} {x y:Int} (xT:TypeId) (h:op=.eql\/op=.neq\/op=.lss\/op=.leq\/op=.gtr\/op=.geq) :
  (Go.binOp op xT (.int k x) (.int k y)).run P G.w=(Op.intCmp op x y).run P G.w:=by
 grind [Go.binOp]
def Fh {op:BinOp} {k:IntKind} {x y:Int} {v:AV} (h:l9 op k x y=some v) (hs:ue op=false) (xT:TypeId) :
  ∃ u,(Go.binOp op xT (.int k x) (.int k y)).run P G.w=.ok u G.w/\VR G v u:=by
 cases op<;>simp only [ue,Bool.true_eq_false] at hs<;>simp only [l9,Ht,JW,TD,Rj,Pq,IT,HX,I0,Ic,Ho,Hn,Tt,Wf,DG,Es,Vy,tG,w8,oi,Av,Ak,qS,Cv,CA,qC,wS,reduceCtorEq] at h
 case add=>cases h; rw [Ai xT (by simp)]; exact ⟨_,rfl,VR.int _ _⟩
 case sub=>cases h; rw [Ai xT (by simp)]; exact ⟨_,rfl,by grind [VR.int]⟩
 case mul=>cases h; rw [Ai xT (by simp)]; exact ⟨_,rfl,VR.int _ _⟩
 case quo =>
  split at h
  ·cases h
  ·rename_i hy
   cases h; simp_all [La,Op.intDiv,VR.int]
 case rem =>
  split at h
  ·cases h
  ·rename_i hy
   cases h; simp_all [La,Op.intDiv,VR.int]
 case and=>cases h; rw [zE xT (by simp)]; exact ⟨_,rfl,VR.int _ _⟩
 case or=>cases h; rw [zE xT (by simp)]; exact ⟨_,rfl,VR.int _ _⟩
 case xor=>cases h; rw [zE xT (by simp)]; exact ⟨_,rfl,VR.int _ _⟩
 case andNot=>cases h; rw [zE xT (by simp)]; exact ⟨_,rfl,VR.int _ _⟩
 case eql=>cases h; rw [wW xT (by simp)]; exact ⟨_,rfl,VR.bool _⟩
 case neq=>cases h; rw [wW xT (by simp)]; exact ⟨_,rfl,VR.bool _⟩
 case lss =>
  cases h; rw [wW xT (by simp)]
  refine ⟨_,rfl,?_⟩
  have e:(!decide (y<=x))=decide (x<y):=by grind
  rw [e]; exact VR.bool _
 case leq=>cases h; rw [wW xT (by simp)]; exact ⟨_,rfl,VR.bool _⟩
 case gtr =>
  cases h; rw [wW xT (by simp)]
  refine ⟨_,rfl,?_⟩
  have e:(!decide (x<=y))=decide (x > y):=by grind
  rw [e]; exact VR.bool _
 case geq=>cases h; rw [wW xT (by simp)]; exact ⟨_,rfl,VR.bool _⟩
theorem Up (k k':IntKind) (x y:Int) (xT:TypeId) (w:World) (hy:¬ y<0) :
  (Go.binOp .shl xT (.int k x) (.int k' y)).run P w=.ok (.int k (k.wrap (x*2 ^ (min y.toNat k.bits)))) w:=by
 show (Op.shift .shl k x k' y).run P w = _
 unfold Op.shift
 rw [if_neg hy]
 rfl
theorem TT (k k':IntKind) (x y:Int) (xT:TypeId) (w:World) (hy:¬ y<0) :
  (Go.binOp .shr xT (.int k x) (.int k' y)).run P w=.ok (.int k (x.fdiv (2 ^ (min y.toNat k.bits)))) w:=by
 show (Op.shift .shr k x k' y).run P w = _
 unfold Op.shift
 rw [if_neg hy]
 rfl
def Gc {op:BinOp} {k k':IntKind} {x y:Int} {v:AV} (h:l9 op k x y=some v) (hs:ue op=true) (xT:TypeId) :
  ∃ u,(Go.binOp op xT (.int k x) (.int k' y)).run P G.w=.ok u G.w/\VR G v u:=by
 cases op<;>simp only [ue,Bool.false_eq_true] at hs
 ·have h:(if y<0 then none else fI (ry k (x*2 ^ (min y.toNat k.bits))) (oi k))=some v:=h
  rw [tG,qS] at h
  split at h
  ·cases h
  ·rename_i hy
   cases h
   simp_all [Up,VR.int]
 ·have h:(if y<0 then none else fI (x.fdiv (2 ^ (min y.toNat k.bits))) (oi k))=some v:=h
  rw [tG] at h
  split at h
  ·cases h
  ·rename_i hy
   cases h
   simp_all [TT,VR.int]
theorem bytesLess_eq:∀ (x y:List UInt8),bytesLess x y=Op.bytesLess x y
 | _,[]=>by simp [bytesLess,Op.bytesLess]
 | [],_::_=>by rfl
 | a::x,b::y=>by simp [bytesLess,Op.bytesLess,bytesLess_eq x y]
theorem u0 {b:ByteArray} {s:List UInt8} (h:b.data.toList=s):b.size=s.length:=by
 subst h; rfl
theorem toList_data (b:ByteArray):b.toList=b.data.toList:=ByteArray.toList_eq b
def Eg {op:BinOp} {x y:List UInt8} {bx by':ByteArray} {v:AV} (hx:bx.data.toList=x) (hy:by'.data.toList=y)
  (h:B2 op x y=some v) (xT:TypeId):∃ u,(Go.binOp op xT (.string bx) (.string by')).run P G.w=.ok u G.w/\VR G v u:=by
 have hb:∀ o:BinOp,(Go.binOp o xT (.string bx) (.string by')).run P G.w=(Op.stringOp o bx by').run P G.w:=by
  intro o; cases o<;>rfl
 rw [hb]
 unfold Op.stringOp
 simp only [toList_data,hx,hy,<- bytesLess_eq]
 cases op<;>simp only [B2,reduceCtorEq,p3] at h
 case add =>
  split at h
  ·rename_i hle
   cases h
   have hle:=Nat.le_of_ble_eq_true hle
   have hm:IntKind.i64.max=9223372036854775807:=by decide
   rw [if_neg (by grind [u0])]
   simp_all [VR.str]
  ·cases h
 all_goals
  cases h
  exact ⟨_,rfl,VR.bool _⟩
def vi {x:AV} {x':Value} {b:Bool} (h:Md x=some b) (hx:VR G x x'):∃ a,x'=.pointer a/\a.isNone=b:=by
 unfold Md at h
 split at h<;>simp only [Option.some.injEq,reduceCtorEq] at h<;>subst h
 ·cases hx with
  | jE _ h=>cases h<;>grind
 ·cases hx<;>grind [AV.kL]
 ·cases hx with
  | jE _ h=>cases h<;>grind
 ·cases hx<;>grind [AV.kL]
def vd {x:AV} {x':Value} {b:Bool} (h:Nl x=some b) (hx:VR G x x'):∃ a n c,x'=.slice a n c/\a.isNone=b:=by
 unfold Nl at h
 split at h<;>simp only [Option.some.injEq,reduceCtorEq] at h<;>subst h
 ·cases hx with
  | jE _ h=>cases h with
    | slnil=>simp
    | ng _ _ _ _ _ hc=>cases hc
    | sl _ _ _ _ _ _ _ _ _ _ _ _ _ _ hc=>cases hc
 ·rename_i hne
  cases hx with
  | jE _ h=>cases h<;>grind
 ·cases hx<;>grind [AV.kL]
def vm {x:AV} {x':Value} {b:Bool} (h:MG x=some b) (hx:VR G x x'):∃ a,x'=.map a/\a.isNone=b:=by
 unfold MG at h
 split at h<;>simp only [Option.some.injEq,reduceCtorEq] at h<;>subst h
 ·cases hx with
  | jE _ h=>cases h<;>grind
 ·cases hx<;>grind [AV.kL]
 ·cases hx with
  | jE _ h=>cases h<;>grind
def vn {x:AV} {x':Value} {b:Bool} (h:Nc x=some b) (hx:VR G x x'):(b=true/\x'=.nilFunc)\/(b=false/\∃ f a c,x'=.func f a c):=by
 unfold Nc at h
 split at h<;>simp only [Option.some.injEq,reduceCtorEq] at h<;>subst h
 ·cases hx with
  | jE _ h=>cases h<;>grind
 ·cases hx<;>grind [AV.kL]
def VR.GP {l:List AV} {vs:Array Value} (h:VR G (.agg l) (.agg vs)) (hs:∀ x∈l,∃ b,mz x x=some b):PR G.w G.T true (.agg l) (.agg vs):=by
 obtain ⟨vs',e,hl,h1,hr⟩:=h.uH
 cases e
 refine .agg _ l vs hl h1 ?_
 intro i x y hx hy
 obtain ⟨b,hb⟩:=hs x (List.mem_of_getElem? hx)
 have:=(hr i x y hx hy).vr
 cases this with
 | jE _ h=>exact h
 | undef=>simp [mz,pT] at hb
 | ptr=>simp [mz,pT] at hb
 | hs=>simp [mz,pT] at hb
 | hm=>simp [mz,pT] at hb
 | la=>simp [mz,pT] at hb
 | jQ=>simp [mz,pT] at hb
 | agg=>simp [mz,pT] at hb
 | jl=>simp [mz,pT] at hb
def Kj {x y:AV} {b:Bool} (h:mz x y=some b):(∃ b,mz x x=some b)/\∃ b,mz y y=some b:=by
 cases x<;>simp only [mz,pT,yS,vE,y8,reduceCtorEq] at h<;>cases y<;>simp only [AV.bool?,AV.int?,AV.str?,reduceCtorEq] at h
 ·exact ⟨⟨_,rfl⟩,⟨_,rfl⟩⟩
 ·refine ⟨?_,?_⟩<;>simp [mz,vE,AV.int?,(rl _ _).2 rfl]
 ·exact ⟨⟨_,rfl⟩,⟨_,rfl⟩⟩
def CV:∀ {l m:List AV} {b:Bool},mh l m=some b->(∀ x∈l,∃ b,mz x x=some b)/\∀ x∈m,∃ b,mz x x=some b
 | [],[],_,_=>by simp
 | [],_::_,_,h=>by cases h
 | _::_,[],_,h=>by cases h
 | a::x,b::y,c,h=>by
   simp only [mh] at h
   have hrest:∃ d,mh x y=some d/\∃ e,mz a b=some e:=by
    split at h
    ·rename_i he; exact ⟨_,h,_,he⟩
    ·rename_i he
     split at h
     ·rename_i hd; exact ⟨_,hd,_,he⟩
     ·cases h
    ·cases h
   obtain ⟨d,hd,e,he⟩:=hrest
   obtain ⟨h1,h2⟩:=CV hd
   obtain ⟨k1,k2⟩:=Kj he
   constructor
   ·intro z hz
    rcases List.mem_cons.1 hz with rfl | hz
    ·exact k1
    ·exact h1 z hz
   ·intro z hz
    rcases List.mem_cons.1 hz with rfl | hz
    ·exact k2
    ·exact h2 z hz
end
end Go.Sx
namespace Go.Sx
open Go
section
variable {P:Program} {C:jZ} {G:Ga} {t:Nat} {ti:TI}
theorem MF (op:BinOp) (ox oy:Operand) (k k':IntKind) (a b:Int) (w:World):(eqGuard op t ox oy (.int k a) (.int k' b)).run P w=.ok () w:=by cases op<;>rfl
theorem Mv (op:BinOp) (ox oy:Operand) (a b:ByteArray) (w:World):(eqGuard op t ox oy (.string a) (.string b)).run P w=.ok () w:=by cases op<;>rfl
def Np (op:BinOp) (ox oy:Operand) (a b:Bool) (w:World):(eqGuard op t ox oy (.bool a) (.bool b)).run P w=.ok () w:=by cases op<;>rfl
def EC (op:BinOp) (ox oy:Operand) (a b:Option Addr) (w:World):(eqGuard op t ox oy (.pointer a) (.pointer b)).run P w=.ok () w:=by cases op<;>rfl
def DQ (op:BinOp) (ox oy:Operand) (a b:Option Nat) (w:World):(eqGuard op t ox oy (.map a) (.map b)).run P w=.ok () w:=by cases op<;>rfl
def EI (op:BinOp) (ox oy:Operand) (a b:Option Addr) (n c m d:Nat) (w:World):(eqGuard op t ox oy (.slice a n c) (.slice b m d)).run P w=.ok () w:=by cases op<;>rfl
def FK (op:BinOp) (ox oy:Operand) (y:Value) (w:World):(eqGuard op t ox oy .nilFunc y).run P w=.ok () w:=by cases op<;>rfl
def Oh (op:BinOp) (ox oy:Operand) (f:Fn) (a c:Array Value) (y:Value) (w:World):(eqGuard op t ox oy (.func f a c) y).run P w=.ok () w:=by cases op<;>rfl
theorem U7 (d:Nat) {e:TypeId} (h:P.underlying t=some (.pointer e)) (b:Option Addr) (w:World):(Op.equalIn (d+1) t (.pointer none) (.pointer b)).run P w=.ok b.isNone w:=by
 simp [Op.equalIn,run_underlying h]
theorem VX (d:Nat) {e:TypeId} (h:P.underlying t=some (.pointer e)) (a:Addr) (w:World):(Op.equalIn (d+1) t (.pointer (some a)) (.pointer none)).run P w=.ok false w:=by
 simp [Op.equalIn,run_underlying h]
theorem VF (d:Nat) {e:TypeId} (h:P.underlying t=some (.slice e)) (b:Option Addr) (n c m k:Nat) (w:World):(Op.equalIn (d+1) t (.slice none n c) (.slice b m k)).run P w=.ok b.isNone w:=by
 simp [Op.equalIn,run_underlying h]
theorem WW (d:Nat) {e:TypeId} (h:P.underlying t=some (.slice e)) (a:Addr) (n c m k:Nat) (w:World):(Op.equalIn (d+1) t (.slice (some a) n c) (.slice none m k)).run P w=.ok false w:=by
 simp [Op.equalIn,run_underlying h]
theorem UW (d:Nat) {e e':TypeId} (h:P.underlying t=some (.map e e')) (b:Option Nat) (w:World):(Op.equalIn (d+1) t (.map none) (.map b)).run P w=.ok b.isNone w:=by
 simp [Op.equalIn,run_underlying h]
theorem V1 (d:Nat) {e e':TypeId} (h:P.underlying t=some (.map e e')) (a:Nat) (w:World):(Op.equalIn (d+1) t (.map (some a)) (.map none)).run P w=.ok false w:=by
 simp [Op.equalIn,run_underlying h]
def UJ (d:Nat) {p q:Array TypeId} {r:Bool} (h:P.underlying t=some (.func p q r)) (w:World):(Op.equalIn (d+1) t .nilFunc .nilFunc).run P w=.ok true w:=by
 simp [Op.equalIn,run_underlying h]
def Xi (d:Nat) {p q:Array TypeId} {r:Bool} (h:P.underlying t=some (.func p q r)) (f:Fn) (a c:Array Value) (w:World):(Op.equalIn (d+1) t .nilFunc (.func f a c)).run P w=.ok false w:=by
 simp [Op.equalIn,run_underlying h]
def Uq (d:Nat) {p q:Array TypeId} {r:Bool} (h:P.underlying t=some (.func p q r)) (f:Fn) (a c:Array Value) (w:World):(Op.equalIn (d+1) t (.func f a c) .nilFunc).run P w=.ok false w:=by
 simp [Op.equalIn,run_underlying h]
def oW {x y:Value} {b:Bool} {w:World} (he:(Op.equalIn 10000 t x y).run P w=.ok b w) (hn:∀ o:BinOp,o=.eql\/o=.neq->Go.binOp o t x y=(if o=.eql then do pure (.bool (<- Op.equal t x y)) else do pure (.bool (!(<- Op.equal t x y))))) :
  (Go.binOp .eql t x y).run P w=.ok (.bool b) w/\(Go.binOp .neq t x y).run P w=.ok (.bool !b) w:=by
 rw [hn .eql (by simp),hn .neq (by simp)]
 have he':(Op.equal t x y).run P w=.ok b w:=he
 simp_all
def zV (hT:nf P t ti) {x y:AV} {x' y':Value} {b:Bool} (hx:VR G x x') (hy:VR G y y') (h:zp ti x y=some b) (ox oy:Operand) :
  (∀ o:BinOp,(eqGuard o t ox oy x' y').run P G.w=.ok () G.w)/\(Go.binOp .eql t x' y').run P G.w=.ok (.bool b) G.w/\(Go.binOp .neq t x' y').run P G.w=.ok (.bool !b) G.w:=by
 obtain ⟨d,hd,ha,hk⟩:=hT.desc
 unfold zp at h
 split at h
 ·
  rename_i hki
  rw [hki] at hk
  have hk:d=.bool:=hk
  subst hk
  unfold LC at h
  split at h
  ·rename_i a c h1 h2
   cases h
   have:=bool?_eq h1; subst this
   have:=bool?_eq h2; subst this
   rw [hx.of_bool,hy.of_bool]
   exact ⟨λo=>Np o ox oy _ _ _,oW (run_equalIn_bool' G.w 9999 t _ _ hd) (by rintro o (rfl | rfl)<;>rfl)⟩
  ·cases h
 ·
  rename_i hki
  rw [hki] at hk
  obtain ⟨e,rfl⟩:=hk
  unfold tN at h
  split at h
  ·rename_i c h1 h2
   cases h
   obtain ⟨a,rfl,h1⟩:=vi h1 hx
   obtain ⟨a',rfl,h2⟩:=vi h2 hy
   refine ⟨λo=>EC o ox oy _ _ _,oW ?_ (by rintro o (rfl | rfl)<;>rfl)⟩
   simp_all [U7]
  ·rename_i h1 h2
   cases h
   obtain ⟨a,rfl,h1⟩:=vi h1 hx
   obtain ⟨a',rfl,h2⟩:=vi h2 hy
   refine ⟨λo=>EC o ox oy _ _ _,oW ?_ (by rintro o (rfl | rfl)<;>rfl)⟩
   cases a with
   | none=>simp at h1
   | some a=>simp_all [VX]
  ·cases h
 ·
  rename_i hki
  rw [hki] at hk
  have hk:d=.slice _:=hk
  subst hk
  unfold tN at h
  split at h
  ·rename_i c h1 h2
   cases h
   obtain ⟨a,n,c,rfl,h1⟩:=vd h1 hx
   obtain ⟨a',n',c',rfl,h2⟩:=vd h2 hy
   refine ⟨λo=>EI o ox oy _ _ _ _ _ _ _,oW ?_ (by rintro o (rfl | rfl)<;>rfl)⟩
   simp_all [VF]
  ·rename_i h1 h2
   cases h
   obtain ⟨a,n,c,rfl,h1⟩:=vd h1 hx
   obtain ⟨a',n',c',rfl,h2⟩:=vd h2 hy
   refine ⟨λo=>EI o ox oy _ _ _ _ _ _ _,oW ?_ (by rintro o (rfl | rfl)<;>rfl)⟩
   cases a with
   | none=>simp at h1
   | some a=>simp_all [WW]
  ·cases h
 ·
  rename_i hki
  rw [hki] at hk
  have hk:d=.map _ _:=hk
  subst hk
  unfold tN at h
  split at h
  ·rename_i c h1 h2
   cases h
   obtain ⟨a,rfl,h1⟩:=vm h1 hx
   obtain ⟨a',rfl,h2⟩:=vm h2 hy
   refine ⟨λo=>DQ o ox oy _ _ _,oW ?_ (by rintro o (rfl | rfl)<;>rfl)⟩
   cases a<;>grind [UW]
  ·rename_i h1 h2
   cases h
   obtain ⟨a,rfl,h1⟩:=vm h1 hx
   obtain ⟨a',rfl,h2⟩:=vm h2 hy
   refine ⟨λo=>DQ o ox oy _ _ _,oW ?_ (by rintro o (rfl | rfl)<;>rfl)⟩
   cases a with
   | none=>simp at h1
   | some a=>cases a'<;>grind [V1]
  ·cases h
 ·
  rename_i hki
  rw [hki] at hk
  obtain ⟨p,q,r,rfl⟩:=hk
  unfold tN at h
  split at h
  ·rename_i c h1 h2
   cases h
   rcases vn h1 hx with ⟨_,rfl⟩ | ⟨h0,_⟩
   ·rcases vn h2 hy with ⟨rfl,rfl⟩ | ⟨rfl,f,a,c,rfl⟩
    ·exact ⟨λo=>FK o ox oy _ _,oW (UJ 9999 hd _) (by rintro o (rfl | rfl)<;>rfl)⟩
    ·exact ⟨λo=>FK o ox oy _ _,oW (Xi 9999 hd _ _ _ _) (by rintro o (rfl | rfl)<;>rfl)⟩
   grind
  ·rename_i h1 h2
   cases h
   rcases vn h1 hx with ⟨h0,_⟩ | ⟨_,f,a,c,rfl⟩
   ·cases h0
   ·rcases vn h2 hy with ⟨_,rfl⟩ | ⟨h0,_⟩
    ·exact ⟨λo=>Oh o ox oy _ _ _ _ _,oW (Uq 9999 hd _ _ _ _) (by rintro o (rfl | rfl)<;>rfl)⟩
    grind
  ·cases h
 all_goals first
  | (cases h; done)
  | (rename_i hki
     have hagg:ti.agg=true:=by
      rw [hki] at hk
      rw [<- ha]
      first
       | (obtain ⟨F,rfl,_⟩:=hk; rfl)
       | (have hk:d=.array _ _:=hk; subst hk; rfl)
     unfold Fs at h
     split at h
     ·rename_i a c hf h1 h2
      split at h
      ·rename_i hlen
       simp only [Bool.and_eq_true,Nat.beq_eq] at hlen
       have:=agg?_eq h1; subst this
       have:=agg?_eq h2; subst this
       obtain ⟨vs,rfl,hl1,h11,hr1⟩:=hx.uH
       obtain ⟨us,rfl,hl2,h12,hr2⟩:=hy.uH
       obtain ⟨s1,s2⟩:=CV h
       have e:=hT.flat hf hagg _ _ vs us b G.w G.T hlen.2 hlen.1.1 hlen.1.2 (hx.GP s1) (hy.GP s2) h
       exact ⟨λo=>run_eqGuard_agg G.w o t ox oy vs us (hT.guard hf),oW e (by rintro o (rfl | rfl)<;>rfl)⟩
      ·cases h
     ·cases h)
def Gk (hC:kx P C) {op:BinOp} {x y v:AV} {x' y':Value} (hx:VR G x x') (hy:VR G y y') (h:binOp C op t x y=some v) (ox oy:Operand) :
  ∃ u,(do eqGuard op t ox oy x' y'; Go.binOp op t x' y':Sem Value).run P G.w=.ok u G.w/\VR G v u:=by
 unfold binOp at h
 split at h
 ·rename_i p hp
  obtain ⟨k,a⟩:=p
  have:=int?_eq hp; subst this
  rw [hx.of_int]
  unfold EH at h
  split at h
  ·rename_i k' b hb
   have:=int?_eq hb; subst this
   rw [hy.of_int]
   simp only [Sem.run_bind,MF,Result.andThen_ok]
   split at h
   ·rename_i hk
    cases hs:ue op with
    | true=>exact Gc h hs t
    | false =>
      rw [hs,Bool.or_false] at hk
      have:=(rl _ _).1 hk
      simp only at this
      subst this
      exact Fh h hs t
   ·cases h
  ·cases h
 ·split at h
  ·rename_i a ha
   have:=str?_eq ha; subst this
   obtain ⟨bx,rfl,hbx⟩:=hx.sL
   unfold EO at h
   split at h
   ·rename_i b hb
    have:=str?_eq hb; subst this
    obtain ⟨by',rfl,hby⟩:=hy.sL
    simp only [Sem.run_bind,Mv,Result.andThen_ok]
    exact Eg hbx hby h t
   ·cases h
  ·unfold Bx at h
   split at h
   ·cases h
   ·rename_i ti hti
    split at h
    ·split at h
     ·rename_i b hb
      cases h
      obtain ⟨h1,h2,h3⟩:=zV (hC.ty t ti hti) hx hy hb ox oy
      simp_all [VR.bool]
     ·cases h
    ·split at h
     ·rename_i b hb
      rw [Ak] at h
      cases h
      obtain ⟨h1,h2,h3⟩:=zV (hC.ty t ti hti) hx hy hb ox oy
      simp_all [VR.bool]
     ·cases h
    ·cases h
def IW {op:UnOp} {x v:AV} {x':Value} (hx:VR G x x') (h:unOp op x=some v):∃ u,(Op.unary op x').run P G.w=.ok u G.w/\VR G v u:=by
 unfold unOp at h
 split at h
 ·split at h
  ·rename_i b hb
   have:=bool?_eq hb; subst this
   rw [hx.of_bool]
   rw [Ak] at h
   cases h
   exact ⟨_,rfl,VR.bool _⟩
  ·cases h
 ·split at h
  ·rename_i k n hb
   have:=int?_eq hb; subst this
   rw [hx.of_int]
   simp only [tG,oi,qS,CA] at h
   cases h
   refine ⟨_,rfl,?_⟩
   grind [VR.int]
  ·cases h
 ·split at h
  ·rename_i k n hb
   have:=int?_eq hb; subst this
   rw [hx.of_int]
   simp only [DG,tG,oi] at h
   cases h
   exact ⟨_,rfl,VR.int _ _⟩
  ·cases h
 ·cases h
def HF {x y v:AV} {x' y':Value} (hx:VR G x x') (hy:VR G y y') (h:min2 x y=some v):∃ u,(Builtin.min2 x' y').run P G.w=.ok u G.w/\VR G v u:=by
 unfold min2 at h
 split at h
 ·cases h
  rw [hx.of_int,hy.of_int]
  exact ⟨_,rfl,VR.int _ _⟩
 ·cases h
def I2 {x y v:AV} {x' y':Value} (hx:VR G x x') (hy:VR G y y') (h:max2 x y=some v):∃ u,(Builtin.max2 x' y').run P G.w=.ok u G.w/\VR G v u:=by
 unfold max2 at h
 split at h
 ·cases h
  rw [hx.of_int,hy.of_int]
  exact ⟨_,rfl,VR.int _ _⟩
 ·cases h
def w3 {f:AV->AV->Option AV} {g:Value->Value->Sem Value} (hfg:∀ {x y v:AV} {x' y':Value},VR G x x'->VR G y y'->f x y=some v->∃ u,(g x' y').run P G.w=.ok u G.w/\VR G v u) :
  ∀ {l:List AV} {l':List Value} {x v:AV} {x':Value},VR G x x'->l.length=l'.length->(∀ (i:Nat) a b,l[i]?=some a->l'[i]?=some b->VR G a b)->A9 f x l=some v ->
    ∃ u,(l'.foldlM g x').run P G.w=.ok u G.w/\VR G v u
 | [],[],x,v,x',hx,_,_,h=>by
   simp_all [A9]
 | [],_::_,_,_,_,_,hl,_,_=>by simp at hl
 | _::_,[],_,_,_,_,hl,_,_=>by simp at hl
 | a::l,b::l',x,v,x',hx,hl,hr,h=>by
   simp only [A9] at h
   split at h
   ·rename_i c hc
    obtain ⟨u,hu,hcu⟩:=hfg hx (hr 0 a b rfl rfl) hc
    obtain ⟨z,hz,hvz⟩:=w3 hfg hcu (by grind) (λi p q hp hq=>hr (i+1) p q hp hq) h
    simp_all
   ·cases h
end
end Go.Sx
