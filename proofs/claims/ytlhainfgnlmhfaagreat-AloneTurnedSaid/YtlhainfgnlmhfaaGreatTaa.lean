/- Proves rules for the walks and their soundness. -/
import GoSem.Core.Code
import GoSem.Core.Program
import GoSem.Core.View
import Derived.Calls
import Derived.Laws.Append
import Derived.Laws.Tables
import Derived.Laws.StructEq
import Derived.Laws.IdiomCopy
import Derived.Laws.Slices
import Derived.Laws.Rows
import Derived.Laws.Cells
import Derived.Laws.CopyRow
set_option linter.all false
namespace Go.Sx
inductive jx where
 | nil
 | exact (n:Nat)
 | ee
 | kY
 deriving DecidableEq,Inhabited
inductive AV where
 | undef
 | bool (b:Bool)
 | int (k:IntKind) (n:Int)
 | str (s:List UInt8)
 | fS
 | ip (cells:List AV) (off:Nat) (sn:Bool)
 | la (d off:Nat)
 | ptr (b g i off:Nat)
 | sl (xs:List (List AV)) (cap:jx)
 | hs (b g off len:Nat)
 | fZ
 | fm (es:List (AV×AV)) (sn:Bool)
 | hm (b:Nat)
 | fz (f:Nat) (first cap:List AV)
 | gZ
 | agg (cells:List AV)
 | eP (vs:List AV)
 deriving Inhabited
section force
variable {β:Type}
@[inline] def fB (b:Bool) (k:Bool→β) : β:=match b with
  | true=>k true
  | false=>k false
@[inline] def fN (n:Nat) (k:Nat→β) : β:=match n with
  | 0=>k 0
  | m+1=>k (m+1)
@[inline] def fI (n:Int) (k:Int→β) : β:=match n with
  | .ofNat m=>fN m fun m=>k (.ofNat m)
  | .negSucc m=>fN m fun m=>k (.negSucc m)
def qz {α:Type}:List α→(List α→β)→β
 | [],k=>k []
 | a::l,k=>qz l fun l=>k (a::l)
def f1 (v:AV) (k:AV→β) : β:=match v with
 | .bool b=>fB b fun b=>k (.bool b)
 | .int kd n=>fI n fun n=>k (.int kd n)
 | .str s=>qz s fun s=>k (.str s)
 | .ip c o s=>fN o fun o=>fB s fun s=>k (.ip c o s)
 | .la d o=>fN o fun o=>k (.la d o)
 | .ptr b g i o=>fN b fun b=>fN g fun g=>fN i fun i=>fN o fun o=>k (.ptr b g i o)
 | .hs b g o l=>fN b fun b=>fN g fun g=>fN o fun o=>fN l fun l=>k (.hs b g o l)
 | .hm b=>fN b fun b=>k (.hm b)
 | .sl xs c=>qz xs fun xs=>k (.sl xs c)
 | v=>k v
def fL:List AV→(List AV→β)→β
 | [],k=>k []
 | a::l,k=>f1 a fun a=>fL l fun l=>k (a::l)
def GI:List (List AV)→(List (List AV)→β)→β
 | [],k=>k []
 | a::l,k=>fL a fun a=>GI l fun l=>k (a::l)
end force
section forceEq
variable {β:Type}
@[simp] theorem qp (b:Bool) (k:Bool→β):fB b k=k b:=by cases b<;>rfl
@[simp] theorem jw (b:Nat) (k:Nat→β):fN b k=k b:=by cases b<;>rfl
@[simp] theorem nd (b:Int) (k:Int→β):fI b k=k b:=by cases b<;>simp [fI]
@[simp] theorem kC {α:Type} (l:List α) (k:List α→β):qz l k=k l:=by
  induction l generalizing k with
  | nil=>rfl
  | cons a l ih=>simp [qz,ih]
@[simp] theorem Xr (v:AV) (k:AV→β):f1 v k=k v:=by cases v<;>simp [f1]
@[simp] theorem ub (l:List AV) (k:List AV→β):fL l k=k l:=by
  induction l generalizing k with
  | nil=>rfl
  | cons a l ih=>simp [fL,ih]
@[simp] theorem Ww (l:List (List AV)) (k:List (List AV)→β):GI l k=k l:=by
  induction l generalizing k with
  | nil=>rfl
  | cons a l ih=>simp [GI,ih]
end forceEq
inductive ij where
 | eL (gen esz:Nat) (xs:List (List AV))
 | map (es:List (AV×AV×Nat)) (clock:Nat)
 deriving Inhabited
inductive Tr (α:Type) where
 | leaf
 | node (l:Tr α) (v:Option α) (r:Tr α)
namespace Tr
variable {α β:Type}
def get:Tr α→Nat→Option α
 | .leaf,_=>none
 | .node l v r,n=>match n with
   | 0=>v
   | m+1=>match Nat.beq (m % 2) 0 with
     | true=>get l (m / 2)
     | false=>get r (m / 2)
def ins (x : α):Nat→Nat→Tr α→(Tr α→β)→β
 | 0,_,t,k=>k t
 | f+1,n,.leaf,k=>match n with
   | 0=>k (.node .leaf (some x) .leaf)
   | m+1=>match Nat.beq (m % 2) 0 with
     | true=>ins x f (m / 2) .leaf fun l=>k (.node l none .leaf)
     | false=>ins x f (m / 2) .leaf fun r=>k (.node .leaf none r)
 | f+1,n,.node l v r,k=>match n with
   | 0=>k (.node l (some x) r)
   | m+1=>match Nat.beq (m % 2) 0 with
     | true=>ins x f (m / 2) l fun l=>k (.node l v r)
     | false=>ins x f (m / 2) r fun r=>k (.node l v r)
end Tr
structure bY where
 tr:Tr ij
 size:Nat
 lo:Nat
 dO:List (Nat×List AV)
def bY.empty:bY:=⟨.leaf,0,0,[]⟩
def bY.get (h:bY) (b:Nat):Option ij:=match Nat.ble h.lo b with
 | true=>h.tr.get b
 | false=>none
def fO {β:Type} (o:ij) (k:ij→β) : β:=match o with
 | .eL g z xs=>fN g fun g=>fN z fun z=>GI xs fun xs=>k (.eL g z xs)
 | .map es c=>fN c fun c=>qz es fun es=>k (.map es c)
@[simp] theorem Hd {β:Type} (o:ij) (k:ij→β):fO o k=k o:=by cases o<;>simp [fO]
def bY.set (h:bY) (b:Nat) (o:ij):bY:=fO o fun o=>h.tr.ins o (b+1) b fun t=>⟨t,h.size,h.lo,h.dO⟩
def bY.push (h:bY) (o:ij):bY:=fO o fun o=>fN (h.size+1) fun s=>h.tr.ins o s h.size fun t=>⟨t,s,h.lo,h.dO⟩
def fH {β:Type} (h:bY) (k:bY→β) : β:=match h with
 | ⟨t,s,l,m⟩=>k ⟨t,s,l,m⟩
@[simp] theorem rU {β:Type} (h:bY) (k:bY→β):fH h k=k h:=rfl
abbrev gN:=List (Nat×List AV)
def fJ:gN→Nat→Option (List AV)
 | [],_=>none
 | p::e,t=>match Nat.beq t p.1 with
   | true=>some p.2
   | false=>fJ e t
def nI:gN→Nat→List AV→gN
 | [],_,_=>[]
 | p::e,t,v=>match Nat.beq t p.1 with
   | true=>(t,v)::e
   | false=>p::nI e t v
abbrev Env:=List (Nat×AV)
def gY:Env→Nat→AV
 | [],_=>.undef
 | p::e,t=>match Nat.beq t p.1 with
   | true=>p.2
   | false=>gY e t
def w8 (e:Env) (t:Nat) (v:AV):Env:=(t,v)::e
def AV.pd (t:Nat):AV→Bool
 | .la d o=>Nat.beq t d&&Nat.beq o 0
 | .eP _=>false
 | _=>true
def eB (t:Nat) (v:AV):AV:=match v.pd t with
 | true=>v
 | false=>.undef
def proj (live:List Nat) (e:Env):Env:=live.map fun t=>(t,eB t (gY e t))
def eV:List Nat→gN→gN
 | [],_=>[]
 | t::l,m=>match fJ m t with
   | some c=>(t,c)::eV l m
   | none=>eV l m
def vm {β:Type} (t:Nat) (k:AV→β):Env→β
 | []=>k .undef
 | (a,v)::e=>match Nat.beq t a with
   | true=>k v
   | false=>vm t k e
def sg {β:Type}:List Nat→Env→(Env→β)→β
 | [],_,k=>k []
 | t::l,e,k=>vm t (fun v=>match v.pd t with
   | true=>sg l e fun r=>k ((t,v)::r)
   | false=>sg l e fun r=>k ((t,.undef)::r)) e
def pE {β:Type}:List Nat→gN→(gN→β)→β
 | [],_,k=>k []
 | t::l,m,k=>match fJ m t with
   | some c=>pE l m fun r=>k ((t,c)::r)
   | none=>pE l m k
theorem DG {β:Type} (t:Nat) (k:AV→β) (e:Env):vm t k e=k (gY e t):=by
 induction e with
 | nil=>rfl
 | cons p e ih =>
   obtain ⟨a,v⟩:=p
   simp only [vm,gY]
   cases Nat.beq t a
   ·exact ih
   ·rfl
@[simp] theorem vQ {β:Type} (l:List Nat) (e:Env) (k:Env→β):sg l e k=k (proj l e):=by
  induction l generalizing k with
  | nil=>rfl
  | cons t l ih =>
    simp only [sg,DG,proj,List.map_cons,eB]
    cases h:(gY e t).pd t
    ·exact ih _
    ·exact ih _
@[simp] theorem uM {β:Type} (l:List Nat) (m:gN) (k:gN→β):pE l m k=k (eV l m):=by
  induction l generalizing k with
  | nil=>rfl
  | cons t l ih =>
    simp only [pE,eV]
    cases h:fJ m t
    ·exact ih _
    ·exact ih _
inductive TK where
 | bool | int (k:IntKind) | str | ptr | slice (elem:Nat) | array (len elem:Nat) | map (key elem:Nat) | struct (fs:List (Nat×Nat)) | func | other
structure TI where
 kind:TK
 agg:Bool
 size:Nat
 bytes:Nat
 zero:List AV
 flat:Bool
 sc:List TK
def wz:Value→AV
 | .bool b=>.bool b
 | .int k n=>.int k n
 | .string s=>.str s.data.toList
 | .pointer none=>.fS
 | .slice none 0 0=>.sl [] .nil
 | .map none=>.fZ
 | .nilFunc=>.gZ
 | _=>.undef
def Jt:Value→Bool
 | .bool _ | .int _ _ | .string _ | .pointer none | .slice none 0 0 | .map none | .nilFunc=>true
 | _=>false
def cv:Value→AV
 | .agg cs=>match cs.toList.all Jt with
   | true=>.agg (cs.toList.map wz)
   | false=>.undef
 | v=>wz v
def eO (e:Env):Operand→AV
 | .tmp t=>gY e t
 | .const v=>cv v
 | .global _=>.undef
 | .func f=>.fz f [] []
def AV.gm:AV→Bool
 | .undef | .la _ _ | .agg _ | .eP _=>false
 | _=>true
def AV.gM:AV→Bool
 | .bool _ | .int _ _ | .str _ | .fS | .ip _ _ false | .fZ | .fm _ false | .gZ=>true
 | .sl _ .kY=>false
 | .sl _ _=>true
 | _=>false
def AV.rO:AV→Bool
 | .fz _ a c=>a.all AV.gM&&c.all AV.gM
 | v=>v.gM
def AV.int?:AV→Option (IntKind×Int)
 | .int k n=>some (k,n)
 | _=>none
def AV.str?:AV→Option (List UInt8)
 | .str s=>some s
 | _=>none
def AV.bool?:AV→Option Bool
 | .bool s=>some s
 | _=>none
def AV.agg?:AV→Option (List AV)
 | .agg s=>some s
 | _=>none
def cellsOf (ti:TI) (v:AV):Option (List AV) :=
 match ti.agg with
 | true=>match v.agg? with
   | some l=>match Nat.beq l.length ti.size with
     | true=>some l
     | false=>none
   | none=>none
 | false=>match v.gm&&Nat.beq ti.size 1 with
   | true=>some [v]
   | false=>none
def ta (n:Nat) (r:List AV):Option AV:=match Nat.beq r.length n with
 | true=>some (.agg r)
 | false=>none
def part (ti:TI) (cs:List AV) (o:Nat):Option AV:=match ti.agg with
 | true=>qz ((cs.drop o).take ti.size) (ta ti.size)
 | false=>cs[o]?
def jF (cs:List AV) (o:Nat) (new:List AV):Option (List AV) :=
 match Nat.ble (o+new.length) cs.length with
 | true=>qz (cs.take o++new++cs.drop (o+new.length)) some
 | false=>none
structure fP where
 T:Nat→Option TI
def ye:Int→Int→Bool
 | .ofNat a,.ofNat b=>Nat.beq a b
 | .negSucc a,.negSucc b=>Nat.beq a b
 | _,_=>false
def tB:Int→Int→Bool
 | .ofNat a,.ofNat b=>Nat.ble a b
 | .negSucc a,.negSucc b=>Nat.ble b a
 | .negSucc _,.ofNat _=>true
 | .ofNat _,.negSucc _=>false
def zy:Int→Int→Int
 | .ofNat a,.ofNat b=>.ofNat (Nat.add a b)
 | .ofNat a,.negSucc b=>match Nat.ble (Nat.succ b) a with
   | true=>.ofNat (Nat.sub a (Nat.succ b))
   | false=>.negSucc (Nat.sub b a)
 | .negSucc b,.ofNat a=>match Nat.ble (Nat.succ b) a with
   | true=>.ofNat (Nat.sub a (Nat.succ b))
   | false=>.negSucc (Nat.sub b a)
 | .negSucc a,.negSucc b=>.negSucc (Nat.succ (Nat.add a b))
def As:Int→Int
 | .ofNat 0=>.ofNat 0
 | .ofNat (n+1)=>.negSucc n
 | .negSucc n=>.ofNat (n+1)
def mK (k:IntKind) (n:Int):Int:=match k,n with
 | .i64,.ofNat a=>match Nat.ble a 4611686018427387904 with
   | true=>.ofNat a
   | false=>IntKind.wrap .i64 (.ofNat a)
 | .i64,.negSucc a=>match Nat.ble a 4611686018427387904 with
   | true=>.negSucc a
   | false=>IntKind.wrap .i64 (.negSucc a)
 | k,n=>k.wrap n
def B8:IntKind→Nat
 | .i8=>0
 | .i16=>1
 | .i32=>2
 | .i64=>3
 | .u8=>4
 | .u16=>5
 | .u32=>6
 | .u64=>7
def jM (a b:IntKind):Bool:=Nat.beq (B8 a) (B8 b)
theorem lN (a b:IntKind):jM a b=true↔a=b:=by cases a<;>cases b<;>simp [jM,B8]
def oA (k:IntKind) (a:Int) (y:AV):Option Bool:=match y.int? with
 | some (k',b)=>match jM k k' with
   | true=>some (ye a b)
   | false=>none
 | none=>none
def rK (a:List UInt8) (y:AV):Option Bool:=match y.str? with
 | some b=>some (a==b)
 | none=>none
def qI (a:Bool) (y:AV):Option Bool:=match y.bool? with
 | some b=>some (a==b)
 | none=>none
def kF (_:AV):Option Bool:=none
def iz:AV→AV→Option Bool
 | .bool a=>qI a
 | .int k a=>oA k a
 | .str a=>rK a
 | _=>kF
def iq:List AV→List AV→Option Bool
 | [],[]=>some true
 | a::x,b::y=>match iz a b with
   | some true=>iq x y
   | some false=>match iq x y with
     | some _=>some false
     | none=>none
   | none=>none
 | _,_=>none
def tz (x:List AV) (y:AV):Option Bool:=match y.agg? with
 | some y=>iq x y
 | none=>none
def gR (x y:AV):Option Bool:=match x.agg? with
 | some l=>tz l y
 | none=>iz x y
def findKey (k:AV):List (AV×AV×Nat)→Nat→Option (Option (Nat×AV))
 | [],_=>some none
 | (k',v,_)::es,i=>match gR k k' with
   | some true=>some (some (i,v))
   | some false=>findKey k es (i+1)
   | none=>none
def lJ (k:AV):List (AV×AV)→Option (Option AV)
 | []=>some none
 | (k',v)::es=>match gR k k' with
   | some true=>some (some v)
   | some false=>lJ k es
   | none=>none
def bytesLess:List UInt8→List UInt8→Bool
 | _,[]=>false
 | [],_::_=>true
 | a::x,b::y=>a<b||(a==b&&bytesLess x y)
theorem lh (a b:Int):ye a b=(a==b):=by
 apply Bool.eq_iff_iff.2
 cases a<;>cases b<;>simp only [ye,Nat.beq_eq,beq_iff_eq,Int.ofNat_eq_natCast,Int.negSucc_eq,Bool.false_eq_true,false_iff]<;>omega
theorem pf (a b:Int):tB a b=decide (a≤b):=by
 apply Bool.eq_iff_iff.2
 cases a<;>cases b<;>simp only [tB,Nat.ble_eq,decide_eq_true_eq,Int.ofNat_eq_natCast,Int.negSucc_eq,Bool.false_eq_true,false_iff,true_iff]<;>omega
theorem uE (a b:Int):zy a b=a+b:=by
 cases a<;>cases b<;>simp only [zy,Nat.add_eq,Nat.sub_eq]
 ·rfl
 ·split
  ·rename_i h; simp only [Nat.ble_eq] at h; simp only [Int.ofNat_eq_natCast,Int.negSucc_eq]; omega
  ·rename_i h
   have h:=(Bool.not_eq_true _).symm.mp h
   simp only [Nat.ble_eq] at h; simp only [Int.ofNat_eq_natCast,Int.negSucc_eq]; omega
 ·split
  ·rename_i h; simp only [Nat.ble_eq] at h; simp only [Int.ofNat_eq_natCast,Int.negSucc_eq]; omega
  ·rename_i h
   have h:=(Bool.not_eq_true _).symm.mp h
   simp only [Nat.ble_eq] at h; simp only [Int.ofNat_eq_natCast,Int.negSucc_eq]; omega
 ·simp only [Int.negSucc_eq]; omega
theorem uv (a:Int):As a = -a:=by
 rcases a with (_ | n) | n<;>simp only [As,Int.ofNat_eq_natCast,Int.negSucc_eq]<;>omega
theorem sf (n:Int) (h1 : -9223372036854775808≤n) (h2:n≤9223372036854775807):IntKind.wrap .i64 n=n:=by
 have e:((2:Int) ^ 64)=18446744073709551616:=by decide
 have e':((2:Int) ^ 63)=9223372036854775808:=by decide
 simp only [IntKind.wrap,IntKind.bits,IntKind.signed,Bool.true_and,e,Nat.reduceSub,e']
 split
 ·rename_i h; have h:=of_decide_eq_true h; omega
 ·rename_i h
  simp only [ge_iff_le,decide_eq_true_eq] at h
  omega
theorem mu (k:IntKind) (n:Int):mK k n=k.wrap n:=by
 unfold mK
 split
 ·split
  ·rename_i h
   simp only [Nat.ble_eq] at h
   rw [sf]<;>simp only [Int.ofNat_eq_natCast]<;>omega
  ·rfl
 ·split
  ·rename_i h
   simp only [Nat.ble_eq] at h
   rw [sf]<;>simp only [Int.negSucc_eq]<;>omega
  ·rfl
 ·rfl
def jy (k:IntKind) (n:Int):Option AV:=some (.int k n)
def sY (b:Bool):Option AV:=some (.bool b)
def nk:Bool→Option AV
 | true=>some (.bool false)
 | false=>some (.bool true)
abbrev IB:=IntKind→Int→Int→Option AV
def zs:IB:=fun k x y=>fI (mK k (zy x y)) (jy k)
def zc:IB:=fun k x y=>fI (mK k (zy x (As y))) (jy k)
def Hb:IB:=fun k x y=>fI (mK k (x*y)) (jy k)
def Fo:IB:=fun k x y=>if y=0 then none else fI (mK k (x.tdiv y)) (jy k)
def Em:IB:=fun k x y=>if y=0 then none else fI (x.tmod y) (jy k)
def y4:IB:=fun _ x y=>fB (ye x y) sY
def zl:IB:=fun _ x y=>fB (ye x y) nk
def zB:IB:=fun _ x y=>fB (tB y x) nk
def zu:IB:=fun _ x y=>fB (tB x y) sY
def zX:IB:=fun _ x y=>fB (tB x y) nk
def z7:IB:=fun _ x y=>fB (tB y x) sY
def Gb:IB:=fun k x y=>fI (k.wrap (BitVec.ofInt k.bits x &&& BitVec.ofInt k.bits y).toNat) (jy k)
def JC:IB:=fun k x y=>fI (k.wrap (BitVec.ofInt k.bits x ||| BitVec.ofInt k.bits y).toNat) (jy k)
def tG:IB:=fun k x y=>fI (k.wrap (BitVec.ofInt k.bits x ^^^ BitVec.ofInt k.bits y).toNat) (jy k)
def wL:IB:=fun k x y=>fI (k.wrap (BitVec.ofInt k.bits x &&& ~~~ BitVec.ofInt k.bits y).toNat) (jy k)
def Pm:IB:=fun k x y=>if y<0 then none else fI (mK k (x*2 ^ (min y.toNat k.bits))) (jy k)
def OX:IB:=fun k x y=>if y<0 then none else fI (x.fdiv (2 ^ (min y.toNat k.bits))) (jy k)
def I6:IB:=fun _ _ _=>none
def nz:BinOp→Bool
 | .shl | .shr=>true
 | _=>false
def gW:BinOp→IB
 | .add=>zs
 | .sub=>zc
 | .mul=>Hb
 | .quo=>Fo
 | .rem=>Em
 | .eql=>y4
 | .neq=>zl
 | .lss=>zB
 | .leq=>zu
 | .gtr=>zX
 | .geq=>z7
 | .and=>Gb
 | .or=>JC
 | .xor=>tG
 | .andNot=>wL
 | .shl=>Pm
 | .shr=>OX
def tV (op:BinOp) (x y:List UInt8):Option AV :=
 match op with
 | .add=>match Nat.ble (x.length+y.length) 1099511627776 with
   | true=>qz (x++y) fun s=>some (.str s)
   | false=>none
 | .eql=>some (.bool (x==y))
 | .neq=>some (.bool !(x==y))
 | .lss=>some (.bool (bytesLess x y))
 | .leq=>some (.bool (bytesLess x y||x==y))
 | .gtr=>some (.bool !(bytesLess x y||x==y))
 | .geq=>some (.bool !(bytesLess x y))
 | _=>none
def Dc:AV→Option Bool
 | .fS=>some true
 | .ptr ..=>some false
 | .ip ..=>some false
 | .la ..=>some false
 | _=>none
def BO:AV→Option Bool
 | .sl _ .nil=>some true
 | .sl ..=>some false
 | .hs ..=>some false
 | _=>none
def C3:AV→Option Bool
 | .fZ=>some true
 | .hm _=>some false
 | .fm ..=>some false
 | _=>none
def Cf:AV→Option Bool
 | .gZ=>some true
 | .fz ..=>some false
 | _=>none
def np (f:AV→Option Bool) (x y:AV):Option Bool:=match f x,f y with
 | some true,some b=>some b
 | some false,some true=>some false
 | _,_=>none
def mg:TK→AV→Bool
 | .int kd,.int k _=>jM kd k
 | .str,.str _=>true
 | .bool,.bool _=>true
 | _,_=>false
def nJ:AV→Bool
 | .bool _ | .int .. | .str _=>true
 | _=>false
def fitAll:List TK→List AV→Bool
 | [],[]=>true
 | t::ts,a::l=>mg t a&&fitAll ts l
 | _,_=>false
def w3 (ti:TI) (x y:AV):Option Bool:=match ti.flat,x.agg?,y.agg? with
 | true,some a,some b=>match Nat.beq a.length ti.size&&Nat.beq b.length ti.size&&fitAll ti.sc a with
   | true=>iq a b
   | false=>none
 | _,_,_=>none
def AZ (x y:AV):Option Bool:=match x.bool?,y.bool? with
 | some a,some b=>some (a==b)
 | _,_=>none
def rT (ti:TI) (x y:AV):Option Bool:=match ti.kind with
 | .bool=>AZ x y
 | .ptr=>np Dc x y
 | .slice _=>np BO x y
 | .map _ _=>np C3 x y
 | .func=>np Cf x y
 | .struct _=>w3 ti x y
 | .array _ _=>w3 ti x y
 | _=>none
def tv (C:fP) (op:BinOp) (t:Nat) (x y:AV):Option AV:=match C.T t with
 | none=>none
 | some ti=>match op with
   | .eql=>match rT ti x y with
     | some b=>some (.bool b)
     | none=>none
   | .neq=>match rT ti x y with
     | some b=>nk b
     | none=>none
   | _=>none
def wE (op:BinOp) (p:IntKind×Int) (y:AV):Option AV:=match y.int? with
 | some (k,b)=>match jM p.1 k||nz op with
   | true=>gW op p.1 p.2 b
   | false=>none
 | none=>none
def wP (op:BinOp) (a:List UInt8) (y:AV):Option AV:=match y.str? with
 | some b=>tV op a b
 | none=>none
def binOp (C:fP) (op:BinOp) (t:Nat) (x y:AV):Option AV:=match x.int? with
 | some p=>wE op p y
 | none=>match x.str? with
   | some a=>wP op a y
   | none=>tv C op t x y
def unOp (op:UnOp) (x:AV):Option AV:=match op with
 | .not=>match x.bool? with
   | some b=>nk b
   | none=>none
 | .neg=>match x.int? with
   | some (k,n)=>fI (mK k (As n)) (jy k)
   | none=>none
 | .xor=>match x.int? with
   | some (k,n)=>tG k (if k.signed then -1 else k.max) n
   | none=>none
 | _=>none
def min2:AV→AV→Option AV
 | .int k x,.int _ y=>some (.int k (if y<x then y else x))
 | _,_=>none
def max2:AV→AV→Option AV
 | .int k x,.int _ y=>some (.int k (if y > x then y else x))
 | _,_=>none
def ug (f:AV→AV→Option AV):AV→List AV→Option AV
 | a,[]=>some a
 | a,b::l=>match f a b with
   | some c=>ug f c l
   | none=>none
def elems (h:bY):AV→Option (List (List AV))
 | .sl xs _=>some xs
 | .hs b g off len=>match h.get b with
   | some (.eL g' _ xs)=>match Nat.beq g g'&&Nat.ble (off+len) xs.length with
     | true=>some ((xs.drop off).take len)
     | false=>none
   | _=>none
 | _=>none
def vy (ys:List (List AV)):Bool:=ys.all fun c=>c.all AV.gm
def mz (ys:List (List AV)):Bool:=ys.all fun c=>c.all AV.rO
def ju (n:Nat) (ys:List (List AV)):Bool:=ys.all fun c=>Nat.beq c.length n
def overwrite (xs:List (List AV)) (at_:Nat) (ys:List (List AV)):List (List AV):=xs.take at_++ys++xs.drop (at_+ys.length)
def oW:Nat:=1048576
def mR (n:Nat) (h:bY) (xs ys:List (List AV)):Option (AV×bY) :=
 match ju n xs&&Nat.ble (xs.length+ys.length) oW with
 | true=>fN (xs.length+ys.length) fun m=>some (.hs h.size 0 0 m,h.push (.eL 0 n (xs++ys)))
 | false=>none
def vk (n:Nat) (h:bY) (b g off len:Nat) (ys:List (List AV)):Option (AV×bY) :=
 match h.get b with
 | some (.eL g' z xs)=>match Nat.beq g g'&&Nat.beq z n&&Nat.ble (off+len+ys.length) oW with
   | false=>none
   | true=>match Nat.ble (off+len+ys.length) xs.length with
     | true=>fN (len+ys.length) fun m=>some (.hs b g off m,h.set b (.eL g z (overwrite xs (off+len) ys)))
     | false=>match Nat.beq (off+len) xs.length with
       | true=>fN (len+ys.length) fun m=>some (.hs b (g+1) 0 m,h.set b (.eL (g+1) z (xs.drop off++ys)))
       | false=>none
 | _=>none
def append (n:Nat) (h:bY) (s:AV) (ys:List (List AV)):Option (AV×bY) :=
 match ys with
 | []=>match s with
   | .sl xs c=>some (.sl xs c,h)
   | .hs b g off len=>some (.hs b g off len,h)
   | _=>none
 | _::_=>match ju n ys with
   | false=>none
   | true=>match s with
     | .sl xs .nil=>mR n h xs ys
     | .sl xs (.exact m)=>match Nat.blt m (xs.length+ys.length) with
       | true=>mR n h xs ys
       | false=>none
     | .hs b g off len=>vk n h b g off len ys
     | _=>none
def K6:Int→Option Nat
 | .ofNat n=>some n
 | .negSucc _=>none
def kU (v:AV):Option Nat:=match v.int? with
 | some (_,n)=>K6 n
 | none=>none
def bound (x:Option AV) (dflt:Nat):Option Nat :=
 match x with
 | none=>some dflt
 | some v=>kU v
def z8 (s:List UInt8) (lo hi mx:Option AV):Option AV:=match bound lo 0,bound hi s.length,mx with
 | some l,some r,none=>match Nat.ble l r&&Nat.ble r s.length with
   | true=>qz ((s.drop l).take (r - l)) fun s=>some (.str s)
   | false=>none
 | _,_,_=>none
def kb (l:Nat):jx→jx
 | .exact n=>.exact (n - l)
 | c=>c
def mY (n:Nat):jx→jx
 | .nil=>.nil
 | .kY=>.kY
 | _=>.exact n
def jB (n:Nat):List (List AV)→Bool
 | []=>true
 | c::_=>Nat.beq c.length n
def kS (hi:Option AV):Option AV→Option (Option Nat)
 | none=>some none
 | some m=>match hi,kU m with
   | some _,some m=>some (some m)
   | _,_=>none
def rE:jx→jx
 | .kY=>.ee
 | c=>c
def uh (l m:Nat) (cap:jx):List (List AV)→Option AV
 | []=>some (.sl [] (mY (m - l) (rE cap)))
 | x::xs=>some (.sl (x::xs) (mY (m - l) cap))
def oi (n:Nat) (xs:List (List AV)) (cap:jx) (lo hi mx:Option AV):Option AV:=match bound lo 0,bound hi xs.length,kS hi mx with
 | some l,some r,some none=>match Nat.ble l r&&Nat.ble r xs.length&&jB n xs with
   | true=>qz ((xs.drop l).take (r - l)) fun xs=>some (.sl xs (kb l cap))
   | false=>none
 | some l,some r,some (some m)=>match Nat.ble l r&&Nat.ble r m&&Nat.ble m xs.length&&jB n xs with
   | true=>qz ((xs.drop l).take (r - l)) (uh l m cap)
   | false=>none
 | _,_,_=>none
def vJ (b g off:Nat) (l r:Nat):Option Nat→Option AV
 | none=>fN (off+l) fun o=>fN (r - l) fun k=>some (.hs b g o k)
 | some m=>match Nat.ble r m with
   | true=>match Nat.beq l m with
     | true=>some (.sl [] (.exact 0))
     | false=>some .undef
   | false=>none
def xo (n:Nat) (h:bY) (b g off len:Nat) (lo hi mx:Option AV):Option AV:=match h.get b with
 | some (.eL g' z xs)=>match Nat.beq g g'&&Nat.beq z n with
   | false=>none
   | true=>match bound lo 0,bound hi len,kS hi mx with
     | some l,some r,some m=>match Nat.ble l r&&Nat.ble (off+r) xs.length&&Nat.ble (off+m.getD 0) xs.length with
       | true=>vJ b g off l r m
       | false=>none
     | _,_,_=>none
 | _=>none
def slice (n:Nat) (h:bY) (x:AV) (lo hi mx:Option AV):Option AV :=
 match x with
 | .sl xs cap=>oi n xs cap lo hi mx
 | .hs b g off len=>xo n h b g off len lo hi mx
 | _=>none
abbrev A1:=bY→TI→Option AV
def B2 (d o:Nat):A1:=fun h ti=>match fJ h.dO d with
 | some cs=>part ti cs o
 | none=>none
def JH (cs:List AV) (o:Nat) (_:Bool):A1:=fun _ ti=>part ti cs o
def tF (b g i o:Nat):A1:=fun h ti=>match h.get b with
 | some (.eL g' _ xs)=>match Nat.beq g g' with
   | true=>match xs[i]? with
     | some cs=>part ti cs o
     | none=>none
   | false=>none
 | _=>none
def Ku:A1:=fun _ _=>none
def mM:AV→A1
 | .la d o=>B2 d o
 | .ip cs o s=>JH cs o s
 | .ptr b g i o=>tF b g i o
 | _=>Ku
abbrev Gl:=List AV→bY→Option bY
def CM (d o:Nat):Gl:=fun new h=>match fJ h.dO d with
 | some cs=>match jF cs o new with
   | some cs=>some { h with dO:=nI h.dO d cs }
   | none=>none
 | none=>none
def vn (b g i o:Nat):Gl:=fun new h=>match h.get b with
 | some (.eL g' z xs)=>match Nat.beq g g' with
   | true=>match xs[i]? with
     | some cs=>match jF cs o new with
       | some cs=>some (h.set b (.eL g z (xs.set i cs)))
       | none=>none
     | none=>none
   | false=>none
 | _=>none
def J1:Gl:=fun _ _=>none
def rm:AV→Gl
 | .la d o=>CM d o
 | .ptr b g i o=>vn b g i o
 | _=>J1
def o6 (h:bY) (ti:TI) (a v:AV):Option bY :=
 match cellsOf ti v with
 | none=>none
 | some new=>match new.all AV.gm with
   | true=>rm a new h
   | false=>none
def LS (d o:Nat) (k:Nat):Option AV:=fN (o+k) fun o=>some (.la d o)
def CN (cs:List AV) (o:Nat) (s:Bool) (k:Nat):Option AV:=fN (o+k) fun o=>some (.ip cs o s)
def vN (b g i o:Nat) (k:Nat):Option AV:=fN (o+k) fun o=>some (.ptr b g i o)
def Kw (_:Nat):Option AV:=none
def uy:AV→Nat→Option AV
 | .la d o=>LS d o
 | .ip cs o s=>CN cs o s
 | .ptr b g i o=>vN b g i o
 | _=>Kw
def vO:Bool→jx
 | true=>.kY
 | false=>.ee
def fx (f:AV→Option AV):List AV→Option (List AV)
 | []=>some []
 | v::l=>match f v with
   | none=>none
   | some w=>match fx f l with
     | none=>none
     | some l'=>some (w::l')
def jJ (f:AV→Option AV):List (List AV)→Option (List (List AV))
 | []=>some []
 | v::l=>match fx f v with
   | none=>none
   | some w=>match jJ f l with
     | none=>none
     | some l'=>some (w::l')
def jO (f:AV→Option AV):List (AV×AV×Nat)→Option (List (AV×AV))
 | []=>some []
 | (k,v,_)::l=>match f v with
   | none=>none
   | some w=>match jO f l with
     | none=>none
     | some l'=>some ((k,w)::l')
def freeze (sn:Bool) (h:bY):Nat→AV→Option AV
 | 0,_=>none
 | n+1,v=>match v with
   | .bool _ | .int _ _ | .str _ | .fS | .fZ | .gZ=>some v
   | .ip _ _ s=>match s&&!sn with
     | true=>none
     | false=>some v
   | .fm _ s=>match s&&!sn with
     | true=>none
     | false=>some v
   | .sl _ .kY=>match sn with
     | true=>some v
     | false=>none
   | .sl _ _=>some v
   | .ptr b g i o=>match h.get b with
     | some (.eL g' _ xs)=>match Nat.beq g g' with
       | true=>match xs[i]? with
         | some cs=>match fx (freeze sn h n) cs with
           | some cs=>some (.ip cs o sn)
           | none=>none
         | none=>none
       | false=>none
     | _=>none
   | .hs b g off len=>match h.get b with
     | some (.eL g' _ xs)=>match Nat.beq g g'&&Nat.ble (off+len) xs.length with
       | true=>match jJ (freeze sn h n) ((xs.drop off).take len) with
         | some xs=>some (.sl xs (vO sn))
         | none=>none
       | false=>none
     | _=>none
   | .hm b=>match h.get b with
     | some (.map es _)=>match jO (freeze sn h n) es with
       | some es=>some (.fm es sn)
       | none=>none
     | _=>none
   | .fz f a c=>match fx (freeze sn h n) a,fx (freeze sn h n) c with
     | some a,some c=>some (.fz f a c)
     | _,_=>none
   | .agg l=>match fx (freeze sn h n) l with
     | some l=>some (.agg l)
     | none=>none
   | .eP l=>match fx (freeze sn h n) l with
     | some l=>some (.eP l)
     | none=>none
   | .undef | .la _ _=>none
def AV.ld:AV→Bool
 | .ptr .. | .hs .. | .hm _=>true
 | .agg l=>l.any fun | .ptr .. | .hs .. | .hm _=>true | .fz _ a c=>!(a.all AV.gM&&c.all AV.gM) | _=>false
 | .fz _ a c=>!(a.all AV.gM&&c.all AV.gM)
 | _=>false
def AV.jg:AV→Bool
 | .la .. | .eP _=>false
 | _=>true
end Go.Sx
namespace Go.Sx
inductive g8 where
 | nil
 | seq (live:List Nat) (a b:g8)
 | sq (a b:g8)
 | two (a b:g8)
 | loop (live:List Nat) (a:g8)
 | lZ (sch:List (Nat×List Nat))
 deriving Inhabited
def jX {α:Type} (f : α→α→Bool):List α→List α→Bool
 | [],[]=>true
 | a::x,b::y=>f a b&&jX f x y
 | _,_=>false
def yZ:jx→jx→Bool
 | .nil,.nil=>true
 | .exact n,.exact m=>Nat.beq n m
 | .ee,.ee=>true
 | .kY,.kY=>true
 | _,_=>false
def wg:Bool→Bool→Bool
 | true,b=>b
 | false,true=>false
 | false,false=>true
def jP:Nat→AV→AV→Bool
 | 0,_,_=>false
 | n+1,a,b=>match a,b with
   | .undef,.undef=>true
   | .bool x,.bool y=>wg x y
   | .int k x,.int l y=>jM k l&&ye x y
   | .str x,.str y=>x==y
   | .fS,.fS=>true
   | .ip c o s,.ip d p t=>jX (jP n) c d&&Nat.beq o p&&wg s t
   | .la d o,.la e p=>Nat.beq d e&&Nat.beq o p
   | .ptr b g i o,.ptr b' g' i' o'=>Nat.beq b b'&&Nat.beq g g'&&Nat.beq i i'&&Nat.beq o o'
   | .sl xs c,.sl ys d=>jX (jX (jP n)) xs ys&&yZ c d
   | .hs b g i o,.hs b' g' i' o'=>Nat.beq b b'&&Nat.beq g g'&&Nat.beq i i'&&Nat.beq o o'
   | .fZ,.fZ=>true
   | .hm b,.hm c=>Nat.beq b c
   | .fm x s,.fm y t=>jX (fun p q=>jP n p.1 q.1&&jP n p.2 q.2) x y&&wg s t
   | .gZ,.gZ=>true
   | .agg x,.agg y=>jX (jP n) x y
   | _,_=>false
structure eC where
 body:Code
 oP:g8
 dO:List Nat
 ES:List Nat
 fw:List Nat
 res:List ResultVar
 iter:Bool
inductive Ex where
 | gf
 | ext (id:Nat)
 | ret
 deriving DecidableEq
abbrev lD:=Bool→Nat→List AV→bY→Option (AV×bY)
def th (C:fP) (ti:TI):List (Nat×AV)→List AV→Option (List AV)
 | [],cs=>some cs
 | (i,v)::rest,cs =>
   match (match ti.kind with
    | .struct fs=>fs[i]?
    | .array n el=>match C.T el with
      | some t=>if i<n then some (i*t.size,el) else none
      | none=>none
    | _=>none) with
   | none=>none
   | some (off,ft)=>match C.T ft with
     | none=>none
     | some t=>match cellsOf t v with
       | none=>none
       | some new=>if new.all AV.gm then match jF cs off new with
         | none=>none
         | some cs=>th C ti rest cs else none
def ni (t:TI):List (Nat×AV)→List (List AV)→Option (List (List AV))
 | [],xs=>some xs
 | (i,v)::rest,xs=>match cellsOf t v with
   | none=>none
   | some new=>match new.all AV.gm&&Nat.blt i xs.length with
     | true=>ni t rest (xs.set i new)
     | false=>none
def sX (fa:eC) (n:Nat) (dst:Option Nat) (h:bY) (xs:List (List AV)):Option (AV×bY) :=
 match dst with
 | none=>none
 | some d=>match fa.ES.elem d||!(mz xs) with
   | true=>some (.hs h.size 0 0 xs.length,h.push (.eL 0 n xs))
   | false=>some (.sl xs (.exact xs.length),h)
def nE (C:fP) (t:Nat):Option TI :=
 match C.T t with
 | some ti=>match ti.kind with
   | .slice el=>C.T el
   | _=>none
 | none=>none
def rn (k v:AV) (es:List (AV×AV×Nat)) (clock:Nat):Option (List (AV×AV×Nat)×Nat) :=
 match findKey k es 0 with
 | none=>none
 | some none=>some (es++[(k,v,clock)],clock+1)
 | some (some (i,_))=>some (es.modify i (fun e=>(k,v,e.2.2)),clock)
def yu (k:AV) (es:List (AV×AV×Nat)):Option (List (AV×AV×Nat)) :=
 match findKey k es 0 with
 | none=>none
 | some none=>some es
 | some (some (i,_))=>some (es.eraseIdx i)
def kz (n:Int) (v:AV):List (AV×AV×Nat)→Option (List (AV×AV×Nat))
 | []=>none
 | (k,w,b)::es=>if (b:Int)==n then some ((k,v,b)::es) else match kz n v es with
   | none=>none
   | some es=>some ((k,w,b)::es)
def AV.kR:AV→Bool
 | .bool _ | .int .. | .str _=>true
 | .agg l=>l.all fun | .bool _ | .int .. | .str _=>true | _=>false
 | _=>false
def kA (tk:TI) (k:AV):Bool:=match tk.agg with
 | false=>mg tk.kind k
 | true=>match k.agg? with
   | some l=>tk.flat&&Nat.beq l.length tk.size&&fitAll tk.sc l
   | none=>false
def lx (C:fP) (kt:Nat) (k:AV):Bool:=match C.T kt with
 | some tk=>kA tk k
 | none=>false
def mapKey (C:fP) (t:Nat) (k:AV):Bool:=match C.T t with
 | some tm=>match tm.kind with
   | .map kt _=>lx C kt k
   | _=>false
 | none=>false
def AV.sa:AV→Bool
 | .la .. | .eP _=>false
 | .agg l=>l.all AV.gm
 | _=>true
abbrev R2:=Option (AV×bY)
def gq (h:bY):Option AV→R2
 | some v=>some (v,h)
 | none=>none
def AK (x:AV):Option Nat:=match x.str? with
 | some s=>some s.length
 | none=>none
def oL:AV→Option Nat
 | .sl xs _=>some xs.length
 | .hs _ _ _ len=>some len
 | _=>none
def wF (h:bY):AV→Option Nat
 | .fZ=>some 0
 | .fm es _=>some es.length
 | .hm b=>match h.get b with
   | some (.map es _)=>some es.length
   | _=>none
 | _=>none
def o5 (h:bY) (x:AV):TK→Option Nat
 | .array n _=>some n
 | .str=>AK x
 | .slice _=>oL x
 | .map _ _=>wF h x
 | _=>none
def ke (h:bY):Option Nat→R2
 | some n=>some (.int .i64 n,h)
 | none=>none
def nU (C:fP) (ats:List Nat) (args:List AV) (h:bY):R2:=match ats,args with
 | t::_,[x]=>match C.T t with
   | some ti=>ke h (o5 h x ti.kind)
   | none=>none
 | _,_=>none
def D9:AV→Option Nat
 | .sl _ .nil=>some 0
 | .sl _ (.exact n)=>some n
 | _=>none
def nr (C:fP):List Nat→Option TI
 | t::_=>nE C t
 | []=>none
def uK (C:fP) (ats:List Nat) (args:List AV) (h:bY):R2:=match nr C ats,args with
 | some _,[x]=>ke h (D9 x)
 | _,_=>none
def mD (h:bY) (x:AV):Option (List (List AV)):=match x.str? with
 | some l=>some (l.map fun c=>[AV.int .u8 c.toNat])
 | none=>elems h x
def sk:TK→Bool
 | .slice _=>true
 | .str=>true
 | _=>false
def BP (C:fP):List Nat→Bool
 | [_,t]=>match C.T t with
   | some ti=>sk ti.kind
   | none=>false
 | _=>false
def ny (C:fP) (ats:List Nat) (args:List AV) (h:bY):R2:=match nr C ats,args with
 | some ti,[s,x]=>match BP C ats with
   | true=>match mD h x with
     | none=>none
     | some ys=>match vy ys with
       | true=>append ti.size h s ys
       | false=>none
   | false=>none
 | _,_=>none
def xj (n:Nat) (h:bY) (ys:List (List AV)):AV→R2
 | .hs b g off len=>match h.get b with
   | some (.eL g' z xs)=>match Nat.beq g g'&&Nat.beq z n&&Nat.ble (off+len) xs.length&&vy ys&&ju n ys with
     | true=>some (.int .i64 ((min ys.length len:Nat):Int),h.set b (.eL g z (overwrite xs off (ys.take (min ys.length len)))))
     | false=>none
   | _=>none
 | .sl [] _=>some (.int .i64 0,h)
 | _=>none
def s8 (C:fP) (ats:List Nat) (args:List AV) (h:bY):R2:=match nr C ats,args with
 | some ti,[d,x]=>match elems h x with
   | some ys=>xj ti.size h ys d
   | none=>none
 | _,_=>none
def sd (C:fP) (k:AV):List Nat→Bool
 | t::_=>mapKey C t k
 | []=>false
def pv (C:fP) (ats:List Nat) (args:List AV) (h:bY):R2:=match args with
 | [.fZ,k]=>match sd C k ats with
   | true=>some (.eP [],h)
   | false=>none
 | [.hm b,k]=>match h.get b with
   | some (.map es c)=>match sd C k ats with
     | true=>match yu k es with
       | some es=>some (.eP [],h.set b (.map es c))
       | none=>none
     | false=>none
   | _=>none
 | _=>none
def Ax (ti:TI) (h:bY):AV→R2
 | .sl [] _=>some (.eP [],h)
 | .hs b g off len=>match h.get b with
   | some (.eL g' z xs)=>match Nat.beq g g'&&Nat.beq z ti.size&&Nat.ble (off+len) xs.length with
     | true=>some (.eP [],h.set b (.eL g z (overwrite xs off (List.replicate len ti.zero))))
     | false=>none
   | _=>none
 | _=>none
def q9 (C:fP) (ats:List Nat) (args:List AV) (h:bY):R2:=match nr C ats,args with
 | some ti,[x]=>Ax ti h x
 | _,_=>none
def lQ (f:AV→AV→Option AV) (args:List AV) (h:bY):R2:=match args with
 | x::rest=>gq h (ug f x rest)
 | []=>none
abbrev sE:=fP→List Nat→List AV→bY→R2
def qh:sE:=nU
def DO:sE:=uK
def w4:sE:=ny
def KN:sE:=s8
def CF:sE:=fun C ats a h=>pv C ats a h
def HH:sE:=q9
def D3:sE:=fun _ _ a h=>lQ max2 a h
def D7:sE:=fun _ _ a h=>lQ min2 a h
def Jb:sE:=fun _ _ _ _=>none
def iQ:Builtin→sE
 | .len=>qh
 | .cap=>DO
 | .append=>w4
 | .copy=>KN
 | .delete=>CF
 | .clear=>HH
 | .max=>D3
 | .min=>D7
 | _=>Jb
def jf (f:Operand→AV):Option Operand→Option AV
 | none=>none
 | some x=>some (f x)
def asAgg (ti:TI) (cs:List AV):Option AV:=match ti.agg with
 | true=>some (.agg cs)
 | false=>match cs with
   | [v]=>some v
   | _=>none
def lr (h:bY) (k:AV):AV→Option (Option AV)
 | .fZ=>some none
 | .fm es _=>lJ k es
 | .hm b=>match h.get b with
   | some (.map es _)=>match findKey k es 0 with
     | none=>none
     | some none=>some none
     | some (some (_,v))=>some (some v)
   | _=>none
 | _=>none
def p7 (ok b:Bool) (v:AV):Option AV:=match ok with
 | true=>some (.eP [v,.bool b])
 | false=>some v
def lM (C:fP) (t:Nat) (h:bY) (m k:AV) (ok:Bool):Option AV:=match C.T t with
 | none=>none
 | some tm=>match tm.kind with
   | .map kt el=>match C.T el with
     | none=>none
     | some ti=>match lx C kt k with
       | false=>none
       | true=>match lr h k m with
         | none=>none
         | some (some v)=>p7 ok true v
         | some none=>match asAgg ti ti.zero with
           | none=>none
           | some z=>p7 ok false z
   | _=>none
def vF (h:bY) (c a b:AV):R2:=match c.bool? with
 | some true=>some (a,h)
 | some false=>some (b,h)
 | none=>none
def newVar (fa:eC) (d:Nat) (h:bY) (cs:List AV):R2:=match fa.dO.elem d with
 | true=>match fJ h.dO d with
   | none=>some (.la d 0,{ h with dO:=(d,cs)::h.dO })
   | some _=>none
 | false=>some (.ptr h.size 0 0 0,h.push (.eL 0 cs.length [cs]))
def tI (C:fP) (fa:eC) (dst:Option Nat) (h:bY) (t:Nat):R2:=match C.T t with
 | some ti=>match dst with
   | some d=>newVar fa d h ti.zero
   | none=>none
 | none=>none
def Af (C:fP) (fa:eC) (dst:Option Nat) (h:bY) (t:Nat) (x:AV):R2:=match C.T t with
 | some ti=>match dst with
   | some d=>match cellsOf ti x with
     | some cs=>match cs.all AV.gm with
       | true=>newVar fa d h cs
       | false=>none
     | none=>none
   | none=>none
 | none=>none
def jq (e:Env) (ps:Array (Nat×Operand)):List (Nat×AV):=ps.toList.map fun p=>(p.1,eO e p.2)
def buildable (C:fP):TK→Bool
 | .struct _=>true
 | .array _ el=>(C.T el).isSome
 | _=>false
def tX (C:fP) (h:bY) (t:Nat) (ps:List (Nat×AV)):R2:=match C.T t with
 | some ti=>match buildable C ti.kind with
   | true=>match th C ti ps ti.zero with
     | some cs=>some (.agg cs,h)
     | none=>none
   | false=>none
 | none=>none
def mJ (C:fP) (fa:eC) (dst:Option Nat) (h:bY) (t n:Nat) (ps:List (Nat×AV)):R2:=match nE C t with
 | some ti=>match Nat.ble (n*ti.size) 16777216 with
   | true=>match ni ti ps (List.replicate n ti.zero) with
     | some xs=>sX fa ti.size dst h xs
     | none=>none
   | false=>none
 | none=>none
def pS (C:fP) (h:bY) (t:Nat) (a:AV):R2:=match C.T t with
 | some ti=>gq h (mM a h ti)
 | none=>none
def pH (C:fP) (h:bY) (t:Nat) (a x:AV):R2:=match C.T t with
 | some ti=>match o6 h ti a x with
   | some h=>some (.undef,h)
   | none=>none
 | none=>none
def tW:AV→Option AV
 | .ptr b g i o=>some (.ptr b g i o)
 | .ip cs o s=>some (.ip cs o s)
 | .la d o=>some (.la d o)
 | .fz f a c=>some (.fz f a c)
 | _=>none
def qw (C:fP) (h:bY) (s d:Nat) (x:AV):R2:=match C.T s,C.T d with
 | some _,some ti=>match ti.kind with
   | .int k=>match x.int? with
     | some (_,n)=>gq h (fI (mK k n) (jy k))
     | none=>none
   | .str=>match x.str? with
     | some s=>some (.str s,h)
     | none=>none
   | _=>none
 | _,_=>none
def m0 (h:bY) (fn:Fn) (a c:List AV):R2:=match fn with
 | .func f=>match a.all AV.gm&&c.all AV.gm with
   | true=>some (.fz f a c,h)
   | false=>none
 | _=>none
def pJ (C:fP) (h:bY) (t:Nat) (l c:AV):R2:=match nE C t,l.int?,c.int? with
 | some ti,some (_,l),some (_,c) =>
   match tB 0 l&&tB l c&&tB c 4294967295&&Nat.ble (c.toNat*ti.bytes) 140737488355328 with
   | true=>some (.hs h.size 0 0 l.toNat,h.push (.eL 0 ti.size (List.replicate c.toNat ti.zero)))
   | false=>none
 | _,_,_=>none
def kg (C:fP) (h:bY) (t:Nat) (x:AV) (lo hi mx:Option AV):R2:=match C.T t with
 | none=>none
 | some ti=>match ti.kind with
   | .slice el=>match C.T el with
     | some ti=>gq h (slice ti.size h x lo hi mx)
     | none=>none
   | .str=>match x.str? with
     | some s=>gq h (z8 s lo hi mx)
     | none=>none
   | _=>none
def kN (C:fP) (h:bY) (t:Nat) (x:AV) (f:Nat):R2:=match C.T t with
 | none=>none
 | some ti=>match ti.kind with
   | .struct fs=>match fs[f]? with
     | some (off,_)=>gq h (uy x off)
     | none=>none
   | _=>none
def tg (C:fP) (h:bY) (t:Nat) (x:AV) (f:Nat):R2:=match C.T t with
 | none=>none
 | some ti=>match ti.kind with
   | .struct fs=>match fs[f]? with
     | some (off,ft)=>match x.agg? with
       | some cs=>match C.T ft with
         | some ti=>gq h (part ti cs off)
         | none=>none
       | none=>none
     | none=>none
   | _=>none
def kH:jx→Bool
 | .kY=>true
 | _=>false
def lv (n:Nat) (h:bY) (x:AV) (i:Nat):R2:=match x with
 | .sl xs c=>match xs[i]? with
   | some cs=>match Nat.beq cs.length n with
     | true=>some (.ip cs 0 (kH c),h)
     | false=>none
   | none=>none
 | .hs b g off len=>match h.get b with
   | some (.eL _ z _)=>match Nat.blt i len&&Nat.beq z n with
     | true=>fN (off+i) fun k=>some (.ptr b g k 0,h)
     | false=>none
   | _=>none
 | _=>none
def j1 (C:fP) (h:bY) (t:Nat) (x i:AV):R2:=match C.T t with
 | none=>none
 | some ti=>match kU i with
   | none=>none
   | some i=>match ti.kind with
     | .slice el=>match C.T el with
       | some ti=>lv ti.size h x i
       | none=>none
     | .array n el=>match C.T el with
       | some ti=>match Nat.blt i n with
         | true=>gq h (uy x (i*ti.size))
         | false=>none
       | none=>none
     | _=>none
def rp (C:fP) (h:bY) (t:Nat) (x i:AV):R2:=match C.T t with
 | none=>none
 | some ti=>match kU i with
   | none=>none
   | some i=>match ti.kind with
     | .str=>match x.str? with
       | some s=>match s[i]? with
         | some c=>some (.int .u8 c.toNat,h)
         | none=>none
       | none=>none
     | .array n el=>match C.T el with
       | some ti=>match x.agg? with
         | some cs=>match Nat.blt i n with
           | true=>gq h (part ti cs (i*ti.size))
           | false=>none
         | none=>none
       | none=>none
     | _=>none
def nm (C:fP) (h:bY) (t:Nat) (m k x:AV):R2:=match m with
 | .hm b=>match h.get b with
   | some (.map es c)=>match mapKey C t k&&x.sa with
     | true=>match rn k x es c with
       | some (es,c)=>some (.undef,h.set b (.map es c))
       | none=>none
     | false=>none
   | _=>none
 | _=>none
def pG (es:List (AV×AV×Nat)) (i:Nat):Nat:=match es[i]? with
 | some x=>x.2.2
 | none=>0
def mQ (C:fP) (h:bY) (t:Nat) (m k:AV):R2:=match C.T t with
 | none=>none
 | some tm=>match tm.kind,m with
   | .map kt el,.hm b=>match C.T el,h.get b with
     | some ti,some (.map es c)=>match lx C kt k with
       | false=>none
       | true=>match findKey k es 0 with
         | some (some (i,v))=>some (.eP [v,.int .i64 (pG es i)],h.set b (.map (es.modify i fun x=>(k,x.2)) c))
         | some none=>match asAgg ti ti.zero with
           | some z=>some (.eP [z,.int .i64 c],h.set b (.map (es++[(k,z,c)]) (c+1)))
           | none=>none
         | none=>none
     | _,_=>none
   | _,_=>none
def mL (h:bY) (m s x:AV):R2:=match m,s.int? with
 | .hm b,some (_,n)=>match h.get b with
   | some (.map es c)=>match x.sa with
     | true=>match kz n x es with
       | some es=>some (.undef,h.set b (.map es c))
       | none=>none
     | false=>none
   | _=>none
 | _,_=>none
def qm (h:bY) (t:AV) (i:Nat):R2:=match t with
 | .eP vs=>gq h vs[i]?
 | _=>none
def pC (m:gN):R2→R2
 | some (v,h)=>some (v,{ h with dO:=m })
 | none=>none
def n9 (fa:eC) (call:lD) (h:bY) (f:AV) (args:List AV):R2:=match f with
 | .fz g a cp=>fL (a++args++cp) fun args=>match args.all AV.jg with
   | true=>pC h.dO (call (fa.fw.elem g) g args { h with dO:=[] })
   | false=>none
 | _=>none
def jW (C:fP) (fa:eC) (call:lD) (e:Env) (h:bY) (c:Call):R2:=match c.callee with
 | .builtin b=>iQ b C c.argTypes.toList (c.args.toList.map (eO e)) h
 | .value f=>n9 fa call h (eO e f) (c.args.toList.map (eO e))
 | .invoke ..=>none
structure Ctx where
 C:fP
 fa:eC
 call:lD
abbrev jL:=Ctx→Env→bY→Option Nat→R2
def Al (x:Operand):jL:=fun _ e h _=>some (eO e x,h)
def zF (c a b:Operand):jL:=fun _ e h _=>vF h (eO e c) (eO e a) (eO e b)
def Bl (t:Nat):jL:=fun X e h d=>tI X.C X.fa d h t
def Cg (t:Nat) (x:Operand):jL:=fun X e h d=>Af X.C X.fa d h t (eO e x)
def wx (t:Nat) (ps:Array (Nat×Operand)):jL:=fun X e h _=>tX X.C h t (jq e ps)
def oU (t n:Nat) (ps:Array (Nat×Operand)):jL:=fun X e h d=>mJ X.C X.fa d h t n (jq e ps)
def rP (t:Nat) (a:Operand):jL:=fun X e h _=>pS X.C h t (eO e a)
def qQ (t:Nat) (a x:Operand):jL:=fun X e h _=>pH X.C h t (eO e a) (eO e x)
def oT (x:Operand):jL:=fun _ e h _=>gq h (tW (eO e x))
def sT (op:BinOp) (t:Nat) (x y:Operand) (_:Nat):jL:=fun X e h _=>gq h (binOp X.C op t (eO e x) (eO e y))
def Lp (op:UnOp) (_:Nat) (x:Operand):jL:=fun _ e h _=>gq h (unOp op (eO e x))
def s7 (s d:Nat) (x:Operand):jL:=fun X e h _=>qw X.C h s d (eO e x)
def oq (fn:Fn) (a c:Array Operand):jL:=fun _ e h _=>m0 h fn (a.toList.map (eO e)) (c.toList.map (eO e))
def xc (_:Nat):Option Operand→jL
 | none=>fun _ _ h _=>some (.hm h.size,h.push (.map [] 0))
 | some _=>fun _ _ _ _=>none
def uc (t:Nat) (l c:Operand):jL:=fun X e h d=>pJ X.C h t (eO e l) (eO e c)
def kI (t:Nat) (x:Operand) (lo hi mx:Option Operand):jL:=fun X e h _=>kg X.C h t (eO e x) (jf (eO e) lo) (jf (eO e) hi) (jf (eO e) mx)
def mb (t:Nat) (x:Operand) (f:Nat):jL:=fun X e h _=>kN X.C h t (eO e x) f
def wC (t:Nat) (x:Operand) (f:Nat):jL:=fun X e h _=>tg X.C h t (eO e x) f
def kQ (t:Nat) (x i:Operand):jL:=fun X e h _=>j1 X.C h t (eO e x) (eO e i)
def tD (t:Nat) (x i:Operand):jL:=fun X e h _=>rp X.C h t (eO e x) (eO e i)
def nt (t:Nat) (m k:Operand) (ok:Bool):jL:=fun X e h _=>gq h (lM X.C t h (eO e m) (eO e k) ok)
def nh (t:Nat) (m k x:Operand):jL:=fun X e h _=>nm X.C h t (eO e m) (eO e k) (eO e x)
def oE (t:Nat) (m k:Operand):jL:=fun X e h _=>mQ X.C h t (eO e m) (eO e k)
def o0 (_:Nat) (m s x:Operand):jL:=fun _ e h _=>mL h (eO e m) (eO e s) (eO e x)
def s4 (t:Operand) (i:Nat):jL:=fun _ e h _=>qm h (eO e t) i
def kX (c:Call):jL:=fun X e h _=>jW X.C X.fa X.call e h c
def LX:jL:=fun _ _ _ _=>none
def fC:Op→jL
 | .move x=>Al x
 | .assign x=>Al x
 | .pick c a b=>zF c a b
 | .alloc t=>Bl t
 | .box t x=>Cg t x
 | .build t ps=>wx t ps
 | .buildSlice t n ps=>oU t n ps
 | .load t a=>rP t a
 | .store t a x=>qQ t a x
 | .nilCheck x=>oT x
 | .binOp op t x y u=>sT op t x y u
 | .unOp op t x=>Lp op t x
 | .convert s d x=>s7 s d x
 | .makeFunc fn a c=>oq fn a c
 | .makeMap t r=>xc t r
 | .makeSlice t l c=>uc t l c
 | .slice t x lo hi mx=>kI t x lo hi mx
 | .fieldAddr t x f=>mb t x f
 | .field t x f=>wC t x f
 | .indexAddr t x i=>kQ t x i
 | .index t x i=>tD t x i
 | .lookup t m k ok=>nt t m k ok
 | .mapUpdate t m k x=>nh t m k x
 | .insert t m k x=>nh t m k x
 | .mapEntry t m k=>oE t m k
 | .entryStore t m s x=>o0 t m s x
 | .extract t i=>s4 t i
 | .call c=>kX c
 | _=>LX
def yN (want:Bool):AV→Option Bool
 | .bool b=>some (wg b want)
 | .eP []=>some false
 | _=>none
def fk (all:List Oper) (e:Env) (o:Oper):Option Bool :=
 match o.guard with
 | none=>some true
 | some (j,want)=>match all[j]? with
   | some o'=>match o'.dst with
     | some d=>yN want (gY e d)
     | none=>none
   | none=>none
def eY (e:Env) (o:Oper) (v:AV):Env :=
 match o.dst with
 | some d=>w8 e d v
 | none=>e
abbrev RE:=Option (Env×bY)
def kG (X:Ctx) (k:Env→bY→RE) (o:Oper) (e:Env) (h:bY):Option Bool→RE
 | none=>none
 | some true=>match fC o.op X e h o.dst with
   | some (v,h)=>fH h fun h=>k (eY e o v) h
   | none=>none
 | some false=>k (eY e o (.eP [])) h
def rv (X:Ctx) (all:List Oper):List Oper→Env→bY→RE
 | [],e,h=>some (e,h)
 | o::rest,e,h=>kG X (rv X all rest) o e h (fk all e o)
def wS (e:Env) (d:Nat):Option (AV×bY)→Bool
 | some (v,_)=>jP 8 v (gY e d)
 | none=>false
def again (X:Ctx) (all:List Oper) (e:Env) (h:bY) (i:Nat):Bool:=match all[i]? with
 | none=>false
 | some o=>match fk all e o with
   | none=>false
   | some false=>true
   | some true=>match o.dst with
     | none=>false
     | some d=>wS e d (fC o.op X e h (some d))
def nb (X:Ctx) (all:List Oper):List (Nat×List Nat)→Env→bY→RE
 | [],e,h=>some (e,h)
 | (i,chk)::rest,e,h=>match all[i]? with
   | none=>none
   | some o=>kG X (fun e h=>match chk.all (again X all e h) with
     | true=>nb X all rest e h
     | false=>none) o e h (fk all e o)
abbrev rR:=(Env→bY→Option (Ex×Env×bY))→Env→bY→Option (Ex×Env×bY)
def gA:Nat→rR
 | 0,_,_,_=>none
 | n+1,f,e,h=>match f e h with
   | some (.gf,e,h)=>gA n f e h
   | r=>r
abbrev RC:=Option (Ex×Env×bY)
abbrev lz:=g8→Env→bY→RC
def pX:RE→RC
 | some (e,h)=>some (.gf,e,h)
 | none=>none
def qY (X:Ctx) (ops:Array Oper):lz:=fun an e h=>match an with
 | .lZ sch=>pX (nb X ops.toList sch e h)
 | _=>none
def Aq (X:Ctx) (ops:Array Oper):lz:=fun _ e h=>pX (rv X ops.toList ops.toList e h)
def pr (X:Ctx) (ops:Array Oper):Bool→lz
 | true=>qY X ops
 | false=>Aq X ops
def andThen (k:Env→bY→RC):RC→RC
 | some (.gf,e,h)=>k e h
 | r=>r
def hZ (live:List Nat) (k:Env→bY→RC) (e:Env) (h:bY):RC:=sg live e fun e=>pE live h.dO fun m=>k e { h with dO:=m }
def rA (a b:lz):lz:=fun an e h=>match an with
 | .seq live x y=>andThen (fun e h=>hZ live (b y) e h) (a x e h)
 | .sq x y=>andThen (b y) (a x e h)
 | _=>none
def vL (x y:Env→bY→RC) (e:Env) (h:bY) (c:AV):RC:=match c.bool? with
 | some true=>x e h
 | some false=>y e h
 | none=>none
def vC (c:Operand) (a b:lz):lz:=fun an e h=>match an with
 | .two x y=>vL (a x) (b y) e h (eO e c)
 | _=>none
def atEnd (id:Nat):RC→RC
 | some (.ext id',e,h)=>match Nat.beq id' id with
   | true=>some (.gf,e,h)
   | false=>some (.ext id',e,h)
 | r=>r
def pe (id:Nat) (a:lz):lz:=fun an e h=>atEnd id (a an e h)
def Ew (lp:rR) (a:lz):lz:=fun an e h=>match an with
 | .loop live x=>lp (hZ live (a x)) e h
 | _=>none
def fT (X:Ctx) (lp:rR):Code→lz
 | .skip=>fun _ e h=>some (.gf,e,h)
 | .region _ ops draw=>pr X ops draw
 | .seq a b=>rA (fT X lp a) (fT X lp b)
 | .cond c a b=>vC c (fT X lp a) (fT X lp b)
 | .block id a=>pe id (fT X lp a)
 | .loop a=>Ew lp (fT X lp a)
 | .exit id=>fun _ e h=>some (.ext id,e,h)
 | .scope a=>fT X lp a
 | .label _=>fun _ e h=>some (.gf,e,h)
 | .ret=>fun _ e h=>some (.ret,e,h)
 | _=>fun _ _ _=>none
inductive sI where
 | nil
 | fix (last:Option (AV×AV)) (left:List (AV×AV))
 | tN (b clk:Nat) (seen:Option Nat)
structure It where
 d:Nat
 k:sI
def ym (h:bY):AV→Option sI
 | .fZ=>some .nil
 | .fm [] _=>some (.fix none [])
 | .fm [x] _=>some (.fix none [x])
 | .hm b=>match h.get b with
   | some (.map [] c)=>some (.tN b c none)
   | some (.map [_] c)=>some (.tN b c none)
   | _=>none
 | _=>none
def xy (C:fP) (h:bY) (t:Nat) (x:AV):Option sI:=match C.T t with
 | some ti=>match ti.kind with
   | .map _ _=>ym h x
   | _=>none
 | none=>none
def nN (h:bY):sI→Option (Option (AV×AV)×sI)
 | .nil=>some (none,.nil)
 | .fix last []=>some (none,.fix last [])
 | .fix _ (x::l)=>some (some x,.fix (some x) l)
 | .tN b clk seen=>match h.get b with
   | some (.map es c)=>match Nat.beq c clk,es,seen with
     | true,[],s=>some (none,.tN b clk s)
     | true,[(k,v,n)],none=>some (some (k,v),.tN b clk (some n))
     | true,[(_,_,n)],some n'=>match Nat.beq n n' with
       | true=>some (none,.tN b clk (some n'))
       | false=>none
     | _,_,_=>none
   | _=>none
def so (h:bY):sI→Option (AV×AV)
 | .fix (some x) _=>some x
 | .tN b clk (some n)=>match h.get b with
   | some (.map [(k,v,n')] c)=>match Nat.beq c clk&&Nat.beq n' n with
     | true=>some (k,v)
     | false=>none
   | _=>none
 | _=>none
abbrev RI:=Option (Option It×Env×bY)
def pF (o:Oper):Bool:=match o.guard with
 | none=>true
 | some _=>false
def mA (it:Option It) (o:Oper):Bool:=match it,o.dst with
 | some i,some d=>!(Nat.beq i.d d)
 | _,_=>true
def rJ:Option (AV×AV)→AV
 | none=>.eP [.bool false]
 | some x=>.eP [.bool true,x.1,x.2]
def AR (h:bY) (o:Oper) (t:Nat) (k:Option It→Env→RI) (e:Env) (it:Option It):RI:=match it with
 | some i=>match Nat.beq i.d t&&mA (some i) o&&pF o with
   | true=>match nN h i.k with
     | some (r,k')=>k (some ⟨i.d,k'⟩) (eY e o (rJ r))
     | none=>none
   | false=>none
 | none=>none
def yq (h:bY) (o:Oper) (t:Nat) (k:Option It→Env→RI) (e:Env) (it:Option It):RI:=match it with
 | some i=>match Nat.beq i.d t&&mA (some i) o&&pF o with
   | true=>match so h i.k with
     | some x=>k (some i) (eY e o (.eP [x.1,x.2]))
     | none=>none
   | false=>none
 | none=>none
def yK (o:Oper) (x:Option sI) (k:Option It→Env→RI) (e:Env):RI:=match x,o.dst,pF o with
 | some l,some d,true=>k (some ⟨d,l⟩) (w8 e d .undef)
 | _,_,_=>none
inductive Xc where
 | range (t:Nat) (x:Operand)
 | next (t:Nat)
 | entry (t:Nat)
 | plain
 | bad
def vR:Op→Xc
 | .range t x=>.range t x
 | .next (.tmp t) false=>.next t
 | .next _ _=>.bad
 | .entry (.tmp t)=>.entry t
 | .entry _=>.bad
 | _=>.plain
def xv (X:Ctx) (it:Option It) (k:Env→bY→RI) (o:Oper) (e:Env) (h:bY):Option Bool→RI
 | none=>none
 | some true=>match fC o.op X e h o.dst with
   | some (v,h)=>fH h fun h=>k (eY e o v) h
   | none=>none
 | some false=>k (eY e o (.eP [])) h
def qO (X:Ctx) (all:List Oper):List Oper→Option It→Env→bY→RI
 | [],it,e,h=>some (it,e,h)
 | o::rest,it,e,h=>match vR o.op with
   | .range t x=>yK o (xy X.C h t (eO e x)) (fun it e=>qO X all rest it e h) e
   | .next t=>AR h o t (fun it e=>qO X all rest it e h) e it
   | .entry t=>yq h o t (fun it e=>qO X all rest it e h) e it
   | .plain=>match mA it o with
     | true=>xv X it (fun e h=>qO X all rest it e h) o e h (fk all e o)
     | false=>none
   | .bad=>none
abbrev nB:=Option (Ex×Option It×Env×bY)
def J5:RI→nB
 | some (it,e,h)=>some (.gf,it,e,h)
 | none=>none
def vK (k:Option It→Env→bY→nB):nB→nB
 | some (.gf,it,e,h)=>k it e h
 | r=>r
def o7 (live:List Nat) (k:Env→bY→nB) (e:Env) (h:bY):nB:=sg live e fun e=>pE live h.dO fun m=>k e { h with dO:=m }
def I3 (id:Nat):nB→nB
 | some (.ext id',it,e,h)=>match Nat.beq id' id with
   | true=>some (.gf,it,e,h)
   | false=>some (.ext id',it,e,h)
 | r=>r
def tQ:Nat→(Option It→Env→bY→nB)→Option It→Env→bY→nB
 | 0,_,_,_,_=>none
 | n+1,f,it,e,h=>match f it e h with
   | some (.gf,it,e,h)=>tQ n f it e h
   | r=>r
abbrev qM:=g8→Option It→Env→bY→nB
def Jf (a b:qM):qM:=fun an it e h=>match an with
 | .seq live x y=>vK (fun it e h=>o7 live (b y it) e h) (a x it e h)
 | .sq x y=>vK (b y) (a x it e h)
 | _=>none
def Gs (c:Operand) (a b:qM):qM:=fun an it e h=>match an with
 | .two x y=>match (eO e c).bool? with
   | some true=>a x it e h
   | some false=>b y it e h
   | none=>none
 | _=>none
def AI (it:Option It):RC→nB
 | some (x,e,h)=>some (x,it,e,h)
 | none=>none
def iM (X:Ctx) (n:Nat):Code→qM
 | .skip=>fun _ it e h=>some (.gf,it,e,h)
 | .region _ ops false=>fun _ it e h=>J5 (qO X ops.toList ops.toList it e h)
 | .region _ ops true=>fun an it e h=>match ops.toList.all (mA it) with
   | true=>AI it (qY X ops an e h)
   | false=>none
 | .seq a b=>Jf (iM X n a) (iM X n b)
 | .cond c a b=>Gs c (iM X n a) (iM X n b)
 | .block id a=>fun an it e h=>I3 id (iM X n a an it e h)
 | .loop a=>fun an it e h=>match an with
   | .loop live x=>tQ n (fun it e h=>o7 live (iM X n a x it) e h) it e h
   | _=>none
 | .exit id=>fun _ it e h=>some (.ext id,it,e,h)
 | .scope a=>iM X n a
 | .label _=>fun _ it e h=>some (.gf,it,e,h)
 | .ret=>fun _ it e h=>some (.ret,it,e,h)
 | _=>fun _ _ _ _=>none
def AY:nB→RC
 | some (x,_,e,h)=>some (x,e,h)
 | none=>none
def tZ (X:Ctx) (n:Nat) (c:Code) (an:g8) (e:Env) (h:bY):Bool→RC
 | true=>AY (iM X n c an none e h)
 | false=>fT X (gA n) c an e h
def zJ (C:fP) (e:Env) (h:bY):ResultVar→Option AV
 | .tmp t=>some (eO e (.tmp t))
 | .cell a t=>match C.T t with
   | some ti=>mM (eO e (.tmp a)) h ti
   | none=>none
def uF (C:fP) (e:Env) (h:bY):List ResultVar→Option (List AV)
 | []=>some []
 | r::l=>match zJ C e h r with
   | none=>none
   | some v=>match uF C e h l with
     | none=>none
     | some l=>some (v::l)
def params:Nat→List AV→Env
 | _,[]=>[]
 | i,v::l=>(i,v)::params (i+1) l
def result:List AV→AV
 | [v]=>v
 | vs=>.eP vs
def leave (C:fP) (res:List ResultVar):RC→R2
 | some (.gf,e,h)=>leave1 e h
 | some (.ret,e,h)=>leave1 e h
 | _=>none
where
 leave1 (e:Env) (h:bY):R2:=match uF C e h res with
  | some vs=>match vs.all AV.jg with
    | true=>some (result vs,h)
    | false=>none
  | none=>none
def oG (C:fP) (fa:eC) (call:lD) (n:Nat) (args:List AV) (h:bY):Option (AV×bY) :=
 leave C fa.res (tZ ⟨C,fa,call⟩ n fa.body fa.oP (params 0 args) h fa.iter)
abbrev iI:=Nat→Option eC
abbrev iw:=Nat→Option (Bool→List AV→bY→Option (AV×bY))
def iS (h:bY) (args:List AV):Option (List AV):=match args.any AV.ld with
 | true=>fx (freeze true h 8) args
 | false=>some args
def frozen:bY→R2→R2
 | h,some (v,h')=>match freeze false h' 8 v with
   | none=>none
   | some v=>some (v,h)
 | _,none=>none
def ml (C:fP) (fa:eC) (call:lD) (lp:Nat) (shd:Bool) (args:List AV) (h:bY):Option (AV×bY) :=
 match shd with
 | true=>oG C fa call lp args h
 | false=>match iS h args with
   | none=>none
   | some args'=>frozen h (oG C fa call lp args' bY.empty)
def ja (C:fP) (F:iI) (P:iw):Nat→lD
 | 0,_,_,_,_=>none
 | n+1,shd,f,args,h=>match P f with
   | some p=>p shd args h
   | none=>match F f with
     | none=>none
     | some fa=>ml C fa (ja C F P n) n shd args h
end Go.Sx
namespace Go.Sx
open Go
def j3:jx→Nat→Nat→Prop
 | .nil,_,_=>False
 | .exact n,_,c=>c=n
 | .ee,l,c=>l≤c
 | .kY,l,c=>l≤c
def lH:jx→Bool
 | .kY=>true
 | _=>false
inductive PR (w:World) (T:Bool→Nat→Prop):Bool→AV→Value→Prop
 | undef (m:Bool) (v:Value) (h:v.oneCell'=true):PR w T m .undef v
 | bool (m b:Bool):PR w T m (.bool b) (.bool b)
 | int (m:Bool) (k:IntKind) (n:Int):PR w T m (.int k n) (.int k n)
 | str (m:Bool) (s:List UInt8) (b:ByteArray) (h:b.data.toList=s):PR w T m (.str s) (.string b)
 | fS (m:Bool):PR w T m .fS (.pointer none)
 | ip (m:Bool) (cells:List AV) (off:Nat) (sn:Bool) (B base:Nat) (c:Array Value) (e:TypeId) (fr:Nat×Nat) (f:Nat→Value) (hm:sn=true→m=true)
    (hB:w.heap[B]?=some (.cells c e fr)) (hI:T sn B)
    (hc:∀ (i:Nat) (x:AV),cells[i]?=some x→c[base+i]?=some (f i)) (h1:∀ (i:Nat) (x:AV),cells[i]?=some x→(f i).oneCell'=true)
    (hr:∀ (i:Nat) (x:AV),cells[i]?=some x→PR w T sn x (f i)):PR w T m (.ip cells off sn) (.pointer (some ⟨B,base+off,none⟩))
 | slnil (m:Bool):PR w T m (.sl [] .nil) (.slice none 0 0)
 | iO (m:Bool) (cap:jx) (a:Addr) (c:Nat) (hm:lH cap=true→m=true) (h:j3 cap 0 c):PR w T m (.sl [] cap) (.slice (some a) 0 c)
 | sl (m:Bool) (xs:List (List AV)) (cap:jx) (B base:Nat) (c:Array Value) (e:TypeId) (fr:Nat×Nat) (cap' esz:Nat) (f:Nat→Nat→Value)
    (hm:lH cap=true→m=true)
    (hB:w.heap[B]?=some (.cells c e fr)) (hI:T (lH cap) B) (hcap:j3 cap xs.length cap') (hle:xs.length≤cap')
    (hz:∀ (i:Nat) (cs:List AV),xs[i]?=some cs→cs.length=esz)
    (hc:∀ (i:Nat) (cs:List AV) (j:Nat) (x:AV),xs[i]?=some cs→cs[j]?=some x→c[base+i*esz+j]?=some (f i j))
    (h1:∀ (i:Nat) (cs:List AV) (j:Nat) (x:AV),xs[i]?=some cs→cs[j]?=some x→(f i j).oneCell'=true)
    (hr:∀ (i:Nat) (cs:List AV) (j:Nat) (x:AV),xs[i]?=some cs→cs[j]?=some x→PR w T (lH cap) x (f i j)) :
    PR w T m (.sl xs cap) (.slice (some ⟨B,base,none⟩) xs.length cap')
 | fZ (m:Bool):PR w T m .fZ (.map none)
 | fm (m:Bool) (es:List (AV×AV)) (sn:Bool) (r:Nat) (ents:Array MapEntry) (clk:Nat) (hm:sn=true→m=true) (hB:w.heap[r]?=some (.map ents clk)) (hI:T sn r)
    (hl:es.length=ents.size) (hy:∀ (i:Nat) (e:MapEntry),ents[i]?=some e→e.born<clk) (hko:∀ (i:Nat) (p:AV×AV),es[i]?=some p→p.1.kR=true)
    (hk:∀ (i:Nat) (p:AV×AV) (e:MapEntry),es[i]?=some p→ents[i]?=some e→PR w T sn p.1 e.key)
    (hv:∀ (i:Nat) (p:AV×AV) (e:MapEntry),es[i]?=some p→ents[i]?=some e→PR w T sn p.2 e.val):PR w T m (.fm es sn) (.map (some r))
 | gZ (m:Bool):PR w T m .gZ .nilFunc
 | fz (m:Bool) (g:Nat) (a c:List AV) (a' c':Array Value) (ha:a.length=a'.size) (hc:c.length=c'.size)
    (hra:∀ (i:Nat) (x:AV) (y:Value),a[i]?=some x→a'[i]?=some y→PR w T m x y) (hrc:∀ (i:Nat) (x:AV) (y:Value),c[i]?=some x→c'[i]?=some y→PR w T m x y) :
    PR w T m (.fz g a c) (.func (.func g) a' c')
 | agg (m:Bool) (l:List AV) (vs:Array Value) (hl:l.length=vs.size) (h1:∀ (i:Nat) (y:Value),vs[i]?=some y→y.oneCell'=true)
    (hr:∀ (i:Nat) (x:AV) (y:Value),l[i]?=some x→vs[i]?=some y→PR w T m x y):PR w T m (.agg l) (.agg vs)
theorem PR.mono {w w':World} {T T':Bool→Nat→Prop} {m:Bool} {v:AV} {u:Value} (h:PR w T m v u)
  (hI:∀ s B,T s B→T' s B) (hw:∀ s B,T s B→w'.heap[B]?=w.heap[B]?):PR w' T' m v u:=by
 induction h with
 | undef m v h=>exact .undef m v h
 | bool m b=>exact .bool m b
 | int m k n=>exact .int m k n
 | str m s b h=>exact .str m s b h
 | fS m=>exact .fS m
 | ip m cells off sn B base c e fr f hm hB hB' hc h1 hr ih=>exact .ip m cells off sn B base c e fr f hm (by rw [hw _ B hB']; exact hB) (hI _ B hB') hc h1 ih
 | slnil m=>exact .slnil m
 | iO m cap a c hm h=>exact .iO m cap a c hm h
 | sl m xs cap B base c e fr cap' esz f hm hB hB' hcap hle hz hc h1 hr ih =>
   exact .sl m xs cap B base c e fr cap' esz f hm (by rw [hw _ B hB']; exact hB) (hI _ B hB') hcap hle hz hc h1 ih
 | fZ m=>exact .fZ m
 | fm m es sn r ents clk hm hB hB' hl hy hko hk hv ihk ihv=>exact .fm m es sn r ents clk hm (by rw [hw _ r hB']; exact hB) (hI _ r hB') hl hy hko ihk ihv
 | gZ m=>exact .gZ m
 | fz m g a c a' c' ha hc hra hrc iha ihc=>exact .fz m g a c a' c' ha hc iha ihc
 | agg m l vs hl h1 hr ih=>exact .agg m l vs hl h1 ih
theorem PR.up {w:World} {T:Bool→Nat→Prop} {m:Bool} {v:AV} {u:Value} (h:PR w T m v u) (hm:m=false):PR w T true v u:=by
 induction h with
 | undef m v h=>exact .undef _ v h
 | bool m b=>exact .bool _ b
 | int m k n=>exact .int _ k n
 | str m s b h=>exact .str _ s b h
 | fS m=>exact .fS _
 | ip m cells off sn B base c e fr f hm hB hB' hc h1 hr ih=>exact .ip _ cells off sn B base c e fr f (fun _=>rfl) hB hB' hc h1 hr
 | slnil m=>exact .slnil _
 | iO m cap a c hm h=>exact .iO _ cap a c (fun _=>rfl) h
 | sl m xs cap B base c e fr cap' esz f hm hB hB' hcap hle hz hc h1 hr ih=>exact .sl _ xs cap B base c e fr cap' esz f (fun _=>rfl) hB hB' hcap hle hz hc h1 hr
 | fZ m=>exact .fZ _
 | fm m es sn r ents clk hm hB hB' hl hy hko hk hv ihk ihv=>exact .fm _ es sn r ents clk (fun _=>rfl) hB hB' hl hy hko hk hv
 | gZ m=>exact .gZ _
 | fz m g a c a' c' ha hc hra hrc iha ihc=>exact .fz _ g a c a' c' ha hc (fun i x y hx hy=>iha i x y hx hy hm) (fun i x y hx hy=>ihc i x y hx hy hm)
 | agg m l vs hl h1 hr ih=>exact .agg _ l vs hl h1 (fun i x y hx hy=>ih i x y hx hy hm)
theorem PR.yA {w:World} {T:Bool→Nat→Prop} {m:Bool} {v:AV} {u:Value} (h:PR w T m v u):PR w T true v u:=by
 cases m
 ·exact h.up rfl
 ·exact h
structure Loc where
 B:Nat
 base:Nat
 cap:Nat
structure Ga where
 w:World
 T:Bool→Nat→Prop
 h:bY
 pi:Nat→Option Loc
 L:Nat→Option Nat
def AV.gl:AV→Bool
 | .bool _ | .int _ _ | .str _ | .fS | .ip _ _ _ | .sl _ _ | .fZ | .fm _ _ | .gZ=>true
 | _=>false
def AV.iL:AV→Bool
 | .la _ _ | .eP _=>false
 | _=>true
inductive VR (G:Ga):AV→Value→Prop
 | undef (v:Value):VR G .undef v
 | fp {v:AV} {u:Value} (hp:v.gl=true) (h:PR G.w G.T true v u):VR G v u
 | ptr (b g i o:Nat) (a:Addr) (hb:b<G.h.size) (hg:∀ g0 z xs,G.h.get b=some (.eL g0 z xs)→g≤g0)
    (h:∀ z xs,G.h.get b=some (.eL g z xs)→∃ l,G.pi b=some l∧a=⟨l.B,l.base+i*z+o,none⟩) :
    VR G (.ptr b g i o) (.pointer (some a))
 | hs (b g off len:Nat) (a:Addr) (cap':Nat) (hb:b<G.h.size) (hg:∀ g0 z xs,G.h.get b=some (.eL g0 z xs)→g≤g0) (hle:len≤cap')
    (h:∀ z xs,G.h.get b=some (.eL g z xs)→∃ l,G.pi b=some l∧off+cap'=l.cap∧(0<cap'→a=⟨l.B,l.base+off*z,none⟩)) :
    VR G (.hs b g off len) (.slice (some a) len cap')
 | hm (b r:Nat) (hb:b<G.h.size) (h:∀ es c,G.h.get b=some (.map es c)→∃ l,G.pi b=some l∧r=l.B):VR G (.hm b) (.map (some r))
 | la (d o B:Nat) (hd:G.L d=some B):VR G (.la d o) (.pointer (some ⟨B,o,none⟩))
 | fz (g:Nat) (a c:List AV) (a' c':Array Value) (ha:a.length=a'.size) (hc:c.length=c'.size) (hna:∀ x∈a,x.iL=true) (hnc:∀ x∈c,x.iL=true)
    (hra:∀ (i:Nat) (x:AV) (y:Value),a[i]?=some x→a'[i]?=some y→VR G x y) (hrc:∀ (i:Nat) (x:AV) (y:Value),c[i]?=some x→c'[i]?=some y→VR G x y) :
    VR G (.fz g a c) (.func (.func g) a' c')
 | agg (l:List AV) (vs:Array Value) (hl:l.length=vs.size) (hn:∀ x∈l,x.iL=true) (h1:∀ (i:Nat) (y:Value),vs[i]?=some y→y.oneCell'=true)
    (hr:∀ (i:Nat) (x:AV) (y:Value),l[i]?=some x→vs[i]?=some y→VR G x y):VR G (.agg l) (.agg vs)
 | eP (l:List AV) (vs:Array Value) (hl:l.length=vs.size) (hr:∀ (i:Nat) (x:AV) (y:Value),l[i]?=some x→vs[i]?=some y→VR G x y):VR G (.eP l) (.tuple vs)
structure Ext (G G':Ga):Prop where
 T:∀ s B,G.T s B→G'.T s B
 eB:∀ s B,G.T s B→G'.w.heap[B]?=G.w.heap[B]?
 size:G.h.size≤G'.h.size
 eL:∀ b,b<G.h.size→∀ g' z' xs',G'.h.get b=some (.eL g' z' xs') →
  ∃ g z xs,G.h.get b=some (.eL g z xs)∧g≤g'∧(g=g'→z=z'∧∀ l,G.pi b=some l→G'.pi b=some l)
 map:∀ b,b<G.h.size→∀ es' c',G'.h.get b=some (.map es' c')→∃ es c,G.h.get b=some (.map es c)∧∀ l,G.pi b=some l→G'.pi b=some l
 dO:∀ d B,G.L d=some B→G'.L d=some B
theorem VR.mono {G G':Ga} (E:Ext G G') {v:AV} {u:Value} (h:VR G v u):VR G' v u:=by
 induction h with
 | undef v=>exact .undef v
 | fp hp h=>exact .fp hp (h.mono E.T E.eB)
 | ptr b g i o a hb hg h =>
   refine .ptr b g i o a (Nat.lt_of_lt_of_le hb E.size) ?_ ?_
   ·intro g0 z xs hx
    obtain ⟨g1,z1,xs1,h1,hle,_⟩:=E.eL b hb g0 z xs hx
    exact Nat.le_trans (hg _ _ _ h1) hle
   ·intro z xs hx
    obtain ⟨g1,z1,xs1,h1,hle,heq⟩:=E.eL b hb g z xs hx
    have hge:=hg _ _ _ h1
    have:g1=g:=Nat.le_antisymm hle hge
    subst this
    obtain ⟨hz,hp⟩:=heq rfl
    subst hz
    obtain ⟨l,k1,k2⟩:=h _ _ h1
    exact ⟨l,hp l k1,k2⟩
 | hs b g off len a cap' hb hg hle' h =>
   refine .hs b g off len a cap' (Nat.lt_of_lt_of_le hb E.size) ?_ hle' ?_
   ·intro g0 z xs hx
    obtain ⟨g1,z1,xs1,h1,hle,_⟩:=E.eL b hb g0 z xs hx
    exact Nat.le_trans (hg _ _ _ h1) hle
   ·intro z xs hx
    obtain ⟨g1,z1,xs1,h1,hle,heq⟩:=E.eL b hb g z xs hx
    have hge:=hg _ _ _ h1
    have:g1=g:=Nat.le_antisymm hle hge
    subst this
    obtain ⟨hz,hp⟩:=heq rfl
    subst hz
    obtain ⟨l,k1,k2⟩:=h _ _ h1
    exact ⟨l,hp l k1,k2⟩
 | hm b r hb h =>
   refine .hm b r (Nat.lt_of_lt_of_le hb E.size) ?_
   intro es c hx
   obtain ⟨es1,c1,h1,hp⟩:=E.map b hb es c hx
   obtain ⟨l,k1,k2⟩:=h _ _ h1
   exact ⟨l,hp l k1,k2⟩
 | la d o B hd=>exact .la d o B (E.dO d B hd)
 | fz g a c a' c' ha hc hna hnc hra hrc iha ihc=>exact .fz g a c a' c' ha hc hna hnc iha ihc
 | agg l vs hl hn h1 hr ih=>exact .agg l vs hl hn h1 ih
 | eP l vs hl hr ih=>exact .eP l vs hl ih
theorem Ext.refl (G:Ga):Ext G G where
 T:=fun _ _ h=>h
 eB:=fun _ _ _=>rfl
 size:=Nat.le_refl _
 eL:=fun _ _ g z xs h=>⟨g,z,xs,h,Nat.le_refl _,fun _=>⟨rfl,fun _ h=>h⟩⟩
 map:=fun _ _ es c h=>⟨es,c,h,fun _ h=>h⟩
 dO:=fun _ _ h=>h
theorem Ext.trans {A B C:Ga} (h:Ext A B) (k:Ext B C):Ext A C where
 T:=fun s b hb=>k.T s b (h.T s b hb)
 eB:=fun s b hb=>(k.eB s b (h.T s b hb)).trans (h.eB s b hb)
 size:=Nat.le_trans h.size k.size
 eL:=by
  intro b hb g z xs hx
  obtain ⟨g1,z1,xs1,h1,hle,he⟩:=k.eL b (Nat.lt_of_lt_of_le hb h.size) g z xs hx
  obtain ⟨g2,z2,xs2,h2,hle2,he2⟩:=h.eL b hb g1 z1 xs1 h1
  refine ⟨g2,z2,xs2,h2,Nat.le_trans hle2 hle,fun e=>?_⟩
  have e1:g1=g:=Nat.le_antisymm hle (e▸hle2)
  have e2:g2=g1:=by omega
  obtain ⟨a,b'⟩:=he e1
  obtain ⟨c,d⟩:=he2 e2
  exact ⟨c.trans a,fun l hl=>b' l (d l hl)⟩
 map:=by
  intro b hb es c hx
  obtain ⟨es1,c1,h1,p1⟩:=k.map b (Nat.lt_of_lt_of_le hb h.size) es c hx
  obtain ⟨es2,c2,h2,p2⟩:=h.map b hb es1 c1 h1
  exact ⟨es2,c2,h2,fun l hl=>p1 l (p2 l hl)⟩
 dO:=fun d B hd=>k.dO d B (h.dO d B hd)
theorem PR.iL {w:World} {T:Bool→Nat→Prop} {m:Bool} {v:AV} {u:Value} (h:PR w T m v u):v.iL=true:=by cases h<;>rfl
theorem PR.re {w:World} {T:Bool→Nat→Prop} {m:Bool} {l:List AV} {vs:Array Value} (hl:l.length=vs.size) (h:∀ (i:Nat) (x:AV) (y:Value),l[i]?=some x→vs[i]?=some y→PR w T m x y):∀ x∈l,x.iL=true:=by
 intro x hx
 obtain ⟨i,hi⟩:=List.getElem?_of_mem hx
 have hlt:i<vs.size:=by rw [← hl]; exact (List.getElem?_eq_some_iff.1 hi).1
 exact (h i x vs[i] hi (by simp [hlt])).iL
structure VC (G:Ga) (x:AV) (v:Value):Prop where
 vr:VR G x v
 na:x.iL=true
theorem VC.mono {G G':Ga} (E:Ext G G') {x:AV} {v:Value} (h:VC G x v):VC G' x v:=⟨h.vr.mono E,h.na⟩
def jz (G:Ga) (l:Loc) (z:Nat) (xs:List (List AV)):Prop :=
 ∃ c e,G.w.heap[l.B]?=some (.cells c e (0,0))∧xs.length≤l.cap∧l.base+l.cap*z≤c.size∧(∀ (i:Nat) (cs:List AV),xs[i]?=some cs→cs.length=z) ∧
   (∀ (i:Nat) (cs:List AV) (j:Nat) (x:AV),xs[i]?=some cs→cs[j]?=some x→∃ v,c[l.base+i*z+j]?=some v∧v.oneCell'=true∧VC G x v)∧(∀ (i:Nat) (v:Value),c[i]?=some v→v.oneCell'=true)
def lA (es:List (AV×AV×Nat)) (clk:Nat):Prop:=∀ p∈es,p.2.2<clk
def lY (G:Ga) (r:Nat) (es:List (AV×AV×Nat)) (clk:Nat):Prop :=
 ∃ ents,G.w.heap[r]?=some (.map ents clk)∧es.length=ents.size∧lA es clk ∧
   ∀ (i:Nat) (p:AV×AV×Nat) (e:MapEntry),es[i]?=some p→ents[i]?=some e→p.1.kR=true∧PR G.w G.T false p.1 e.key∧VC G p.2.1 e.val∧p.2.2=e.born
def og (G:Ga) (B:Nat) (cs:List AV):Prop :=
 ∃ c e,G.w.heap[B]?=some (.cells c e (0,0))∧c.size=cs.length∧(∀ (i:Nat) (x:AV) (v:Value),cs[i]?=some x→c[i]?=some v→VC G x v)∧(∀ (i:Nat) (v:Value),c[i]?=some v→v.oneCell'=true)
structure WR (G:Ga):Prop where
 eL:∀ b l g z xs,G.pi b=some l→G.h.get b=some (.eL g z xs)→jz G l z xs
 map:∀ b l es c,G.pi b=some l→G.h.get b=some (.map es c)→lY G l.B es c
 loc:∀ d B cs,G.L d=some B→fJ G.h.dO d=some cs→og G B cs
 gE:∀ b l,G.pi b=some l→l.B<G.w.heap.size∧b<G.h.size
 iU:∀ b b' l l',G.pi b=some l→G.pi b'=some l'→l.B=l'.B→b=b'
 ll:∀ s b l,G.pi b=some l→¬ G.T s l.B
 jZ:∀ d d' B,G.L d=some B→G.L d'=some B→d=d'
 LT:∀ s d B,G.L d=some B→¬ G.T s B
 kp:∀ d B b l,G.L d=some B→G.pi b=some l→B≠l.B
 iE:∀ d B,G.L d=some B→B<G.w.heap.size∧(fJ G.h.dO d).isSome=true
 jn:∀ s B,G.T s B→B<G.w.heap.size
 lo:G.h.lo≤G.h.size
 lt:∀ b o,G.h.get b=some o→b<G.h.size
theorem PR.qU {G:Ga} {m:Bool} {v:AV} {u:Value} (h:PR G.w G.T m v u):VR G v u:=by
 have h':=h.yA
 clear h
 generalize hm:true=m' at h'
 induction h' with
 | undef m v h=>exact .undef v
 | bool m b=>exact .fp rfl (.bool _ b)
 | int m k n=>exact .fp rfl (.int _ k n)
 | str m s b h=>exact .fp rfl (.str _ s b h)
 | fS m=>exact .fp rfl (.fS _)
 | ip m cells off sn B base c e fr f hm' hB hB' hc h1 hr ih=>exact .fp rfl (.ip _ cells off sn B base c e fr f (fun _=>rfl) hB hB' hc h1 hr)
 | slnil m=>exact .fp rfl (.slnil _)
 | iO m cap a c hm' h=>exact .fp rfl (.iO _ cap a c (fun _=>rfl) h)
 | sl m xs cap B base c e fr cap' esz f hm' hB hB' hcap hle hz hc h1 hr ih=>exact .fp rfl (.sl _ xs cap B base c e fr cap' esz f (fun _=>rfl) hB hB' hcap hle hz hc h1 hr)
 | fZ m=>exact .fp rfl (.fZ _)
 | fm m es sn r ents clk hm' hB hB' hl hy hko hk hv ihk ihv=>exact .fp rfl (.fm _ es sn r ents clk (fun _=>rfl) hB hB' hl hy hko hk hv)
 | gZ m=>exact .fp rfl (.gZ _)
 | fz m g a c a' c' ha hc hra hrc iha ihc=>exact .fz g a c a' c' ha hc (PR.re ha hra) (PR.re hc hrc) (fun i x y hx hy=>iha i x y hx hy hm) (fun i x y hx hy=>ihc i x y hx hy hm)
 | agg m l vs hl h1 hr ih=>exact .agg l vs hl (PR.re hl hr) h1 (fun i x y hx hy=>ih i x y hx hy hm)
theorem PR.nY {G:Ga} {m:Bool} {v:AV} {u:Value} (h:PR G.w G.T m v u):VC G v u:=⟨h.qU,h.iL⟩
end Go.Sx
namespace Go.Sx
open Go
def zg:TypeDesc→Bool
 | .struct _ | .array _ _=>true
 | _=>false
def Kf (P:Program) (d:TypeDesc):TK→Prop
 | .bool=>d=.bool
 | .int k=>d=.int k
 | .str=>d=.string
 | .ptr=>∃ e,d=.pointer e
 | .slice e=>d=.slice e
 | .array n e=>d=.array n e
 | .map k e=>d=.map k e
 | .struct fs=>∃ F,d=.struct F∧fs=F.toList.map (fun f=>(f.offset,f.type))∧∀ f∈F.toList,∃ i,P.info? f.type=some i∧i.size≠0
 | .func=>∃ a b c,d=.func a b c
 | .other=>True
theorem DB {t:TK} {a:AV} (h:mg t a=true):nJ a=true:=by
 cases t<;>cases a<;>simp_all [mg,nJ]
theorem ry:∀ {ts:List TK} {l:List AV},fitAll ts l=true→∀ x∈l,nJ x=true
 | [],[],_,x,hx=>by cases hx
 | t::ts,a::l,h,x,hx=>by
   simp only [fitAll,Bool.and_eq_true] at h
   rcases List.mem_cons.1 hx with rfl | hx
   ·exact DB h.1
   ·exact ry h.2 x hx
 | [],_::_,h,_,_=>by cases h
 | _::_,[],h,_,_=>by cases h
structure iX (P:Program) (t:Nat) (ti:TI):Prop where
 info:∃ i z,P.info? t=some i∧i.size=ti.size∧i.bytes=ti.bytes∧i.zero=some z∧ti.zero=z.cells.toList.map wz∧z.cells.size=ti.size ∧
  (∀ c∈z.cells.toList,c.oneCell'=true)∧(ti.agg=true→∃ cs,z=.agg cs)∧(ti.agg=false→z.oneCell'=true)
 desc:∃ d,P.underlying t=some d∧zg d=ti.agg∧Kf P d ti.kind
 bytes:ti.bytes≤1048576
 guard:ti.flat=true→P.eqGuardType P.depth t=false
 flat:ti.flat=true→ti.agg=true→∀ (l m:List AV) (xs ys:Array Value) (b:Bool) (w:World) (T:Bool→Nat→Prop),fitAll ti.sc l=true→l.length=ti.size→m.length=ti.size →
  PR w T true (.agg l) (.agg xs)→PR w T true (.agg m) (.agg ys)→iq l m=some b→(Op.equalIn 10000 t (.agg xs) (.agg ys)).run P w=.ok b w
 key:ti.flat=true→ti.agg=true→∀ (e:Bool) (xs:Array Value) (w:World),xs.size=ti.size→(Instr.checkKey e 10000 t (.agg xs)).run P w=.ok () w
structure fV (P:Program) (C:fP):Prop where
 ty:∀ t ti,C.T t=some ti→iX P t ti
section runs
variable {P:Program} {t:Nat} {ti:TI}
theorem iX.isAgg (h:iX P t ti) (w:World):(isAgg t).run P w=.ok ti.agg w:=by
 obtain ⟨d,hd,ha,_⟩:=h.desc
 unfold Go.isAgg
 rw [Sem.run_bind,run_underlying hd w]
 rw [← ha]
 cases d<;>rfl
theorem iX.sizeOf (h:iX P t ti) (w:World):(sizeOf t).run P w=.ok ti.size w:=by
 obtain ⟨i,z,hi,hs,_⟩:=h.info
 simp [Go.sizeOf,typeInfo,hi,hs]
theorem iX.C7 (h:iX P t ti):(P.info? t).map (·.size)=some ti.size:=by
 obtain ⟨i,z,hi,hs,_⟩:=h.info
 simp [hi,hs]
def rX (R:AV→Value→Prop) (cs:List AV) (c:Array Value) (base:Nat):Prop :=
 ∀ i x,cs[i]?=some x→∃ u,c[base+i]?=some u∧u.oneCell'=true∧R x u
theorem jY (B o n:Nat):(⟨B,o,none⟩:Addr).add n=⟨B,o+n,none⟩:=by
 unfold Addr.add; split<;>simp_all
theorem va (w:World) (B base:Nat) (c:Array Value) (e:TypeId) (fr:Nat×Nat) (hB:w.heap[B]?=some (.cells c e fr)) (n:Nat) (hn:base+n≤c.size) :
  (loadCells ⟨B,base,none⟩ n).run P w=.ok (c.extract base (base+n)) w:=by
 have h:=run_loadCells_list (P:=P) w ⟨B,base,none⟩ (c.extract base (base+n)).toList (fun j v hv=>by
  rw [jY,cell_of_row w B (base+j) c e fr hB]
  simp only [Array.toList_extract,List.extract_eq_take_drop,List.getElem?_take,List.getElem?_drop,Array.getElem?_toList] at hv
  split at hv
  ·exact hv
  ·cases hv)
 have hl:(c.extract base (base+n)).toList.length=n:=by simp; omega
 rw [hl,Array.toArray_toList] at h
 exact h
theorem sL {cs:List AV} {o:Nat} {l:List AV} (ha:ti.agg=true) (hp:part ti cs o=some (.agg l)):l=(cs.drop o).take ti.size∧l.length=ti.size∧(ti.size=0∨o+ti.size≤cs.length):=by
 simp only [part,ha,kC,ta] at hp
 split at hp
 ·rename_i hb
  simp only [Option.some.injEq,AV.agg.injEq] at hp
  subst hp
  simp only [Nat.beq_eq] at hb
  refine ⟨rfl,hb,?_⟩
  simp only [List.length_take,List.length_drop] at hb
  omega
 ·cases hp
theorem x4 (hT:iX P t ti) {w:World} {B base o:Nat} {c:Array Value} {e:TypeId} {fr:Nat×Nat} {R:AV→Value→Prop} {cs:List AV} {v:AV}
  (hB:w.heap[B]?=some (.cells c e fr)) (hU:rX R cs c base) (hp:part ti cs o=some v) :
  ∃ u,(loadVar t ⟨B,base+o,none⟩).run P w=.ok u w ∧
    ((∃ l vs,ti.agg=true∧v=.agg l∧u=.agg vs∧l.length=ti.size∧l.length=vs.size∧(∀ (i:Nat) (y:Value),vs[i]?=some y→y.oneCell'=true)∧∀ (i:Nat) (x:AV) (y:Value),l[i]?=some x→vs[i]?=some y→R x y)
      ∨ (ti.agg=false∧u.oneCell'=true∧R v u)):=by
 cases ha:ti.agg with
 | false =>
   simp only [part,ha] at hp
   obtain ⟨u,hu,h1,hr⟩:=hU o v hp
   refine ⟨u,?_,.inr ⟨rfl,h1,hr⟩⟩
   unfold loadVar
   rw [Sem.run_bind,hT.isAgg,ha]
   simp [cell_of_row w B (base+o) c e fr hB,hu]
 | true =>
   have hv:∃ l,v=.agg l:=by
    simp only [part,ha,kC,ta] at hp
    split at hp
    ·exact ⟨_,(Option.some.inj hp).symm⟩
    ·cases hp
   obtain ⟨l,rfl⟩:=hv
   obtain ⟨hl,hlen,hle⟩:=sL ha hp
   have hbase:ti.size=0∨base+o+ti.size≤c.size:=by
    rcases hle with h0 | hle
    ·exact .inl h0
    ·by_cases hz:ti.size=0
     ·exact .inl hz
     ·right
      have hi:o+ti.size - 1<cs.length:=by omega
      obtain ⟨u,hu,_⟩:=hU (o+ti.size - 1) cs[o+ti.size - 1] (by simp [hi])
      have:=(Array.getElem?_eq_some_iff.1 hu).1
      omega
   by_cases hz:ti.size=0
   ·have hl0:l=[]:=by apply List.eq_nil_of_length_eq_zero; omega
    subst hl0
    refine ⟨.agg #[],?_,.inl ⟨[],#[],rfl,rfl,rfl,by simp [hz],rfl,by simp,by simp⟩⟩
    unfold loadVar
    rw [Sem.run_bind,hT.isAgg,ha]
    simp [hT.sizeOf,hz,loadCells,loadCellsFrom]
   ·have hb:=hbase.resolve_left hz
    refine ⟨.agg (c.extract (base+o) (base+o+ti.size)),?_,.inl ⟨l,_,rfl,rfl,rfl,hlen,?_,?_,?_⟩⟩
    ·unfold loadVar
     rw [Sem.run_bind,hT.isAgg,ha]
     simp [hT.sizeOf,va w B (base+o) c e fr hB ti.size hb]
    ·simp; omega
    ·intro i y hy
     rw [Array.getElem?_extract] at hy
     split at hy
     ·rename_i hi
      have hi':o+i<cs.length:=by omega
      obtain ⟨u,hu,h1,_⟩:=hU (o+i) cs[o+i] (by simp [hi'])
      rw [← Nat.add_assoc] at hu
      rw [hu] at hy
      cases hy
      exact h1
     ·cases hy
    ·intro i x y hx hy
     rw [Array.getElem?_extract] at hy
     split at hy
     ·rename_i hi
      rw [hl,List.getElem?_take,List.getElem?_drop] at hx
      split at hx
      ·obtain ⟨u,hu,h1,hr⟩:=hU (o+i) x hx
       rw [← Nat.add_assoc] at hu
       rw [hu] at hy
       cases hy
       exact hr
      ·cases hx
     ·cases hy
end runs
end Go.Sx
namespace Go.Sx
open Go
section
variable {P:Program} {C:fP} {G:Ga} {t:Nat} {ti:TI}
theorem VR.nA {l:List AV} {u:Value} (h:VR G (.agg l) u):∃ vs,u=.agg vs∧l.length=vs.size∧(∀ (i:Nat) (y:Value),vs[i]?=some y→y.oneCell'=true) ∧
  ∀ (i:Nat) (x:AV) (y:Value),l[i]?=some x→vs[i]?=some y→VC G x y:=by
 cases h with
 | fp hp _=>simp [AV.gl] at hp
 | agg l vs hl hn h1 hr=>exact ⟨vs,rfl,hl,h1,fun i x y hx hy=>⟨hr i x y hx hy,hn x (List.mem_of_getElem? hx)⟩⟩
theorem VR.of_int {k:IntKind} {n:Int} {u:Value} (h:VR G (.int k n) u):u=.int k n:=by
 cases h with
 | fp _ h=>cases h; rfl
theorem VR.of_bool {b:Bool} {u:Value} (h:VR G (.bool b) u):u=.bool b:=by
 cases h with
 | fp _ h=>cases h; rfl
theorem VR.mN {s:List UInt8} {u:Value} (h:VR G (.str s) u):∃ b,u=.string b∧b.data.toList=s:=by
 cases h with
 | fp _ h=>cases h with
   | str _ _ b hb=>exact ⟨b,rfl,hb⟩
theorem VR.int (k:IntKind) (n:Int):VR G (.int k n) (.int k n):=.fp rfl (.int _ k n)
theorem VR.bool (b:Bool):VR G (.bool b) (.bool b):=.fp rfl (.bool _ b)
theorem VR.str {s:List UInt8} {b:ByteArray} (h:b.data.toList=s):VR G (.str s) (.string b):=.fp rfl (.str _ s b h)
theorem int?_eq {v:AV} {k:IntKind} {n:Int} (h:v.int?=some (k,n)):v=.int k n:=by
 cases v<;>simp [AV.int?] at h
 obtain ⟨rfl,rfl⟩:=h; rfl
theorem bool?_eq {v:AV} {b:Bool} (h:v.bool?=some b):v=.bool b:=by
 cases v<;>simp [AV.bool?] at h
 subst h; rfl
theorem str?_eq {v:AV} {b:List UInt8} (h:v.str?=some b):v=.str b:=by
 cases v<;>simp [AV.str?] at h
 subst h; rfl
theorem agg?_eq {v:AV} {b:List AV} (h:v.agg?=some b):v=.agg b:=by
 cases v<;>simp [AV.agg?] at h
 subst h; rfl
theorem p6 {v:AV} {n:Nat} (h:kU v=some n):∃ k,v=.int k (n:Int):=by
 unfold kU at h
 split at h
 ·rename_i k m hm
  have:=int?_eq hm
  subst this
  cases m with
  | ofNat m=>simp only [K6,Option.some.injEq] at h; subst h; exact ⟨k,rfl⟩
  | negSucc m=>cases h
 ·cases h
theorem VC.re {l:List AV} {vs:Array Value} (hl:l.length=vs.size) (h:∀ (i:Nat) (x:AV) (y:Value),l[i]?=some x→vs[i]?=some y→VC G x y):∀ x∈l,x.iL=true:=by
 intro x hx
 obtain ⟨i,hi⟩:=List.getElem?_of_mem hx
 have hlt:i<vs.size:=by rw [← hl]; exact (List.getElem?_eq_some_iff.1 hi).1
 exact (h i x vs[i] hi (by simp [hlt])).na
theorem VR.vG {l:List AV} {vs:Array Value} {R:AV→Value→Prop} (hR:∀ x y,R x y→VC G x y) (hl:l.length=vs.size)
  (h1:∀ (i:Nat) (y:Value),vs[i]?=some y→y.oneCell'=true) (hr:∀ (i:Nat) (x:AV) (y:Value),l[i]?=some x→vs[i]?=some y→R x y):VR G (.agg l) (.agg vs) :=
 .agg l vs hl (VC.re hl fun i x y hx hy=>hR x y (hr i x y hx hy)) h1 fun i x y hx hy=>(hR x y (hr i x y hx hy)).vr
def Shaped (ti:TI) (v:AV) (u:Value):Prop :=
 (ti.agg=true∧∃ l vs,v=.agg l∧u=.agg vs∧l.length=ti.size∧vs.size=ti.size)∨(ti.agg=false∧u.oneCell'=true)
theorem pR {R:AV→Value→Prop} (hR:∀ x y,R x y→VC G x y) (hT:iX P t ti) {B base o:Nat} {c:Array Value} {e:TypeId} {fr:Nat×Nat} {cs:List AV} {v:AV}
  (hB:G.w.heap[B]?=some (.cells c e fr)) (hU:rX R cs c base) (hp:part ti cs o=some v) :
  ∃ u,(loadVar t ⟨B,base+o,none⟩).run P G.w=.ok u G.w∧VR G v u∧Shaped ti v u:=by
 obtain ⟨u,hu,h | h⟩:=x4 hT hB hU hp
 ·obtain ⟨l,vs,ha,rfl,rfl,hlen,hl,h1,hr⟩:=h
  exact ⟨_,hu,VR.vG hR hl h1 hr,.inl ⟨ha,l,vs,rfl,rfl,hlen,by omega⟩⟩
 ·obtain ⟨ha,h1,hr⟩:=h
  exact ⟨u,hu,(hR _ _ hr).vr,.inr ⟨ha,h1⟩⟩
theorem tU (hW:WR G) (hT:iX P t ti) {av v:AV} {a:Value} (hv:VR G av a) (h:mM av G.h ti=some v) :
  ∃ u,(Instr.loadAt t a).run P G.w=.ok u G.w∧VR G v u∧Shaped ti v u:=by
 unfold mM at h
 split at h
 ·
  rename_i d o
  cases hv with
  | fp hp _=>simp [AV.gl] at hp
  | la _ _ B hd =>
    unfold B2 at h
    split at h
    ·rename_i cs hcs
     obtain ⟨c,e,hB,hs,hr,h1⟩:=hW.loc d B cs hd hcs
     have hU:rX (VC G) cs c 0:=by
      intro i x hx
      have hi:i<c.size:=by rw [hs]; exact (List.getElem?_eq_some_iff.1 hx).1
      refine ⟨c[i],by simp [hi],h1 i c[i] (by simp [hi]),hr i x c[i] hx (by simp [hi])⟩
     obtain ⟨u,hu,hvu,hs⟩:=pR (P:=P) (fun _ _ h=>h) hT hB hU h
     rw [Nat.zero_add] at hu
     exact ⟨u,by simpa [Instr.loadAt,Instr.sureAddr] using hu,hvu,hs⟩
    ·cases h
 ·
  rename_i cs o s
  cases hv with
  | fp _ h' =>
    cases h' with
    | ip _ _ _ _ B base c e fr f hm hB hI hc h1 hr =>
      have hU:rX (fun x y=>PR G.w G.T s x y) cs c base:=by
       intro i x hx
       exact ⟨f i,hc i x hx,h1 i x hx,hr i x hx⟩
      obtain ⟨u,hu,hvu,hs⟩:=pR (P:=P) (fun _ _ h=>PR.nY h) hT hB hU h
      exact ⟨u,by simpa [Instr.loadAt,Instr.sureAddr] using hu,hvu,hs⟩
 ·
  rename_i b g i o
  cases hv with
  | fp hp _=>simp [AV.gl] at hp
  | ptr _ _ _ _ a hb hg hl =>
    unfold tF at h
    split at h
    ·rename_i g' z xs hget
     split at h
     ·rename_i hgg
      have hgg:=Nat.eq_of_beq_eq_true hgg
      subst hgg
      split at h
      ·rename_i cs hcs
       obtain ⟨l,hpi,ha⟩:=hl z xs hget
       subst ha
       obtain ⟨c,e,hB,hcap,hsz,hz,hr,h1⟩:=hW.eL b l g z xs hpi hget
       have hU:rX (VC G) cs c (l.base+i*z):=by
        intro j x hx
        obtain ⟨v,hv1,hv2,hv3⟩:=hr i cs j x hcs hx
        exact ⟨v,hv1,hv2,hv3⟩
       obtain ⟨u,hu,hvu,hs⟩:=pR (P:=P) (fun _ _ h=>h) hT hB hU h
       exact ⟨u,by simpa [Instr.loadAt,Instr.sureAddr] using hu,hvu,hs⟩
      ·cases h
     ·cases h
    ·cases h
 ·cases h
theorem uj {av v:AV} {a:Value} {k:Nat} (hv:VR G av a) (h:uy av k=some v):∃ x,a=.pointer (some x)∧VR G v (.pointer (some (x.add k))):=by
 unfold uy at h
 split at h
 ·rename_i d o
  simp only [LS,jw,Option.some.injEq] at h
  subst h
  cases hv with
  | fp hp _=>simp [AV.gl] at hp
  | la _ _ B hd=>exact ⟨_,rfl,by rw [jY]; exact .la d (o+k) B hd⟩
 ·rename_i cs o s
  simp only [CN,jw,Option.some.injEq] at h
  subst h
  cases hv with
  | fp _ h' =>
    cases h' with
    | ip _ _ _ _ B base c e fr f hm hB hI hc h1 hr =>
      refine ⟨_,rfl,?_⟩
      rw [jY,Nat.add_assoc]
      exact .fp rfl (.ip _ cs (o+k) s B base c e fr f hm hB hI hc h1 hr)
 ·rename_i b g i o
  simp only [vN,jw,Option.some.injEq] at h
  subst h
  cases hv with
  | fp hp _=>simp [AV.gl] at hp
  | ptr _ _ _ _ a hb hg hl =>
    refine ⟨_,rfl,.ptr b g i (o+k) _ hb hg ?_⟩
    intro z xs hx
    obtain ⟨l,hp,ha⟩:=hl z xs hx
    refine ⟨l,hp,?_⟩
    subst ha
    rw [jY,Nat.add_assoc]
 ·cases h
theorem tJ (hC:fV P C) {av:AV} {a:Value} {f:Nat} {r:AV×bY} (hv:VR G av a) (h:kN C G.h t av f=some r) :
  r.2=G.h∧∃ u,(Instr.fieldAt t a f).run P G.w=.ok u G.w∧VR G r.1 u∧u.oneCell'=true:=by
 unfold kN at h
 split at h
 ·cases h
 ·rename_i ti hti
  split at h
  ·rename_i fs hk
   split at h
   ·rename_i off ft hf
    unfold gq at h
    split at h
    ·rename_i v hv'
     simp only [Option.some.injEq] at h
     subst h
     obtain ⟨d,hd,ha,hko⟩:=(hC.ty t ti hti).desc
     rw [hk] at hko
     obtain ⟨F,rfl,hfs,hsz⟩:=hko
     subst hfs
     simp only [List.getElem?_map,Array.getElem?_toList,Option.map_eq_some_iff] at hf
     obtain ⟨fl,hfl,he⟩:=hf
     simp only [Prod.mk.injEq] at he
     obtain ⟨rfl,rfl⟩:=he
     obtain ⟨x,rfl,hx⟩:=uj hv hv'
     refine ⟨rfl,.pointer (some (x.add fl.offset)),?_,hx,rfl⟩
     obtain ⟨i,hi,hne⟩:=hsz fl (by
      have:=Array.mem_of_getElem? hfl
      exact Array.mem_toList_iff.2 this)
     unfold Instr.fieldAt
     simp [run_underlying hd,hfl,Instr.sureAddr,fieldPlace,Go.sizeOf,typeInfo,hi,hne]
    ·cases h
   ·cases h
  ·cases h
end
end Go.Sx
namespace Go.Sx
open Go
def iH (P:Program) (G:Ga) (s:Sem Value) (r:AV×bY):Prop :=
 r.2=G.h∧∃ u,s.run P G.w=.ok u G.w∧VR G r.1 u
section
variable {P:Program} {C:fP} {G:Ga} {t:Nat} {ti:TI}
theorem im {h:bY} {o:Option AV} {r:AV×bY} (e:gq h o=some r):∃ v,o=some v∧r=(v,h):=by
 unfold gq at e
 split at e
 ·exact ⟨_,rfl,(Option.some.inj e).symm⟩
 ·cases e
theorem zT {c a b:AV} {c' a' b':Value} {r:AV×bY} (hc:VR G c c') (ha:VR G a a') (hb:VR G b b') (h:vF G.h c a b=some r) :
  iH P G (do pure (if ← asBool c' then a' else b')) r:=by
 unfold vF at h
 split at h
 ·rename_i hb'
  cases h
  have:=bool?_eq hb'; subst this
  have:=hc.of_bool; subst this
  exact ⟨rfl,a',by simp [Go.asBool],ha⟩
 ·rename_i hb'
  cases h
  have:=bool?_eq hb'; subst this
  have:=hc.of_bool; subst this
  exact ⟨rfl,b',by simp [Go.asBool],hb⟩
 ·cases h
theorem tR {l:List AV} {vs:Array Value} {o:Nat} {v:AV} (hT:iX P t ti) (hl:l.length=vs.size) (h1:∀ (i:Nat) (y:Value),vs[i]?=some y→y.oneCell'=true)
  (hr:∀ (i:Nat) (x:AV) (y:Value),l[i]?=some x→vs[i]?=some y→VC G x y) (hp:Sx.part ti l o=some v) :
  ∃ u,(Go.part t vs o).run P G.w=.ok u G.w∧VR G v u:=by
 have hU:rX (VC G) l vs 0:=by
  intro i x hx
  have hi:i<vs.size:=by rw [← hl]; exact (List.getElem?_eq_some_iff.1 hx).1
  exact ⟨vs[i],by simp [hi],h1 i _ (by simp [hi]),hr i x _ hx (by simp [hi])⟩
 cases ha:ti.agg with
 | false =>
   simp only [Sx.part,ha] at hp
   obtain ⟨u,hu,_,hx⟩:=hU o v hp
   refine ⟨u,?_,hx.vr⟩
   unfold Go.part
   rw [Sem.run_bind,hT.isAgg,ha]
   rw [Nat.zero_add] at hu
   simp [hu]
 | true =>
   have hv:∃ m,v=.agg m:=by
    simp only [Sx.part,ha,kC,ta] at hp
    split at hp
    ·exact ⟨_,(Option.some.inj hp).symm⟩
    ·cases hp
   obtain ⟨m,rfl⟩:=hv
   obtain ⟨hm,hlen,hle⟩:=sL ha hp
   refine ⟨.agg (vs.extract o (o+ti.size)),?_,?_⟩
   ·unfold Go.part
    rw [Sem.run_bind,hT.isAgg,ha]
    simp [hT.sizeOf]
   ·refine VR.vG (R:=VC G) (fun _ _ h=>h) ?_ ?_ ?_
    ·simp; omega
    ·intro i y hy
     rw [Array.getElem?_extract] at hy
     split at hy
     ·exact h1 _ y hy
     ·cases hy
    ·intro i x y hx hy
     rw [Array.getElem?_extract] at hy
     split at hy
     ·rw [hm,List.getElem?_take,List.getElem?_drop] at hx
      split at hx
      ·exact hr (o+i) x y hx hy
      ·cases hx
     ·cases hy
theorem yb (hC:fV P C) {x:AV} {x':Value} {f:Nat} {r:AV×bY} (hx:VR G x x') (h:tg C G.h t x f=some r):iH P G (Instr.field t x' f) r:=by
 unfold tg at h
 split at h
 ·cases h
 ·rename_i ti hti
  split at h
  ·rename_i fs hk
   split at h
   ·rename_i off ft hf
    split at h
    ·rename_i cs hcs
     split at h
     ·rename_i tf htf
      obtain ⟨v,hv,rfl⟩:=im h
      have:=agg?_eq hcs; subst this
      obtain ⟨vs,rfl,hl,h1,hr⟩:=hx.nA
      obtain ⟨d,hd,ha,hko⟩:=(hC.ty t ti hti).desc
      rw [hk] at hko
      obtain ⟨F,rfl,hfs,hsz⟩:=hko
      subst hfs
      simp only [List.getElem?_map,Array.getElem?_toList,Option.map_eq_some_iff] at hf
      obtain ⟨fl,hfl,he⟩:=hf
      simp only [Prod.mk.injEq] at he
      obtain ⟨rfl,rfl⟩:=he
      obtain ⟨u,hu,hvu⟩:=tR (hC.ty _ tf htf) hl h1 hr hv
      refine ⟨rfl,u,?_,hvu⟩
      unfold Instr.field
      simp [run_underlying hd,hfl,Go.asAgg,hu]
     ·cases h
    ·cases h
   ·cases h
  ·cases h
theorem vb {x:AV} {x':Value} {i:Nat} {r:AV×bY} (hx:VR G x x') (h:qm G.h x i=some r):iH P G (Instr.extract x' i) r:=by
 unfold qm at h
 split at h
 ·rename_i vs
  obtain ⟨v,hv,rfl⟩:=im h
  cases hx with
  | fp hp _=>simp [AV.gl] at hp
  | eP _ vs' hl hr =>
    have hi:i<vs'.size:=by rw [← hl]; exact (List.getElem?_eq_some_iff.1 hv).1
    exact ⟨rfl,vs'[i],by simp [Instr.extract,hi],hr i v _ hv (by simp [hi])⟩
 ·cases h
theorem wR {x v:AV} {x':Value} (hx:VR G x x') (h:tW x=some v) :
  VR G v x'∧((∃ a,x'=.pointer (some a))∨∃ g a c,x'=.func (.func g) a c):=by
 unfold tW at h
 split at h
 ·cases h
  cases hx with
  | fp hp _=>simp [AV.gl] at hp
  | ptr _ _ _ _ a hb hg hl=>exact ⟨.ptr _ _ _ _ a hb hg hl,.inl ⟨_,rfl⟩⟩
 ·cases h
  refine ⟨hx,.inl ?_⟩
  cases hx with
  | fp _ h'=>cases h'; exact ⟨_,rfl⟩
 ·cases h
  refine ⟨hx,.inl ?_⟩
  cases hx with
  | fp hp _=>simp [AV.gl] at hp
  | la _ _ hd=>exact ⟨_,rfl⟩
 ·cases h
  refine ⟨hx,.inr ?_⟩
  cases hx with
  | fp hp _=>simp [AV.gl] at hp
  | fz g a c a' c' ha hc hra hrc=>exact ⟨_,_,_,rfl⟩
 ·cases h
theorem s6 (b:Bool):nk b=some (.bool !b):=by cases b<;>rfl
theorem sM {op:BinOp} {k:IntKind} {x y:Int} (xT:TypeId) (h:op=.add∨op=.sub∨op=.mul) :
  (Go.binOp op xT (.int k x) (.int k y)).run P G.w=(Op.intArith op k x y).run P G.w:=by
 rcases h with rfl | rfl | rfl<;>simp [Go.binOp]
theorem AE {op:BinOp} {k:IntKind} {x y:Int} (xT:TypeId) (h:op=.quo∨op=.rem) :
  (Go.binOp op xT (.int k x) (.int k y)).run P G.w=(Op.intDiv op k x y).run P G.w:=by
 rcases h with rfl | rfl<;>simp [Go.binOp]
theorem se {op:BinOp} {k:IntKind} {x y:Int} (xT:TypeId) (h:op=.and∨op=.or∨op=.xor∨op=.andNot) :
  (Go.binOp op xT (.int k x) (.int k y)).run P G.w=(Op.intBits op k x y).run P G.w:=by
 rcases h with rfl | rfl | rfl | rfl<;>simp [Go.binOp]
theorem pB {op:BinOp} {k:IntKind} {x y:Int} (xT:TypeId) (h:op=.eql∨op=.neq∨op=.lss∨op=.leq∨op=.gtr∨op=.geq) :
  (Go.binOp op xT (.int k x) (.int k y)).run P G.w=(Op.intCmp op x y).run P G.w:=by
 rcases h with rfl | rfl | rfl | rfl | rfl | rfl<;>simp [Go.binOp]
theorem vY {op:BinOp} {k:IntKind} {x y:Int} {v:AV} (h:gW op k x y=some v) (hs:nz op=false) (xT:TypeId) :
  ∃ u,(Go.binOp op xT (.int k x) (.int k y)).run P G.w=.ok u G.w∧VR G v u:=by
 cases op<;>simp only [nz,Bool.true_eq_false] at hs<;>simp only [gW,zs,zc,Hb,Fo,Em,y4,zl,zB,zu,zX,z7,Gb,JC,tG,wL,I6,nd,qp,jy,sY,s6,mu,uE,uv,lh,pf,reduceCtorEq] at h
 case add=>cases h; rw [sM xT (by simp)]; exact ⟨_,rfl,VR.int _ _⟩
 case sub=>cases h; rw [sM xT (by simp)]; exact ⟨_,rfl,by rw [← Int.sub_eq_add_neg]; exact VR.int _ _⟩
 case mul=>cases h; rw [sM xT (by simp)]; exact ⟨_,rfl,VR.int _ _⟩
 case quo =>
  split at h
  ·cases h
  ·rename_i hy
   cases h; rw [AE xT (by simp)]; exact ⟨_,by simp only [Op.intDiv,hy,if_false]; rfl,VR.int _ _⟩
 case rem =>
  split at h
  ·cases h
  ·rename_i hy
   cases h; rw [AE xT (by simp)]; exact ⟨_,by simp only [Op.intDiv,hy,if_false]; rfl,VR.int _ _⟩
 case and=>cases h; rw [se xT (by simp)]; exact ⟨_,rfl,VR.int _ _⟩
 case or=>cases h; rw [se xT (by simp)]; exact ⟨_,rfl,VR.int _ _⟩
 case xor=>cases h; rw [se xT (by simp)]; exact ⟨_,rfl,VR.int _ _⟩
 case andNot=>cases h; rw [se xT (by simp)]; exact ⟨_,rfl,VR.int _ _⟩
 case eql=>cases h; rw [pB xT (by simp)]; exact ⟨_,rfl,VR.bool _⟩
 case neq=>cases h; rw [pB xT (by simp)]; exact ⟨_,rfl,VR.bool _⟩
 case lss =>
  cases h; rw [pB xT (by simp)]
  refine ⟨_,rfl,?_⟩
  have e:(!decide (y≤x))=decide (x<y):=by rw [Bool.eq_iff_iff]; simp
  rw [e]; exact VR.bool _
 case leq=>cases h; rw [pB xT (by simp)]; exact ⟨_,rfl,VR.bool _⟩
 case gtr =>
  cases h; rw [pB xT (by simp)]
  refine ⟨_,rfl,?_⟩
  have e:(!decide (x≤y))=decide (x > y):=by rw [Bool.eq_iff_iff]; simp
  rw [e]; exact VR.bool _
 case geq=>cases h; rw [pB xT (by simp)]; exact ⟨_,rfl,VR.bool _⟩
theorem HU (k k':IntKind) (x y:Int) (xT:TypeId) (w:World) (hy:¬ y<0) :
  (Go.binOp .shl xT (.int k x) (.int k' y)).run P w=.ok (.int k (k.wrap (x*2 ^ (min y.toNat k.bits)))) w:=by
 show (Op.shift .shl k x k' y).run P w = _
 unfold Op.shift
 rw [if_neg hy]
 rfl
theorem HY (k k':IntKind) (x y:Int) (xT:TypeId) (w:World) (hy:¬ y<0) :
  (Go.binOp .shr xT (.int k x) (.int k' y)).run P w=.ok (.int k (x.fdiv (2 ^ (min y.toNat k.bits)))) w:=by
 show (Op.shift .shr k x k' y).run P w = _
 unfold Op.shift
 rw [if_neg hy]
 rfl
theorem xG {op:BinOp} {k k':IntKind} {x y:Int} {v:AV} (h:gW op k x y=some v) (hs:nz op=true) (xT:TypeId) :
  ∃ u,(Go.binOp op xT (.int k x) (.int k' y)).run P G.w=.ok u G.w∧VR G v u:=by
 cases op<;>simp only [nz,Bool.false_eq_true] at hs
 ·have h:(if y<0 then none else fI (mK k (x*2 ^ (min y.toNat k.bits))) (jy k))=some v:=h
  rw [nd,mu] at h
  split at h
  ·cases h
  ·rename_i hy
   cases h
   exact ⟨_,HU k k' x y xT G.w hy,VR.int _ _⟩
 ·have h:(if y<0 then none else fI (x.fdiv (2 ^ (min y.toNat k.bits))) (jy k))=some v:=h
  rw [nd] at h
  split at h
  ·cases h
  ·rename_i hy
   cases h
   exact ⟨_,HY k k' x y xT G.w hy,VR.int _ _⟩
theorem qV:∀ (x y:List UInt8),bytesLess x y=Op.bytesLess x y
 | _,[]=>by simp [bytesLess,Op.bytesLess]
 | [],_::_=>by simp [bytesLess,Op.bytesLess]
 | a::x,b::y=>by simp [bytesLess,Op.bytesLess,qV x y]
theorem mF {b:ByteArray} {s:List UInt8} (h:b.data.toList=s):b.size=s.length:=by
 subst h; exact (Array.length_toList (xs:=b.data)).symm
theorem toList_data (b:ByteArray):b.toList=b.data.toList:=ByteArray.toList_eq b
theorem wX {op:BinOp} {x y:List UInt8} {bx by':ByteArray} {v:AV} (hx:bx.data.toList=x) (hy:by'.data.toList=y)
  (h:tV op x y=some v) (xT:TypeId):∃ u,(Go.binOp op xT (.string bx) (.string by')).run P G.w=.ok u G.w∧VR G v u:=by
 have hb:∀ o:BinOp,(Go.binOp o xT (.string bx) (.string by')).run P G.w=(Op.stringOp o bx by').run P G.w:=by
  intro o; cases o<;>rfl
 rw [hb]
 unfold Op.stringOp
 simp only [toList_data,hx,hy,← qV]
 cases op<;>simp only [tV,reduceCtorEq,kC] at h
 case add =>
  split at h
  ·rename_i hle
   cases h
   have hle:=Nat.le_of_ble_eq_true hle
   have hm:IntKind.i64.max=9223372036854775807:=by decide
   rw [if_neg (by rw [hm,mF hx,mF hy]; omega)]
   exact ⟨_,rfl,VR.str (by simp [hx,hy])⟩
  ·cases h
 all_goals
  cases h
  exact ⟨_,rfl,VR.bool _⟩
theorem od {x:AV} {x':Value} {b:Bool} (h:Dc x=some b) (hx:VR G x x'):∃ a,x'=.pointer a∧a.isNone=b:=by
 unfold Dc at h
 split at h<;>simp only [Option.some.injEq,reduceCtorEq] at h<;>subst h
 ·cases hx with
  | fp _ h=>cases h; exact ⟨_,rfl,rfl⟩
 ·cases hx with
  | fp hp _=>simp [AV.gl] at hp
  | ptr=>exact ⟨_,rfl,rfl⟩
 ·cases hx with
  | fp _ h=>cases h; exact ⟨_,rfl,rfl⟩
 ·cases hx with
  | fp hp _=>simp [AV.gl] at hp
  | la=>exact ⟨_,rfl,rfl⟩
theorem oQ {x:AV} {x':Value} {b:Bool} (h:BO x=some b) (hx:VR G x x'):∃ a n c,x'=.slice a n c∧a.isNone=b:=by
 unfold BO at h
 split at h<;>simp only [Option.some.injEq,reduceCtorEq] at h<;>subst h
 ·cases hx with
  | fp _ h=>cases h with
    | slnil=>exact ⟨_,_,_,rfl,rfl⟩
    | iO _ _ _ _ _ hc=>cases hc
    | sl _ _ _ _ _ _ _ _ _ _ _ _ _ _ hc=>cases hc
 ·rename_i hne
  cases hx with
  | fp _ h=>cases h with
    | slnil=>first | exact (hne rfl).elim | exact (hne _ rfl).elim | simp at hne
    | iO=>exact ⟨_,_,_,rfl,rfl⟩
    | sl=>exact ⟨_,_,_,rfl,rfl⟩
 ·cases hx with
  | fp hp _=>simp [AV.gl] at hp
  | hs=>exact ⟨_,_,_,rfl,rfl⟩
theorem oK {x:AV} {x':Value} {b:Bool} (h:C3 x=some b) (hx:VR G x x'):∃ a,x'=.map a∧a.isNone=b:=by
 unfold C3 at h
 split at h<;>simp only [Option.some.injEq,reduceCtorEq] at h<;>subst h
 ·cases hx with
  | fp _ h=>cases h; exact ⟨_,rfl,rfl⟩
 ·cases hx with
  | fp hp _=>simp [AV.gl] at hp
  | hm=>exact ⟨_,rfl,rfl⟩
 ·cases hx with
  | fp _ h=>cases h; exact ⟨_,rfl,rfl⟩
theorem oM {x:AV} {x':Value} {b:Bool} (h:Cf x=some b) (hx:VR G x x'):(b=true∧x'=.nilFunc)∨(b=false∧∃ f a c,x'=.func f a c):=by
 unfold Cf at h
 split at h<;>simp only [Option.some.injEq,reduceCtorEq] at h<;>subst h
 ·cases hx with
  | fp _ h=>cases h; exact .inl ⟨rfl,rfl⟩
 ·cases hx with
  | fp hp _=>simp [AV.gl] at hp
  | fz=>exact .inr ⟨rfl,_,_,_,rfl⟩
theorem VR.yI {l:List AV} {vs:Array Value} (h:VR G (.agg l) (.agg vs)) (hs:∀ x∈l,∃ b,iz x x=some b):PR G.w G.T true (.agg l) (.agg vs):=by
 obtain ⟨vs',e,hl,h1,hr⟩:=h.nA
 cases e
 refine .agg _ l vs hl h1 ?_
 intro i x y hx hy
 obtain ⟨b,hb⟩:=hs x (List.mem_of_getElem? hx)
 have:=(hr i x y hx hy).vr
 cases this with
 | fp _ h=>exact h
 | undef=>simp [iz,kF] at hb
 | ptr=>simp [iz,kF] at hb
 | hs=>simp [iz,kF] at hb
 | hm=>simp [iz,kF] at hb
 | la=>simp [iz,kF] at hb
 | fz=>simp [iz,kF] at hb
 | agg=>simp [iz,kF] at hb
 | eP=>simp [iz,kF] at hb
theorem A5 {x y:AV} {b:Bool} (h:iz x y=some b):(∃ b,iz x x=some b)∧∃ b,iz y y=some b:=by
 cases x<;>simp only [iz,kF,qI,oA,rK,reduceCtorEq] at h<;>cases y<;>simp only [AV.bool?,AV.int?,AV.str?,reduceCtorEq] at h
 ·exact ⟨⟨_,rfl⟩,⟨_,rfl⟩⟩
 ·refine ⟨?_,?_⟩<;>simp [iz,oA,AV.int?,(lN _ _).2 rfl]
 ·exact ⟨⟨_,rfl⟩,⟨_,rfl⟩⟩
theorem uT:∀ {l m:List AV} {b:Bool},iq l m=some b→(∀ x∈l,∃ b,iz x x=some b)∧∀ x∈m,∃ b,iz x x=some b
 | [],[],_,_=>by simp
 | [],_::_,_,h=>by cases h
 | _::_,[],_,h=>by cases h
 | a::x,b::y,c,h=>by
   simp only [iq] at h
   have hrest:∃ d,iq x y=some d∧∃ e,iz a b=some e:=by
    split at h
    ·rename_i he; exact ⟨_,h,_,he⟩
    ·rename_i he
     split at h
     ·rename_i hd; exact ⟨_,hd,_,he⟩
     ·cases h
    ·cases h
   obtain ⟨d,hd,e,he⟩:=hrest
   obtain ⟨h1,h2⟩:=uT hd
   obtain ⟨k1,k2⟩:=A5 he
   constructor
   ·intro z hz
    rcases List.mem_cons.1 hz with rfl | hz
    ·exact k1
    ·exact h1 z hz
   ·intro z hz
    rcases List.mem_cons.1 hz with rfl | hz
    ·exact k2
    ·exact h2 z hz
end
end Go.Sx
namespace Go.Sx
open Go
section
variable {P:Program} {C:fP} {G:Ga} {t:Nat} {ti:TI}
theorem BL (op:BinOp) (ox oy:Operand) (k k':IntKind) (a b:Int) (w:World):(eqGuard op t ox oy (.int k a) (.int k' b)).run P w=.ok () w:=by cases op<;>rfl
theorem CK (op:BinOp) (ox oy:Operand) (a b:ByteArray) (w:World):(eqGuard op t ox oy (.string a) (.string b)).run P w=.ok () w:=by cases op<;>rfl
theorem CE (op:BinOp) (ox oy:Operand) (a b:Bool) (w:World):(eqGuard op t ox oy (.bool a) (.bool b)).run P w=.ok () w:=by cases op<;>rfl
theorem xt (op:BinOp) (ox oy:Operand) (a b:Option Addr) (w:World):(eqGuard op t ox oy (.pointer a) (.pointer b)).run P w=.ok () w:=by cases op<;>rfl
theorem vW (op:BinOp) (ox oy:Operand) (a b:Option Nat) (w:World):(eqGuard op t ox oy (.map a) (.map b)).run P w=.ok () w:=by cases op<;>rfl
theorem xu (op:BinOp) (ox oy:Operand) (a b:Option Addr) (n c m d:Nat) (w:World):(eqGuard op t ox oy (.slice a n c) (.slice b m d)).run P w=.ok () w:=by cases op<;>rfl
theorem xe (op:BinOp) (ox oy:Operand) (y:Value) (w:World):(eqGuard op t ox oy .nilFunc y).run P w=.ok () w:=by cases op<;>rfl
theorem Df (op:BinOp) (ox oy:Operand) (f:Fn) (a c:Array Value) (y:Value) (w:World):(eqGuard op t ox oy (.func f a c) y).run P w=.ok () w:=by cases op<;>rfl
theorem K3 (d:Nat) {e:TypeId} (h:P.underlying t=some (.pointer e)) (b:Option Addr) (w:World):(Op.equalIn (d+1) t (.pointer none) (.pointer b)).run P w=.ok b.isNone w:=by
 simp [Op.equalIn,run_underlying h]
theorem JD (d:Nat) {e:TypeId} (h:P.underlying t=some (.pointer e)) (a:Addr) (w:World):(Op.equalIn (d+1) t (.pointer (some a)) (.pointer none)).run P w=.ok false w:=by
 simp [Op.equalIn,run_underlying h]
theorem KP (d:Nat) {e:TypeId} (h:P.underlying t=some (.slice e)) (b:Option Addr) (n c m k:Nat) (w:World):(Op.equalIn (d+1) t (.slice none n c) (.slice b m k)).run P w=.ok b.isNone w:=by
 simp [Op.equalIn,run_underlying h]
theorem JZ (d:Nat) {e:TypeId} (h:P.underlying t=some (.slice e)) (a:Addr) (n c m k:Nat) (w:World):(Op.equalIn (d+1) t (.slice (some a) n c) (.slice none m k)).run P w=.ok false w:=by
 simp [Op.equalIn,run_underlying h]
theorem J3 (d:Nat) {e e':TypeId} (h:P.underlying t=some (.map e e')) (b:Option Nat) (w:World):(Op.equalIn (d+1) t (.map none) (.map b)).run P w=.ok b.isNone w:=by
 simp [Op.equalIn,run_underlying h]
theorem Ki (d:Nat) {e e':TypeId} (h:P.underlying t=some (.map e e')) (a:Nat) (w:World):(Op.equalIn (d+1) t (.map (some a)) (.map none)).run P w=.ok false w:=by
 simp [Op.equalIn,run_underlying h]
theorem KK (d:Nat) {p q:Array TypeId} {r:Bool} (h:P.underlying t=some (.func p q r)) (w:World):(Op.equalIn (d+1) t .nilFunc .nilFunc).run P w=.ok true w:=by
 simp [Op.equalIn,run_underlying h]
theorem KY (d:Nat) {p q:Array TypeId} {r:Bool} (h:P.underlying t=some (.func p q r)) (f:Fn) (a c:Array Value) (w:World):(Op.equalIn (d+1) t .nilFunc (.func f a c)).run P w=.ok false w:=by
 simp [Op.equalIn,run_underlying h]
theorem Ix (d:Nat) {p q:Array TypeId} {r:Bool} (h:P.underlying t=some (.func p q r)) (f:Fn) (a c:Array Value) (w:World):(Op.equalIn (d+1) t (.func f a c) .nilFunc).run P w=.ok false w:=by
 simp [Op.equalIn,run_underlying h]
theorem jN {x y:Value} {b:Bool} {w:World} (he:(Op.equalIn 10000 t x y).run P w=.ok b w) (hn:∀ o:BinOp,o=.eql∨o=.neq→Go.binOp o t x y=(if o=.eql then do pure (.bool (← Op.equal t x y)) else do pure (.bool (!(← Op.equal t x y))))) :
  (Go.binOp .eql t x y).run P w=.ok (.bool b) w∧(Go.binOp .neq t x y).run P w=.ok (.bool !b) w:=by
 rw [hn .eql (by simp),hn .neq (by simp)]
 have he':(Op.equal t x y).run P w=.ok b w:=he
 constructor<;>simp [he']
theorem sx (hT:iX P t ti) {x y:AV} {x' y':Value} {b:Bool} (hx:VR G x x') (hy:VR G y y') (h:rT ti x y=some b) (ox oy:Operand) :
  (∀ o:BinOp,(eqGuard o t ox oy x' y').run P G.w=.ok () G.w)∧(Go.binOp .eql t x' y').run P G.w=.ok (.bool b) G.w∧(Go.binOp .neq t x' y').run P G.w=.ok (.bool !b) G.w:=by
 obtain ⟨d,hd,ha,hk⟩:=hT.desc
 unfold rT at h
 split at h
 ·
  rename_i hki
  rw [hki] at hk
  have hk:d=.bool:=hk
  subst hk
  unfold AZ at h
  split at h
  ·rename_i a c h1 h2
   cases h
   have:=bool?_eq h1; subst this
   have:=bool?_eq h2; subst this
   rw [hx.of_bool,hy.of_bool]
   exact ⟨fun o=>CE o ox oy _ _ _,jN (run_equalIn_bool' G.w 9999 t _ _ hd) (by rintro o (rfl | rfl)<;>rfl)⟩
  ·cases h
 ·
  rename_i hki
  rw [hki] at hk
  obtain ⟨e,rfl⟩:=hk
  unfold np at h
  split at h
  ·rename_i c h1 h2
   cases h
   obtain ⟨a,rfl,h1⟩:=od h1 hx
   obtain ⟨a',rfl,h2⟩:=od h2 hy
   refine ⟨fun o=>xt o ox oy _ _ _,jN ?_ (by rintro o (rfl | rfl)<;>rfl)⟩
   cases a with
   | none=>rw [← h2]; exact K3 9999 hd _ _
   | some a=>simp at h1
  ·rename_i h1 h2
   cases h
   obtain ⟨a,rfl,h1⟩:=od h1 hx
   obtain ⟨a',rfl,h2⟩:=od h2 hy
   refine ⟨fun o=>xt o ox oy _ _ _,jN ?_ (by rintro o (rfl | rfl)<;>rfl)⟩
   cases a with
   | none=>simp at h1
   | some a=>cases a' with
     | none=>exact JD 9999 hd _ _
     | some a'=>simp at h2
  ·cases h
 ·
  rename_i hki
  rw [hki] at hk
  have hk:d=.slice _:=hk
  subst hk
  unfold np at h
  split at h
  ·rename_i c h1 h2
   cases h
   obtain ⟨a,n,c,rfl,h1⟩:=oQ h1 hx
   obtain ⟨a',n',c',rfl,h2⟩:=oQ h2 hy
   refine ⟨fun o=>xu o ox oy _ _ _ _ _ _ _,jN ?_ (by rintro o (rfl | rfl)<;>rfl)⟩
   cases a with
   | none=>rw [← h2]; exact KP 9999 hd _ _ _ _ _ _
   | some a=>simp at h1
  ·rename_i h1 h2
   cases h
   obtain ⟨a,n,c,rfl,h1⟩:=oQ h1 hx
   obtain ⟨a',n',c',rfl,h2⟩:=oQ h2 hy
   refine ⟨fun o=>xu o ox oy _ _ _ _ _ _ _,jN ?_ (by rintro o (rfl | rfl)<;>rfl)⟩
   cases a with
   | none=>simp at h1
   | some a=>cases a' with
     | none=>exact JZ 9999 hd _ _ _ _ _ _
     | some a'=>simp at h2
  ·cases h
 ·
  rename_i hki
  rw [hki] at hk
  have hk:d=.map _ _:=hk
  subst hk
  unfold np at h
  split at h
  ·rename_i c h1 h2
   cases h
   obtain ⟨a,rfl,h1⟩:=oK h1 hx
   obtain ⟨a',rfl,h2⟩:=oK h2 hy
   refine ⟨fun o=>vW o ox oy _ _ _,jN ?_ (by rintro o (rfl | rfl)<;>rfl)⟩
   cases a with
   | none=>rw [← h2]; exact J3 9999 hd _ _
   | some a=>simp at h1
  ·rename_i h1 h2
   cases h
   obtain ⟨a,rfl,h1⟩:=oK h1 hx
   obtain ⟨a',rfl,h2⟩:=oK h2 hy
   refine ⟨fun o=>vW o ox oy _ _ _,jN ?_ (by rintro o (rfl | rfl)<;>rfl)⟩
   cases a with
   | none=>simp at h1
   | some a=>cases a' with
     | none=>exact Ki 9999 hd _ _
     | some a'=>simp at h2
  ·cases h
 ·
  rename_i hki
  rw [hki] at hk
  obtain ⟨p,q,r,rfl⟩:=hk
  unfold np at h
  split at h
  ·rename_i c h1 h2
   cases h
   rcases oM h1 hx with ⟨_,rfl⟩ | ⟨h0,_⟩
   ·rcases oM h2 hy with ⟨rfl,rfl⟩ | ⟨rfl,f,a,c,rfl⟩
    ·exact ⟨fun o=>xe o ox oy _ _,jN (KK 9999 hd _) (by rintro o (rfl | rfl)<;>rfl)⟩
    ·exact ⟨fun o=>xe o ox oy _ _,jN (KY 9999 hd _ _ _ _) (by rintro o (rfl | rfl)<;>rfl)⟩
   ·cases h0
  ·rename_i h1 h2
   cases h
   rcases oM h1 hx with ⟨h0,_⟩ | ⟨_,f,a,c,rfl⟩
   ·cases h0
   ·rcases oM h2 hy with ⟨_,rfl⟩ | ⟨h0,_⟩
    ·exact ⟨fun o=>Df o ox oy _ _ _ _ _,jN (Ix 9999 hd _ _ _ _) (by rintro o (rfl | rfl)<;>rfl)⟩
    ·cases h0
  ·cases h
 all_goals first
  | (cases h; done)
  | (rename_i hki
     have hagg:ti.agg=true:=by
      rw [hki] at hk
      rw [← ha]
      first
       | (obtain ⟨F,rfl,_⟩:=hk; rfl)
       | (have hk:d=.array _ _:=hk; subst hk; rfl)
     unfold w3 at h
     split at h
     ·rename_i a c hf h1 h2
      split at h
      ·rename_i hlen
       simp only [Bool.and_eq_true,Nat.beq_eq] at hlen
       have:=agg?_eq h1; subst this
       have:=agg?_eq h2; subst this
       obtain ⟨vs,rfl,hl1,h11,hr1⟩:=hx.nA
       obtain ⟨us,rfl,hl2,h12,hr2⟩:=hy.nA
       obtain ⟨s1,s2⟩:=uT h
       have e:=hT.flat hf hagg _ _ vs us b G.w G.T hlen.2 hlen.1.1 hlen.1.2 (hx.yI s1) (hy.yI s2) h
       exact ⟨fun o=>run_eqGuard_agg G.w o t ox oy vs us (hT.guard hf),jN e (by rintro o (rfl | rfl)<;>rfl)⟩
      ·cases h
     ·cases h)
theorem xI (hC:fV P C) {op:BinOp} {x y v:AV} {x' y':Value} (hx:VR G x x') (hy:VR G y y') (h:binOp C op t x y=some v) (ox oy:Operand) :
  ∃ u,(do eqGuard op t ox oy x' y'; Go.binOp op t x' y':Sem Value).run P G.w=.ok u G.w∧VR G v u:=by
 unfold binOp at h
 split at h
 ·rename_i p hp
  obtain ⟨k,a⟩:=p
  have:=int?_eq hp; subst this
  rw [hx.of_int]
  unfold wE at h
  split at h
  ·rename_i k' b hb
   have:=int?_eq hb; subst this
   rw [hy.of_int]
   simp only [Sem.run_bind,BL,Result.andThen_ok]
   split at h
   ·rename_i hk
    cases hs:nz op with
    | true=>exact xG h hs t
    | false =>
      rw [hs,Bool.or_false] at hk
      have:=(lN _ _).1 hk
      simp only at this
      subst this
      exact vY h hs t
   ·cases h
  ·cases h
 ·split at h
  ·rename_i a ha
   have:=str?_eq ha; subst this
   obtain ⟨bx,rfl,hbx⟩:=hx.mN
   unfold wP at h
   split at h
   ·rename_i b hb
    have:=str?_eq hb; subst this
    obtain ⟨by',rfl,hby⟩:=hy.mN
    simp only [Sem.run_bind,CK,Result.andThen_ok]
    exact wX hbx hby h t
   ·cases h
  ·unfold tv at h
   split at h
   ·cases h
   ·rename_i ti hti
    split at h
    ·split at h
     ·rename_i b hb
      cases h
      obtain ⟨h1,h2,h3⟩:=sx (hC.ty t ti hti) hx hy hb ox oy
      exact ⟨_,by simp [h1,h2],VR.bool _⟩
     ·cases h
    ·split at h
     ·rename_i b hb
      rw [s6] at h
      cases h
      obtain ⟨h1,h2,h3⟩:=sx (hC.ty t ti hti) hx hy hb ox oy
      exact ⟨_,by simp [h1,h3],VR.bool _⟩
     ·cases h
    ·cases h
theorem Ah {op:UnOp} {x v:AV} {x':Value} (hx:VR G x x') (h:unOp op x=some v):∃ u,(Op.unary op x').run P G.w=.ok u G.w∧VR G v u:=by
 unfold unOp at h
 split at h
 ·split at h
  ·rename_i b hb
   have:=bool?_eq hb; subst this
   rw [hx.of_bool]
   rw [s6] at h
   cases h
   exact ⟨_,rfl,VR.bool _⟩
  ·cases h
 ·split at h
  ·rename_i k n hb
   have:=int?_eq hb; subst this
   rw [hx.of_int]
   simp only [nd,jy,mu,uv] at h
   cases h
   refine ⟨_,rfl,?_⟩
   rw [← Int.zero_sub]
   exact VR.int _ _
  ·cases h
 ·split at h
  ·rename_i k n hb
   have:=int?_eq hb; subst this
   rw [hx.of_int]
   simp only [tG,nd,jy] at h
   cases h
   exact ⟨_,rfl,VR.int _ _⟩
  ·cases h
 ·cases h
theorem zQ {x y v:AV} {x' y':Value} (hx:VR G x x') (hy:VR G y y') (h:min2 x y=some v):∃ u,(Builtin.min2 x' y').run P G.w=.ok u G.w∧VR G v u:=by
 unfold min2 at h
 split at h
 ·cases h
  rw [hx.of_int,hy.of_int]
  exact ⟨_,rfl,VR.int _ _⟩
 ·cases h
theorem zG {x y v:AV} {x' y':Value} (hx:VR G x x') (hy:VR G y y') (h:max2 x y=some v):∃ u,(Builtin.max2 x' y').run P G.w=.ok u G.w∧VR G v u:=by
 unfold max2 at h
 split at h
 ·cases h
  rw [hx.of_int,hy.of_int]
  exact ⟨_,rfl,VR.int _ _⟩
 ·cases h
theorem pP {f:AV→AV→Option AV} {g:Value→Value→Sem Value} (hfg:∀ {x y v:AV} {x' y':Value},VR G x x'→VR G y y'→f x y=some v→∃ u,(g x' y').run P G.w=.ok u G.w∧VR G v u) :
  ∀ {l:List AV} {l':List Value} {x v:AV} {x':Value},VR G x x'→l.length=l'.length→(∀ (i:Nat) a b,l[i]?=some a→l'[i]?=some b→VR G a b)→ug f x l=some v →
    ∃ u,(l'.foldlM g x').run P G.w=.ok u G.w∧VR G v u
 | [],[],x,v,x',hx,_,_,h=>by
   simp only [ug,Option.some.injEq] at h
   subst h
   exact ⟨x',rfl,hx⟩
 | [],_::_,_,_,_,_,hl,_,_=>by simp at hl
 | _::_,[],_,_,_,_,hl,_,_=>by simp at hl
 | a::l,b::l',x,v,x',hx,hl,hr,h=>by
   simp only [ug] at h
   split at h
   ·rename_i c hc
    obtain ⟨u,hu,hcu⟩:=hfg hx (hr 0 a b rfl rfl) hc
    obtain ⟨z,hz,hvz⟩:=pP hfg hcu (by simpa using hl) (fun i p q hp hq=>hr (i+1) p q hp hq) h
    exact ⟨z,by simp [List.foldlM_cons,hu,hz],hvz⟩
   ·cases h
end
end Go.Sx
