/- Proves rules for the walks and their soundness. -/
import GoSem.Core.Code
import GoSem.Core.Program
import GoSem.Core.View
import Derived.Calls
import Derived.Laws.Append
import Derived.Laws.Tables
import Derived.Laws.StructEq
import Derived.Laws.IdiomCopy
import Derived.Laws.Slices
import Derived.Laws.Rows
import Derived.Laws.Cells
import Derived.Laws.CopyRow
set_option linter.all false
namespace Go.Sx
inductive kq where
 | nil
 | exact (n:Nat)
 | iy
 | nU
 deriving DecidableEq,Inhabited
inductive AV where
 | undef
 | bool (b:Bool)
 | int (k:IntKind) (n:Int)
 | str (s:List UInt8)
 | ia
 | ip (cells:List AV) (off:Nat) (sn:Bool)
 | la (d off:Nat)
 | ptr (b g i off:Nat)
 | sl (xs:List (List AV)) (cap:kq)
 | hs (b g off len:Nat)
 | g8
 | fm (es:List (AV×AV)) (sn:Bool)
 | hm (b:Nat)
 | gL (f:Nat) (first cap:List AV)
 | jk
 | agg (cells:List AV)
 | fz (vs:List AV)
 deriving Inhabited
section force
variable {β:Type}
@[inline] def fB (b:Bool) (k:Bool→β) : β:=match b with
  | true=>k true
  | false=>k false
@[inline] def fN (n:Nat) (k:Nat→β) : β:=match n with
  | 0=>k 0
  | m+1=>k (m+1)
@[inline] def fI (n:Int) (k:Int→β) : β:=match n with
  | .ofNat m=>fN m fun m=>k (.ofNat m)
  | .negSucc m=>fN m fun m=>k (.negSucc m)
def tI {α:Type}:List α→(List α→β)→β
 | [],k=>k []
 | a::l,k=>tI l fun l=>k (a::l)
def f1 (v:AV) (k:AV→β) : β:=match v with
 | .bool b=>fB b fun b=>k (.bool b)
 | .int kd n=>fI n fun n=>k (.int kd n)
 | .str s=>tI s fun s=>k (.str s)
 | .ip c o s=>fN o fun o=>fB s fun s=>k (.ip c o s)
 | .la d o=>fN o fun o=>k (.la d o)
 | .ptr b g i o=>fN b fun b=>fN g fun g=>fN i fun i=>fN o fun o=>k (.ptr b g i o)
 | .hs b g o l=>fN b fun b=>fN g fun g=>fN o fun o=>fN l fun l=>k (.hs b g o l)
 | .hm b=>fN b fun b=>k (.hm b)
 | .sl xs c=>tI xs fun xs=>k (.sl xs c)
 | v=>k v
def fL:List AV→(List AV→β)→β
 | [],k=>k []
 | a::l,k=>f1 a fun a=>fL l fun l=>k (a::l)
def IZ:List (List AV)→(List (List AV)→β)→β
 | [],k=>k []
 | a::l,k=>fL a fun a=>IZ l fun l=>k (a::l)
end force
section forceEq
variable {β:Type}
@[simp] theorem s6 (b:Bool) (k:Bool→β):fB b k=k b:=by cases b<;>rfl
@[simp] theorem kN (b:Nat) (k:Nat→β):fN b k=k b:=by cases b<;>rfl
@[simp] theorem qi (b:Int) (k:Int→β):fI b k=k b:=by cases b<;>simp [fI]
@[simp] theorem mb {α:Type} (l:List α) (k:List α→β):tI l k=k l:=by
  induction l generalizing k with
  | nil=>rfl
  | cons a l ih=>simp [tI,ih]
@[simp] theorem ac0 (v:AV) (k:AV→β):f1 v k=k v:=by cases v<;>simp [f1]
@[simp] theorem xq (l:List AV) (k:List AV→β):fL l k=k l:=by
  induction l generalizing k with
  | nil=>rfl
  | cons a l ih=>simp [fL,ih]
@[simp] theorem acX (l:List (List AV)) (k:List (List AV)→β):IZ l k=k l:=by
  induction l generalizing k with
  | nil=>rfl
  | cons a l ih=>simp [IZ,ih]
end forceEq
inductive jd where
 | fW (gen esz:Nat) (xs:List (List AV))
 | map (es:List (AV×AV×Nat)) (clock:Nat)
 deriving Inhabited
inductive Tr (α:Type) where
 | leaf
 | node (l:Tr α) (v:Option α) (r:Tr α)
namespace Tr
variable {α β:Type}
def get:Tr α→Nat→Option α
 | .leaf,_=>none
 | .node l v r,n=>match n with
   | 0=>v
   | m+1=>match Nat.beq (m % 2) 0 with
     | true=>get l (m / 2)
     | false=>get r (m / 2)
def ins (x : α):Nat→Nat→Tr α→(Tr α→β)→β
 | 0,_,t,k=>k t
 | f+1,n,.leaf,k=>match n with
   | 0=>k (.node .leaf (some x) .leaf)
   | m+1=>match Nat.beq (m % 2) 0 with
     | true=>ins x f (m / 2) .leaf fun l=>k (.node l none .leaf)
     | false=>ins x f (m / 2) .leaf fun r=>k (.node .leaf none r)
 | f+1,n,.node l v r,k=>match n with
   | 0=>k (.node l (some x) r)
   | m+1=>match Nat.beq (m % 2) 0 with
     | true=>ins x f (m / 2) l fun l=>k (.node l v r)
     | false=>ins x f (m / 2) r fun r=>k (.node l v r)
end Tr
structure ah where
 tr:Tr jd
 size:Nat
 lo:Nat
 aq:List (Nat×List AV)
def ah.empty:ah:=⟨.leaf,0,0,[]⟩
def ah.get (h:ah) (b:Nat):Option jd:=match Nat.ble h.lo b with
 | true=>h.tr.get b
 | false=>none
def fO {β:Type} (o:jd) (k:jd→β) : β:=match o with
 | .fW g z xs=>fN g fun g=>fN z fun z=>IZ xs fun xs=>k (.fW g z xs)
 | .map es c=>fN c fun c=>tI es fun es=>k (.map es c)
@[simp] theorem Kc {β:Type} (o:jd) (k:jd→β):fO o k=k o:=by cases o<;>simp [fO]
def ah.set (h:ah) (b:Nat) (o:jd):ah:=fO o fun o=>h.tr.ins o (b+1) b fun t=>⟨t,h.size,h.lo,h.aq⟩
def ah.push (h:ah) (o:jd):ah:=fO o fun o=>fN (h.size+1) fun s=>h.tr.ins o s h.size fun t=>⟨t,s,h.lo,h.aq⟩
def fH {β:Type} (h:ah) (k:ah→β) : β:=match h with
 | ⟨t,s,l,m⟩=>k ⟨t,s,l,m⟩
@[simp] theorem uY {β:Type} (h:ah) (k:ah→β):fH h k=k h:=rfl
abbrev iT:=List (Nat×List AV)
def gR:iT→Nat→Option (List AV)
 | [],_=>none
 | p::e,t=>match Nat.beq t p.1 with
   | true=>some p.2
   | false=>gR e t
def qy:iT→Nat→List AV→iT
 | [],_,_=>[]
 | p::e,t,v=>match Nat.beq t p.1 with
   | true=>(t,v)::e
   | false=>p::qy e t v
abbrev Env:=List (Nat×AV)
def jo:Env→Nat→AV
 | [],_=>.undef
 | p::e,t=>match Nat.beq t p.1 with
   | true=>p.2
   | false=>jo e t
def AI (e:Env) (t:Nat) (v:AV):Env:=(t,v)::e
def AV.sD (t:Nat):AV→Bool
 | .la d o=>Nat.beq t d&&Nat.beq o 0
 | .fz _=>false
 | _=>true
def fi (t:Nat) (v:AV):AV:=match v.sD t with
 | true=>v
 | false=>.undef
def proj (live:List Nat) (e:Env):Env:=live.map fun t=>(t,fi t (jo e t))
def fU:List Nat→iT→iT
 | [],_=>[]
 | t::l,m=>match gR m t with
   | some c=>(t,c)::fU l m
   | none=>fU l m
def yU {β:Type} (t:Nat) (k:AV→β):Env→β
 | []=>k .undef
 | (a,v)::e=>match Nat.beq t a with
   | true=>k v
   | false=>yU t k e
def vE {β:Type}:List Nat→Env→(Env→β)→β
 | [],_,k=>k []
 | t::l,e,k=>yU t (fun v=>match v.sD t with
   | true=>vE l e fun r=>k ((t,v)::r)
   | false=>vE l e fun r=>k ((t,.undef)::r)) e
def sj {β:Type}:List Nat→iT→(iT→β)→β
 | [],_,k=>k []
 | t::l,m,k=>match gR m t with
   | some c=>sj l m fun r=>k ((t,c)::r)
   | none=>sj l m k
theorem Ge {β:Type} (t:Nat) (k:AV→β) (e:Env):yU t k e=k (jo e t):=by
 induction e<;>grind [yU,jo]
@[simp] theorem YQ {β:Type} (l:List Nat) (e:Env) (k:Env→β):vE l e k=k (proj l e):=by
  induction l generalizing k with
  | nil=>rfl
  | cons t l ih =>
    simp only [vE,Ge,proj,List.map_cons,fi]
    cases h:(jo e t).sD t
    ·exact ih _
    ·exact ih _
@[simp] theorem YB {β:Type} (l:List Nat) (m:iT) (k:iT→β):sj l m k=k (fU l m):=by
  induction l generalizing k with
  | nil=>rfl
  | cons t l ih =>
    simp only [sj,fU]
    cases h:gR m t
    ·exact ih _
    ·exact ih _
inductive TK where
 | bool | int (k:IntKind) | str | ptr | slice (elem:Nat) | array (len elem:Nat) | map (key elem:Nat) | struct (fs:List (Nat×Nat)) | func | other
structure TI where
 kind:TK
 agg:Bool
 size:Nat
 bytes:Nat
 zero:List AV
 flat:Bool
 sc:List TK
def zN:Value→AV
 | .bool b=>.bool b
 | .int k n=>.int k n
 | .string s=>.str s.data.toList
 | .pointer none=>.ia
 | .slice none 0 0=>.sl [] .nil
 | .map none=>.g8
 | .nilFunc=>.jk
 | _=>.undef
def N9:Value→Bool
 | .bool _ | .int _ _ | .string _ | .pointer none | .slice none 0 0 | .map none | .nilFunc=>true
 | _=>false
def cv:Value→AV
 | .agg cs=>match cs.toList.all N9 with
   | true=>.agg (cs.toList.map zN)
   | false=>.undef
 | v=>zN v
def fM (e:Env):Operand→AV
 | .tmp t=>jo e t
 | .const v=>cv v
 | .global _=>.undef
 | .func f=>.gL f [] []
def AV.hZ:AV→Bool
 | .undef | .la _ _ | .agg _ | .fz _=>false
 | _=>true
def AV.js:AV→Bool
 | .bool _ | .int _ _ | .str _ | .ia | .ip _ _ false | .g8 | .fm _ false | .jk=>true
 | .sl _ .nU=>false
 | .sl _ _=>true
 | _=>false
def AV.u1:AV→Bool
 | .gL _ a c=>a.all AV.js&&c.all AV.js
 | v=>v.js
def AV.int?:AV→Option (IntKind×Int)
 | .int k n=>some (k,n)
 | _=>none
def AV.str?:AV→Option (List UInt8)
 | .str s=>some s
 | _=>none
def AV.bool?:AV→Option Bool
 | .bool s=>some s
 | _=>none
def AV.agg?:AV→Option (List AV)
 | .agg s=>some s
 | _=>none
def cellsOf (ti:TI) (v:AV):Option (List AV) :=
 match ti.agg with
 | true=>match v.agg? with
   | some l=>match Nat.beq l.length ti.size with
     | true=>some l
     | false=>none
   | none=>none
 | false=>match v.hZ&&Nat.beq ti.size 1 with
   | true=>some [v]
   | false=>none
def wN (n:Nat) (r:List AV):Option AV:=match Nat.beq r.length n with
 | true=>some (.agg r)
 | false=>none
def part (ti:TI) (cs:List AV) (o:Nat):Option AV:=match ti.agg with
 | true=>tI ((cs.drop o).take ti.size) (wN ti.size)
 | false=>cs[o]?
def kp (cs:List AV) (o:Nat) (new:List AV):Option (List AV) :=
 match Nat.ble (o+new.length) cs.length with
 | true=>tI (cs.take o++new++cs.drop (o+new.length)) some
 | false=>none
structure gP where
 T:Nat→Option TI
def Ae:Int→Int→Bool
 | .ofNat a,.ofNat b=>Nat.beq a b
 | .negSucc a,.negSucc b=>Nat.beq a b
 | _,_=>false
def tH:Int→Int→Bool
 | .ofNat a,.ofNat b=>Nat.ble a b
 | .negSucc a,.negSucc b=>Nat.ble b a
 | .negSucc _,.ofNat _=>true
 | .ofNat _,.negSucc _=>false
def Cq:Int→Int→Int
 | .ofNat a,.ofNat b=>.ofNat (Nat.add a b)
 | .ofNat a,.negSucc b=>match Nat.ble (Nat.succ b) a with
   | true=>.ofNat (Nat.sub a (Nat.succ b))
   | false=>.negSucc (Nat.sub b a)
 | .negSucc b,.ofNat a=>match Nat.ble (Nat.succ b) a with
   | true=>.ofNat (Nat.sub a (Nat.succ b))
   | false=>.negSucc (Nat.sub b a)
 | .negSucc a,.negSucc b=>.negSucc (Nat.succ (Nat.add a b))
def Cc:Int→Int
 | .ofNat 0=>.ofNat 0
 | .ofNat (n+1)=>.negSucc n
 | .negSucc n=>.ofNat (n+1)
def oj (k:IntKind) (n:Int):Int:=match k,n with
 | .i64,.ofNat a=>match Nat.ble a 4611686018427387904 with
   | true=>.ofNat a
   | false=>IntKind.wrap .i64 (.ofNat a)
 | .i64,.negSucc a=>match Nat.ble a 4611686018427387904 with
   | true=>.negSucc a
   | false=>IntKind.wrap .i64 (.negSucc a)
 | k,n=>k.wrap n
def IJ:IntKind→Nat
 | .i8=>0
 | .i16=>1
 | .i32=>2
 | .i64=>3
 | .u8=>4
 | .u16=>5
 | .u32=>6
 | .u64=>7
def ma (a b:IntKind):Bool:=Nat.beq (IJ a) (IJ b)
theorem nf (a b:IntKind):ma a b=true↔a=b:=by cases a<;>cases b<;>simp [ma,IJ]
def ra (k:IntKind) (a:Int) (y:AV):Option Bool:=match y.int? with
 | some (k',b)=>match ma k k' with
   | true=>some (Ae a b)
   | false=>none
 | none=>none
def ve (a:List UInt8) (y:AV):Option Bool:=match y.str? with
 | some b=>some (a==b)
 | none=>none
def uH (a:Bool) (y:AV):Option Bool:=match y.bool? with
 | some b=>some (a==b)
 | none=>none
def mZ (_:AV):Option Bool:=none
def jO:AV→AV→Option Bool
 | .bool a=>uH a
 | .int k a=>ra k a
 | .str a=>ve a
 | _=>mZ
def jx:List AV→List AV→Option Bool
 | [],[]=>some true
 | a::x,b::y=>match jO a b with
   | some true=>jx x y
   | some false=>match jx x y with
     | some _=>some false
     | none=>none
   | none=>none
 | _,_=>none
def wJ (x:List AV) (y:AV):Option Bool:=match y.agg? with
 | some y=>jx x y
 | none=>none
def jl (x y:AV):Option Bool:=match x.agg? with
 | some l=>wJ l y
 | none=>jO x y
def findKey (k:AV):List (AV×AV×Nat)→Nat→Option (Option (Nat×AV))
 | [],_=>some none
 | (k',v,_)::es,i=>match jl k k' with
   | some true=>some (some (i,v))
   | some false=>findKey k es (i+1)
   | none=>none
def nV (k:AV):List (AV×AV)→Option (Option AV)
 | []=>some none
 | (k',v)::es=>match jl k k' with
   | some true=>some (some v)
   | some false=>nV k es
   | none=>none
def bytesLess:List UInt8→List UInt8→Bool
 | _,[]=>false
 | [],_::_=>true
 | a::x,b::y=>a<b||(a==b&&bytesLess x y)
theorem m3 (a b:Int):Ae a b=(a==b):=by
 apply Bool.eq_iff_iff.2
 cases a<;>cases b<;>simp only [Ae,Nat.beq_eq,beq_iff_eq,Int.ofNat_eq_natCast,Int.negSucc_eq,Bool.false_eq_true,false_iff]<;>omega
theorem pE (a b:Int):tH a b=decide (a≤b):=by
 apply Bool.eq_iff_iff.2
 cases a<;>cases b<;>simp only [tH,Nat.ble_eq,decide_eq_true_eq,Int.ofNat_eq_natCast,Int.negSucc_eq,Bool.false_eq_true,false_iff,true_iff]<;>omega
theorem xM (a b:Int):Cq a b=a+b:=by
 cases a<;>cases b<;>simp only [Cq,Nat.add_eq,Nat.sub_eq]
 ·rfl
 ·split
  ·rename_i h; simp only [Nat.ble_eq] at h; grind
  ·rename_i h
   have h:=(Bool.not_eq_true _).symm.mp h
   simp only [Nat.ble_eq] at h; grind
 ·split
  ·rename_i h; simp only [Nat.ble_eq] at h; grind
  ·rename_i h
   have h:=(Bool.not_eq_true _).symm.mp h
   simp only [Nat.ble_eq] at h; grind
 rfl
theorem xR (a:Int):Cc a = -a:=by
 rcases a with (_ | n) | n<;>simp only [Cc,Int.ofNat_eq_natCast,Int.negSucc_eq]<;>omega
theorem vB (n:Int) (h1 : -9223372036854775808≤n) (h2:n≤9223372036854775807):IntKind.wrap .i64 n=n:=by
 grind [IntKind.wrap,IntKind.bits,IntKind.signed]
theorem nW (k:IntKind) (n:Int):oj k n=k.wrap n:=by
 unfold oj
 split
 ·split
  ·rename_i h
   simp only [Nat.ble_eq] at h
   grind [vB]
  ·rfl
 ·split
  ·rename_i h
   simp only [Nat.ble_eq] at h
   grind [vB]
  ·rfl
 ·rfl
def lH (k:IntKind) (n:Int):Option AV:=some (.int k n)
def v7 (b:Bool):Option AV:=some (.bool b)
def pg:Bool→Option AV
 | true=>some (.bool false)
 | false=>some (.bool true)
abbrev IB:=IntKind→Int→Int→Option AV
def Ee:IB:=fun k x y=>fI (oj k (Cq x y)) (lH k)
def CA:IB:=fun k x y=>fI (oj k (Cq x (Cc y))) (lH k)
def Jg:IB:=fun k x y=>fI (oj k (x*y)) (lH k)
def La:IB:=fun k x y=>if y=0 then none else fI (oj k (x.tdiv y)) (lH k)
def KE:IB:=fun k x y=>if y=0 then none else fI (x.tmod y) (lH k)
def Ei:IB:=fun _ x y=>fB (Ae x y) v7
def CC:IB:=fun _ x y=>fB (Ae x y) pg
def Dt:IB:=fun _ x y=>fB (tH y x) pg
def Ch:IB:=fun _ x y=>fB (tH x y) v7
def Da:IB:=fun _ x y=>fB (tH x y) pg
def DM:IB:=fun _ x y=>fB (tH y x) v7
def Ko:IB:=fun k x y=>fI (k.wrap (BitVec.ofInt k.bits x &&& BitVec.ofInt k.bits y).toNat) (lH k)
def PX:IB:=fun k x y=>fI (k.wrap (BitVec.ofInt k.bits x ||| BitVec.ofInt k.bits y).toNat) (lH k)
def y4:IB:=fun k x y=>fI (k.wrap (BitVec.ofInt k.bits x ^^^ BitVec.ofInt k.bits y).toNat) (lH k)
def AQ:IB:=fun k x y=>fI (k.wrap (BitVec.ofInt k.bits x &&& ~~~ BitVec.ofInt k.bits y).toNat) (lH k)
def WE:IB:=fun k x y=>if y<0 then none else fI (oj k (x*2 ^ (min y.toNat k.bits))) (lH k)
def Uv:IB:=fun k x y=>if y<0 then none else fI (x.fdiv (2 ^ (min y.toNat k.bits))) (lH k)
def Nw:IB:=fun _ _ _=>none
def qt:BinOp→Bool
 | .shl | .shr=>true
 | _=>false
def jF:BinOp→IB
 | .add=>Ee
 | .sub=>CA
 | .mul=>Jg
 | .quo=>La
 | .rem=>KE
 | .eql=>Ei
 | .neq=>CC
 | .lss=>Dt
 | .leq=>Ch
 | .gtr=>Da
 | .geq=>DM
 | .and=>Ko
 | .or=>PX
 | .xor=>y4
 | .andNot=>AQ
 | .shl=>WE
 | .shr=>Uv
def xe (op:BinOp) (x y:List UInt8):Option AV :=
 match op with
 | .add=>match Nat.ble (x.length+y.length) 1099511627776 with
   | true=>tI (x++y) fun s=>some (.str s)
   | false=>none
 | .eql=>some (.bool (x==y))
 | .neq=>some (.bool !(x==y))
 | .lss=>some (.bool (bytesLess x y))
 | .leq=>some (.bool (bytesLess x y||x==y))
 | .gtr=>some (.bool !(bytesLess x y||x==y))
 | .geq=>some (.bool !(bytesLess x y))
 | _=>none
def IM:AV→Option Bool
 | .ia=>some true
 | .ptr ..=>some false
 | .ip ..=>some false
 | .la ..=>some false
 | _=>none
def II:AV→Option Bool
 | .sl _ .nil=>some true
 | .sl ..=>some false
 | .hs ..=>some false
 | _=>none
def Gr:AV→Option Bool
 | .g8=>some true
 | .hm _=>some false
 | .fm ..=>some false
 | _=>none
def He:AV→Option Bool
 | .jk=>some true
 | .gL ..=>some false
 | _=>none
def pW (f:AV→Option Bool) (x y:AV):Option Bool:=match f x,f y with
 | some true,some b=>some b
 | some false,some true=>some false
 | _,_=>none
def oM:TK→AV→Bool
 | .int kd,.int k _=>ma kd k
 | .str,.str _=>true
 | .bool,.bool _=>true
 | _,_=>false
def qV:AV→Bool
 | .bool _ | .int .. | .str _=>true
 | _=>false
def fitAll:List TK→List AV→Bool
 | [],[]=>true
 | t::ts,a::l=>oM t a&&fitAll ts l
 | _,_=>false
def AK (ti:TI) (x y:AV):Option Bool:=match ti.flat,x.agg?,y.agg? with
 | true,some a,some b=>match Nat.beq a.length ti.size&&Nat.beq b.length ti.size&&fitAll ti.sc a with
   | true=>jx a b
   | false=>none
 | _,_,_=>none
def Fg (x y:AV):Option Bool:=match x.bool?,y.bool? with
 | some a,some b=>some (a==b)
 | _,_=>none
def rj (ti:TI) (x y:AV):Option Bool:=match ti.kind with
 | .bool=>Fg x y
 | .ptr=>pW IM x y
 | .slice _=>pW II x y
 | .map _ _=>pW Gr x y
 | .func=>pW He x y
 | .struct _=>AK ti x y
 | .array _ _=>AK ti x y
 | _=>none
def uT (C:gP) (op:BinOp) (t:Nat) (x y:AV):Option AV:=match C.T t with
 | none=>none
 | some ti=>match op with
   | .eql=>match rj ti x y with
     | some b=>some (.bool b)
     | none=>none
   | .neq=>match rj ti x y with
     | some b=>pg b
     | none=>none
   | _=>none
def zT (op:BinOp) (p:IntKind×Int) (y:AV):Option AV:=match y.int? with
 | some (k,b)=>match ma p.1 k||qt op with
   | true=>jF op p.1 p.2 b
   | false=>none
 | none=>none
def zV (op:BinOp) (a:List UInt8) (y:AV):Option AV:=match y.str? with
 | some b=>xe op a b
 | none=>none
def binOp (C:gP) (op:BinOp) (t:Nat) (x y:AV):Option AV:=match x.int? with
 | some p=>zT op p y
 | none=>match x.str? with
   | some a=>zV op a y
   | none=>uT C op t x y
def unOp (op:UnOp) (x:AV):Option AV:=match op with
 | .not=>match x.bool? with
   | some b=>pg b
   | none=>none
 | .neg=>match x.int? with
   | some (k,n)=>fI (oj k (Cc n)) (lH k)
   | none=>none
 | .xor=>match x.int? with
   | some (k,n)=>y4 k (if k.signed then -1 else k.max) n
   | none=>none
 | _=>none
def min2:AV→AV→Option AV
 | .int k x,.int _ y=>some (.int k (if y<x then y else x))
 | _,_=>none
def max2:AV→AV→Option AV
 | .int k x,.int _ y=>some (.int k (if y > x then y else x))
 | _,_=>none
def wW (f:AV→AV→Option AV):AV→List AV→Option AV
 | a,[]=>some a
 | a,b::l=>match f a b with
   | some c=>wW f c l
   | none=>none
def elems (h:ah):AV→Option (List (List AV))
 | .sl xs _=>some xs
 | .hs b g off len=>match h.get b with
   | some (.fW g' _ xs)=>match Nat.beq g g'&&Nat.ble (off+len) xs.length with
     | true=>some ((xs.drop off).take len)
     | false=>none
   | _=>none
 | _=>none
def u2 (ys:List (List AV)):Bool:=ys.all fun c=>c.all AV.hZ
def np (ys:List (List AV)):Bool:=ys.all fun c=>c.all AV.u1
def ly (n:Nat) (ys:List (List AV)):Bool:=ys.all fun c=>Nat.beq c.length n
def overwrite (xs:List (List AV)) (at_:Nat) (ys:List (List AV)):List (List AV):=xs.take at_++ys++xs.drop (at_+ys.length)
def nv:Nat:=1048576
def oF (n:Nat) (h:ah) (xs ys:List (List AV)):Option (AV×ah) :=
 match ly n xs&&Nat.ble (xs.length+ys.length) nv with
 | true=>fN (xs.length+ys.length) fun m=>some (.hs h.size 0 0 m,h.push (.fW 0 n (xs++ys)))
 | false=>none
def xJ (n:Nat) (h:ah) (b g off len:Nat) (ys:List (List AV)):Option (AV×ah) :=
 match h.get b with
 | some (.fW g' z xs)=>match Nat.beq g g'&&Nat.beq z n&&Nat.ble (off+len+ys.length) nv with
   | false=>none
   | true=>match Nat.ble (off+len+ys.length) xs.length with
     | true=>fN (len+ys.length) fun m=>some (.hs b g off m,h.set b (.fW g z (overwrite xs (off+len) ys)))
     | false=>match Nat.beq (off+len) xs.length with
       | true=>fN (len+ys.length) fun m=>some (.hs b (g+1) 0 m,h.set b (.fW (g+1) z (xs.drop off++ys)))
       | false=>none
 | _=>none
def append (n:Nat) (h:ah) (s:AV) (ys:List (List AV)):Option (AV×ah) :=
 match ys with
 | []=>match s with
   | .sl xs c=>some (.sl xs c,h)
   | .hs b g off len=>some (.hs b g off len,h)
   | _=>none
 | _::_=>match ly n ys with
   | false=>none
   | true=>match s with
     | .sl xs .nil=>oF n h xs ys
     | .sl xs (.exact m)=>match Nat.blt m (xs.length+ys.length) with
       | true=>oF n h xs ys
       | false=>none
     | .hs b g off len=>xJ n h b g off len ys
     | _=>none
def OZ:Int→Option Nat
 | .ofNat n=>some n
 | .negSucc _=>none
def mC (v:AV):Option Nat:=match v.int? with
 | some (_,n)=>OZ n
 | none=>none
def bound (x:Option AV) (dflt:Nat):Option Nat :=
 match x with
 | none=>some dflt
 | some v=>mC v
def Dq (s:List UInt8) (lo hi mx:Option AV):Option AV:=match bound lo 0,bound hi s.length,mx with
 | some l,some r,none=>match Nat.ble l r&&Nat.ble r s.length with
   | true=>tI ((s.drop l).take (r - l)) fun s=>some (.str s)
   | false=>none
 | _,_,_=>none
def mi (l:Nat):kq→kq
 | .exact n=>.exact (n - l)
 | c=>c
def pC (n:Nat):kq→kq
 | .nil=>.nil
 | .nU=>.nU
 | _=>.exact n
def kP (n:Nat):List (List AV)→Bool
 | []=>true
 | c::_=>Nat.beq c.length n
def mR (hi:Option AV):Option AV→Option (Option Nat)
 | none=>some none
 | some m=>match hi,mC m with
   | some _,some m=>some (some m)
   | _,_=>none
def uJ:kq→kq
 | .nU=>.iy
 | c=>c
def w8 (l m:Nat) (cap:kq):List (List AV)→Option AV
 | []=>some (.sl [] (pC (m - l) (uJ cap)))
 | x::xs=>some (.sl (x::xs) (pC (m - l) cap))
def p9 (n:Nat) (xs:List (List AV)) (cap:kq) (lo hi mx:Option AV):Option AV:=match bound lo 0,bound hi xs.length,mR hi mx with
 | some l,some r,some none=>match Nat.ble l r&&Nat.ble r xs.length&&kP n xs with
   | true=>tI ((xs.drop l).take (r - l)) fun xs=>some (.sl xs (mi l cap))
   | false=>none
 | some l,some r,some (some m)=>match Nat.ble l r&&Nat.ble r m&&Nat.ble m xs.length&&kP n xs with
   | true=>tI ((xs.drop l).take (r - l)) (w8 l m cap)
   | false=>none
 | _,_,_=>none
def za (b g off:Nat) (l r:Nat):Option Nat→Option AV
 | none=>fN (off+l) fun o=>fN (r - l) fun k=>some (.hs b g o k)
 | some m=>match Nat.ble r m with
   | true=>match Nat.beq l m with
     | true=>some (.sl [] (.exact 0))
     | false=>some .undef
   | false=>none
def AP (n:Nat) (h:ah) (b g off len:Nat) (lo hi mx:Option AV):Option AV:=match h.get b with
 | some (.fW g' z xs)=>match Nat.beq g g'&&Nat.beq z n with
   | false=>none
   | true=>match bound lo 0,bound hi len,mR hi mx with
     | some l,some r,some m=>match Nat.ble l r&&Nat.ble (off+r) xs.length&&Nat.ble (off+m.getD 0) xs.length with
       | true=>za b g off l r m
       | false=>none
     | _,_,_=>none
 | _=>none
def slice (n:Nat) (h:ah) (x:AV) (lo hi mx:Option AV):Option AV :=
 match x with
 | .sl xs cap=>p9 n xs cap lo hi mx
 | .hs b g off len=>AP n h b g off len lo hi mx
 | _=>none
abbrev EF:=ah→TI→Option AV
def Hr (d o:Nat):EF:=fun h ti=>match gR h.aq d with
 | some cs=>part ti cs o
 | none=>none
def Rh (cs:List AV) (o:Nat) (_:Bool):EF:=fun _ ti=>part ti cs o
def w6 (b g i o:Nat):EF:=fun h ti=>match h.get b with
 | some (.fW g' _ xs)=>match Nat.beq g g' with
   | true=>match xs[i]? with
     | some cs=>part ti cs o
     | none=>none
   | false=>none
 | _=>none
def Oj:EF:=fun _ _=>none
def pc:AV→EF
 | .la d o=>Hr d o
 | .ip cs o s=>Rh cs o s
 | .ptr b g i o=>w6 b g i o
 | _=>Oj
abbrev I3:=List AV→ah→Option ah
def Gy (d o:Nat):I3:=fun new h=>match gR h.aq d with
 | some cs=>match kp cs o new with
   | some cs=>some { h with aq:=qy h.aq d cs }
   | none=>none
 | none=>none
def yX (b g i o:Nat):I3:=fun new h=>match h.get b with
 | some (.fW g' z xs)=>match Nat.beq g g' with
   | true=>match xs[i]? with
     | some cs=>match kp cs o new with
       | some cs=>some (h.set b (.fW g z (xs.set i cs)))
       | none=>none
     | none=>none
   | false=>none
 | _=>none
def P0:I3:=fun _ _=>none
def uf:AV→I3
 | .la d o=>Gy d o
 | .ptr b g i o=>yX b g i o
 | _=>P0
def sm (h:ah) (ti:TI) (a v:AV):Option ah :=
 match cellsOf ti v with
 | none=>none
 | some new=>match new.all AV.hZ with
   | true=>uf a new h
   | false=>none
def Rg (d o:Nat) (k:Nat):Option AV:=fN (o+k) fun o=>some (.la d o)
def IT (cs:List AV) (o:Nat) (s:Bool) (k:Nat):Option AV:=fN (o+k) fun o=>some (.ip cs o s)
def xH (b g i o:Nat) (k:Nat):Option AV:=fN (o+k) fun o=>some (.ptr b g i o)
def Ri (_:Nat):Option AV:=none
def wg:AV→Nat→Option AV
 | .la d o=>Rg d o
 | .ip cs o s=>IT cs o s
 | .ptr b g i o=>xH b g i o
 | _=>Ri
def xx:Bool→kq
 | true=>.nU
 | false=>.iy
def gr (f:AV→Option AV):List AV→Option (List AV)
 | []=>some []
 | v::l=>match f v with
   | none=>none
   | some w=>match gr f l with
     | none=>none
     | some l'=>some (w::l')
def jZ (f:AV→Option AV):List (List AV)→Option (List (List AV))
 | []=>some []
 | v::l=>match gr f v with
   | none=>none
   | some w=>match jZ f l with
     | none=>none
     | some l'=>some (w::l')
def mg (f:AV→Option AV):List (AV×AV×Nat)→Option (List (AV×AV))
 | []=>some []
 | (k,v,_)::l=>match f v with
   | none=>none
   | some w=>match mg f l with
     | none=>none
     | some l'=>some ((k,w)::l')
def freeze (sn:Bool) (h:ah):Nat→AV→Option AV
 | 0,_=>none
 | n+1,v=>match v with
   | .bool _ | .int _ _ | .str _ | .ia | .g8 | .jk=>some v
   | .ip _ _ s=>match s&&!sn with
     | true=>none
     | false=>some v
   | .fm _ s=>match s&&!sn with
     | true=>none
     | false=>some v
   | .sl _ .nU=>match sn with
     | true=>some v
     | false=>none
   | .sl _ _=>some v
   | .ptr b g i o=>match h.get b with
     | some (.fW g' _ xs)=>match Nat.beq g g' with
       | true=>match xs[i]? with
         | some cs=>match gr (freeze sn h n) cs with
           | some cs=>some (.ip cs o sn)
           | none=>none
         | none=>none
       | false=>none
     | _=>none
   | .hs b g off len=>match h.get b with
     | some (.fW g' _ xs)=>match Nat.beq g g'&&Nat.ble (off+len) xs.length with
       | true=>match jZ (freeze sn h n) ((xs.drop off).take len) with
         | some xs=>some (.sl xs (xx sn))
         | none=>none
       | false=>none
     | _=>none
   | .hm b=>match h.get b with
     | some (.map es _)=>match mg (freeze sn h n) es with
       | some es=>some (.fm es sn)
       | none=>none
     | _=>none
   | .gL f a c=>match gr (freeze sn h n) a,gr (freeze sn h n) c with
     | some a,some c=>some (.gL f a c)
     | _,_=>none
   | .agg l=>match gr (freeze sn h n) l with
     | some l=>some (.agg l)
     | none=>none
   | .fz l=>match gr (freeze sn h n) l with
     | some l=>some (.fz l)
     | none=>none
   | .undef | .la _ _=>none
def AV.nw:AV→Bool
 | .ptr .. | .hs .. | .hm _=>true
 | .agg l=>l.any fun | .ptr .. | .hs .. | .hm _=>true | .gL _ a c=>!(a.all AV.js&&c.all AV.js) | _=>false
 | .gL _ a c=>!(a.all AV.js&&c.all AV.js)
 | _=>false
def AV.ld:AV→Bool
 | .la .. | .fz _=>false
 | _=>true
end Go.Sx
namespace Go.Sx
inductive jr where
 | nil
 | seq (live:List Nat) (a b:jr)
 | sq (a b:jr)
 | two (a b:jr)
 | loop (live:List Nat) (a:jr)
 | nA (sch:List (Nat×List Nat))
 deriving Inhabited
def my {α:Type} (f : α→α→Bool):List α→List α→Bool
 | [],[]=>true
 | a::x,b::y=>f a b&&my f x y
 | _,_=>false
def DR:kq→kq→Bool
 | .nil,.nil=>true
 | .exact n,.exact m=>Nat.beq n m
 | .iy,.iy=>true
 | .nU,.nU=>true
 | _,_=>false
def AN:Bool→Bool→Bool
 | true,b=>b
 | false,true=>false
 | false,false=>true
def mc:Nat→AV→AV→Bool
 | 0,_,_=>false
 | n+1,a,b=>match a,b with
   | .undef,.undef=>true
   | .bool x,.bool y=>AN x y
   | .int k x,.int l y=>ma k l&&Ae x y
   | .str x,.str y=>x==y
   | .ia,.ia=>true
   | .ip c o s,.ip d p t=>my (mc n) c d&&Nat.beq o p&&AN s t
   | .la d o,.la e p=>Nat.beq d e&&Nat.beq o p
   | .ptr b g i o,.ptr b' g' i' o'=>Nat.beq b b'&&Nat.beq g g'&&Nat.beq i i'&&Nat.beq o o'
   | .sl xs c,.sl ys d=>my (my (mc n)) xs ys&&DR c d
   | .hs b g i o,.hs b' g' i' o'=>Nat.beq b b'&&Nat.beq g g'&&Nat.beq i i'&&Nat.beq o o'
   | .g8,.g8=>true
   | .hm b,.hm c=>Nat.beq b c
   | .fm x s,.fm y t=>my (fun p q=>mc n p.1 q.1&&mc n p.2 q.2) x y&&AN s t
   | .jk,.jk=>true
   | .agg x,.agg y=>my (mc n) x y
   | _,_=>false
structure fA where
 body:Code
 j7:jr
 aq:List Nat
 EV:List Nat
 gx:List Nat
 res:List ResultVar
 iter:Bool
inductive Ex where
 | ig
 | ext (id:Nat)
 | ret
 deriving DecidableEq
abbrev nP:=Bool→Nat→List AV→ah→Option (AV×ah)
def wS (C:gP) (ti:TI):List (Nat×AV)→List AV→Option (List AV)
 | [],cs=>some cs
 | (i,v)::rest,cs =>
   match (match ti.kind with
    | .struct fs=>fs[i]?
    | .array n el=>match C.T el with
      | some t=>if i<n then some (i*t.size,el) else none
      | none=>none
    | _=>none) with
   | none=>none
   | some (off,ft)=>match C.T ft with
     | none=>none
     | some t=>match cellsOf t v with
       | none=>none
       | some new=>if new.all AV.hZ then match kp cs off new with
         | none=>none
         | some cs=>wS C ti rest cs else none
def ng (t:TI):List (Nat×AV)→List (List AV)→Option (List (List AV))
 | [],xs=>some xs
 | (i,v)::rest,xs=>match cellsOf t v with
   | none=>none
   | some new=>match new.all AV.hZ&&Nat.blt i xs.length with
     | true=>ng t rest (xs.set i new)
     | false=>none
def o0 (fa:fA) (n:Nat) (dst:Option Nat) (h:ah) (xs:List (List AV)):Option (AV×ah) :=
 match dst with
 | none=>none
 | some d=>match fa.EV.elem d||!(np xs) with
   | true=>some (.hs h.size 0 0 xs.length,h.push (.fW 0 n xs))
   | false=>some (.sl xs (.exact xs.length),h)
def nH (C:gP) (t:Nat):Option TI :=
 match C.T t with
 | some ti=>match ti.kind with
   | .slice el=>C.T el
   | _=>none
 | none=>none
def uF (k v:AV) (es:List (AV×AV×Nat)) (clock:Nat):Option (List (AV×AV×Nat)×Nat) :=
 match findKey k es 0 with
 | none=>none
 | some none=>some (es++[(k,v,clock)],clock+1)
 | some (some (i,_))=>some (es.modify i (fun e=>(k,v,e.2.2)),clock)
def BB (k:AV) (es:List (AV×AV×Nat)):Option (List (AV×AV×Nat)) :=
 match findKey k es 0 with
 | none=>none
 | some none=>some es
 | some (some (i,_))=>some (es.eraseIdx i)
def m0 (n:Int) (v:AV):List (AV×AV×Nat)→Option (List (AV×AV×Nat))
 | []=>none
 | (k,w,b)::es=>if (b:Int)==n then some ((k,v,b)::es) else match m0 n v es with
   | none=>none
   | some es=>some ((k,w,b)::es)
def AV.nk:AV→Bool
 | .bool _ | .int .. | .str _=>true
 | .agg l=>l.all fun | .bool _ | .int .. | .str _=>true | _=>false
 | _=>false
def m4 (tk:TI) (k:AV):Bool:=match tk.agg with
 | false=>oM tk.kind k
 | true=>match k.agg? with
   | some l=>tk.flat&&Nat.beq l.length tk.size&&fitAll tk.sc l
   | none=>false
def nN (C:gP) (kt:Nat) (k:AV):Bool:=match C.T kt with
 | some tk=>m4 tk k
 | none=>false
def mapKey (C:gP) (t:Nat) (k:AV):Bool:=match C.T t with
 | some tm=>match tm.kind with
   | .map kt _=>nN C kt k
   | _=>false
 | none=>false
def AV.vA:AV→Bool
 | .la .. | .fz _=>false
 | .agg l=>l.all AV.hZ
 | _=>true
abbrev R2:=Option (AV×ah)
def iw (h:ah):Option AV→R2
 | some v=>some (v,h)
 | none=>none
def Fy (x:AV):Option Nat:=match x.str? with
 | some s=>some s.length
 | none=>none
def rb:AV→Option Nat
 | .sl xs _=>some xs.length
 | .hs _ _ _ len=>some len
 | _=>none
def zK (h:ah):AV→Option Nat
 | .g8=>some 0
 | .fm es _=>some es.length
 | .hm b=>match h.get b with
   | some (.map es _)=>some es.length
   | _=>none
 | _=>none
def rX (h:ah) (x:AV):TK→Option Nat
 | .array n _=>some n
 | .str=>Fy x
 | .slice _=>rb x
 | .map _ _=>zK h x
 | _=>none
def mI (h:ah):Option Nat→R2
 | some n=>some (.int .i64 n,h)
 | none=>none
def qN (C:gP) (ats:List Nat) (args:List AV) (h:ah):R2:=match ats,args with
 | t::_,[x]=>match C.T t with
   | some ti=>mI h (rX h x ti.kind)
   | none=>none
 | _,_=>none
def Jz:AV→Option Nat
 | .sl _ .nil=>some 0
 | .sl _ (.exact n)=>some n
 | _=>none
def nQ (C:gP):List Nat→Option TI
 | t::_=>nH C t
 | []=>none
def yg (C:gP) (ats:List Nat) (args:List AV) (h:ah):R2:=match nQ C ats,args with
 | some _,[x]=>mI h (Jz x)
 | _,_=>none
def lx (h:ah) (x:AV):Option (List (List AV)):=match x.str? with
 | some l=>some (l.map fun c=>[AV.int .u8 c.toNat])
 | none=>elems h x
def vj:TK→Bool
 | .slice _=>true
 | .str=>true
 | _=>false
def xU (C:gP):List Nat→Bool
 | [_,t]=>match C.T t with
   | some ti=>vj ti.kind
   | none=>false
 | _=>false
def oU (C:gP) (ats:List Nat) (args:List AV) (h:ah):R2:=match nQ C ats,args with
 | some ti,[s,x]=>match xU C ats with
   | true=>match lx h x with
     | none=>none
     | some ys=>match u2 ys with
       | true=>append ti.size h s ys
       | false=>none
   | false=>none
 | _,_=>none
def AM (n:Nat) (h:ah) (ys:List (List AV)):AV→R2
 | .hs b g off len=>match h.get b with
   | some (.fW g' z xs)=>match Nat.beq g g'&&Nat.beq z n&&Nat.ble (off+len) xs.length&&u2 ys&&ly n ys with
     | true=>some (.int .i64 ((min ys.length len:Nat):Int),h.set b (.fW g z (overwrite xs off (ys.take (min ys.length len)))))
     | false=>none
   | _=>none
 | .sl [] _=>some (.int .i64 0,h)
 | _=>none
def w5 (C:gP) (ats:List Nat) (args:List AV) (h:ah):R2:=match nQ C ats,args with
 | some ti,[d,x]=>match elems h x with
   | some ys=>AM ti.size h ys d
   | none=>none
 | _,_=>none
def vF (C:gP) (k:AV):List Nat→Bool
 | t::_=>mapKey C t k
 | []=>false
def sH (C:gP) (ats:List Nat) (args:List AV) (h:ah):R2:=match args with
 | [.g8,k]=>match vF C k ats with
   | true=>some (.fz [],h)
   | false=>none
 | [.hm b,k]=>match h.get b with
   | some (.map es c)=>match vF C k ats with
     | true=>match BB k es with
       | some es=>some (.fz [],h.set b (.map es c))
       | none=>none
     | false=>none
   | _=>none
 | _=>none
def Fo (ti:TI) (h:ah):AV→R2
 | .sl [] _=>some (.fz [],h)
 | .hs b g off len=>match h.get b with
   | some (.fW g' z xs)=>match Nat.beq g g'&&Nat.beq z ti.size&&Nat.ble (off+len) xs.length with
     | true=>some (.fz [],h.set b (.fW g z (overwrite xs off (List.replicate len ti.zero))))
     | false=>none
   | _=>none
 | _=>none
def uu (C:gP) (ats:List Nat) (args:List AV) (h:ah):R2:=match nQ C ats,args with
 | some ti,[x]=>Fo ti h x
 | _,_=>none
def nZ (f:AV→AV→Option AV) (args:List AV) (h:ah):R2:=match args with
 | x::rest=>iw h (wW f x rest)
 | []=>none
abbrev vY:=gP→List Nat→List AV→ah→R2
def sN:vY:=qN
def KV:vY:=yg
def vZ:vY:=oU
def Ph:vY:=w5
def Gu:vY:=fun C ats a h=>sH C ats a h
def LH:vY:=uu
def JK:vY:=fun _ _ a h=>nZ max2 a h
def KM:vY:=fun _ _ a h=>nZ min2 a h
def PD:vY:=fun _ _ _ _=>none
def j9:Builtin→vY
 | .len=>sN
 | .cap=>KV
 | .append=>vZ
 | .copy=>Ph
 | .delete=>Gu
 | .clear=>LH
 | .max=>JK
 | .min=>KM
 | _=>PD
def kJ (f:Operand→AV):Option Operand→Option AV
 | none=>none
 | some x=>some (f x)
def asAgg (ti:TI) (cs:List AV):Option AV:=match ti.agg with
 | true=>some (.agg cs)
 | false=>match cs with
   | [v]=>some v
   | _=>none
def nI (h:ah) (k:AV):AV→Option (Option AV)
 | .g8=>some none
 | .fm es _=>nV k es
 | .hm b=>match h.get b with
   | some (.map es _)=>match findKey k es 0 with
     | none=>none
     | some none=>some none
     | some (some (_,v))=>some (some v)
   | _=>none
 | _=>none
def vd (ok b:Bool) (v:AV):Option AV:=match ok with
 | true=>some (.fz [v,.bool b])
 | false=>some v
def n8 (C:gP) (t:Nat) (h:ah) (m k:AV) (ok:Bool):Option AV:=match C.T t with
 | none=>none
 | some tm=>match tm.kind with
   | .map kt el=>match C.T el with
     | none=>none
     | some ti=>match nN C kt k with
       | false=>none
       | true=>match nI h k m with
         | none=>none
         | some (some v)=>vd ok true v
         | some none=>match asAgg ti ti.zero with
           | none=>none
           | some z=>vd ok false z
   | _=>none
def zc (h:ah) (c a b:AV):R2:=match c.bool? with
 | some true=>some (a,h)
 | some false=>some (b,h)
 | none=>none
def newVar (fa:fA) (d:Nat) (h:ah) (cs:List AV):R2:=match fa.aq.elem d with
 | true=>match gR h.aq d with
   | none=>some (.la d 0,{ h with aq:=(d,cs)::h.aq })
   | some _=>none
 | false=>some (.ptr h.size 0 0 0,h.push (.fW 0 cs.length [cs]))
def wP (C:gP) (fa:fA) (dst:Option Nat) (h:ah) (t:Nat):R2:=match C.T t with
 | some ti=>match dst with
   | some d=>newVar fa d h ti.zero
   | none=>none
 | none=>none
def DO (C:gP) (fa:fA) (dst:Option Nat) (h:ah) (t:Nat) (x:AV):R2:=match C.T t with
 | some ti=>match dst with
   | some d=>match cellsOf ti x with
     | some cs=>match cs.all AV.hZ with
       | true=>newVar fa d h cs
       | false=>none
     | none=>none
   | none=>none
 | none=>none
def kQ (e:Env) (ps:Array (Nat×Operand)):List (Nat×AV):=ps.toList.map fun p=>(p.1,fM e p.2)
def buildable (C:gP):TK→Bool
 | .struct _=>true
 | .array _ el=>(C.T el).isSome
 | _=>false
def wL (C:gP) (h:ah) (t:Nat) (ps:List (Nat×AV)):R2:=match C.T t with
 | some ti=>match buildable C ti.kind with
   | true=>match wS C ti ps ti.zero with
     | some cs=>some (.agg cs,h)
     | none=>none
   | false=>none
 | none=>none
def lU (C:gP) (fa:fA) (dst:Option Nat) (h:ah) (t n:Nat) (ps:List (Nat×AV)):R2:=match nH C t with
 | some ti=>match Nat.ble (n*ti.size) 16777216 with
   | true=>match ng ti ps (List.replicate n ti.zero) with
     | some xs=>o0 fa ti.size dst h xs
     | none=>none
   | false=>none
 | none=>none
def tC (C:gP) (h:ah) (t:Nat) (a:AV):R2:=match C.T t with
 | some ti=>iw h (pc a h ti)
 | none=>none
def sv (C:gP) (h:ah) (t:Nat) (a x:AV):R2:=match C.T t with
 | some ti=>match sm h ti a x with
   | some h=>some (.undef,h)
   | none=>none
 | none=>none
def wU:AV→Option AV
 | .ptr b g i o=>some (.ptr b g i o)
 | .ip cs o s=>some (.ip cs o s)
 | .la d o=>some (.la d o)
 | .gL f a c=>some (.gL f a c)
 | _=>none
def qR (C:gP) (h:ah) (s d:Nat) (x:AV):R2:=match C.T s,C.T d with
 | some _,some ti=>match ti.kind with
   | .int k=>match x.int? with
     | some (_,n)=>iw h (fI (oj k n) (lH k))
     | none=>none
   | .str=>match x.str? with
     | some s=>some (.str s,h)
     | none=>none
   | _=>none
 | _,_=>none
def pt (h:ah) (fn:Fn) (a c:List AV):R2:=match fn with
 | .func f=>match a.all AV.hZ&&c.all AV.hZ with
   | true=>some (.gL f a c,h)
   | false=>none
 | _=>none
def qa (C:gP) (h:ah) (t:Nat) (l c:AV):R2:=match nH C t,l.int?,c.int? with
 | some ti,some (_,l),some (_,c) =>
   match tH 0 l&&tH l c&&tH c 4294967295&&Nat.ble (c.toNat*ti.bytes) 140737488355328 with
   | true=>some (.hs h.size 0 0 l.toNat,h.push (.fW 0 ti.size (List.replicate c.toNat ti.zero)))
   | false=>none
 | _,_,_=>none
def ml (C:gP) (h:ah) (t:Nat) (x:AV) (lo hi mx:Option AV):R2:=match C.T t with
 | none=>none
 | some ti=>match ti.kind with
   | .slice el=>match C.T el with
     | some ti=>iw h (slice ti.size h x lo hi mx)
     | none=>none
   | .str=>match x.str? with
     | some s=>iw h (Dq s lo hi mx)
     | none=>none
   | _=>none
def nq (C:gP) (h:ah) (t:Nat) (x:AV) (f:Nat):R2:=match C.T t with
 | none=>none
 | some ti=>match ti.kind with
   | .struct fs=>match fs[f]? with
     | some (off,_)=>iw h (wg x off)
     | none=>none
   | _=>none
def xE (C:gP) (h:ah) (t:Nat) (x:AV) (f:Nat):R2:=match C.T t with
 | none=>none
 | some ti=>match ti.kind with
   | .struct fs=>match fs[f]? with
     | some (off,ft)=>match x.agg? with
       | some cs=>match C.T ft with
         | some ti=>iw h (part ti cs off)
         | none=>none
       | none=>none
     | none=>none
   | _=>none
def m5:kq→Bool
 | .nU=>true
 | _=>false
def nC (n:Nat) (h:ah) (x:AV) (i:Nat):R2:=match x with
 | .sl xs c=>match xs[i]? with
   | some cs=>match Nat.beq cs.length n with
     | true=>some (.ip cs 0 (m5 c),h)
     | false=>none
   | none=>none
 | .hs b g off len=>match h.get b with
   | some (.fW _ z _)=>match Nat.blt i len&&Nat.beq z n with
     | true=>fN (off+i) fun k=>some (.ptr b g k 0,h)
     | false=>none
   | _=>none
 | _=>none
def lN (C:gP) (h:ah) (t:Nat) (x i:AV):R2:=match C.T t with
 | none=>none
 | some ti=>match mC i with
   | none=>none
   | some i=>match ti.kind with
     | .slice el=>match C.T el with
       | some ti=>nC ti.size h x i
       | none=>none
     | .array n el=>match C.T el with
       | some ti=>match Nat.blt i n with
         | true=>iw h (wg x (i*ti.size))
         | false=>none
       | none=>none
     | _=>none
def uR (C:gP) (h:ah) (t:Nat) (x i:AV):R2:=match C.T t with
 | none=>none
 | some ti=>match mC i with
   | none=>none
   | some i=>match ti.kind with
     | .str=>match x.str? with
       | some s=>match s[i]? with
         | some c=>some (.int .u8 c.toNat,h)
         | none=>none
       | none=>none
     | .array n el=>match C.T el with
       | some ti=>match x.agg? with
         | some cs=>match Nat.blt i n with
           | true=>iw h (part ti cs (i*ti.size))
           | false=>none
         | none=>none
       | none=>none
     | _=>none
def pV (C:gP) (h:ah) (t:Nat) (m k x:AV):R2:=match m with
 | .hm b=>match h.get b with
   | some (.map es c)=>match mapKey C t k&&x.vA with
     | true=>match uF k x es c with
       | some (es,c)=>some (.undef,h.set b (.map es c))
       | none=>none
     | false=>none
   | _=>none
 | _=>none
def sL (es:List (AV×AV×Nat)) (i:Nat):Nat:=match es[i]? with
 | some x=>x.2.2
 | none=>0
def pB (C:gP) (h:ah) (t:Nat) (m k:AV):R2:=match C.T t with
 | none=>none
 | some tm=>match tm.kind,m with
   | .map kt el,.hm b=>match C.T el,h.get b with
     | some ti,some (.map es c)=>match nN C kt k with
       | false=>none
       | true=>match findKey k es 0 with
         | some (some (i,v))=>some (.fz [v,.int .i64 (sL es i)],h.set b (.map (es.modify i fun x=>(k,x.2)) c))
         | some none=>match asAgg ti ti.zero with
           | some z=>some (.fz [z,.int .i64 c],h.set b (.map (es++[(k,z,c)]) (c+1)))
           | none=>none
         | none=>none
     | _,_=>none
   | _,_=>none
def pe (h:ah) (m s x:AV):R2:=match m,s.int? with
 | .hm b,some (_,n)=>match h.get b with
   | some (.map es c)=>match x.vA with
     | true=>match m0 n x es with
       | some es=>some (.undef,h.set b (.map es c))
       | none=>none
     | false=>none
   | _=>none
 | _,_=>none
def tv (h:ah) (t:AV) (i:Nat):R2:=match t with
 | .fz vs=>iw h vs[i]?
 | _=>none
def sE (m:iT):R2→R2
 | some (v,h)=>some (v,{ h with aq:=m })
 | none=>none
def qG (fa:fA) (call:nP) (h:ah) (f:AV) (args:List AV):R2:=match f with
 | .gL g a cp=>fL (a++args++cp) fun args=>match args.all AV.ld with
   | true=>sE h.aq (call (fa.gx.elem g) g args { h with aq:=[] })
   | false=>none
 | _=>none
def lZ (C:gP) (fa:fA) (call:nP) (e:Env) (h:ah) (c:Call):R2:=match c.callee with
 | .builtin b=>j9 b C c.argTypes.toList (c.args.toList.map (fM e)) h
 | .value f=>qG fa call h (fM e f) (c.args.toList.map (fM e))
 | .invoke ..=>none
structure Ctx where
 C:gP
 fa:fA
 call:nP
abbrev lX:=Ctx→Env→ah→Option Nat→R2
def CE (x:Operand):lX:=fun _ e h _=>some (fM e x,h)
def Cp (c a b:Operand):lX:=fun _ e h _=>zc h (fM e c) (fM e a) (fM e b)
def E2 (t:Nat):lX:=fun X e h d=>wP X.C X.fa d h t
def G3 (t:Nat) (x:Operand):lX:=fun X e h d=>DO X.C X.fa d h t (fM e x)
def zm (t:Nat) (ps:Array (Nat×Operand)):lX:=fun X e h _=>wL X.C h t (kQ e ps)
def mJ (t n:Nat) (ps:Array (Nat×Operand)):lX:=fun X e h d=>lU X.C X.fa d h t n (kQ e ps)
def vk (t:Nat) (a:Operand):lX:=fun X e h _=>tC X.C h t (fM e a)
def ui (t:Nat) (a x:Operand):lX:=fun X e h _=>sv X.C h t (fM e a) (fM e x)
def rv (x:Operand):lX:=fun _ e h _=>iw h (wU (fM e x))
def uQ (op:BinOp) (t:Nat) (x y:Operand) (_:Nat):lX:=fun X e h _=>iw h (binOp X.C op t (fM e x) (fM e y))
def Ok (op:UnOp) (_:Nat) (x:Operand):lX:=fun _ e h _=>iw h (unOp op (fM e x))
def sW (s d:Nat) (x:Operand):lX:=fun X e h _=>qR X.C h s d (fM e x)
def ry (fn:Fn) (a c:Array Operand):lX:=fun _ e h _=>pt h fn (a.toList.map (fM e)) (c.toList.map (fM e))
def zM (_:Nat):Option Operand→lX
 | none=>fun _ _ h _=>some (.hm h.size,h.push (.map [] 0))
 | some _=>fun _ _ _ _=>none
def tq (t:Nat) (l c:Operand):lX:=fun X e h d=>qa X.C h t (fM e l) (fM e c)
def mE (t:Nat) (x:Operand) (lo hi mx:Option Operand):lX:=fun X e h _=>ml X.C h t (fM e x) (kJ (fM e) lo) (kJ (fM e) hi) (kJ (fM e) mx)
def oB (t:Nat) (x:Operand) (f:Nat):lX:=fun X e h _=>nq X.C h t (fM e x) f
def zr (t:Nat) (x:Operand) (f:Nat):lX:=fun X e h _=>xE X.C h t (fM e x) f
def mD (t:Nat) (x i:Operand):lX:=fun X e h _=>lN X.C h t (fM e x) (fM e i)
def xC (t:Nat) (x i:Operand):lX:=fun X e h _=>uR X.C h t (fM e x) (fM e i)
def qp (t:Nat) (m k:Operand) (ok:Bool):lX:=fun X e h _=>iw h (n8 X.C t h (fM e m) (fM e k) ok)
def pZ (t:Nat) (m k x:Operand):lX:=fun X e h _=>pV X.C h t (fM e m) (fM e k) (fM e x)
def rL (t:Nat) (m k:Operand):lX:=fun X e h _=>pB X.C h t (fM e m) (fM e k)
def sb (_:Nat) (m s x:Operand):lX:=fun _ e h _=>pe h (fM e m) (fM e s) (fM e x)
def wh (t:Operand) (i:Nat):lX:=fun _ e h _=>tv h (fM e t) i
def mS (c:Call):lX:=fun X e h _=>lZ X.C X.fa X.call e h c
def Yl:lX:=fun _ _ _ _=>none
def gD:Op→lX
 | .move x=>CE x
 | .assign x=>CE x
 | .pick c a b=>Cp c a b
 | .alloc t=>E2 t
 | .box t x=>G3 t x
 | .build t ps=>zm t ps
 | .buildSlice t n ps=>mJ t n ps
 | .load t a=>vk t a
 | .store t a x=>ui t a x
 | .nilCheck x=>rv x
 | .binOp op t x y u=>uQ op t x y u
 | .unOp op t x=>Ok op t x
 | .convert s d x=>sW s d x
 | .makeFunc fn a c=>ry fn a c
 | .makeMap t r=>zM t r
 | .makeSlice t l c=>tq t l c
 | .slice t x lo hi mx=>mE t x lo hi mx
 | .fieldAddr t x f=>oB t x f
 | .field t x f=>zr t x f
 | .indexAddr t x i=>mD t x i
 | .index t x i=>xC t x i
 | .lookup t m k ok=>qp t m k ok
 | .mapUpdate t m k x=>pZ t m k x
 | .insert t m k x=>pZ t m k x
 | .mapEntry t m k=>rL t m k
 | .entryStore t m s x=>sb t m s x
 | .extract t i=>wh t i
 | .call c=>mS c
 | _=>Yl
def BY (want:Bool):AV→Option Bool
 | .bool b=>some (AN b want)
 | .fz []=>some false
 | _=>none
def gq (all:List Oper) (e:Env) (o:Oper):Option Bool :=
 match o.guard with
 | none=>some true
 | some (j,want)=>match all[j]? with
   | some o'=>match o'.dst with
     | some d=>BY want (jo e d)
     | none=>none
   | none=>none
def gk (e:Env) (o:Oper) (v:AV):Env :=
 match o.dst with
 | some d=>AI e d v
 | none=>e
abbrev RE:=Option (Env×ah)
def m8 (X:Ctx) (k:Env→ah→RE) (o:Oper) (e:Env) (h:ah):Option Bool→RE
 | none=>none
 | some true=>match gD o.op X e h o.dst with
   | some (v,h)=>fH h fun h=>k (gk e o v) h
   | none=>none
 | some false=>k (gk e o (.fz [])) h
def uI (X:Ctx) (all:List Oper):List Oper→Env→ah→RE
 | [],e,h=>some (e,h)
 | o::rest,e,h=>m8 X (uI X all rest) o e h (gq all e o)
def zC (e:Env) (d:Nat):Option (AV×ah)→Bool
 | some (v,_)=>mc 8 v (jo e d)
 | none=>false
def again (X:Ctx) (all:List Oper) (e:Env) (h:ah) (i:Nat):Bool:=match all[i]? with
 | none=>false
 | some o=>match gq all e o with
   | none=>false
   | some false=>true
   | some true=>match o.dst with
     | none=>false
     | some d=>zC e d (gD o.op X e h (some d))
def pJ (X:Ctx) (all:List Oper):List (Nat×List Nat)→Env→ah→RE
 | [],e,h=>some (e,h)
 | (i,chk)::rest,e,h=>match all[i]? with
   | none=>none
   | some o=>m8 X (fun e h=>match chk.all (again X all e h) with
     | true=>pJ X all rest e h
     | false=>none) o e h (gq all e o)
abbrev u7:=(Env→ah→Option (Ex×Env×ah))→Env→ah→Option (Ex×Env×ah)
def iP:Nat→u7
 | 0,_,_,_=>none
 | n+1,f,e,h=>match f e h with
   | some (.ig,e,h)=>iP n f e h
   | r=>r
abbrev RC:=Option (Ex×Env×ah)
abbrev nM:=jr→Env→ah→RC
def s9:RE→RC
 | some (e,h)=>some (.ig,e,h)
 | none=>none
def uq (X:Ctx) (ops:Array Oper):nM:=fun an e h=>match an with
 | .nA sch=>s9 (pJ X ops.toList sch e h)
 | _=>none
def CY (X:Ctx) (ops:Array Oper):nM:=fun _ e h=>s9 (uI X ops.toList ops.toList e h)
def si (X:Ctx) (ops:Array Oper):Bool→nM
 | true=>uq X ops
 | false=>CY X ops
def andThen (k:Env→ah→RC):RC→RC
 | some (.ig,e,h)=>k e h
 | r=>r
def jA (live:List Nat) (k:Env→ah→RC) (e:Env) (h:ah):RC:=vE live e fun e=>sj live h.aq fun m=>k e { h with aq:=m }
def uS (a b:nM):nM:=fun an e h=>match an with
 | .seq live x y=>andThen (fun e h=>jA live (b y) e h) (a x e h)
 | .sq x y=>andThen (b y) (a x e h)
 | _=>none
def yS (x y:Env→ah→RC) (e:Env) (h:ah) (c:AV):RC:=match c.bool? with
 | some true=>x e h
 | some false=>y e h
 | none=>none
def y6 (c:Operand) (a b:nM):nM:=fun an e h=>match an with
 | .two x y=>yS (a x) (b y) e h (fM e c)
 | _=>none
def atEnd (id:Nat):RC→RC
 | some (.ext id',e,h)=>match Nat.beq id' id with
   | true=>some (.ig,e,h)
   | false=>some (.ext id',e,h)
 | r=>r
def sy (id:Nat) (a:nM):nM:=fun an e h=>atEnd id (a an e h)
def J4 (lp:u7) (a:nM):nM:=fun an e h=>match an with
 | .loop live x=>lp (jA live (a x)) e h
 | _=>none
def gX (X:Ctx) (lp:u7):Code→nM
 | .skip=>fun _ e h=>some (.ig,e,h)
 | .region _ ops draw=>si X ops draw
 | .seq a b=>uS (gX X lp a) (gX X lp b)
 | .cond c a b=>y6 c (gX X lp a) (gX X lp b)
 | .block id a=>sy id (gX X lp a)
 | .loop a=>J4 lp (gX X lp a)
 | .exit id=>fun _ e h=>some (.ext id,e,h)
 | .scope a=>gX X lp a
 | .label _=>fun _ e h=>some (.ig,e,h)
 | .ret=>fun _ e h=>some (.ret,e,h)
 | _=>fun _ _ _=>none
inductive vV where
 | nil
 | fix (last:Option (AV×AV)) (left:List (AV×AV))
 | xv (b clk:Nat) (seen:Option Nat)
structure It where
 d:Nat
 k:vV
def BL (h:ah):AV→Option vV
 | .g8=>some .nil
 | .fm [] _=>some (.fix none [])
 | .fm [x] _=>some (.fix none [x])
 | .hm b=>match h.get b with
   | some (.map [] c)=>some (.xv b c none)
   | some (.map [_] c)=>some (.xv b c none)
   | _=>none
 | _=>none
def Ai (C:gP) (h:ah) (t:Nat) (x:AV):Option vV:=match C.T t with
 | some ti=>match ti.kind with
   | .map _ _=>BL h x
   | _=>none
 | none=>none
def qE (h:ah):vV→Option (Option (AV×AV)×vV)
 | .nil=>some (none,.nil)
 | .fix last []=>some (none,.fix last [])
 | .fix _ (x::l)=>some (some x,.fix (some x) l)
 | .xv b clk seen=>match h.get b with
   | some (.map es c)=>match Nat.beq c clk,es,seen with
     | true,[],s=>some (none,.xv b clk s)
     | true,[(k,v,n)],none=>some (some (k,v),.xv b clk (some n))
     | true,[(_,_,n)],some n'=>match Nat.beq n n' with
       | true=>some (none,.xv b clk (some n'))
       | false=>none
     | _,_,_=>none
   | _=>none
def uZ (h:ah):vV→Option (AV×AV)
 | .fix (some x) _=>some x
 | .xv b clk (some n)=>match h.get b with
   | some (.map [(k,v,n')] c)=>match Nat.beq c clk&&Nat.beq n' n with
     | true=>some (k,v)
     | false=>none
   | _=>none
 | _=>none
abbrev RI:=Option (Option It×Env×ah)
def sf (o:Oper):Bool:=match o.guard with
 | none=>true
 | some _=>false
def oX (it:Option It) (o:Oper):Bool:=match it,o.dst with
 | some i,some d=>!(Nat.beq i.d d)
 | _,_=>true
def vy:Option (AV×AV)→AV
 | none=>.fz [.bool false]
 | some x=>.fz [.bool true,x.1,x.2]
def E7 (h:ah) (o:Oper) (t:Nat) (k:Option It→Env→RI) (e:Env) (it:Option It):RI:=match it with
 | some i=>match Nat.beq i.d t&&oX (some i) o&&sf o with
   | true=>match qE h i.k with
     | some (r,k')=>k (some ⟨i.d,k'⟩) (gk e o (vy r))
     | none=>none
   | false=>none
 | none=>none
def BA (h:ah) (o:Oper) (t:Nat) (k:Option It→Env→RI) (e:Env) (it:Option It):RI:=match it with
 | some i=>match Nat.beq i.d t&&oX (some i) o&&sf o with
   | true=>match uZ h i.k with
     | some x=>k (some i) (gk e o (.fz [x.1,x.2]))
     | none=>none
   | false=>none
 | none=>none
def B9 (o:Oper) (x:Option vV) (k:Option It→Env→RI) (e:Env):RI:=match x,o.dst,sf o with
 | some l,some d,true=>k (some ⟨d,l⟩) (AI e d .undef)
 | _,_,_=>none
inductive OpK where
 | range (t:Nat) (x:Operand)
 | next (t:Nat)
 | entry (t:Nat)
 | plain
 | bad
def zi:Op→OpK
 | .range t x=>.range t x
 | .next (.tmp t) false=>.next t
 | .next _ _=>.bad
 | .entry (.tmp t)=>.entry t
 | .entry _=>.bad
 | _=>.plain
def AE (X:Ctx) (it:Option It) (k:Env→ah→RI) (o:Oper) (e:Env) (h:ah):Option Bool→RI
 | none=>none
 | some true=>match gD o.op X e h o.dst with
   | some (v,h)=>fH h fun h=>k (gk e o v) h
   | none=>none
 | some false=>k (gk e o (.fz [])) h
def tV (X:Ctx) (all:List Oper):List Oper→Option It→Env→ah→RI
 | [],it,e,h=>some (it,e,h)
 | o::rest,it,e,h=>match zi o.op with
   | .range t x=>B9 o (Ai X.C h t (fM e x)) (fun it e=>tV X all rest it e h) e
   | .next t=>E7 h o t (fun it e=>tV X all rest it e h) e it
   | .entry t=>BA h o t (fun it e=>tV X all rest it e h) e it
   | .plain=>match oX it o with
     | true=>AE X it (fun e h=>tV X all rest it e h) o e h (gq all e o)
     | false=>none
   | .bad=>none
abbrev qW:=Option (Ex×Option It×Env×ah)
def Qf:RI→qW
 | some (it,e,h)=>some (.ig,it,e,h)
 | none=>none
def yV (k:Option It→Env→ah→qW):qW→qW
 | some (.ig,it,e,h)=>k it e h
 | r=>r
def sJ (live:List Nat) (k:Env→ah→qW) (e:Env) (h:ah):qW:=vE live e fun e=>sj live h.aq fun m=>k e { h with aq:=m }
def Qh (id:Nat):qW→qW
 | some (.ext id',it,e,h)=>match Nat.beq id' id with
   | true=>some (.ig,it,e,h)
   | false=>some (.ext id',it,e,h)
 | r=>r
def w7:Nat→(Option It→Env→ah→qW)→Option It→Env→ah→qW
 | 0,_,_,_,_=>none
 | n+1,f,it,e,h=>match f it e h with
   | some (.ig,it,e,h)=>w7 n f it e h
   | r=>r
abbrev tU:=jr→Option It→Env→ah→qW
def RM (a b:tU):tU:=fun an it e h=>match an with
 | .seq live x y=>yV (fun it e h=>sJ live (b y it) e h) (a x it e h)
 | .sq x y=>yV (b y) (a x it e h)
 | _=>none
def Kh (c:Operand) (a b:tU):tU:=fun an it e h=>match an with
 | .two x y=>match (fM e c).bool? with
   | some true=>a x it e h
   | some false=>b y it e h
   | none=>none
 | _=>none
def EO (it:Option It):RC→qW
 | some (x,e,h)=>some (x,it,e,h)
 | none=>none
def ka (X:Ctx) (n:Nat):Code→tU
 | .skip=>fun _ it e h=>some (.ig,it,e,h)
 | .region _ ops false=>fun _ it e h=>Qf (tV X ops.toList ops.toList it e h)
 | .region _ ops true=>fun an it e h=>match ops.toList.all (oX it) with
   | true=>EO it (uq X ops an e h)
   | false=>none
 | .seq a b=>RM (ka X n a) (ka X n b)
 | .cond c a b=>Kh c (ka X n a) (ka X n b)
 | .block id a=>fun an it e h=>Qh id (ka X n a an it e h)
 | .loop a=>fun an it e h=>match an with
   | .loop live x=>w7 n (fun it e h=>sJ live (ka X n a x it) e h) it e h
   | _=>none
 | .exit id=>fun _ it e h=>some (.ext id,it,e,h)
 | .scope a=>ka X n a
 | .label _=>fun _ it e h=>some (.ig,it,e,h)
 | .ret=>fun _ it e h=>some (.ret,it,e,h)
 | _=>fun _ _ _ _=>none
def FX:qW→RC
 | some (x,_,e,h)=>some (x,e,h)
 | none=>none
def wY (X:Ctx) (n:Nat) (c:Code) (an:jr) (e:Env) (h:ah):Bool→RC
 | true=>FX (ka X n c an none e h)
 | false=>gX X (iP n) c an e h
def Ea (C:gP) (e:Env) (h:ah):ResultVar→Option AV
 | .tmp t=>some (fM e (.tmp t))
 | .cell a t=>match C.T t with
   | some ti=>pc (fM e (.tmp a)) h ti
   | none=>none
def xY (C:gP) (e:Env) (h:ah):List ResultVar→Option (List AV)
 | []=>some []
 | r::l=>match Ea C e h r with
   | none=>none
   | some v=>match xY C e h l with
     | none=>none
     | some l=>some (v::l)
def params:Nat→List AV→Env
 | _,[]=>[]
 | i,v::l=>(i,v)::params (i+1) l
def result:List AV→AV
 | [v]=>v
 | vs=>.fz vs
def leave (C:gP) (res:List ResultVar):RC→R2
 | some (.ig,e,h)=>leave1 e h
 | some (.ret,e,h)=>leave1 e h
 | _=>none
where
 leave1 (e:Env) (h:ah):R2:=match xY C e h res with
  | some vs=>match vs.all AV.ld with
    | true=>some (result vs,h)
    | false=>none
  | none=>none
def pT (C:gP) (fa:fA) (call:nP) (n:Nat) (args:List AV) (h:ah):Option (AV×ah) :=
 leave C fa.res (wY ⟨C,fa,call⟩ n fa.body fa.j7 (params 0 args) h fa.iter)
abbrev jf:=Nat→Option fA
abbrev iO:=Nat→Option (Bool→List AV→ah→Option (AV×ah))
def kx (h:ah) (args:List AV):Option (List AV):=match args.any AV.nw with
 | true=>gr (freeze true h 8) args
 | false=>some args
def frozen:ah→R2→R2
 | h,some (v,h')=>match freeze false h' 8 v with
   | none=>none
   | some v=>some (v,h)
 | _,none=>none
def pj (C:gP) (fa:fA) (call:nP) (lp:Nat) (shd:Bool) (args:List AV) (h:ah):Option (AV×ah) :=
 match shd with
 | true=>pT C fa call lp args h
 | false=>match kx h args with
   | none=>none
   | some args'=>frozen h (pT C fa call lp args' ah.empty)
def jt (C:gP) (F:jf) (P:iO):Nat→nP
 | 0,_,_,_,_=>none
 | n+1,shd,f,args,h=>match P f with
   | some p=>p shd args h
   | none=>match F f with
     | none=>none
     | some fa=>pj C fa (jt C F P n) n shd args h
end Go.Sx
namespace Go.Sx
open Go
def lK:kq→Nat→Nat→Prop
 | .nil,_,_=>False
 | .exact n,_,c=>c=n
 | .iy,l,c=>l≤c
 | .nU,l,c=>l≤c
def mP:kq→Bool
 | .nU=>true
 | _=>false
inductive PR (w:World) (T:Bool→Nat→Prop):Bool→AV→Value→Prop
 | undef (m:Bool) (v:Value) (h:v.oneCell'=true):PR w T m .undef v
 | bool (m b:Bool):PR w T m (.bool b) (.bool b)
 | int (m:Bool) (k:IntKind) (n:Int):PR w T m (.int k n) (.int k n)
 | str (m:Bool) (s:List UInt8) (b:ByteArray) (h:b.data.toList=s):PR w T m (.str s) (.string b)
 | ia (m:Bool):PR w T m .ia (.pointer none)
 | ip (m:Bool) (cells:List AV) (off:Nat) (sn:Bool) (B base:Nat) (c:Array Value) (e:TypeId) (fr:Nat×Nat) (f:Nat→Value) (hm:sn=true→m=true)
    (hB:w.heap[B]?=some (.cells c e fr)) (hI:T sn B)
    (hc:∀ (i:Nat) (x:AV),cells[i]?=some x→c[base+i]?=some (f i)) (h1:∀ (i:Nat) (x:AV),cells[i]?=some x→(f i).oneCell'=true)
    (hr:∀ (i:Nat) (x:AV),cells[i]?=some x→PR w T sn x (f i)):PR w T m (.ip cells off sn) (.pointer (some ⟨B,base+off,none⟩))
 | slnil (m:Bool):PR w T m (.sl [] .nil) (.slice none 0 0)
 | kG (m:Bool) (cap:kq) (a:Addr) (c:Nat) (hm:mP cap=true→m=true) (h:lK cap 0 c):PR w T m (.sl [] cap) (.slice (some a) 0 c)
 | sl (m:Bool) (xs:List (List AV)) (cap:kq) (B base:Nat) (c:Array Value) (e:TypeId) (fr:Nat×Nat) (cap' esz:Nat) (f:Nat→Nat→Value)
    (hm:mP cap=true→m=true)
    (hB:w.heap[B]?=some (.cells c e fr)) (hI:T (mP cap) B) (hcap:lK cap xs.length cap') (hle:xs.length≤cap')
    (hz:∀ (i:Nat) (cs:List AV),xs[i]?=some cs→cs.length=esz)
    (hc:∀ (i:Nat) (cs:List AV) (j:Nat) (x:AV),xs[i]?=some cs→cs[j]?=some x→c[base+i*esz+j]?=some (f i j))
    (h1:∀ (i:Nat) (cs:List AV) (j:Nat) (x:AV),xs[i]?=some cs→cs[j]?=some x→(f i j).oneCell'=true)
    (hr:∀ (i:Nat) (cs:List AV) (j:Nat) (x:AV),xs[i]?=some cs→cs[j]?=some x→PR w T (mP cap) x (f i j)) :
    PR w T m (.sl xs cap) (.slice (some ⟨B,base,none⟩) xs.length cap')
 | g8 (m:Bool):PR w T m .g8 (.map none)
 | fm (m:Bool) (es:List (AV×AV)) (sn:Bool) (r:Nat) (ents:Array MapEntry) (clk:Nat) (hm:sn=true→m=true) (hB:w.heap[r]?=some (.map ents clk)) (hI:T sn r)
    (hl:es.length=ents.size) (hy:∀ (i:Nat) (e:MapEntry),ents[i]?=some e→e.born<clk) (hko:∀ (i:Nat) (p:AV×AV),es[i]?=some p→p.1.nk=true)
    (hk:∀ (i:Nat) (p:AV×AV) (e:MapEntry),es[i]?=some p→ents[i]?=some e→PR w T sn p.1 e.key)
    (hv:∀ (i:Nat) (p:AV×AV) (e:MapEntry),es[i]?=some p→ents[i]?=some e→PR w T sn p.2 e.val):PR w T m (.fm es sn) (.map (some r))
 | jk (m:Bool):PR w T m .jk .nilFunc
 | gL (m:Bool) (g:Nat) (a c:List AV) (a' c':Array Value) (ha:a.length=a'.size) (hc:c.length=c'.size)
    (hra:∀ (i:Nat) (x:AV) (y:Value),a[i]?=some x→a'[i]?=some y→PR w T m x y) (hrc:∀ (i:Nat) (x:AV) (y:Value),c[i]?=some x→c'[i]?=some y→PR w T m x y) :
    PR w T m (.gL g a c) (.func (.func g) a' c')
 | agg (m:Bool) (l:List AV) (vs:Array Value) (hl:l.length=vs.size) (h1:∀ (i:Nat) (y:Value),vs[i]?=some y→y.oneCell'=true)
    (hr:∀ (i:Nat) (x:AV) (y:Value),l[i]?=some x→vs[i]?=some y→PR w T m x y):PR w T m (.agg l) (.agg vs)
theorem PR.mono {w w':World} {T T':Bool→Nat→Prop} {m:Bool} {v:AV} {u:Value} (h:PR w T m v u)
  (hI:∀ s B,T s B→T' s B) (hw:∀ s B,T s B→w'.heap[B]?=w.heap[B]?):PR w' T' m v u:=by
 induction h with
 | undef m v h=>exact .undef m v h
 | bool m b=>exact .bool m b
 | int m k n=>exact .int m k n
 | str m s b h=>exact .str m s b h
 | ia m=>exact .ia m
 | ip m cells off sn B base c e fr f hm hB hB' hc h1 hr ih=>exact .ip m cells off sn B base c e fr f hm (by grind) (hI _ B hB') hc h1 ih
 | slnil m=>exact .slnil m
 | kG m cap a c hm h=>exact .kG m cap a c hm h
 | sl m xs cap B base c e fr cap' esz f hm hB hB' hcap hle hz hc h1 hr ih =>
   exact .sl m xs cap B base c e fr cap' esz f hm (by grind) (hI _ B hB') hcap hle hz hc h1 ih
 | g8 m=>exact .g8 m
 | fm m es sn r ents clk hm hB hB' hl hy hko hk hv ihk ihv=>exact .fm m es sn r ents clk hm (by grind) (hI _ r hB') hl hy hko ihk ihv
 | jk m=>exact .jk m
 | gL m g a c a' c' ha hc hra hrc iha ihc=>exact .gL m g a c a' c' ha hc iha ihc
 | agg m l vs hl h1 hr ih=>exact .agg m l vs hl h1 ih
theorem PR.up {w:World} {T:Bool→Nat→Prop} {m:Bool} {v:AV} {u:Value} (h:PR w T m v u) (hm:m=false):PR w T true v u:=by
 induction h with
 | undef m v h=>exact .undef _ v h
 | bool m b=>exact .bool _ b
 | int m k n=>exact .int _ k n
 | str m s b h=>exact .str _ s b h
 | ia m=>exact .ia _
 | ip m cells off sn B base c e fr f hm hB hB' hc h1 hr ih=>exact .ip _ cells off sn B base c e fr f (fun _=>rfl) hB hB' hc h1 hr
 | slnil m=>exact .slnil _
 | kG m cap a c hm h=>exact .kG _ cap a c (fun _=>rfl) h
 | sl m xs cap B base c e fr cap' esz f hm hB hB' hcap hle hz hc h1 hr ih=>exact .sl _ xs cap B base c e fr cap' esz f (fun _=>rfl) hB hB' hcap hle hz hc h1 hr
 | g8 m=>exact .g8 _
 | fm m es sn r ents clk hm hB hB' hl hy hko hk hv ihk ihv=>exact .fm _ es sn r ents clk (fun _=>rfl) hB hB' hl hy hko hk hv
 | jk m=>exact .jk _
 | gL m g a c a' c' ha hc hra hrc iha ihc=>exact .gL _ g a c a' c' ha hc (fun i x y hx hy=>iha i x y hx hy hm) (fun i x y hx hy=>ihc i x y hx hy hm)
 | agg m l vs hl h1 hr ih=>exact .agg _ l vs hl h1 (fun i x y hx hy=>ih i x y hx hy hm)
theorem PR.BJ {w:World} {T:Bool→Nat→Prop} {m:Bool} {v:AV} {u:Value} (h:PR w T m v u):PR w T true v u:=by
 cases m
 ·exact h.up rfl
 ·exact h
structure Loc where
 B:Nat
 base:Nat
 cap:Nat
structure Ga where
 w:World
 T:Bool→Nat→Prop
 h:ah
 pi:Nat→Option Loc
 L:Nat→Option Nat
def AV.ir:AV→Bool
 | .bool _ | .int _ _ | .str _ | .ia | .ip _ _ _ | .sl _ _ | .g8 | .fm _ _ | .jk=>true
 | _=>false
def AV.kh:AV→Bool
 | .la _ _ | .fz _=>false
 | _=>true
inductive VR (G:Ga):AV→Value→Prop
 | undef (v:Value):VR G .undef v
 | gF {v:AV} {u:Value} (hp:v.ir=true) (h:PR G.w G.T true v u):VR G v u
 | ptr (b g i o:Nat) (a:Addr) (hb:b<G.h.size) (hg:∀ g0 z xs,G.h.get b=some (.fW g0 z xs)→g≤g0)
    (h:∀ z xs,G.h.get b=some (.fW g z xs)→∃ l,G.pi b=some l∧a=⟨l.B,l.base+i*z+o,none⟩) :
    VR G (.ptr b g i o) (.pointer (some a))
 | hs (b g off len:Nat) (a:Addr) (cap':Nat) (hb:b<G.h.size) (hg:∀ g0 z xs,G.h.get b=some (.fW g0 z xs)→g≤g0) (hle:len≤cap')
    (h:∀ z xs,G.h.get b=some (.fW g z xs)→∃ l,G.pi b=some l∧off+cap'=l.cap∧(0<cap'→a=⟨l.B,l.base+off*z,none⟩)) :
    VR G (.hs b g off len) (.slice (some a) len cap')
 | hm (b r:Nat) (hb:b<G.h.size) (h:∀ es c,G.h.get b=some (.map es c)→∃ l,G.pi b=some l∧r=l.B):VR G (.hm b) (.map (some r))
 | la (d o B:Nat) (hd:G.L d=some B):VR G (.la d o) (.pointer (some ⟨B,o,none⟩))
 | gL (g:Nat) (a c:List AV) (a' c':Array Value) (ha:a.length=a'.size) (hc:c.length=c'.size) (hna:∀ x∈a,x.kh=true) (hnc:∀ x∈c,x.kh=true)
    (hra:∀ (i:Nat) (x:AV) (y:Value),a[i]?=some x→a'[i]?=some y→VR G x y) (hrc:∀ (i:Nat) (x:AV) (y:Value),c[i]?=some x→c'[i]?=some y→VR G x y) :
    VR G (.gL g a c) (.func (.func g) a' c')
 | agg (l:List AV) (vs:Array Value) (hl:l.length=vs.size) (hn:∀ x∈l,x.kh=true) (h1:∀ (i:Nat) (y:Value),vs[i]?=some y→y.oneCell'=true)
    (hr:∀ (i:Nat) (x:AV) (y:Value),l[i]?=some x→vs[i]?=some y→VR G x y):VR G (.agg l) (.agg vs)
 | fz (l:List AV) (vs:Array Value) (hl:l.length=vs.size) (hr:∀ (i:Nat) (x:AV) (y:Value),l[i]?=some x→vs[i]?=some y→VR G x y):VR G (.fz l) (.tuple vs)
structure Ext (G G':Ga):Prop where
 T:∀ s B,G.T s B→G'.T s B
 fi:∀ s B,G.T s B→G'.w.heap[B]?=G.w.heap[B]?
 size:G.h.size≤G'.h.size
 fW:∀ b,b<G.h.size→∀ g' z' xs',G'.h.get b=some (.fW g' z' xs') →
  ∃ g z xs,G.h.get b=some (.fW g z xs)∧g≤g'∧(g=g'→z=z'∧∀ l,G.pi b=some l→G'.pi b=some l)
 map:∀ b,b<G.h.size→∀ es' c',G'.h.get b=some (.map es' c')→∃ es c,G.h.get b=some (.map es c)∧∀ l,G.pi b=some l→G'.pi b=some l
 aq:∀ d B,G.L d=some B→G'.L d=some B
theorem VR.mono {G G':Ga} (E:Ext G G') {v:AV} {u:Value} (h:VR G v u):VR G' v u:=by
 induction h with
 | undef v=>exact .undef v
 | gF hp h=>exact .gF hp (h.mono E.T E.fi)
 | ptr b g i o a hb hg h =>
   refine .ptr b g i o a (Nat.lt_of_lt_of_le hb E.size) ?_ ?_
   ·intro g0 z xs hx
    obtain ⟨g1,z1,xs1,h1,hle,_⟩:=E.fW b hb g0 z xs hx
    grind
   ·intro z xs hx
    obtain ⟨g1,z1,xs1,h1,hle,heq⟩:=E.fW b hb g z xs hx
    grind
 | hs b g off len a cap' hb hg hle' h =>
   refine .hs b g off len a cap' (Nat.lt_of_lt_of_le hb E.size) ?_ hle' ?_
   ·intro g0 z xs hx
    obtain ⟨g1,z1,xs1,h1,hle,_⟩:=E.fW b hb g0 z xs hx
    grind
   ·intro z xs hx
    obtain ⟨g1,z1,xs1,h1,hle,heq⟩:=E.fW b hb g z xs hx
    grind
 | hm b r hb h =>
   refine .hm b r (Nat.lt_of_lt_of_le hb E.size) ?_
   intro es c hx
   obtain ⟨es1,c1,h1,hp⟩:=E.map b hb es c hx
   grind
 | la d o B hd=>exact .la d o B (E.aq d B hd)
 | gL g a c a' c' ha hc hna hnc hra hrc iha ihc=>exact .gL g a c a' c' ha hc hna hnc iha ihc
 | agg l vs hl hn h1 hr ih=>exact .agg l vs hl hn h1 ih
 | fz l vs hl hr ih=>exact .fz l vs hl ih
theorem Ext.refl (G:Ga):Ext G G where
 T:=fun _ _ h=>h
 fi:=fun _ _ _=>rfl
 size:=Nat.le_refl _
 fW:=fun _ _ g z xs h=>⟨g,z,xs,h,Nat.le_refl _,fun _=>⟨rfl,fun _ h=>h⟩⟩
 map:=fun _ _ es c h=>⟨es,c,h,fun _ h=>h⟩
 aq:=fun _ _ h=>h
theorem Ext.trans {A B C:Ga} (h:Ext A B) (k:Ext B C):Ext A C where
 T:=fun s b hb=>k.T s b (h.T s b hb)
 fi:=fun s b hb=>(k.fi s b (h.T s b hb)).trans (h.fi s b hb)
 size:=Nat.le_trans h.size k.size
 fW:=by
  intro b hb g z xs hx
  obtain ⟨g1,z1,xs1,h1,hle,he⟩:=k.fW b (Nat.lt_of_lt_of_le hb h.size) g z xs hx
  obtain ⟨g2,z2,xs2,h2,hle2,he2⟩:=h.fW b hb g1 z1 xs1 h1
  grind
 map:=by
  intro b hb es c hx
  obtain ⟨es1,c1,h1,p1⟩:=k.map b (Nat.lt_of_lt_of_le hb h.size) es c hx
  obtain ⟨es2,c2,h2,p2⟩:=h.map b hb es1 c1 h1
  grind
 aq:=fun d B hd=>k.aq d B (h.aq d B hd)
theorem PR.kh {w:World} {T:Bool→Nat→Prop} {m:Bool} {v:AV} {u:Value} (h:PR w T m v u):v.kh=true:=by cases h<;>rfl
theorem PR.uo {w:World} {T:Bool→Nat→Prop} {m:Bool} {l:List AV} {vs:Array Value} (hl:l.length=vs.size) (h:∀ (i:Nat) (x:AV) (y:Value),l[i]?=some x→vs[i]?=some y→PR w T m x y):∀ x∈l,x.kh=true:=by
 intro x hx
 obtain ⟨i,hi⟩:=List.getElem?_of_mem hx
 have hlt:i<vs.size:=by grind
 exact (h i x vs[i] hi (by simp)).kh
structure VC (G:Ga) (x:AV) (v:Value):Prop where
 vr:VR G x v
 na:x.kh=true
theorem VC.mono {G G':Ga} (E:Ext G G') {x:AV} {v:Value} (h:VC G x v):VC G' x v:=⟨h.vr.mono E,h.na⟩
def lI (G:Ga) (l:Loc) (z:Nat) (xs:List (List AV)):Prop :=
 ∃ c e,G.w.heap[l.B]?=some (.cells c e (0,0))∧xs.length≤l.cap∧l.base+l.cap*z≤c.size∧(∀ (i:Nat) (cs:List AV),xs[i]?=some cs→cs.length=z) ∧
   (∀ (i:Nat) (cs:List AV) (j:Nat) (x:AV),xs[i]?=some cs→cs[j]?=some x→∃ v,c[l.base+i*z+j]?=some v∧v.oneCell'=true∧VC G x v)∧(∀ (i:Nat) (v:Value),c[i]?=some v→v.oneCell'=true)
def nR (es:List (AV×AV×Nat)) (clk:Nat):Prop:=∀ p∈es,p.2.2<clk
def oA (G:Ga) (r:Nat) (es:List (AV×AV×Nat)) (clk:Nat):Prop :=
 ∃ ents,G.w.heap[r]?=some (.map ents clk)∧es.length=ents.size∧nR es clk ∧
   ∀ (i:Nat) (p:AV×AV×Nat) (e:MapEntry),es[i]?=some p→ents[i]?=some e→p.1.nk=true∧PR G.w G.T false p.1 e.key∧VC G p.2.1 e.val∧p.2.2=e.born
def rK (G:Ga) (B:Nat) (cs:List AV):Prop :=
 ∃ c e,G.w.heap[B]?=some (.cells c e (0,0))∧c.size=cs.length∧(∀ (i:Nat) (x:AV) (v:Value),cs[i]?=some x→c[i]?=some v→VC G x v)∧(∀ (i:Nat) (v:Value),c[i]?=some v→v.oneCell'=true)
structure WR (G:Ga):Prop where
 fW:∀ b l g z xs,G.pi b=some l→G.h.get b=some (.fW g z xs)→lI G l z xs
 map:∀ b l es c,G.pi b=some l→G.h.get b=some (.map es c)→oA G l.B es c
 loc:∀ d B cs,G.L d=some B→gR G.h.aq d=some cs→rK G B cs
 iV:∀ b l,G.pi b=some l→l.B<G.w.heap.size∧b<G.h.size
 kC:∀ b b' l l',G.pi b=some l→G.pi b'=some l'→l.B=l'.B→b=b'
 nX:∀ s b l,G.pi b=some l→¬ G.T s l.B
 mv:∀ d d' B,G.L d=some B→G.L d'=some B→d=d'
 LT:∀ s d B,G.L d=some B→¬ G.T s B
 mY:∀ d B b l,G.L d=some B→G.pi b=some l→B≠l.B
 j4:∀ d B,G.L d=some B→B<G.w.heap.size∧(gR G.h.aq d).isSome=true
 lu:∀ s B,G.T s B→B<G.w.heap.size
 lo:G.h.lo≤G.h.size
 lt:∀ b o,G.h.get b=some o→b<G.h.size
theorem PR.uz {G:Ga} {m:Bool} {v:AV} {u:Value} (h:PR G.w G.T m v u):VR G v u:=by
 have h':=h.BJ
 clear h
 generalize hm:true=m' at h'
 induction h' with
 | undef m v h=>exact .undef v
 | bool m b=>exact .gF rfl (.bool _ b)
 | int m k n=>exact .gF rfl (.int _ k n)
 | str m s b h=>exact .gF rfl (.str _ s b h)
 | ia m=>exact .gF rfl (.ia _)
 | ip m cells off sn B base c e fr f hm' hB hB' hc h1 hr ih=>exact .gF rfl (.ip _ cells off sn B base c e fr f (fun _=>rfl) hB hB' hc h1 hr)
 | slnil m=>exact .gF rfl (.slnil _)
 | kG m cap a c hm' h=>exact .gF rfl (.kG _ cap a c (fun _=>rfl) h)
 | sl m xs cap B base c e fr cap' esz f hm' hB hB' hcap hle hz hc h1 hr ih=>exact .gF rfl (.sl _ xs cap B base c e fr cap' esz f (fun _=>rfl) hB hB' hcap hle hz hc h1 hr)
 | g8 m=>exact .gF rfl (.g8 _)
 | fm m es sn r ents clk hm' hB hB' hl hy hko hk hv ihk ihv=>exact .gF rfl (.fm _ es sn r ents clk (fun _=>rfl) hB hB' hl hy hko hk hv)
 | jk m=>exact .gF rfl (.jk _)
 | gL m g a c a' c' ha hc hra hrc iha ihc=>exact .gL g a c a' c' ha hc (PR.uo ha hra) (PR.uo hc hrc) (fun i x y hx hy=>iha i x y hx hy hm) (fun i x y hx hy=>ihc i x y hx hy hm)
 | agg m l vs hl h1 hr ih=>exact .agg l vs hl (PR.uo hl hr) h1 (fun i x y hx hy=>ih i x y hx hy hm)
theorem PR.uB {G:Ga} {m:Bool} {v:AV} {u:Value} (h:PR G.w G.T m v u):VC G v u:=⟨h.uz,h.kh⟩
end Go.Sx
namespace Go.Sx
open Go
def DE:TypeDesc→Bool
 | .struct _ | .array _ _=>true
 | _=>false
def Pt (P:Program) (d:TypeDesc):TK→Prop
 | .bool=>d=.bool
 | .int k=>d=.int k
 | .str=>d=.string
 | .ptr=>∃ e,d=.pointer e
 | .slice e=>d=.slice e
 | .array n e=>d=.array n e
 | .map k e=>d=.map k e
 | .struct fs=>∃ F,d=.struct F∧fs=F.toList.map (fun f=>(f.offset,f.type))∧∀ f∈F.toList,∃ i,P.info? f.type=some i∧i.size≠0
 | .func=>∃ a b c,d=.func a b c
 | .other=>True
theorem GK {t:TK} {a:AV} (h:oM t a=true):qV a=true:=by
 cases t<;>cases a<;>simp_all [oM,qV]
theorem tZ:∀ {ts:List TK} {l:List AV},fitAll ts l=true→∀ x∈l,qV x=true
 | [],[],_,x,hx=>by cases hx
 | t::ts,a::l,h,x,hx=>by
   simp only [fitAll,Bool.and_eq_true] at h
   rcases List.mem_cons.1 hx with rfl | hx
   ·exact GK h.1
   ·exact tZ h.2 x hx
 | [],_::_,h,_,_=>by cases h
 | _::_,[],h,_,_=>by cases h
structure kD (P:Program) (t:Nat) (ti:TI):Prop where
 info:∃ i z,P.info? t=some i∧i.size=ti.size∧i.bytes=ti.bytes∧i.zero=some z∧ti.zero=z.cells.toList.map zN∧z.cells.size=ti.size ∧
  (∀ c∈z.cells.toList,c.oneCell'=true)∧(ti.agg=true→∃ cs,z=.agg cs)∧(ti.agg=false→z.oneCell'=true)
 desc:∃ d,P.underlying t=some d∧DE d=ti.agg∧Pt P d ti.kind
 bytes:ti.bytes≤1048576
 guard:ti.flat=true→P.eqGuardType P.depth t=false
 flat:ti.flat=true→ti.agg=true→∀ (l m:List AV) (xs ys:Array Value) (b:Bool) (w:World) (T:Bool→Nat→Prop),fitAll ti.sc l=true→l.length=ti.size→m.length=ti.size →
  PR w T true (.agg l) (.agg xs)→PR w T true (.agg m) (.agg ys)→jx l m=some b→(Op.equalIn 10000 t (.agg xs) (.agg ys)).run P w=.ok b w
 key:ti.flat=true→ti.agg=true→∀ (e:Bool) (xs:Array Value) (w:World),xs.size=ti.size→(Instr.checkKey e 10000 t (.agg xs)).run P w=.ok () w
structure g5 (P:Program) (C:gP):Prop where
 ty:∀ t ti,C.T t=some ti→kD P t ti
section runs
variable {P:Program} {t:Nat} {ti:TI}
theorem kD.isAgg (h:kD P t ti) (w:World):(isAgg t).run P w=.ok ti.agg w:=by
 obtain ⟨d,hd,ha,_⟩:=h.desc
 unfold Go.isAgg
 rw [Sem.run_bind,run_underlying hd w]
 rw [← ha]
 cases d<;>rfl
theorem kD.sizeOf (h:kD P t ti) (w:World):(sizeOf t).run P w=.ok ti.size w:=by
 obtain ⟨i,z,hi,hs,_⟩:=h.info
 simp [Go.sizeOf,typeInfo,hi,hs]
theorem kD.F8 (h:kD P t ti):(P.info? t).map (·.size)=some ti.size:=by
 obtain ⟨i,z,hi,hs,_⟩:=h.info
 grind
def vn (R:AV→Value→Prop) (cs:List AV) (c:Array Value) (base:Nat):Prop :=
 ∀ i x,cs[i]?=some x→∃ u,c[base+i]?=some u∧u.oneCell'=true∧R x u
theorem mz (B o n:Nat):(⟨B,o,none⟩:Addr).add n=⟨B,o+n,none⟩:=by
 grind [Addr.add]
theorem yx (w:World) (B base:Nat) (c:Array Value) (e:TypeId) (fr:Nat×Nat) (hB:w.heap[B]?=some (.cells c e fr)) (n:Nat) (hn:base+n≤c.size) :
  (loadCells ⟨B,base,none⟩ n).run P w=.ok (c.extract base (base+n)) w:=by
 have h:=run_loadCells_list (P:=P) w ⟨B,base,none⟩ (c.extract base (base+n)).toList (fun j v hv=>by
  rw [mz,cell_of_row w B (base+j) c e fr hB]
  grind)
 have hl:(c.extract base (base+n)).toList.length=n:=by grind
 rw [hl,Array.toArray_toList] at h
 exact h
theorem vN {cs:List AV} {o:Nat} {l:List AV} (ha:ti.agg=true) (hp:part ti cs o=some (.agg l)):l=(cs.drop o).take ti.size∧l.length=ti.size∧(ti.size=0∨o+ti.size≤cs.length):=by
 simp only [part,ha,mb,wN] at hp
 split at hp
 ·rename_i hb
  simp only [Option.some.injEq,AV.agg.injEq] at hp
  subst hp
  simp only [Nat.beq_eq] at hb
  grind
 grind
theorem Bn (hT:kD P t ti) {w:World} {B base o:Nat} {c:Array Value} {e:TypeId} {fr:Nat×Nat} {R:AV→Value→Prop} {cs:List AV} {v:AV}
  (hB:w.heap[B]?=some (.cells c e fr)) (hU:vn R cs c base) (hp:part ti cs o=some v) :
  ∃ u,(loadVar t ⟨B,base+o,none⟩).run P w=.ok u w ∧
    ((∃ l vs,ti.agg=true∧v=.agg l∧u=.agg vs∧l.length=ti.size∧l.length=vs.size∧(∀ (i:Nat) (y:Value),vs[i]?=some y→y.oneCell'=true)∧∀ (i:Nat) (x:AV) (y:Value),l[i]?=some x→vs[i]?=some y→R x y)
      ∨ (ti.agg=false∧u.oneCell'=true∧R v u)):=by
 cases ha:ti.agg with
 | false =>
   simp only [part,ha] at hp
   obtain ⟨u,hu,h1,hr⟩:=hU o v hp
   refine ⟨u,?_,.inr ⟨rfl,h1,hr⟩⟩
   unfold loadVar
   rw [Sem.run_bind,hT.isAgg,ha]
   simp [cell_of_row w B (base+o) c e fr hB,hu]
 | true =>
   have hv:∃ l,v=.agg l:=by
    grind [part,mb,wN]
   obtain ⟨l,rfl⟩:=hv
   obtain ⟨hl,hlen,hle⟩:=vN ha hp
   have hbase:ti.size=0∨base+o+ti.size≤c.size:=by
    rcases hle with h0 | hle
    ·omega
    ·by_cases hz:ti.size=0
     ·omega
     ·right
      have hi:o+ti.size - 1<cs.length:=by omega
      obtain ⟨u,hu,_⟩:=hU (o+ti.size - 1) cs[o+ti.size - 1] (by simp [hi])
      grind
   by_cases hz:ti.size=0
   ·have hl0:l=[]:=by grind
    subst hl0
    refine ⟨.agg #[],?_,.inl ⟨[],#[],rfl,rfl,rfl,by simp [hz],rfl,by simp,by simp⟩⟩
    unfold loadVar
    rw [Sem.run_bind,hT.isAgg,ha]
    simp [hT.sizeOf,hz,loadCells,loadCellsFrom]
   ·have hb:=hbase.resolve_left hz
    refine ⟨.agg (c.extract (base+o) (base+o+ti.size)),?_,.inl ⟨l,_,rfl,rfl,rfl,hlen,?_,?_,?_⟩⟩
    ·unfold loadVar
     rw [Sem.run_bind,hT.isAgg,ha]
     simp [hT.sizeOf,yx w B (base+o) c e fr hB ti.size hb]
    ·grind
    ·intro i y hy
     rw [Array.getElem?_extract] at hy
     split at hy
     ·rename_i hi
      have hi':o+i<cs.length:=by omega
      obtain ⟨u,hu,h1,_⟩:=hU (o+i) cs[o+i] (by simp)
      grind
     grind
    ·intro i x y hx hy
     rw [Array.getElem?_extract] at hy
     split at hy
     ·rename_i hi
      rw [hl,List.getElem?_take,List.getElem?_drop] at hx
      split at hx
      ·obtain ⟨u,hu,h1,hr⟩:=hU (o+i) x hx
       grind
      omega
     grind
end runs
end Go.Sx
namespace Go.Sx
open Go
section
variable {P:Program} {C:gP} {G:Ga} {t:Nat} {ti:TI}
theorem VR.qU {l:List AV} {u:Value} (h:VR G (.agg l) u):∃ vs,u=.agg vs∧l.length=vs.size∧(∀ (i:Nat) (y:Value),vs[i]?=some y→y.oneCell'=true) ∧
  ∀ (i:Nat) (x:AV) (y:Value),l[i]?=some x→vs[i]?=some y→VC G x y:=by
 cases h with
 | gF hp _=>simp [AV.ir] at hp
 | agg l vs hl hn h1 hr=>exact ⟨vs,rfl,hl,h1,fun i x y hx hy=>⟨hr i x y hx hy,hn x (List.mem_of_getElem? hx)⟩⟩
theorem VR.of_int {k:IntKind} {n:Int} {u:Value} (h:VR G (.int k n) u):u=.int k n:=by
 cases h with
 | gF _ h=>cases h; rfl
theorem VR.of_bool {b:Bool} {u:Value} (h:VR G (.bool b) u):u=.bool b:=by
 cases h with
 | gF _ h=>cases h; rfl
theorem VR.pq {s:List UInt8} {u:Value} (h:VR G (.str s) u):∃ b,u=.string b∧b.data.toList=s:=by
 cases h with
 | gF _ h=>cases h<;>grind
theorem VR.int (k:IntKind) (n:Int):VR G (.int k n) (.int k n):=.gF rfl (.int _ k n)
theorem VR.bool (b:Bool):VR G (.bool b) (.bool b):=.gF rfl (.bool _ b)
theorem VR.str {s:List UInt8} {b:ByteArray} (h:b.data.toList=s):VR G (.str s) (.string b):=.gF rfl (.str _ s b h)
theorem int?_eq {v:AV} {k:IntKind} {n:Int} (h:v.int?=some (k,n)):v=.int k n:=by
 cases v<;>simp [AV.int?] at h
 grind
theorem bool?_eq {v:AV} {b:Bool} (h:v.bool?=some b):v=.bool b:=by
 cases v<;>simp [AV.bool?] at h
 grind
theorem str?_eq {v:AV} {b:List UInt8} (h:v.str?=some b):v=.str b:=by
 cases v<;>simp [AV.str?] at h
 grind
theorem agg?_eq {v:AV} {b:List AV} (h:v.agg?=some b):v=.agg b:=by
 cases v<;>simp [AV.agg?] at h
 grind
theorem s7 {v:AV} {n:Nat} (h:mC v=some n):∃ k,v=.int k (n:Int):=by
 unfold mC at h
 split at h
 ·rename_i k m hm
  have:=int?_eq hm
  subst this
  cases m<;>grind [OZ]
 ·cases h
theorem VC.uo {l:List AV} {vs:Array Value} (hl:l.length=vs.size) (h:∀ (i:Nat) (x:AV) (y:Value),l[i]?=some x→vs[i]?=some y→VC G x y):∀ x∈l,x.kh=true:=by
 intro x hx
 obtain ⟨i,hi⟩:=List.getElem?_of_mem hx
 have hlt:i<vs.size:=by grind
 exact (h i x vs[i] hi (by simp)).na
theorem VR.yW {l:List AV} {vs:Array Value} {R:AV→Value→Prop} (hR:∀ x y,R x y→VC G x y) (hl:l.length=vs.size)
  (h1:∀ (i:Nat) (y:Value),vs[i]?=some y→y.oneCell'=true) (hr:∀ (i:Nat) (x:AV) (y:Value),l[i]?=some x→vs[i]?=some y→R x y):VR G (.agg l) (.agg vs) :=
 .agg l vs hl (VC.uo hl fun i x y hx hy=>hR x y (hr i x y hx hy)) h1 fun i x y hx hy=>(hR x y (hr i x y hx hy)).vr
def Shaped (ti:TI) (v:AV) (u:Value):Prop :=
 (ti.agg=true∧∃ l vs,v=.agg l∧u=.agg vs∧l.length=ti.size∧vs.size=ti.size)∨(ti.agg=false∧u.oneCell'=true)
theorem tF {R:AV→Value→Prop} (hR:∀ x y,R x y→VC G x y) (hT:kD P t ti) {B base o:Nat} {c:Array Value} {e:TypeId} {fr:Nat×Nat} {cs:List AV} {v:AV}
  (hB:G.w.heap[B]?=some (.cells c e fr)) (hU:vn R cs c base) (hp:part ti cs o=some v) :
  ∃ u,(loadVar t ⟨B,base+o,none⟩).run P G.w=.ok u G.w∧VR G v u∧Shaped ti v u:=by
 obtain ⟨u,hu,h | h⟩:=Bn hT hB hU hp
 ·obtain ⟨l,vs,ha,rfl,rfl,hlen,hl,h1,hr⟩:=h
  exact ⟨_,hu,VR.yW hR hl h1 hr,.inl ⟨ha,l,vs,rfl,rfl,hlen,by omega⟩⟩
 ·obtain ⟨ha,h1,hr⟩:=h
  exact ⟨u,hu,(hR _ _ hr).vr,.inr ⟨ha,h1⟩⟩
theorem xc (hW:WR G) (hT:kD P t ti) {av v:AV} {a:Value} (hv:VR G av a) (h:pc av G.h ti=some v) :
  ∃ u,(Instr.loadAt t a).run P G.w=.ok u G.w∧VR G v u∧Shaped ti v u:=by
 unfold pc at h
 split at h
 ·
  rename_i d o
  cases hv with
  | gF hp _=>simp [AV.ir] at hp
  | la _ _ B hd =>
    unfold Hr at h
    split at h
    ·rename_i cs hcs
     obtain ⟨c,e,hB,hs,hr,h1⟩:=hW.loc d B cs hd hcs
     have hU:vn (VC G) cs c 0:=by
      intro i x hx
      have hi:i<c.size:=by grind
      refine ⟨c[i],by simp [hi],h1 i c[i] (by simp [hi]),hr i x c[i] hx (by simp [hi])⟩
     obtain ⟨u,hu,hvu,hs⟩:=tF (P:=P) (fun _ _ h=>h) hT hB hU h
     grind [Instr.loadAt,Instr.sureAddr]
    ·cases h
 ·
  rename_i cs o s
  cases hv with
  | gF _ h' =>
    cases h' with
    | ip _ _ _ _ B base c e fr f hm hB hI hc h1 hr =>
      have hU:vn (fun x y=>PR G.w G.T s x y) cs c base:=by
       intro i x hx
       grind
      obtain ⟨u,hu,hvu,hs⟩:=tF (P:=P) (fun _ _ h=>PR.uB h) hT hB hU h
      grind [Instr.loadAt,Instr.sureAddr]
 ·
  rename_i b g i o
  cases hv with
  | gF hp _=>simp [AV.ir] at hp
  | ptr _ _ _ _ a hb hg hl =>
    unfold w6 at h
    split at h
    ·rename_i g' z xs hget
     split at h
     ·rename_i hgg
      have hgg:=Nat.eq_of_beq_eq_true hgg
      subst hgg
      split at h
      ·rename_i cs hcs
       obtain ⟨l,hpi,ha⟩:=hl z xs hget
       subst ha
       obtain ⟨c,e,hB,hcap,hsz,hz,hr,h1⟩:=hW.fW b l g z xs hpi hget
       have hU:vn (VC G) cs c (l.base+i*z):=by
        intro j x hx
        grind
       obtain ⟨u,hu,hvu,hs⟩:=tF (P:=P) (fun _ _ h=>h) hT hB hU h
       grind [Instr.loadAt,Instr.sureAddr]
      ·cases h
     ·cases h
    ·cases h
 ·cases h
theorem wO {av v:AV} {a:Value} {k:Nat} (hv:VR G av a) (h:wg av k=some v):∃ x,a=.pointer (some x)∧VR G v (.pointer (some (x.add k))):=by
 unfold wg at h
 split at h
 ·rename_i d o
  simp only [Rg,kN,Option.some.injEq] at h
  subst h
  cases hv with
  | gF hp _=>simp [AV.ir] at hp
  | la _ _ B hd=>exact ⟨_,rfl,by rw [mz]; exact .la d (o+k) B hd⟩
 ·rename_i cs o s
  simp only [IT,kN,Option.some.injEq] at h
  subst h
  cases hv with
  | gF _ h' =>
    cases h' with
    | ip _ _ _ _ B base c e fr f hm hB hI hc h1 hr =>
      refine ⟨_,rfl,?_⟩
      rw [mz,Nat.add_assoc]
      exact .gF rfl (.ip _ cs (o+k) s B base c e fr f hm hB hI hc h1 hr)
 ·rename_i b g i o
  simp only [xH,kN,Option.some.injEq] at h
  subst h
  cases hv with
  | gF hp _=>simp [AV.ir] at hp
  | ptr _ _ _ _ a hb hg hl =>
    refine ⟨_,rfl,.ptr b g i (o+k) _ hb hg ?_⟩
    grind [mz]
 ·cases h
theorem xy (hC:g5 P C) {av:AV} {a:Value} {f:Nat} {r:AV×ah} (hv:VR G av a) (h:nq C G.h t av f=some r) :
  r.2=G.h∧∃ u,(Instr.fieldAt t a f).run P G.w=.ok u G.w∧VR G r.1 u∧u.oneCell'=true:=by
 unfold nq at h
 split at h
 ·cases h
 ·rename_i ti hti
  split at h
  ·rename_i fs hk
   split at h
   ·rename_i off ft hf
    unfold iw at h
    split at h
    ·rename_i v hv'
     simp only [Option.some.injEq] at h
     subst h
     obtain ⟨d,hd,ha,hko⟩:=(hC.ty t ti hti).desc
     rw [hk] at hko
     obtain ⟨F,rfl,hfs,hsz⟩:=hko
     subst hfs
     simp only [List.getElem?_map,Array.getElem?_toList,Option.map_eq_some_iff] at hf
     obtain ⟨fl,hfl,he⟩:=hf
     simp only [Prod.mk.injEq] at he
     obtain ⟨rfl,rfl⟩:=he
     obtain ⟨x,rfl,hx⟩:=wO hv hv'
     refine ⟨rfl,.pointer (some (x.add fl.offset)),?_,hx,rfl⟩
     obtain ⟨i,hi,hne⟩:=hsz fl (by
      grind)
     simp_all [Instr.fieldAt,run_underlying,Instr.sureAddr,fieldPlace,Go.sizeOf,typeInfo]
    ·cases h
   ·cases h
  ·cases h
end
end Go.Sx
namespace Go.Sx
open Go
def kb (P:Program) (G:Ga) (s:Sem Value) (r:AV×ah):Prop :=
 r.2=G.h∧∃ u,s.run P G.w=.ok u G.w∧VR G r.1 u
section
variable {P:Program} {C:gP} {G:Ga} {t:Nat} {ti:TI}
theorem jN {h:ah} {o:Option AV} {r:AV×ah} (e:iw h o=some r):∃ v,o=some v∧r=(v,h):=by
 unfold iw at e
 grind
theorem CJ {c a b:AV} {c' a' b':Value} {r:AV×ah} (hc:VR G c c') (ha:VR G a a') (hb:VR G b b') (h:zc G.h c a b=some r) :
  kb P G (do pure (if ← asBool c' then a' else b')) r:=by
 unfold zc at h
 split at h
 ·rename_i hb'
  cases h
  have:=bool?_eq hb'; subst this
  have:=hc.of_bool; subst this
  exact ⟨rfl,a',by rfl,ha⟩
 ·rename_i hb'
  cases h
  have:=bool?_eq hb'; subst this
  have:=hc.of_bool; subst this
  exact ⟨rfl,b',by rfl,hb⟩
 ·cases h
theorem wR {l:List AV} {vs:Array Value} {o:Nat} {v:AV} (hT:kD P t ti) (hl:l.length=vs.size) (h1:∀ (i:Nat) (y:Value),vs[i]?=some y→y.oneCell'=true)
  (hr:∀ (i:Nat) (x:AV) (y:Value),l[i]?=some x→vs[i]?=some y→VC G x y) (hp:Sx.part ti l o=some v) :
  ∃ u,(Go.part t vs o).run P G.w=.ok u G.w∧VR G v u:=by
 have hU:vn (VC G) l vs 0:=by
  intro i x hx
  have hi:i<vs.size:=by grind
  exact ⟨vs[i],by simp [hi],h1 i _ (by simp [hi]),hr i x _ hx (by simp [hi])⟩
 cases ha:ti.agg with
 | false =>
   simp only [Sx.part,ha] at hp
   obtain ⟨u,hu,_,hx⟩:=hU o v hp
   refine ⟨u,?_,hx.vr⟩
   unfold Go.part
   rw [Sem.run_bind,hT.isAgg,ha]
   simp_all
 | true =>
   have hv:∃ m,v=.agg m:=by
    grind [Sx.part,mb,wN]
   obtain ⟨m,rfl⟩:=hv
   obtain ⟨hm,hlen,hle⟩:=vN ha hp
   refine ⟨.agg (vs.extract o (o+ti.size)),?_,?_⟩
   ·unfold Go.part
    rw [Sem.run_bind,hT.isAgg,ha]
    simp [hT.sizeOf]
   ·refine VR.yW (R:=VC G) (fun _ _ h=>h) ?_ ?_ ?_
    ·grind
    ·intro i y hy
     rw [Array.getElem?_extract] at hy
     grind
    grind
theorem Bm (hC:g5 P C) {x:AV} {x':Value} {f:Nat} {r:AV×ah} (hx:VR G x x') (h:xE C G.h t x f=some r):kb P G (Instr.field t x' f) r:=by
 unfold xE at h
 split at h
 ·cases h
 ·rename_i ti hti
  split at h
  ·rename_i fs hk
   split at h
   ·rename_i off ft hf
    split at h
    ·rename_i cs hcs
     split at h
     ·rename_i tf htf
      obtain ⟨v,hv,rfl⟩:=jN h
      have:=agg?_eq hcs; subst this
      obtain ⟨vs,rfl,hl,h1,hr⟩:=hx.qU
      obtain ⟨d,hd,ha,hko⟩:=(hC.ty t ti hti).desc
      rw [hk] at hko
      obtain ⟨F,rfl,hfs,hsz⟩:=hko
      subst hfs
      simp only [List.getElem?_map,Array.getElem?_toList,Option.map_eq_some_iff] at hf
      obtain ⟨fl,hfl,he⟩:=hf
      simp only [Prod.mk.injEq] at he
      obtain ⟨rfl,rfl⟩:=he
      obtain ⟨u,hu,hvu⟩:=wR (hC.ty _ tf htf) hl h1 hr hv
      refine ⟨rfl,u,?_,hvu⟩
      simp_all [Instr.field,run_underlying,Go.asAgg]
     ·cases h
    ·cases h
   ·cases h
  ·cases h
theorem yL {x:AV} {x':Value} {i:Nat} {r:AV×ah} (hx:VR G x x') (h:tv G.h x i=some r):kb P G (Instr.extract x' i) r:=by
 unfold tv at h
 split at h
 ·rename_i vs
  obtain ⟨v,hv,rfl⟩:=jN h
  cases hx with
  | gF hp _=>simp [AV.ir] at hp
  | fz _ vs' hl hr =>
    have hi:i<vs'.size:=by grind
    exact ⟨rfl,vs'[i],by simp [Instr.extract,hi],hr i v _ hv (by simp [hi])⟩
 ·cases h
theorem zv {x v:AV} {x':Value} (hx:VR G x x') (h:wU x=some v) :
  VR G v x'∧((∃ a,x'=.pointer (some a))∨∃ g a c,x'=.func (.func g) a c):=by
 unfold wU at h
 split at h
 ·cases h
  cases hx with
  | gF hp _=>simp [AV.ir] at hp
  | ptr _ _ _ _ a hb hg hl=>exact ⟨.ptr _ _ _ _ a hb hg hl,.inl ⟨_,rfl⟩⟩
 ·cases h
  refine ⟨hx,.inl ?_⟩
  cases hx with
  | gF _ h'=>cases h'<;>grind
 ·cases h
  refine ⟨hx,.inl ?_⟩
  cases hx<;>grind [AV.ir]
 ·cases h
  refine ⟨hx,.inr ?_⟩
  cases hx<;>grind [AV.ir]
 ·cases h
theorem wB (b:Bool):pg b=some (.bool !b):=by cases b<;>rfl
theorem wq {op:BinOp} {k:IntKind} {x y:Int} (xT:TypeId) (h:op=.add∨op=.sub∨op=.mul) :
  (Go.binOp op xT (.int k x) (.int k y)).run P G.w=(Op.intArith op k x y).run P G.w:=by
 grind [Go.binOp]
theorem FE {op:BinOp} {k:IntKind} {x y:Int} (xT:TypeId) (h:op=.quo∨op=.rem) :
  (Go.binOp op xT (.int k x) (.int k y)).run P G.w=(Op.intDiv op k x y).run P G.w:=by
 grind [Go.binOp]
theorem u0 {op:BinOp} {k:IntKind} {x y:Int} (xT:TypeId) (h:op=.and∨op=.or∨op=.xor∨op=.andNot) :
  (Go.binOp op xT (.int k x) (.int k y)).run P G.w=(Op.intBits op k x y).run P G.w:=by
 grind [Go.binOp]
theorem sM {op:BinOp} {k:IntKind} {x y:Int} (xT:TypeId) (h:op=.eql∨op=.neq∨op=.lss∨op=.leq∨op=.gtr∨op=.geq) :
  (Go.binOp op xT (.int k x) (.int k y)).run P G.w=(Op.intCmp op x y).run P G.w:=by
 grind [Go.binOp]
theorem zs {op:BinOp} {k:IntKind} {x y:Int} {v:AV} (h:jF op k x y=some v) (hs:qt op=false) (xT:TypeId) :
  ∃ u,(Go.binOp op xT (.int k x) (.int k y)).run P G.w=.ok u G.w∧VR G v u:=by
 cases op<;>simp only [qt,Bool.true_eq_false] at hs<;>simp only [jF,Ee,CA,Jg,La,KE,Ei,CC,Dt,Ch,Da,DM,Ko,PX,y4,AQ,Nw,qi,s6,lH,v7,wB,nW,xM,xR,m3,pE,reduceCtorEq] at h
 case add=>cases h; rw [wq xT (by simp)]; exact ⟨_,rfl,VR.int _ _⟩
 case sub=>cases h; rw [wq xT (by simp)]; exact ⟨_,rfl,by grind [VR.int]⟩
 case mul=>cases h; rw [wq xT (by simp)]; exact ⟨_,rfl,VR.int _ _⟩
 case quo =>
  split at h
  ·cases h
  ·rename_i hy
   cases h; simp_all [FE,Op.intDiv,VR.int]
 case rem =>
  split at h
  ·cases h
  ·rename_i hy
   cases h; simp_all [FE,Op.intDiv,VR.int]
 case and=>cases h; rw [u0 xT (by simp)]; exact ⟨_,rfl,VR.int _ _⟩
 case or=>cases h; rw [u0 xT (by simp)]; exact ⟨_,rfl,VR.int _ _⟩
 case xor=>cases h; rw [u0 xT (by simp)]; exact ⟨_,rfl,VR.int _ _⟩
 case andNot=>cases h; rw [u0 xT (by simp)]; exact ⟨_,rfl,VR.int _ _⟩
 case eql=>cases h; rw [sM xT (by simp)]; exact ⟨_,rfl,VR.bool _⟩
 case neq=>cases h; rw [sM xT (by simp)]; exact ⟨_,rfl,VR.bool _⟩
 case lss =>
  cases h; rw [sM xT (by simp)]
  refine ⟨_,rfl,?_⟩
  have e:(!decide (y≤x))=decide (x<y):=by grind
  rw [e]; exact VR.bool _
 case leq=>cases h; rw [sM xT (by simp)]; exact ⟨_,rfl,VR.bool _⟩
 case gtr =>
  cases h; rw [sM xT (by simp)]
  refine ⟨_,rfl,?_⟩
  have e:(!decide (x≤y))=decide (x > y):=by grind
  rw [e]; exact VR.bool _
 case geq=>cases h; rw [sM xT (by simp)]; exact ⟨_,rfl,VR.bool _⟩
theorem LQ (k k':IntKind) (x y:Int) (xT:TypeId) (w:World) (hy:¬ y<0) :
  (Go.binOp .shl xT (.int k x) (.int k' y)).run P w=.ok (.int k (k.wrap (x*2 ^ (min y.toNat k.bits)))) w:=by
 show (Op.shift .shl k x k' y).run P w = _
 unfold Op.shift
 rw [if_neg hy]
 rfl
theorem MR (k k':IntKind) (x y:Int) (xT:TypeId) (w:World) (hy:¬ y<0) :
  (Go.binOp .shr xT (.int k x) (.int k' y)).run P w=.ok (.int k (x.fdiv (2 ^ (min y.toNat k.bits)))) w:=by
 show (Op.shift .shr k x k' y).run P w = _
 unfold Op.shift
 rw [if_neg hy]
 rfl
theorem A1 {op:BinOp} {k k':IntKind} {x y:Int} {v:AV} (h:jF op k x y=some v) (hs:qt op=true) (xT:TypeId) :
  ∃ u,(Go.binOp op xT (.int k x) (.int k' y)).run P G.w=.ok u G.w∧VR G v u:=by
 cases op<;>simp only [qt,Bool.false_eq_true] at hs
 ·have h:(if y<0 then none else fI (oj k (x*2 ^ (min y.toNat k.bits))) (lH k))=some v:=h
  rw [qi,nW] at h
  split at h
  ·cases h
  ·rename_i hy
   cases h
   simp_all [LQ,VR.int]
 ·have h:(if y<0 then none else fI (x.fdiv (2 ^ (min y.toNat k.bits))) (lH k))=some v:=h
  rw [qi] at h
  split at h
  ·cases h
  ·rename_i hy
   cases h
   simp_all [MR,VR.int]
theorem uN:∀ (x y:List UInt8),bytesLess x y=Op.bytesLess x y
 | _,[]=>by simp [bytesLess,Op.bytesLess]
 | [],_::_=>by rfl
 | a::x,b::y=>by simp [bytesLess,Op.bytesLess,uN x y]
theorem qK {b:ByteArray} {s:List UInt8} (h:b.data.toList=s):b.size=s.length:=by
 subst h; rfl
theorem toList_data (b:ByteArray):b.toList=b.data.toList:=ByteArray.toList_eq b
theorem zh {op:BinOp} {x y:List UInt8} {bx by':ByteArray} {v:AV} (hx:bx.data.toList=x) (hy:by'.data.toList=y)
  (h:xe op x y=some v) (xT:TypeId):∃ u,(Go.binOp op xT (.string bx) (.string by')).run P G.w=.ok u G.w∧VR G v u:=by
 have hb:∀ o:BinOp,(Go.binOp o xT (.string bx) (.string by')).run P G.w=(Op.stringOp o bx by').run P G.w:=by
  intro o; cases o<;>rfl
 rw [hb]
 unfold Op.stringOp
 simp only [toList_data,hx,hy,← uN]
 cases op<;>simp only [xe,reduceCtorEq,mb] at h
 case add =>
  split at h
  ·rename_i hle
   cases h
   have hle:=Nat.le_of_ble_eq_true hle
   have hm:IntKind.i64.max=9223372036854775807:=by decide
   rw [if_neg (by grind [qK])]
   simp_all [VR.str]
  ·cases h
 all_goals
  cases h
  exact ⟨_,rfl,VR.bool _⟩
theorem rh {x:AV} {x':Value} {b:Bool} (h:IM x=some b) (hx:VR G x x'):∃ a,x'=.pointer a∧a.isNone=b:=by
 unfold IM at h
 split at h<;>simp only [Option.some.injEq,reduceCtorEq] at h<;>subst h
 ·cases hx with
  | gF _ h=>cases h<;>grind
 ·cases hx<;>grind [AV.ir]
 ·cases hx with
  | gF _ h=>cases h<;>grind
 ·cases hx<;>grind [AV.ir]
theorem ru {x:AV} {x':Value} {b:Bool} (h:II x=some b) (hx:VR G x x'):∃ a n c,x'=.slice a n c∧a.isNone=b:=by
 unfold II at h
 split at h<;>simp only [Option.some.injEq,reduceCtorEq] at h<;>subst h
 ·cases hx with
  | gF _ h=>cases h with
    | slnil=>simp
    | kG _ _ _ _ _ hc=>cases hc
    | sl _ _ _ _ _ _ _ _ _ _ _ _ _ _ hc=>cases hc
 ·rename_i hne
  cases hx with
  | gF _ h=>cases h<;>grind
 ·cases hx<;>grind [AV.ir]
theorem rl {x:AV} {x':Value} {b:Bool} (h:Gr x=some b) (hx:VR G x x'):∃ a,x'=.map a∧a.isNone=b:=by
 unfold Gr at h
 split at h<;>simp only [Option.some.injEq,reduceCtorEq] at h<;>subst h
 ·cases hx with
  | gF _ h=>cases h<;>grind
 ·cases hx<;>grind [AV.ir]
 ·cases hx with
  | gF _ h=>cases h<;>grind
theorem rf {x:AV} {x':Value} {b:Bool} (h:He x=some b) (hx:VR G x x'):(b=true∧x'=.nilFunc)∨(b=false∧∃ f a c,x'=.func f a c):=by
 unfold He at h
 split at h<;>simp only [Option.some.injEq,reduceCtorEq] at h<;>subst h
 ·cases hx with
  | gF _ h=>cases h<;>grind
 ·cases hx<;>grind [AV.ir]
theorem VR.B6 {l:List AV} {vs:Array Value} (h:VR G (.agg l) (.agg vs)) (hs:∀ x∈l,∃ b,jO x x=some b):PR G.w G.T true (.agg l) (.agg vs):=by
 obtain ⟨vs',e,hl,h1,hr⟩:=h.qU
 cases e
 refine .agg _ l vs hl h1 ?_
 intro i x y hx hy
 obtain ⟨b,hb⟩:=hs x (List.mem_of_getElem? hx)
 have:=(hr i x y hx hy).vr
 cases this with
 | gF _ h=>exact h
 | undef=>simp [jO,mZ] at hb
 | ptr=>simp [jO,mZ] at hb
 | hs=>simp [jO,mZ] at hb
 | hm=>simp [jO,mZ] at hb
 | la=>simp [jO,mZ] at hb
 | gL=>simp [jO,mZ] at hb
 | agg=>simp [jO,mZ] at hb
 | fz=>simp [jO,mZ] at hb
theorem EW {x y:AV} {b:Bool} (h:jO x y=some b):(∃ b,jO x x=some b)∧∃ b,jO y y=some b:=by
 cases x<;>simp only [jO,mZ,uH,ra,ve,reduceCtorEq] at h<;>cases y<;>simp only [AV.bool?,AV.int?,AV.str?,reduceCtorEq] at h
 ·exact ⟨⟨_,rfl⟩,⟨_,rfl⟩⟩
 ·refine ⟨?_,?_⟩<;>simp [jO,ra,AV.int?,(nf _ _).2 rfl]
 ·exact ⟨⟨_,rfl⟩,⟨_,rfl⟩⟩
theorem yF:∀ {l m:List AV} {b:Bool},jx l m=some b→(∀ x∈l,∃ b,jO x x=some b)∧∀ x∈m,∃ b,jO x x=some b
 | [],[],_,_=>by simp
 | [],_::_,_,h=>by cases h
 | _::_,[],_,h=>by cases h
 | a::x,b::y,c,h=>by
   simp only [jx] at h
   have hrest:∃ d,jx x y=some d∧∃ e,jO a b=some e:=by
    split at h
    ·rename_i he; exact ⟨_,h,_,he⟩
    ·rename_i he
     split at h
     ·rename_i hd; exact ⟨_,hd,_,he⟩
     ·cases h
    ·cases h
   obtain ⟨d,hd,e,he⟩:=hrest
   obtain ⟨h1,h2⟩:=yF hd
   obtain ⟨k1,k2⟩:=EW he
   constructor
   ·intro z hz
    rcases List.mem_cons.1 hz with rfl | hz
    ·exact k1
    ·exact h1 z hz
   ·intro z hz
    rcases List.mem_cons.1 hz with rfl | hz
    ·exact k2
    ·exact h2 z hz
end
end Go.Sx
namespace Go.Sx
open Go
section
variable {P:Program} {C:gP} {G:Ga} {t:Nat} {ti:TI}
theorem Hv (op:BinOp) (ox oy:Operand) (k k':IntKind) (a b:Int) (w:World):(eqGuard op t ox oy (.int k a) (.int k' b)).run P w=.ok () w:=by cases op<;>rfl
theorem Hj (op:BinOp) (ox oy:Operand) (a b:ByteArray) (w:World):(eqGuard op t ox oy (.string a) (.string b)).run P w=.ok () w:=by cases op<;>rfl
theorem HC (op:BinOp) (ox oy:Operand) (a b:Bool) (w:World):(eqGuard op t ox oy (.bool a) (.bool b)).run P w=.ok () w:=by cases op<;>rfl
theorem Aa (op:BinOp) (ox oy:Operand) (a b:Option Addr) (w:World):(eqGuard op t ox oy (.pointer a) (.pointer b)).run P w=.ok () w:=by cases op<;>rfl
theorem As (op:BinOp) (ox oy:Operand) (a b:Option Nat) (w:World):(eqGuard op t ox oy (.map a) (.map b)).run P w=.ok () w:=by cases op<;>rfl
theorem AH (op:BinOp) (ox oy:Operand) (a b:Option Addr) (n c m d:Nat) (w:World):(eqGuard op t ox oy (.slice a n c) (.slice b m d)).run P w=.ok () w:=by cases op<;>rfl
theorem zg (op:BinOp) (ox oy:Operand) (y:Value) (w:World):(eqGuard op t ox oy .nilFunc y).run P w=.ok () w:=by cases op<;>rfl
theorem Gd (op:BinOp) (ox oy:Operand) (f:Fn) (a c:Array Value) (y:Value) (w:World):(eqGuard op t ox oy (.func f a c) y).run P w=.ok () w:=by cases op<;>rfl
theorem OI (d:Nat) {e:TypeId} (h:P.underlying t=some (.pointer e)) (b:Option Addr) (w:World):(Op.equalIn (d+1) t (.pointer none) (.pointer b)).run P w=.ok b.isNone w:=by
 simp [Op.equalIn,run_underlying h]
theorem O7 (d:Nat) {e:TypeId} (h:P.underlying t=some (.pointer e)) (a:Addr) (w:World):(Op.equalIn (d+1) t (.pointer (some a)) (.pointer none)).run P w=.ok false w:=by
 simp [Op.equalIn,run_underlying h]
theorem QR (d:Nat) {e:TypeId} (h:P.underlying t=some (.slice e)) (b:Option Addr) (n c m k:Nat) (w:World):(Op.equalIn (d+1) t (.slice none n c) (.slice b m k)).run P w=.ok b.isNone w:=by
 simp [Op.equalIn,run_underlying h]
theorem O2 (d:Nat) {e:TypeId} (h:P.underlying t=some (.slice e)) (a:Addr) (n c m k:Nat) (w:World):(Op.equalIn (d+1) t (.slice (some a) n c) (.slice none m k)).run P w=.ok false w:=by
 simp [Op.equalIn,run_underlying h]
theorem Ol (d:Nat) {e e':TypeId} (h:P.underlying t=some (.map e e')) (b:Option Nat) (w:World):(Op.equalIn (d+1) t (.map none) (.map b)).run P w=.ok b.isNone w:=by
 simp [Op.equalIn,run_underlying h]
theorem QU (d:Nat) {e e':TypeId} (h:P.underlying t=some (.map e e')) (a:Nat) (w:World):(Op.equalIn (d+1) t (.map (some a)) (.map none)).run P w=.ok false w:=by
 simp [Op.equalIn,run_underlying h]
theorem PU (d:Nat) {p q:Array TypeId} {r:Bool} (h:P.underlying t=some (.func p q r)) (w:World):(Op.equalIn (d+1) t .nilFunc .nilFunc).run P w=.ok true w:=by
 simp [Op.equalIn,run_underlying h]
theorem RO (d:Nat) {p q:Array TypeId} {r:Bool} (h:P.underlying t=some (.func p q r)) (f:Fn) (a c:Array Value) (w:World):(Op.equalIn (d+1) t .nilFunc (.func f a c)).run P w=.ok false w:=by
 simp [Op.equalIn,run_underlying h]
theorem MG (d:Nat) {p q:Array TypeId} {r:Bool} (h:P.underlying t=some (.func p q r)) (f:Fn) (a c:Array Value) (w:World):(Op.equalIn (d+1) t (.func f a c) .nilFunc).run P w=.ok false w:=by
 simp [Op.equalIn,run_underlying h]
theorem mf {x y:Value} {b:Bool} {w:World} (he:(Op.equalIn 10000 t x y).run P w=.ok b w) (hn:∀ o:BinOp,o=.eql∨o=.neq→Go.binOp o t x y=(if o=.eql then do pure (.bool (← Op.equal t x y)) else do pure (.bool (!(← Op.equal t x y))))) :
  (Go.binOp .eql t x y).run P w=.ok (.bool b) w∧(Go.binOp .neq t x y).run P w=.ok (.bool !b) w:=by
 rw [hn .eql (by simp),hn .neq (by simp)]
 have he':(Op.equal t x y).run P w=.ok b w:=he
 simp_all
theorem vM (hT:kD P t ti) {x y:AV} {x' y':Value} {b:Bool} (hx:VR G x x') (hy:VR G y y') (h:rj ti x y=some b) (ox oy:Operand) :
  (∀ o:BinOp,(eqGuard o t ox oy x' y').run P G.w=.ok () G.w)∧(Go.binOp .eql t x' y').run P G.w=.ok (.bool b) G.w∧(Go.binOp .neq t x' y').run P G.w=.ok (.bool !b) G.w:=by
 obtain ⟨d,hd,ha,hk⟩:=hT.desc
 unfold rj at h
 split at h
 ·
  rename_i hki
  rw [hki] at hk
  have hk:d=.bool:=hk
  subst hk
  unfold Fg at h
  split at h
  ·rename_i a c h1 h2
   cases h
   have:=bool?_eq h1; subst this
   have:=bool?_eq h2; subst this
   rw [hx.of_bool,hy.of_bool]
   exact ⟨fun o=>HC o ox oy _ _ _,mf (run_equalIn_bool' G.w 9999 t _ _ hd) (by rintro o (rfl | rfl)<;>rfl)⟩
  ·cases h
 ·
  rename_i hki
  rw [hki] at hk
  obtain ⟨e,rfl⟩:=hk
  unfold pW at h
  split at h
  ·rename_i c h1 h2
   cases h
   obtain ⟨a,rfl,h1⟩:=rh h1 hx
   obtain ⟨a',rfl,h2⟩:=rh h2 hy
   refine ⟨fun o=>Aa o ox oy _ _ _,mf ?_ (by rintro o (rfl | rfl)<;>rfl)⟩
   simp_all [OI]
  ·rename_i h1 h2
   cases h
   obtain ⟨a,rfl,h1⟩:=rh h1 hx
   obtain ⟨a',rfl,h2⟩:=rh h2 hy
   refine ⟨fun o=>Aa o ox oy _ _ _,mf ?_ (by rintro o (rfl | rfl)<;>rfl)⟩
   cases a with
   | none=>simp at h1
   | some a=>simp_all [O7]
  ·cases h
 ·
  rename_i hki
  rw [hki] at hk
  have hk:d=.slice _:=hk
  subst hk
  unfold pW at h
  split at h
  ·rename_i c h1 h2
   cases h
   obtain ⟨a,n,c,rfl,h1⟩:=ru h1 hx
   obtain ⟨a',n',c',rfl,h2⟩:=ru h2 hy
   refine ⟨fun o=>AH o ox oy _ _ _ _ _ _ _,mf ?_ (by rintro o (rfl | rfl)<;>rfl)⟩
   simp_all [QR]
  ·rename_i h1 h2
   cases h
   obtain ⟨a,n,c,rfl,h1⟩:=ru h1 hx
   obtain ⟨a',n',c',rfl,h2⟩:=ru h2 hy
   refine ⟨fun o=>AH o ox oy _ _ _ _ _ _ _,mf ?_ (by rintro o (rfl | rfl)<;>rfl)⟩
   cases a with
   | none=>simp at h1
   | some a=>simp_all [O2]
  ·cases h
 ·
  rename_i hki
  rw [hki] at hk
  have hk:d=.map _ _:=hk
  subst hk
  unfold pW at h
  split at h
  ·rename_i c h1 h2
   cases h
   obtain ⟨a,rfl,h1⟩:=rl h1 hx
   obtain ⟨a',rfl,h2⟩:=rl h2 hy
   refine ⟨fun o=>As o ox oy _ _ _,mf ?_ (by rintro o (rfl | rfl)<;>rfl)⟩
   cases a<;>grind [Ol]
  ·rename_i h1 h2
   cases h
   obtain ⟨a,rfl,h1⟩:=rl h1 hx
   obtain ⟨a',rfl,h2⟩:=rl h2 hy
   refine ⟨fun o=>As o ox oy _ _ _,mf ?_ (by rintro o (rfl | rfl)<;>rfl)⟩
   cases a with
   | none=>simp at h1
   | some a=>cases a'<;>grind [QU]
  ·cases h
 ·
  rename_i hki
  rw [hki] at hk
  obtain ⟨p,q,r,rfl⟩:=hk
  unfold pW at h
  split at h
  ·rename_i c h1 h2
   cases h
   rcases rf h1 hx with ⟨_,rfl⟩ | ⟨h0,_⟩
   ·rcases rf h2 hy with ⟨rfl,rfl⟩ | ⟨rfl,f,a,c,rfl⟩
    ·exact ⟨fun o=>zg o ox oy _ _,mf (PU 9999 hd _) (by rintro o (rfl | rfl)<;>rfl)⟩
    ·exact ⟨fun o=>zg o ox oy _ _,mf (RO 9999 hd _ _ _ _) (by rintro o (rfl | rfl)<;>rfl)⟩
   grind
  ·rename_i h1 h2
   cases h
   rcases rf h1 hx with ⟨h0,_⟩ | ⟨_,f,a,c,rfl⟩
   ·cases h0
   ·rcases rf h2 hy with ⟨_,rfl⟩ | ⟨h0,_⟩
    ·exact ⟨fun o=>Gd o ox oy _ _ _ _ _,mf (MG 9999 hd _ _ _ _) (by rintro o (rfl | rfl)<;>rfl)⟩
    grind
  ·cases h
 all_goals first
  | (cases h; done)
  | (rename_i hki
     have hagg:ti.agg=true:=by
      rw [hki] at hk
      rw [← ha]
      first
       | (obtain ⟨F,rfl,_⟩:=hk; rfl)
       | (have hk:d=.array _ _:=hk; subst hk; rfl)
     unfold AK at h
     split at h
     ·rename_i a c hf h1 h2
      split at h
      ·rename_i hlen
       simp only [Bool.and_eq_true,Nat.beq_eq] at hlen
       have:=agg?_eq h1; subst this
       have:=agg?_eq h2; subst this
       obtain ⟨vs,rfl,hl1,h11,hr1⟩:=hx.qU
       obtain ⟨us,rfl,hl2,h12,hr2⟩:=hy.qU
       obtain ⟨s1,s2⟩:=yF h
       have e:=hT.flat hf hagg _ _ vs us b G.w G.T hlen.2 hlen.1.1 hlen.1.2 (hx.B6 s1) (hy.B6 s2) h
       exact ⟨fun o=>run_eqGuard_agg G.w o t ox oy vs us (hT.guard hf),mf e (by rintro o (rfl | rfl)<;>rfl)⟩
      ·cases h
     ·cases h)
theorem Bc (hC:g5 P C) {op:BinOp} {x y v:AV} {x' y':Value} (hx:VR G x x') (hy:VR G y y') (h:binOp C op t x y=some v) (ox oy:Operand) :
  ∃ u,(do eqGuard op t ox oy x' y'; Go.binOp op t x' y':Sem Value).run P G.w=.ok u G.w∧VR G v u:=by
 unfold binOp at h
 split at h
 ·rename_i p hp
  obtain ⟨k,a⟩:=p
  have:=int?_eq hp; subst this
  rw [hx.of_int]
  unfold zT at h
  split at h
  ·rename_i k' b hb
   have:=int?_eq hb; subst this
   rw [hy.of_int]
   simp only [Sem.run_bind,Hv,Result.andThen_ok]
   split at h
   ·rename_i hk
    cases hs:qt op with
    | true=>exact A1 h hs t
    | false =>
      rw [hs,Bool.or_false] at hk
      have:=(nf _ _).1 hk
      simp only at this
      subst this
      exact zs h hs t
   ·cases h
  ·cases h
 ·split at h
  ·rename_i a ha
   have:=str?_eq ha; subst this
   obtain ⟨bx,rfl,hbx⟩:=hx.pq
   unfold zV at h
   split at h
   ·rename_i b hb
    have:=str?_eq hb; subst this
    obtain ⟨by',rfl,hby⟩:=hy.pq
    simp only [Sem.run_bind,Hj,Result.andThen_ok]
    exact zh hbx hby h t
   ·cases h
  ·unfold uT at h
   split at h
   ·cases h
   ·rename_i ti hti
    split at h
    ·split at h
     ·rename_i b hb
      cases h
      obtain ⟨h1,h2,h3⟩:=vM (hC.ty t ti hti) hx hy hb ox oy
      simp_all [VR.bool]
     ·cases h
    ·split at h
     ·rename_i b hb
      rw [wB] at h
      cases h
      obtain ⟨h1,h2,h3⟩:=vM (hC.ty t ti hti) hx hy hb ox oy
      simp_all [VR.bool]
     ·cases h
    ·cases h
theorem Ej {op:UnOp} {x v:AV} {x':Value} (hx:VR G x x') (h:unOp op x=some v):∃ u,(Op.unary op x').run P G.w=.ok u G.w∧VR G v u:=by
 unfold unOp at h
 split at h
 ·split at h
  ·rename_i b hb
   have:=bool?_eq hb; subst this
   rw [hx.of_bool]
   rw [wB] at h
   cases h
   exact ⟨_,rfl,VR.bool _⟩
  ·cases h
 ·split at h
  ·rename_i k n hb
   have:=int?_eq hb; subst this
   rw [hx.of_int]
   simp only [qi,lH,nW,xR] at h
   cases h
   refine ⟨_,rfl,?_⟩
   grind [VR.int]
  ·cases h
 ·split at h
  ·rename_i k n hb
   have:=int?_eq hb; subst this
   rw [hx.of_int]
   simp only [y4,qi,lH] at h
   cases h
   exact ⟨_,rfl,VR.int _ _⟩
  ·cases h
 ·cases h
theorem Ca {x y v:AV} {x' y':Value} (hx:VR G x x') (hy:VR G y y') (h:min2 x y=some v):∃ u,(Builtin.min2 x' y').run P G.w=.ok u G.w∧VR G v u:=by
 unfold min2 at h
 split at h
 ·cases h
  rw [hx.of_int,hy.of_int]
  exact ⟨_,rfl,VR.int _ _⟩
 ·cases h
theorem DS {x y v:AV} {x' y':Value} (hx:VR G x x') (hy:VR G y y') (h:max2 x y=some v):∃ u,(Builtin.max2 x' y').run P G.w=.ok u G.w∧VR G v u:=by
 unfold max2 at h
 split at h
 ·cases h
  rw [hx.of_int,hy.of_int]
  exact ⟨_,rfl,VR.int _ _⟩
 ·cases h
theorem tc {f:AV→AV→Option AV} {g:Value→Value→Sem Value} (hfg:∀ {x y v:AV} {x' y':Value},VR G x x'→VR G y y'→f x y=some v→∃ u,(g x' y').run P G.w=.ok u G.w∧VR G v u) :
  ∀ {l:List AV} {l':List Value} {x v:AV} {x':Value},VR G x x'→l.length=l'.length→(∀ (i:Nat) a b,l[i]?=some a→l'[i]?=some b→VR G a b)→wW f x l=some v →
    ∃ u,(l'.foldlM g x').run P G.w=.ok u G.w∧VR G v u
 | [],[],x,v,x',hx,_,_,h=>by
   simp_all [wW]
 | [],_::_,_,_,_,_,hl,_,_=>by simp at hl
 | _::_,[],_,_,_,_,hl,_,_=>by simp at hl
 | a::l,b::l',x,v,x',hx,hl,hr,h=>by
   simp only [wW] at h
   split at h
   ·rename_i c hc
    obtain ⟨u,hu,hcu⟩:=hfg hx (hr 0 a b rfl rfl) hc
    obtain ⟨z,hz,hvz⟩:=tc hfg hcu (by grind) (fun i p q hp hq=>hr (i+1) p q hp hq) h
    simp_all
   ·cases h
end
end Go.Sx
