/- Proves rules for the walks and their soundness. -/
import Derived.Test.YtmajcicmbclkhaaGreatRows
import Derived.ProofKit
set_option linter.all false
set_option maxRecDepth 100000
namespace Go.Proofs.YtmajcicmbclkhaaGreat
def jf1:(Rows.aloneLockedRow.wf (OpenSpec.ofChange Rows.aloneLockedSpec))=true:=by kernel_rfl
def jf2:(laidOutB Tryz.prog)=true:=by kernel_rfl
def jf3:(mapsRowed Tryz.prog)=true:=by kernel_rfl
def jf4:(Tryz.f3.params.all (Tryz.prog.readableRec ·))=true:=by kernel_rfl
def jf5:(namedTie Tryz.prog Rows.aloneLockedRow.named Rows.aloneLockedSpec.vars)=true:=by kernel_rfl
def jf6:((Rows.aloneLockedRow.stops==[]))=true:=by kernel_rfl
def jf7:((Tryz.prog.stops==[]))=true:=by kernel_rfl
def jf8:((Rows.aloneLockedRow.knobs==[]))=true:=by kernel_rfl
def jf9:((Tryz.prog.stopKnobs==[]))=true:=by kernel_rfl
def Y9:((Rows.aloneLockedRow.inPlace==Tryz.prog.inPlace 3))=true:=by kernel_rfl
def aaz:((Rows.aloneLockedRow.unfollowed==Tryz.prog.unfollowed 3))=true:=by kernel_rfl
def aaI:((Rows.aloneLockedRow.recurses==Tryz.prog.recurses 3))=true:=by kernel_rfl
def Zy:((Rows.aloneLockedRow.named==Tryz.prog.varsNamed 3))=true:=by kernel_rfl
def aac:((Rows.aloneLockedRow.maps==(Tryz.f3.params.toList++Rows.aloneLockedSpec.plain.varTypes Tryz.prog).any (Tryz.prog.mapsRec ·)))=true:=by kernel_rfl
def Zl:((Rows.aloneLockedRow.ifaces==(Tryz.f3.params.toList++Rows.aloneLockedSpec.plain.varTypes Tryz.prog).any (Tryz.prog.ifacesRec ·)))=true:=by kernel_rfl
def aaS:((Rows.aloneLockedRow.mapsOut==Tryz.prog.mapsAmong Tryz.f3.resultTypes.toList))=true:=by kernel_rfl
def ZE:((Rows.aloneLockedRow.loops==(Tryz.f3.params.toList++Rows.aloneLockedSpec.plain.varTypes Tryz.prog).any (Tryz.prog.loopsFrom ·)))=true:=by kernel_rfl
def aas:((Rows.aloneLockedRow.wideKeys==(Tryz.f3.params.toList++Rows.aloneLockedSpec.plain.varTypes Tryz.prog++Tryz.f3.resultTypes.toList).any (Tryz.prog.wideKeysFrom ·)))=true:=by kernel_rfl
def ZY:(Rows.aloneLockedSpec.vars.all (Tryz.prog.varReadable ·))=true:=by kernel_rfl
def ZQ:(Tryz.f3.resultTypes.all (λt=>Tryz.prog.readableRec t&&decide (t<Tryz.prog.types.size)))=true:=by kernel_rfl
def abc:((Rows.aloneLockedRow.ifacesOut==Tryz.f3.resultTypes.toList.any (Tryz.prog.ifacesRec ·)))=true:=by kernel_rfl
def aaB:((Rows.aloneLockedRow.loopsOut==Tryz.f3.resultTypes.toList.any (Tryz.prog.loopsFrom ·)))=true:=by kernel_rfl
def ZC:((Rows.aloneLockedRow.plainKeys==Tryz.prog.plainKeys))=true:=by kernel_rfl
def Z4:(Rows.aloneLockedRow.shortTexts.isNone)=true:=by kernel_rfl
def ZX:(Tryz.prog.stopsHeard)=true:=by kernel_rfl
def aaF:(Tryz.prog.mayEnter)=true:=by kernel_rfl
def Zb:((Rows.aloneLockedRow.lifted==Tryz.prog.liftsFinal))=true:=by kernel_rfl
def Zs:((Tryz.prog.make==some Rows.aloneLockedRow.make))=true:=by kernel_rfl
def Zn:((Rows.aloneLockedRow.kinds==(if Rows.aloneLockedRow.domain.isEmpty then [] else Tryz.f3.params.toList.map λt=>match Tryz.prog.underlying t with | some (.int k)=>some k | _=>none)))=true:=by kernel_rfl
def aaa:((Rows.aloneLockedRow.pinned==Rows.aloneLockedRow.pinnedBy))=true:=by kernel_rfl
def ZH:((Rows.aloneLockedRow.veiled==(Tryz.f3.params.toList++Rows.aloneLockedSpec.plain.varTypes Tryz.prog++Tryz.f3.resultTypes.toList).any (Tryz.prog.veiledRec ·)))=true:=by kernel_rfl
def ZZ:(Rows.aloneLockedRow.veiledFits Tryz.prog Tryz.f3.params.toList (Tryz.f3.params.toList++Rows.aloneLockedSpec.plain.varTypes Tryz.prog++Tryz.f3.resultTypes.toList))=true:=by kernel_rfl
def lA {a b:Bool} (h:a=true) (k:b=true):(a&&b)=true:=by rw [h,k]; rfl
def Tz:joinedFacts Tryz.pinned.checked.prog 3 Tryz.f3 Rows.aloneLockedSpec Rows.aloneLockedRow=true:=(lA (lA (lA (lA (lA (lA (lA (lA (lA (lA (lA (lA (lA (lA (lA (lA (lA (lA (lA (lA (lA (lA (lA (lA (lA (lA (lA (lA (lA (lA (lA jf1 jf2) jf3) jf4) jf5) jf6) jf7) jf8) jf9) Y9) aaz) aaI) Zy) aac) Zl) aaS) ZE) aas) ZY) ZQ) abc) aaB) ZC) Z4) ZX) aaF) Zb) Zs) Zn) aaa) ZH) ZZ)
end Go.Proofs.YtmajcicmbclkhaaGreat
