/- Proves rules for the walks and their soundness. -/
import Derived.Test.YtpelnddplemngaaGreatRows
import Derived.ProofKit
set_option linter.all false
set_option maxRecDepth 100000
namespace Go.Proofs.YtpelnddplemngaaGreat
def jf1:(Rows.dayBoundsRow.wf (OpenSpec.ofChange Rows.dayBoundsSpec))=true:=by kernel_rfl
def jf2:(laidOutB Tryz.prog)=true:=by kernel_rfl
def jf3:(mapsRowed Tryz.prog)=true:=by kernel_rfl
def jf4:(Tryz.f3.params.all (Tryz.prog.readableRec ·))=true:=by kernel_rfl
def jf5:(namedTie Tryz.prog Rows.dayBoundsRow.named Rows.dayBoundsSpec.vars)=true:=by kernel_rfl
def jf6:((Rows.dayBoundsRow.stops==[]))=true:=by kernel_rfl
def jf7:((Tryz.prog.stops==[]))=true:=by kernel_rfl
def jf8:((Rows.dayBoundsRow.knobs==[]))=true:=by kernel_rfl
def jf9:((Tryz.prog.stopKnobs==[]))=true:=by kernel_rfl
def afn:((Rows.dayBoundsRow.inPlace==Tryz.prog.inPlace 3))=true:=by kernel_rfl
def aia:((Rows.dayBoundsRow.unfollowed==Tryz.prog.unfollowed 3))=true:=by kernel_rfl
def agz:((Rows.dayBoundsRow.recurses==Tryz.prog.recurses 3))=true:=by kernel_rfl
def ago:((Rows.dayBoundsRow.named==Tryz.prog.varsNamed 3))=true:=by kernel_rfl
def ahS:((Rows.dayBoundsRow.maps==(Tryz.f3.params.toList++Rows.dayBoundsSpec.plain.varTypes Tryz.prog).any (Tryz.prog.mapsRec ·)))=true:=by kernel_rfl
def agN:((Rows.dayBoundsRow.ifaces==(Tryz.f3.params.toList++Rows.dayBoundsSpec.plain.varTypes Tryz.prog).any (Tryz.prog.ifacesRec ·)))=true:=by kernel_rfl
def ain:((Rows.dayBoundsRow.mapsOut==Tryz.prog.mapsAmong Tryz.f3.resultTypes.toList))=true:=by kernel_rfl
def ae3:((Rows.dayBoundsRow.loops==(Tryz.f3.params.toList++Rows.dayBoundsSpec.plain.varTypes Tryz.prog).any (Tryz.prog.loopsFrom ·)))=true:=by kernel_rfl
def ahA:((Rows.dayBoundsRow.wideKeys==(Tryz.f3.params.toList++Rows.dayBoundsSpec.plain.varTypes Tryz.prog++Tryz.f3.resultTypes.toList).any (Tryz.prog.wideKeysFrom ·)))=true:=by kernel_rfl
def afR:(Rows.dayBoundsSpec.vars.all (Tryz.prog.varReadable ·))=true:=by kernel_rfl
def aeZ:(Tryz.f3.resultTypes.all (λt=>Tryz.prog.readableRec t&&decide (t<Tryz.prog.types.size)))=true:=by kernel_rfl
def afO:((Rows.dayBoundsRow.ifacesOut==Tryz.f3.resultTypes.toList.any (Tryz.prog.ifacesRec ·)))=true:=by kernel_rfl
def aiw:((Rows.dayBoundsRow.loopsOut==Tryz.f3.resultTypes.toList.any (Tryz.prog.loopsFrom ·)))=true:=by kernel_rfl
def ag7:((Rows.dayBoundsRow.plainKeys==Tryz.prog.plainKeys))=true:=by kernel_rfl
def afB:(Rows.dayBoundsRow.shortTexts.isNone)=true:=by kernel_rfl
def af7:(Tryz.prog.stopsHeard)=true:=by kernel_rfl
def aho:(Tryz.prog.mayEnter)=true:=by kernel_rfl
def aip:((Rows.dayBoundsRow.lifted==Tryz.prog.liftsFinal))=true:=by kernel_rfl
def ahY:((Tryz.prog.make==some Rows.dayBoundsRow.make))=true:=by kernel_rfl
def agn:((Rows.dayBoundsRow.kinds==(if Rows.dayBoundsRow.domain.isEmpty then [] else Tryz.f3.params.toList.map λt=>match Tryz.prog.underlying t with | some (.int k)=>some k | _=>none)))=true:=by kernel_rfl
def aeP:((Rows.dayBoundsRow.pinned==Rows.dayBoundsRow.pinnedBy))=true:=by kernel_rfl
def afa:((Rows.dayBoundsRow.veiled==(Tryz.f3.params.toList++Rows.dayBoundsSpec.plain.varTypes Tryz.prog++Tryz.f3.resultTypes.toList).any (Tryz.prog.veiledRec ·)))=true:=by kernel_rfl
def ae2:(Rows.dayBoundsRow.veiledFits Tryz.prog Tryz.f3.params.toList (Tryz.f3.params.toList++Rows.dayBoundsSpec.plain.varTypes Tryz.prog++Tryz.f3.resultTypes.toList))=true:=by kernel_rfl
def mA {a b:Bool} (h:a=true) (k:b=true):(a&&b)=true:=by rw [h,k]; rfl
def Wv:joinedFacts Tryz.pinned.checked.prog 3 Tryz.f3 Rows.dayBoundsSpec Rows.dayBoundsRow=true:=(mA (mA (mA (mA (mA (mA (mA (mA (mA (mA (mA (mA (mA (mA (mA (mA (mA (mA (mA (mA (mA (mA (mA (mA (mA (mA (mA (mA (mA (mA (mA jf1 jf2) jf3) jf4) jf5) jf6) jf7) jf8) jf9) afn) aia) agz) ago) ahS) agN) ain) ae3) ahA) afR) aeZ) afO) aiw) ag7) afB) af7) aho) aip) ahY) agn) aeP) afa) ae2)
end Go.Proofs.YtpelnddplemngaaGreat
