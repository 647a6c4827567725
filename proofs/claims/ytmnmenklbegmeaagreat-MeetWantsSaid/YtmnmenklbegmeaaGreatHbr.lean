/- Proves rules for the walks and their soundness. -/
import Derived.Test.YtmnmenklbegmeaaGreatRows
import Derived.ProofKit
set_option linter.all false
set_option maxRecDepth 100000
namespace Go.Proofs.YtmnmenklbegmeaaGreat
def jf1:(Rows.meetWantsRow.wf (OpenSpec.ofChange Rows.meetWantsSpec))=true:=by kernel_rfl
def jf2:(laidOutB Tryz.prog)=true:=by kernel_rfl
def jf3:(mapsRowed Tryz.prog)=true:=by kernel_rfl
def jf4:(Tryz.f3.params.all (Tryz.prog.readableRec ·))=true:=by kernel_rfl
def jf5:(namedTie Tryz.prog Rows.meetWantsRow.named Rows.meetWantsSpec.vars)=true:=by kernel_rfl
def jf6:((Rows.meetWantsRow.stops==[]))=true:=by kernel_rfl
def jf7:((Tryz.prog.stops==[]))=true:=by kernel_rfl
def jf8:((Rows.meetWantsRow.knobs==[]))=true:=by kernel_rfl
def jf9:((Tryz.prog.stopKnobs==[]))=true:=by kernel_rfl
def afH:((Rows.meetWantsRow.inPlace==Tryz.prog.inPlace 3))=true:=by kernel_rfl
def agA:((Rows.meetWantsRow.unfollowed==Tryz.prog.unfollowed 3))=true:=by kernel_rfl
def afS:((Rows.meetWantsRow.recurses==Tryz.prog.recurses 3))=true:=by kernel_rfl
def aeM:((Rows.meetWantsRow.named==Tryz.prog.varsNamed 3))=true:=by kernel_rfl
def ae6:((Rows.meetWantsRow.maps==(Tryz.f3.params.toList++Rows.meetWantsSpec.plain.varTypes Tryz.prog).any (Tryz.prog.mapsRec ·)))=true:=by kernel_rfl
def ags:((Rows.meetWantsRow.ifaces==(Tryz.f3.params.toList++Rows.meetWantsSpec.plain.varTypes Tryz.prog).any (Tryz.prog.ifacesRec ·)))=true:=by kernel_rfl
def ahd:((Rows.meetWantsRow.mapsOut==Tryz.prog.mapsAmong Tryz.f3.resultTypes.toList))=true:=by kernel_rfl
def agU:((Rows.meetWantsRow.loops==(Tryz.f3.params.toList++Rows.meetWantsSpec.plain.varTypes Tryz.prog).any (Tryz.prog.loopsFrom ·)))=true:=by kernel_rfl
def aeG:((Rows.meetWantsRow.wideKeys==(Tryz.f3.params.toList++Rows.meetWantsSpec.plain.varTypes Tryz.prog++Tryz.f3.resultTypes.toList).any (Tryz.prog.wideKeysFrom ·)))=true:=by kernel_rfl
def agh:(Rows.meetWantsSpec.vars.all (Tryz.prog.varReadable ·))=true:=by kernel_rfl
def af0:(Tryz.f3.resultTypes.all (λt=>Tryz.prog.readableRec t&&decide (t<Tryz.prog.types.size)))=true:=by kernel_rfl
def afF:((Rows.meetWantsRow.ifacesOut==Tryz.f3.resultTypes.toList.any (Tryz.prog.ifacesRec ·)))=true:=by kernel_rfl
def aeX:((Rows.meetWantsRow.loopsOut==Tryz.f3.resultTypes.toList.any (Tryz.prog.loopsFrom ·)))=true:=by kernel_rfl
def aek:((Rows.meetWantsRow.plainKeys==Tryz.prog.plainKeys))=true:=by kernel_rfl
def ad2:(Rows.meetWantsRow.shortTexts.isNone)=true:=by kernel_rfl
def af4:(Tryz.prog.stopsHeard)=true:=by kernel_rfl
def afi:(Tryz.prog.mayEnter)=true:=by kernel_rfl
def adX:((Rows.meetWantsRow.lifted==Tryz.prog.liftsFinal))=true:=by kernel_rfl
def agv:((Tryz.prog.make==some Rows.meetWantsRow.make))=true:=by kernel_rfl
def aeA:((Rows.meetWantsRow.kinds==(if Rows.meetWantsRow.domain.isEmpty then [] else Tryz.f3.params.toList.map λt=>match Tryz.prog.underlying t with | some (.int k)=>some k | _=>none)))=true:=by kernel_rfl
def agl:((Rows.meetWantsRow.pinned==Rows.meetWantsRow.pinnedBy))=true:=by kernel_rfl
def ahb:((Rows.meetWantsRow.veiled==(Tryz.f3.params.toList++Rows.meetWantsSpec.plain.varTypes Tryz.prog++Tryz.f3.resultTypes.toList).any (Tryz.prog.veiledRec ·)))=true:=by kernel_rfl
def adQ:(Rows.meetWantsRow.veiledFits Tryz.prog Tryz.f3.params.toList (Tryz.f3.params.toList++Rows.meetWantsSpec.plain.varTypes Tryz.prog++Tryz.f3.resultTypes.toList))=true:=by kernel_rfl
def mz {a b:Bool} (h:a=true) (k:b=true):(a&&b)=true:=by rw [h,k]; rfl
def Wz:joinedFacts Tryz.pinned.checked.prog 3 Tryz.f3 Rows.meetWantsSpec Rows.meetWantsRow=true:=(mz (mz (mz (mz (mz (mz (mz (mz (mz (mz (mz (mz (mz (mz (mz (mz (mz (mz (mz (mz (mz (mz (mz (mz (mz (mz (mz (mz (mz (mz (mz jf1 jf2) jf3) jf4) jf5) jf6) jf7) jf8) jf9) afH) agA) afS) aeM) ae6) ags) ahd) agU) aeG) agh) af0) afF) aeX) aek) ad2) af4) afi) adX) agv) aeA) agl) ahb) adQ)
end Go.Proofs.YtmnmenklbegmeaaGreat
