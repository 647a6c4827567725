/- Proves rules for the walks and their soundness. -/
import Derived.Test.YtgoeonlbgdamhaaGreatRows
import Derived.ProofKit
set_option linter.all false
set_option maxRecDepth 100000
namespace Go.Proofs.YtgoeonlbgdamhaaGreat
def jf1:(Rows.meetHasRow.wf (OpenSpec.ofChange Rows.meetHasSpec))=true:=by kernel_rfl
def jf2:(laidOutB Tryz.prog)=true:=by kernel_rfl
def jf3:(mapsRowed Tryz.prog)=true:=by kernel_rfl
def jf4:(Tryz.f4.params.all (Tryz.prog.readableRec ·))=true:=by kernel_rfl
def jf5:(namedTie Tryz.prog Rows.meetHasRow.named Rows.meetHasSpec.vars)=true:=by kernel_rfl
def jf6:((Rows.meetHasRow.stops==[]))=true:=by kernel_rfl
def jf7:((Tryz.prog.stops==[]))=true:=by kernel_rfl
def jf8:((Rows.meetHasRow.knobs==[]))=true:=by kernel_rfl
def jf9:((Tryz.prog.stopKnobs==[]))=true:=by kernel_rfl
def adQ:((Rows.meetHasRow.inPlace==Tryz.prog.inPlace 4))=true:=by kernel_rfl
def afQ:((Rows.meetHasRow.unfollowed==Tryz.prog.unfollowed 4))=true:=by kernel_rfl
def afh:((Rows.meetHasRow.recurses==Tryz.prog.recurses 4))=true:=by kernel_rfl
def adg:((Rows.meetHasRow.named==Tryz.prog.varsNamed 4))=true:=by kernel_rfl
def adO:((Rows.meetHasRow.maps==(Tryz.f4.params.toList++Rows.meetHasSpec.plain.varTypes Tryz.prog).any (Tryz.prog.mapsRec ·)))=true:=by kernel_rfl
def ae5:((Rows.meetHasRow.ifaces==(Tryz.f4.params.toList++Rows.meetHasSpec.plain.varTypes Tryz.prog).any (Tryz.prog.ifacesRec ·)))=true:=by kernel_rfl
def adC:((Rows.meetHasRow.mapsOut==Tryz.prog.mapsAmong Tryz.f4.resultTypes.toList))=true:=by kernel_rfl
def aet:((Rows.meetHasRow.loops==(Tryz.f4.params.toList++Rows.meetHasSpec.plain.varTypes Tryz.prog).any (Tryz.prog.loopsFrom ·)))=true:=by kernel_rfl
def afV:((Rows.meetHasRow.wideKeys==(Tryz.f4.params.toList++Rows.meetHasSpec.plain.varTypes Tryz.prog++Tryz.f4.resultTypes.toList).any (Tryz.prog.wideKeysFrom ·)))=true:=by kernel_rfl
def aeq:(Rows.meetHasSpec.vars.all (Tryz.prog.varReadable ·))=true:=by kernel_rfl
def aen:(Tryz.f4.resultTypes.all (λt=>Tryz.prog.readableRec t&&decide (t<Tryz.prog.types.size)))=true:=by kernel_rfl
def acU:((Rows.meetHasRow.ifacesOut==Tryz.f4.resultTypes.toList.any (Tryz.prog.ifacesRec ·)))=true:=by kernel_rfl
def adI:((Rows.meetHasRow.loopsOut==Tryz.f4.resultTypes.toList.any (Tryz.prog.loopsFrom ·)))=true:=by kernel_rfl
def adT:((Rows.meetHasRow.plainKeys==Tryz.prog.plainKeys))=true:=by kernel_rfl
def afo:(Rows.meetHasRow.shortTexts.isNone)=true:=by kernel_rfl
def adh:(Tryz.prog.stopsHeard)=true:=by kernel_rfl
def adR:(Tryz.prog.mayEnter)=true:=by kernel_rfl
def acz:((Rows.meetHasRow.lifted==Tryz.prog.liftsFinal))=true:=by kernel_rfl
def afJ:((Tryz.prog.make==some Rows.meetHasRow.make))=true:=by kernel_rfl
def aeK:((Rows.meetHasRow.kinds==(if Rows.meetHasRow.domain.isEmpty then [] else Tryz.f4.params.toList.map λt=>match Tryz.prog.underlying t with | some (.int k)=>some k | _=>none)))=true:=by kernel_rfl
def aeH:((Rows.meetHasRow.pinned==Rows.meetHasRow.pinnedBy))=true:=by kernel_rfl
def aeV:((Rows.meetHasRow.veiled==(Tryz.f4.params.toList++Rows.meetHasSpec.plain.varTypes Tryz.prog++Tryz.f4.resultTypes.toList).any (Tryz.prog.veiledRec ·)))=true:=by kernel_rfl
def ade:(Rows.meetHasRow.veiledFits Tryz.prog Tryz.f4.params.toList (Tryz.f4.params.toList++Rows.meetHasSpec.plain.varTypes Tryz.prog++Tryz.f4.resultTypes.toList))=true:=by kernel_rfl
def mq {a b:Bool} (h:a=true) (k:b=true):(a&&b)=true:=by rw [h,k]; rfl
def TZ:joinedFacts Tryz.pinned.checked.prog 4 Tryz.f4 Rows.meetHasSpec Rows.meetHasRow=true:=(mq (mq (mq (mq (mq (mq (mq (mq (mq (mq (mq (mq (mq (mq (mq (mq (mq (mq (mq (mq (mq (mq (mq (mq (mq (mq (mq (mq (mq (mq (mq jf1 jf2) jf3) jf4) jf5) jf6) jf7) jf8) jf9) adQ) afQ) afh) adg) adO) ae5) adC) aet) afV) aeq) aen) acU) adI) adT) afo) adh) adR) acz) afJ) aeK) aeH) aeV) ade)
end Go.Proofs.YtgoeonlbgdamhaaGreat
