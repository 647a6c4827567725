/- Proves rules for the walks and their soundness. -/
import Derived.Test.YtmnmenklbegmeaaGreatRows
import Derived.ProofKit
set_option linter.all false
set_option maxRecDepth 100000
namespace Go.Proofs.YtmnmenklbegmeaaGreat
def jf1:(Rows.meetFirstRow.wf (OpenSpec.ofChange Rows.meetFirstSpec))=true:=by kernel_rfl
def jf2:(laidOutB Tryz.prog)=true:=by kernel_rfl
def jf3:(mapsRowed Tryz.prog)=true:=by kernel_rfl
def jf4:(Tryz.f4.params.all (Tryz.prog.readableRec ·))=true:=by kernel_rfl
def jf5:(namedTie Tryz.prog Rows.meetFirstRow.named Rows.meetFirstSpec.vars)=true:=by kernel_rfl
def jf6:((Rows.meetFirstRow.stops==[]))=true:=by kernel_rfl
def jf7:((Tryz.prog.stops==[]))=true:=by kernel_rfl
def jf8:((Rows.meetFirstRow.knobs==[]))=true:=by kernel_rfl
def jf9:((Tryz.prog.stopKnobs==[]))=true:=by kernel_rfl
def amT:((Rows.meetFirstRow.inPlace==Tryz.prog.inPlace 4))=true:=by kernel_rfl
def amO:((Rows.meetFirstRow.unfollowed==Tryz.prog.unfollowed 4))=true:=by kernel_rfl
def alr:((Rows.meetFirstRow.recurses==Tryz.prog.recurses 4))=true:=by kernel_rfl
def amS:((Rows.meetFirstRow.named==Tryz.prog.varsNamed 4))=true:=by kernel_rfl
def amU:((Rows.meetFirstRow.maps==(Tryz.f4.params.toList++Rows.meetFirstSpec.plain.varTypes Tryz.prog).any (Tryz.prog.mapsRec ·)))=true:=by kernel_rfl
def ak1:((Rows.meetFirstRow.ifaces==(Tryz.f4.params.toList++Rows.meetFirstSpec.plain.varTypes Tryz.prog).any (Tryz.prog.ifacesRec ·)))=true:=by kernel_rfl
def amu:((Rows.meetFirstRow.mapsOut==Tryz.prog.mapsAmong Tryz.f4.resultTypes.toList))=true:=by kernel_rfl
def alP:((Rows.meetFirstRow.loops==(Tryz.f4.params.toList++Rows.meetFirstSpec.plain.varTypes Tryz.prog).any (Tryz.prog.loopsFrom ·)))=true:=by kernel_rfl
def aly:((Rows.meetFirstRow.wideKeys==(Tryz.f4.params.toList++Rows.meetFirstSpec.plain.varTypes Tryz.prog++Tryz.f4.resultTypes.toList).any (Tryz.prog.wideKeysFrom ·)))=true:=by kernel_rfl
def akT:(Rows.meetFirstSpec.vars.all (Tryz.prog.varReadable ·))=true:=by kernel_rfl
def alp:(Tryz.f4.resultTypes.all (λt=>Tryz.prog.readableRec t&&decide (t<Tryz.prog.types.size)))=true:=by kernel_rfl
def amx:((Rows.meetFirstRow.ifacesOut==Tryz.f4.resultTypes.toList.any (Tryz.prog.ifacesRec ·)))=true:=by kernel_rfl
def alh:((Rows.meetFirstRow.loopsOut==Tryz.f4.resultTypes.toList.any (Tryz.prog.loopsFrom ·)))=true:=by kernel_rfl
def ala:((Rows.meetFirstRow.plainKeys==Tryz.prog.plainKeys))=true:=by kernel_rfl
def al5:(Rows.meetFirstRow.shortTexts.isNone)=true:=by kernel_rfl
def amq:(Tryz.prog.stopsHeard)=true:=by kernel_rfl
def amX:(Tryz.prog.mayEnter)=true:=by kernel_rfl
def alm:((Rows.meetFirstRow.lifted==Tryz.prog.liftsFinal))=true:=by kernel_rfl
def alW:((Tryz.prog.make==some Rows.meetFirstRow.make))=true:=by kernel_rfl
def aln:((Rows.meetFirstRow.kinds==(if Rows.meetFirstRow.domain.isEmpty then []else Tryz.f4.params.toList.map λt=>match Tryz.prog.underlying t with|some (.int k)=>some k|_=>none)))=true:=by kernel_rfl
def ak7:((Rows.meetFirstRow.pinned==Rows.meetFirstRow.pinnedBy))=true:=by kernel_rfl
def ak4:((Rows.meetFirstRow.veiled==(Tryz.f4.params.toList++Rows.meetFirstSpec.plain.varTypes Tryz.prog++Tryz.f4.resultTypes.toList).any (Tryz.prog.veiledRec ·)))=true:=by kernel_rfl
def als:(Rows.meetFirstRow.veiledFits Tryz.prog Tryz.f4.params.toList (Tryz.f4.params.toList++Rows.meetFirstSpec.plain.varTypes Tryz.prog++Tryz.f4.resultTypes.toList))=true:=by kernel_rfl
def rq{a b:Bool}(h:a=true)(k:b=true):(a&&b)=true:=by rw[h,k];rfl
def adM:joinedFacts Tryz.pinned.checked.prog 4 Tryz.f4 Rows.meetFirstSpec Rows.meetFirstRow=true:=(rq (rq (rq (rq (rq (rq (rq (rq (rq (rq (rq (rq (rq (rq (rq (rq (rq (rq (rq (rq (rq (rq (rq (rq (rq (rq (rq (rq (rq (rq (rq jf1 jf2) jf3) jf4) jf5) jf6) jf7) jf8) jf9) amT) amO) alr) amS) amU) ak1) amu) alP) aly) akT) alp) amx) alh) ala) al5) amq) amX) alm) alW) aln) ak7) ak4) als)
end Go.Proofs.YtmnmenklbegmeaaGreat
