/- Proves rules for the walks and their soundness. -/
import Derived.Test.YtihofefpkjfmnaaGreatRows
import Derived.ProofKit
set_option linter.all false
set_option maxRecDepth 100000
namespace Go.Proofs.YtihofefpkjfmnaaGreat
def jf1:(Rows.officeNewsRow.wf (OpenSpec.ofChange Rows.officeNewsSpec))=true:=by kernel_rfl
def jf2:(laidOutB Tryz.prog)=true:=by kernel_rfl
def jf3:(mapsRowed Tryz.prog)=true:=by kernel_rfl
def jf4:(Tryz.f3.params.all (Tryz.prog.readableRec ·))=true:=by kernel_rfl
def jf5:(namedTie Tryz.prog Rows.officeNewsRow.named Rows.officeNewsSpec.vars)=true:=by kernel_rfl
def jf6:((Rows.officeNewsRow.stops==[]))=true:=by kernel_rfl
def jf7:((Tryz.prog.stops==[]))=true:=by kernel_rfl
def jf8:((Rows.officeNewsRow.knobs==[]))=true:=by kernel_rfl
def jf9:((Tryz.prog.stopKnobs==[]))=true:=by kernel_rfl
def acZ:((Rows.officeNewsRow.inPlace==Tryz.prog.inPlace 3))=true:=by kernel_rfl
def adr:((Rows.officeNewsRow.unfollowed==Tryz.prog.unfollowed 3))=true:=by kernel_rfl
def aaj:((Rows.officeNewsRow.recurses==Tryz.prog.recurses 3))=true:=by kernel_rfl
def abX:((Rows.officeNewsRow.named==Tryz.prog.varsNamed 3))=true:=by kernel_rfl
def acK:((Rows.officeNewsRow.maps==(Tryz.f3.params.toList++Rows.officeNewsSpec.plain.varTypes Tryz.prog).any (Tryz.prog.mapsRec ·)))=true:=by kernel_rfl
def aaI:((Rows.officeNewsRow.ifaces==(Tryz.f3.params.toList++Rows.officeNewsSpec.plain.varTypes Tryz.prog).any (Tryz.prog.ifacesRec ·)))=true:=by kernel_rfl
def ab5:((Rows.officeNewsRow.mapsOut==Tryz.prog.mapsAmong Tryz.f3.resultTypes.toList))=true:=by kernel_rfl
def aaH:((Rows.officeNewsRow.loops==(Tryz.f3.params.toList++Rows.officeNewsSpec.plain.varTypes Tryz.prog).any (Tryz.prog.loopsFrom ·)))=true:=by kernel_rfl
def ade:((Rows.officeNewsRow.wideKeys==(Tryz.f3.params.toList++Rows.officeNewsSpec.plain.varTypes Tryz.prog++Tryz.f3.resultTypes.toList).any (Tryz.prog.wideKeysFrom ·)))=true:=by kernel_rfl
def abJ:(Rows.officeNewsSpec.vars.all (Tryz.prog.varReadable ·))=true:=by kernel_rfl
def Z9:(Tryz.f3.resultTypes.all (λt=>Tryz.prog.readableRec t&&decide (t<Tryz.prog.types.size)))=true:=by kernel_rfl
def aaa:((Rows.officeNewsRow.ifacesOut==Tryz.f3.resultTypes.toList.any (Tryz.prog.ifacesRec ·)))=true:=by kernel_rfl
def acp:((Rows.officeNewsRow.loopsOut==Tryz.f3.resultTypes.toList.any (Tryz.prog.loopsFrom ·)))=true:=by kernel_rfl
def abo:((Rows.officeNewsRow.plainKeys==Tryz.prog.plainKeys))=true:=by kernel_rfl
def adx:(Rows.officeNewsRow.shortTexts.isNone)=true:=by kernel_rfl
def adf:(Tryz.prog.stopsHeard)=true:=by kernel_rfl
def adp:(Tryz.prog.mayEnter)=true:=by kernel_rfl
def abY:((Rows.officeNewsRow.lifted==Tryz.prog.liftsFinal))=true:=by kernel_rfl
def ab3:((Tryz.prog.make==some Rows.officeNewsRow.make))=true:=by kernel_rfl
def aan:((Rows.officeNewsRow.kinds==(if Rows.officeNewsRow.domain.isEmpty then [] else Tryz.f3.params.toList.map λt=>match Tryz.prog.underlying t with | some (.int k)=>some k | _=>none)))=true:=by kernel_rfl
def acx:((Rows.officeNewsRow.pinned==Rows.officeNewsRow.pinnedBy))=true:=by kernel_rfl
def aat:((Rows.officeNewsRow.veiled==(Tryz.f3.params.toList++Rows.officeNewsSpec.plain.varTypes Tryz.prog++Tryz.f3.resultTypes.toList).any (Tryz.prog.veiledRec ·)))=true:=by kernel_rfl
def ZJ:(Rows.officeNewsRow.veiledFits Tryz.prog Tryz.f3.params.toList (Tryz.f3.params.toList++Rows.officeNewsSpec.plain.varTypes Tryz.prog++Tryz.f3.resultTypes.toList))=true:=by kernel_rfl
def og {a b:Bool} (h:a=true) (k:b=true):(a&&b)=true:=by rw [h,k]; rfl
def Se:joinedFacts Tryz.pinned.checked.prog 3 Tryz.f3 Rows.officeNewsSpec Rows.officeNewsRow=true:=(og (og (og (og (og (og (og (og (og (og (og (og (og (og (og (og (og (og (og (og (og (og (og (og (og (og (og (og (og (og (og jf1 jf2) jf3) jf4) jf5) jf6) jf7) jf8) jf9) acZ) adr) aaj) abX) acK) aaI) ab5) aaH) ade) abJ) Z9) aaa) acp) abo) adx) adf) adp) abY) ab3) aan) acx) aat) ZJ)
end Go.Proofs.YtihofefpkjfmnaaGreat
