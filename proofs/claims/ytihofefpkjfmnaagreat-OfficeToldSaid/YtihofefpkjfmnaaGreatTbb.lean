/- Proves rules for the walks and their soundness. -/
import Derived.Test.YtihofefpkjfmnaaGreatRows
import Derived.ProofKit
set_option linter.all false
set_option maxRecDepth 100000
namespace Go.Proofs.YtihofefpkjfmnaaGreat
def jf1:(Rows.officeToldRow.wf (OpenSpec.ofChange Rows.officeToldSpec))=true:=by kernel_rfl
def jf2:(laidOutB Tryz.prog)=true:=by kernel_rfl
def jf3:(mapsRowed Tryz.prog)=true:=by kernel_rfl
def jf4:(Tryz.f4.params.all (Tryz.prog.readableRec ·))=true:=by kernel_rfl
def jf5:(namedTie Tryz.prog Rows.officeToldRow.named Rows.officeToldSpec.vars)=true:=by kernel_rfl
def jf6:((Rows.officeToldRow.stops==[]))=true:=by kernel_rfl
def jf7:((Tryz.prog.stops==[]))=true:=by kernel_rfl
def jf8:((Rows.officeToldRow.knobs==[]))=true:=by kernel_rfl
def jf9:((Tryz.prog.stopKnobs==[]))=true:=by kernel_rfl
def aag:((Rows.officeToldRow.inPlace==Tryz.prog.inPlace 4))=true:=by kernel_rfl
def ZC:((Rows.officeToldRow.unfollowed==Tryz.prog.unfollowed 4))=true:=by kernel_rfl
def aa8:((Rows.officeToldRow.recurses==Tryz.prog.recurses 4))=true:=by kernel_rfl
def YH:((Rows.officeToldRow.named==Tryz.prog.varsNamed 4))=true:=by kernel_rfl
def aaA:((Rows.officeToldRow.maps==(Tryz.f4.params.toList++Rows.officeToldSpec.plain.varTypes Tryz.prog).any (Tryz.prog.mapsRec ·)))=true:=by kernel_rfl
def Wo:((Rows.officeToldRow.ifaces==(Tryz.f4.params.toList++Rows.officeToldSpec.plain.varTypes Tryz.prog).any (Tryz.prog.ifacesRec ·)))=true:=by kernel_rfl
def aaB:((Rows.officeToldRow.mapsOut==Tryz.prog.mapsAmong Tryz.f4.resultTypes.toList))=true:=by kernel_rfl
def XW:((Rows.officeToldRow.loops==(Tryz.f4.params.toList++Rows.officeToldSpec.plain.varTypes Tryz.prog).any (Tryz.prog.loopsFrom ·)))=true:=by kernel_rfl
def ZP:((Rows.officeToldRow.wideKeys==(Tryz.f4.params.toList++Rows.officeToldSpec.plain.varTypes Tryz.prog++Tryz.f4.resultTypes.toList).any (Tryz.prog.wideKeysFrom ·)))=true:=by kernel_rfl
def abd:(Rows.officeToldSpec.vars.all (Tryz.prog.varReadable ·))=true:=by kernel_rfl
def WI:(Tryz.f4.resultTypes.all (λt=>Tryz.prog.readableRec t&&decide (t<Tryz.prog.types.size)))=true:=by kernel_rfl
def aaV:((Rows.officeToldRow.ifacesOut==Tryz.f4.resultTypes.toList.any (Tryz.prog.ifacesRec ·)))=true:=by kernel_rfl
def Zg:((Rows.officeToldRow.loopsOut==Tryz.f4.resultTypes.toList.any (Tryz.prog.loopsFrom ·)))=true:=by kernel_rfl
def WV:((Rows.officeToldRow.plainKeys==Tryz.prog.plainKeys))=true:=by kernel_rfl
def aaD:(Rows.officeToldRow.shortTexts.isNone)=true:=by kernel_rfl
def abi:(Tryz.prog.stopsHeard)=true:=by kernel_rfl
def aau:(Tryz.prog.mayEnter)=true:=by kernel_rfl
def Zm:((Rows.officeToldRow.lifted==Tryz.prog.liftsFinal))=true:=by kernel_rfl
def Y8:((Tryz.prog.make==some Rows.officeToldRow.make))=true:=by kernel_rfl
def XG:((Rows.officeToldRow.kinds==(if Rows.officeToldRow.domain.isEmpty then [] else Tryz.f4.params.toList.map λt=>match Tryz.prog.underlying t with | some (.int k)=>some k | _=>none)))=true:=by kernel_rfl
def abg:((Rows.officeToldRow.pinned==Rows.officeToldRow.pinnedBy))=true:=by kernel_rfl
def Xj:((Rows.officeToldRow.veiled==(Tryz.f4.params.toList++Rows.officeToldSpec.plain.varTypes Tryz.prog++Tryz.f4.resultTypes.toList).any (Tryz.prog.veiledRec ·)))=true:=by kernel_rfl
def aab:(Rows.officeToldRow.veiledFits Tryz.prog Tryz.f4.params.toList (Tryz.f4.params.toList++Rows.officeToldSpec.plain.varTypes Tryz.prog++Tryz.f4.resultTypes.toList))=true:=by kernel_rfl
def oF {a b:Bool} (h:a=true) (k:b=true):(a&&b)=true:=by rw [h,k]; rfl
def P2:joinedFacts Tryz.pinned.checked.prog 4 Tryz.f4 Rows.officeToldSpec Rows.officeToldRow=true:=(oF (oF (oF (oF (oF (oF (oF (oF (oF (oF (oF (oF (oF (oF (oF (oF (oF (oF (oF (oF (oF (oF (oF (oF (oF (oF (oF (oF (oF (oF (oF jf1 jf2) jf3) jf4) jf5) jf6) jf7) jf8) jf9) aag) ZC) aa8) YH) aaA) Wo) aaB) XW) ZP) abd) WI) aaV) Zg) WV) aaD) abi) aau) Zm) Y8) XG) abg) Xj) aab)
end Go.Proofs.YtihofefpkjfmnaaGreat
