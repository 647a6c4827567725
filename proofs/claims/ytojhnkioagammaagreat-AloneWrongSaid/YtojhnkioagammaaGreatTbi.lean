/- Proves rules for the walks and their soundness. -/
import Derived.Test.YtojhnkioagammaaGreatRows
import Derived.ProofKit
set_option linter.all false
set_option maxRecDepth 100000
namespace Go.Proofs.YtojhnkioagammaaGreat
theorem jf1:(Rows.aloneWrongRow.wf (OpenSpec.ofChange Rows.aloneWrongSpec))=true:=by kernel_rfl
theorem jf2:(laidOutB Tryz.prog)=true:=by kernel_rfl
theorem jf3:(mapsRowed Tryz.prog)=true:=by kernel_rfl
theorem jf4:(Tryz.f3.params.all (Tryz.prog.readableRec ·))=true:=by kernel_rfl
theorem jf5:(namedTie Tryz.prog Rows.aloneWrongRow.named Rows.aloneWrongSpec.vars)=true:=by kernel_rfl
theorem jf6:((Rows.aloneWrongRow.stops==[]))=true:=by kernel_rfl
theorem jf7:((Tryz.prog.stops==[]))=true:=by kernel_rfl
theorem jf8:((Rows.aloneWrongRow.knobs==[]))=true:=by kernel_rfl
theorem jf9:((Tryz.prog.stopKnobs==[]))=true:=by kernel_rfl
theorem aaq:((Rows.aloneWrongRow.inPlace==Tryz.prog.inPlace 3))=true:=by kernel_rfl
theorem abU:((Rows.aloneWrongRow.unfollowed==Tryz.prog.unfollowed 3))=true:=by kernel_rfl
theorem aaX:((Rows.aloneWrongRow.recurses==Tryz.prog.recurses 3))=true:=by kernel_rfl
theorem aaz:((Rows.aloneWrongRow.named==Tryz.prog.varsNamed 3))=true:=by kernel_rfl
theorem ZL:((Rows.aloneWrongRow.maps==(Tryz.f3.params.toList++Rows.aloneWrongSpec.plain.varTypes Tryz.prog).any (Tryz.prog.mapsRec ·)))=true:=by kernel_rfl
theorem aag:((Rows.aloneWrongRow.ifaces==(Tryz.f3.params.toList++Rows.aloneWrongSpec.plain.varTypes Tryz.prog).any (Tryz.prog.ifacesRec ·)))=true:=by kernel_rfl
theorem aaH:((Rows.aloneWrongRow.mapsOut==Tryz.prog.mapsAmong Tryz.f3.resultTypes.toList))=true:=by kernel_rfl
theorem aal:((Rows.aloneWrongRow.loops==(Tryz.f3.params.toList++Rows.aloneWrongSpec.plain.varTypes Tryz.prog).any (Tryz.prog.loopsFrom ·)))=true:=by kernel_rfl
theorem ab5:((Rows.aloneWrongRow.wideKeys==(Tryz.f3.params.toList++Rows.aloneWrongSpec.plain.varTypes Tryz.prog++Tryz.f3.resultTypes.toList).any (Tryz.prog.wideKeysFrom ·)))=true:=by kernel_rfl
theorem abM:(Rows.aloneWrongSpec.vars.all (Tryz.prog.varReadable ·))=true:=by kernel_rfl
theorem Za:(Tryz.f3.resultTypes.all (fun t=>Tryz.prog.readableRec t&&decide (t<Tryz.prog.types.size)))=true:=by kernel_rfl
theorem Zz:((Rows.aloneWrongRow.ifacesOut==Tryz.f3.resultTypes.toList.any (Tryz.prog.ifacesRec ·)))=true:=by kernel_rfl
theorem ab6:((Rows.aloneWrongRow.loopsOut==Tryz.f3.resultTypes.toList.any (Tryz.prog.loopsFrom ·)))=true:=by kernel_rfl
theorem Z4:((Rows.aloneWrongRow.plainKeys==Tryz.prog.plainKeys))=true:=by kernel_rfl
theorem aa0:(Rows.aloneWrongRow.shortTexts.isNone)=true:=by kernel_rfl
theorem aca:(Tryz.prog.stopsHeard)=true:=by kernel_rfl
theorem aaC:(Tryz.prog.mayEnter)=true:=by kernel_rfl
theorem aaD:((Rows.aloneWrongRow.lifted==Tryz.prog.liftsFinal))=true:=by kernel_rfl
theorem abw:((Tryz.prog.make==some Rows.aloneWrongRow.make))=true:=by kernel_rfl
theorem abI:((Rows.aloneWrongRow.kinds==(if Rows.aloneWrongRow.domain.isEmpty then [] else Tryz.f3.params.toList.map fun t=>match Tryz.prog.underlying t with | some (.int k)=>some k | _=>none)))=true:=by kernel_rfl
theorem acr:((Rows.aloneWrongRow.pinned==Rows.aloneWrongRow.pinnedBy))=true:=by kernel_rfl
theorem aa8:((Rows.aloneWrongRow.veiled==(Tryz.f3.params.toList++Rows.aloneWrongSpec.plain.varTypes Tryz.prog++Tryz.f3.resultTypes.toList).any (Tryz.prog.veiledRec ·)))=true:=by kernel_rfl
theorem abN:(Rows.aloneWrongRow.veiledFits Tryz.prog Tryz.f3.params.toList (Tryz.f3.params.toList++Rows.aloneWrongSpec.plain.varTypes Tryz.prog++Tryz.f3.resultTypes.toList))=true:=by kernel_rfl
theorem jY {a b:Bool} (h:a=true) (k:b=true):(a&&b)=true:=by rw [h,k]; rfl
theorem QC:joinedFacts Tryz.pinned.checked.prog 3 Tryz.f3 Rows.aloneWrongSpec Rows.aloneWrongRow=true:=(jY (jY (jY (jY (jY (jY (jY (jY (jY (jY (jY (jY (jY (jY (jY (jY (jY (jY (jY (jY (jY (jY (jY (jY (jY (jY (jY (jY (jY (jY (jY jf1 jf2) jf3) jf4) jf5) jf6) jf7) jf8) jf9) aaq) abU) aaX) aaz) ZL) aag) aaH) aal) ab5) abM) Za) Zz) ab6) Z4) aa0) aca) aaC) aaD) abw) abI) acr) aa8) abN)
end Go.Proofs.YtojhnkioagammaaGreat
