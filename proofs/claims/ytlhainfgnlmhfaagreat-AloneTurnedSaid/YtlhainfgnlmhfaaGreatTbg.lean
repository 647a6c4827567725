/- Proves rules for the walks and their soundness. -/
import Derived.Test.YtlhainfgnlmhfaaGreatRows
import Derived.ProofKit
set_option linter.all false
set_option maxRecDepth 100000
namespace Go.Proofs.YtlhainfgnlmhfaaGreat
theorem Wl:(Rows.aloneTurnedRow.wf (OpenSpec.ofChange Rows.aloneTurnedSpec))=true:=by kernel_rfl
theorem We:(laidOutB Tryz.prog)=true:=by kernel_rfl
theorem Xb:(mapsRowed Tryz.prog)=true:=by kernel_rfl
theorem Xa:(Tryz.f3.params.all (Tryz.prog.readableRec ·))=true:=by kernel_rfl
theorem VY:(namedTie Tryz.prog Rows.aloneTurnedRow.named Rows.aloneTurnedSpec.vars)=true:=by kernel_rfl
theorem V7:((Rows.aloneTurnedRow.stops==[]))=true:=by kernel_rfl
theorem Xn:((Tryz.prog.stops==[]))=true:=by kernel_rfl
theorem V9:((Rows.aloneTurnedRow.knobs==[]))=true:=by kernel_rfl
theorem Wq:((Tryz.prog.stopKnobs==[]))=true:=by kernel_rfl
theorem Ua:((Rows.aloneTurnedRow.inPlace==Tryz.prog.inPlace 3))=true:=by kernel_rfl
theorem T4:((Rows.aloneTurnedRow.unfollowed==Tryz.prog.unfollowed 3))=true:=by kernel_rfl
theorem Ux:((Rows.aloneTurnedRow.recurses==Tryz.prog.recurses 3))=true:=by kernel_rfl
theorem Ts:((Rows.aloneTurnedRow.named==Tryz.prog.varsNamed 3))=true:=by kernel_rfl
theorem UW:((Rows.aloneTurnedRow.maps==(Tryz.f3.params.toList++Rows.aloneTurnedSpec.plain.varTypes Tryz.prog).any (Tryz.prog.mapsRec ·)))=true:=by kernel_rfl
theorem U4:((Rows.aloneTurnedRow.ifaces==(Tryz.f3.params.toList++Rows.aloneTurnedSpec.plain.varTypes Tryz.prog).any (Tryz.prog.ifacesRec ·)))=true:=by kernel_rfl
theorem UP:((Rows.aloneTurnedRow.mapsOut==Tryz.prog.mapsAmong Tryz.f3.resultTypes.toList))=true:=by kernel_rfl
theorem Tt:((Rows.aloneTurnedRow.loops==(Tryz.f3.params.toList++Rows.aloneTurnedSpec.plain.varTypes Tryz.prog).any (Tryz.prog.loopsFrom ·)))=true:=by kernel_rfl
theorem Uw:((Rows.aloneTurnedRow.wideKeys==(Tryz.f3.params.toList++Rows.aloneTurnedSpec.plain.varTypes Tryz.prog++Tryz.f3.resultTypes.toList).any (Tryz.prog.wideKeysFrom ·)))=true:=by kernel_rfl
theorem VE:(Rows.aloneTurnedSpec.vars.all (Tryz.prog.varReadable ·))=true:=by kernel_rfl
theorem Tz:(Tryz.f3.resultTypes.all (fun t=>Tryz.prog.readableRec t&&decide (t<Tryz.prog.types.size)))=true:=by kernel_rfl
theorem UG:((Rows.aloneTurnedRow.ifacesOut==Tryz.f3.resultTypes.toList.any (Tryz.prog.ifacesRec ·)))=true:=by kernel_rfl
theorem Vi:((Rows.aloneTurnedRow.loopsOut==Tryz.f3.resultTypes.toList.any (Tryz.prog.loopsFrom ·)))=true:=by kernel_rfl
theorem TC:((Rows.aloneTurnedRow.plainKeys==Tryz.prog.plainKeys))=true:=by kernel_rfl
theorem UD:(Rows.aloneTurnedRow.shortTexts.isNone)=true:=by kernel_rfl
theorem Uo:(Tryz.prog.stopsHeard)=true:=by kernel_rfl
theorem U8:(Tryz.prog.mayEnter)=true:=by kernel_rfl
theorem Ta:((Rows.aloneTurnedRow.lifted==Tryz.prog.liftsFinal))=true:=by kernel_rfl
theorem S9:((Tryz.prog.make==some Rows.aloneTurnedRow.make))=true:=by kernel_rfl
theorem S8:((Rows.aloneTurnedRow.kinds==(if Rows.aloneTurnedRow.domain.isEmpty then [] else Tryz.f3.params.toList.map fun t=>match Tryz.prog.underlying t with | some (.int k)=>some k | _=>none)))=true:=by kernel_rfl
theorem SJ:((Rows.aloneTurnedRow.pinned==Rows.aloneTurnedRow.pinnedBy))=true:=by kernel_rfl
theorem VB:((Rows.aloneTurnedRow.veiled==(Tryz.f3.params.toList++Rows.aloneTurnedSpec.plain.varTypes Tryz.prog++Tryz.f3.resultTypes.toList).any (Tryz.prog.veiledRec ·)))=true:=by kernel_rfl
theorem TZ:(Rows.aloneTurnedRow.veiledFits Tryz.prog Tryz.f3.params.toList (Tryz.f3.params.toList++Rows.aloneTurnedSpec.plain.varTypes Tryz.prog++Tryz.f3.resultTypes.toList))=true:=by kernel_rfl
theorem iB {a b:Bool} (h:a=true) (k:b=true):(a&&b)=true:=by rw [h,k]; rfl
theorem Kz:joinedFacts Tryz.pinned.checked.prog 3 Tryz.f3 Rows.aloneTurnedSpec Rows.aloneTurnedRow=true:=(iB (iB (iB (iB (iB (iB (iB (iB (iB (iB (iB (iB (iB (iB (iB (iB (iB (iB (iB (iB (iB (iB (iB (iB (iB (iB (iB (iB (iB (iB (iB Wl We) Xb) Xa) VY) V7) Xn) V9) Wq) Ua) T4) Ux) Ts) UW) U4) UP) Tt) Uw) VE) Tz) UG) Vi) TC) UD) Uo) U8) Ta) S9) S8) SJ) VB) TZ)
end Go.Proofs.YtlhainfgnlmhfaaGreat
