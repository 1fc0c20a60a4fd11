/- The closed facts of the row of TxnNumbers. -/
import Derived.Test.YtejdoilocmoojaaGreatRows
import Derived.ProofKit
import Derived.RowKit
import Derived.KernelRfl
set_option linter.unusedSimpArgs false
set_option linter.unusedVariables false
namespace Go.Proofs.YtejdoilocmoojaaGreat
open Go.ChangeShapes Go.WideShapes Go.ChangeAt Go.RowKit
theorem fact_wf : (Rows.txnNumbersRow.wf (OpenSpec.ofChange Rows.txnNumbersSpec)) = true := by kernel_rfl
theorem fact_lo : (laidOutB Tryz.prog) = true := by kernel_rfl
theorem fact_mr : (mapsRowed Tryz.prog) = true := by kernel_rfl
theorem fact_pr : (Tryz.f3.params.all (Tryz.prog.readableRec ·)) = true := by kernel_rfl
theorem fact_nt : (namedTie Tryz.prog Rows.txnNumbersRow.named Rows.txnNumbersSpec.vars) = true := by kernel_rfl
theorem fact_s1 : ((Rows.txnNumbersRow.stops == [])) = true := by kernel_rfl
theorem fact_s2 : ((Tryz.prog.stops == [])) = true := by kernel_rfl
theorem fact_s3 : ((Rows.txnNumbersRow.knobs == [])) = true := by kernel_rfl
theorem fact_s4 : ((Tryz.prog.stopKnobs == [])) = true := by kernel_rfl
theorem fact_ip : ((Rows.txnNumbersRow.inPlace == Tryz.prog.inPlace 3)) = true := by kernel_rfl
theorem fact_uf : ((Rows.txnNumbersRow.unfollowed == Tryz.prog.unfollowed 3)) = true := by kernel_rfl
theorem fact_rc : ((Rows.txnNumbersRow.recurses == Tryz.prog.recurses 3)) = true := by kernel_rfl
theorem fact_nm : ((Rows.txnNumbersRow.named == Tryz.prog.varsNamed 3)) = true := by kernel_rfl
theorem fact_m1 : ((Rows.txnNumbersRow.maps == (Tryz.f3.params.toList ++ Rows.txnNumbersSpec.plain.varTypes Tryz.prog).any (Tryz.prog.mapsRec ·))) = true := by kernel_rfl
theorem fact_m2 : ((Rows.txnNumbersRow.ifaces == (Tryz.f3.params.toList ++ Rows.txnNumbersSpec.plain.varTypes Tryz.prog).any (Tryz.prog.ifacesRec ·))) = true := by kernel_rfl
theorem fact_m3 : ((Rows.txnNumbersRow.mapsOut == Tryz.prog.mapsAmong Tryz.f3.resultTypes.toList)) = true := by kernel_rfl
theorem fact_m4 : ((Rows.txnNumbersRow.loops == (Tryz.f3.params.toList ++ Rows.txnNumbersSpec.plain.varTypes Tryz.prog).any (Tryz.prog.loopsFrom ·))) = true := by kernel_rfl
theorem fact_m5 : ((Rows.txnNumbersRow.wideKeys == (Tryz.f3.params.toList ++ Rows.txnNumbersSpec.plain.varTypes Tryz.prog ++ Tryz.f3.resultTypes.toList).any (Tryz.prog.wideKeysFrom ·))) = true := by kernel_rfl
theorem fact_v1 : (Rows.txnNumbersSpec.vars.all (Tryz.prog.varReadable ·)) = true := by kernel_rfl
theorem fact_r1 : (Tryz.f3.resultTypes.all (fun t => Tryz.prog.readableRec t && decide (t < Tryz.prog.types.size))) = true := by kernel_rfl
theorem fact_r2 : ((Rows.txnNumbersRow.ifacesOut == Tryz.f3.resultTypes.toList.any (Tryz.prog.ifacesRec ·))) = true := by kernel_rfl
theorem fact_r3 : ((Rows.txnNumbersRow.loopsOut == Tryz.f3.resultTypes.toList.any (Tryz.prog.loopsFrom ·))) = true := by kernel_rfl
theorem fact_pk : ((Rows.txnNumbersRow.plainKeys == Tryz.prog.plainKeys)) = true := by kernel_rfl
theorem fact_st : (Rows.txnNumbersRow.shortTexts.isNone) = true := by kernel_rfl
theorem fact_sh : (Tryz.prog.stopsHeard) = true := by kernel_rfl
theorem fact_me : (Tryz.prog.mayEnter) = true := by kernel_rfl
theorem fact_lf : ((Rows.txnNumbersRow.lifted == Tryz.prog.liftsFinal)) = true := by kernel_rfl
theorem fact_mk : ((Tryz.prog.make == some Rows.txnNumbersRow.make)) = true := by kernel_rfl
theorem fact_pn : ((Rows.txnNumbersRow.pinned == Rows.txnNumbersRow.pinnedBy)) = true := by kernel_rfl
theorem fact_ve : ((Rows.txnNumbersRow.veiled == (Tryz.f3.params.toList ++ Rows.txnNumbersSpec.plain.varTypes Tryz.prog ++ Tryz.f3.resultTypes.toList).any (Tryz.prog.veiledRec ·))) = true := by kernel_rfl
theorem fact_vf : (Rows.txnNumbersRow.veiledFits Tryz.prog Tryz.f3.params.toList (Tryz.f3.params.toList ++ Rows.txnNumbersSpec.plain.varTypes Tryz.prog ++ Tryz.f3.resultTypes.toList)) = true := by kernel_rfl
theorem facts : joinedFacts Tryz.prog 3 Tryz.f3 Rows.txnNumbersSpec Rows.txnNumbersRow = true := by
  unfold joinedFacts
  rw [fact_wf, fact_lo, fact_mr, fact_pr, fact_nt, fact_s1, fact_s2, fact_s3, fact_s4, fact_ip, fact_uf, fact_rc, fact_nm, fact_m1, fact_m2, fact_m3, fact_m4, fact_m5, fact_v1, fact_r1, fact_r2, fact_r3, fact_pk, fact_st, fact_sh, fact_me, fact_lf, fact_mk, fact_pn, fact_ve, fact_vf]
  kernel_rfl
end Go.Proofs.YtejdoilocmoojaaGreat
