/- The seat's environment at a call's begin; the witness; from a law's contract to its card. -/
import Derived.Test.YtdajoilaakiinaaGreatDoorMB
import Derived.Test.YtdajoilaakiinaaGreatDoorMC
import Derived.Test.YtdajoilaakiinaaGreatDoorCards
import Derived.Test.YtdajoilaakiinaaGreatDoorTie
import Derived.LaidMore
set_option linter.unusedSimpArgs false
set_option linter.unusedVariables false
namespace Go.Proofs.YtdajoilaakiinaaGreatDoor.Awp
open Go Go.ChangeShapes Go.WideShapes Go.ChangeAt Go.RowKit Go.Proofs
set_option maxRecDepth 100000

theorem own : ownKnob Tryz.prog.godebug = none := by kernel_rfl
noncomputable def laidWorld (os : Os) : World := World.doorLaid Tryz.prog 400 os
theorem laid_met (os : Os) (args : Array Value) : laidMet Tryz.prog Rows.creditLimitsRow.laid ((laidWorld os).forCall (fun _ _ => 0) ⟨#[], args, []⟩).memory :=
  laidMet_of_run' 8 (by kernel_rfl) (by kernel_rfl)
theorem glob_EE {W : World} (hL : laidMetH Tryz.prog Rows.creditLimitsRow.laid W) (g : Nat) (cs : List PV) (h : EE.G g = some cs) : GlobRep (Used noStore noMu) noMu W g cs := by
  simp only [EE] at h
  split at h
  · rename_i hg
    cases h
    subst hg
    refine glob_of (P := Tryz.prog) no_used (laid_var (T := (· ∈ [3, 27])) (flatT_of (by kernel_rfl)) hL (by kernel_rfl) (n := "assessor/credit.zero") (d := Rows.laid_assessor_credit_zero) (t := 27) (by simp [Rows.creditLimitsRow]) (by kernel_rfl) (by kernel_rfl) (by decide) (by kernel_rfl))
  · split at h
    · rename_i hg
      cases h
      subst hg
      exact glob_of (P := Tryz.prog) no_used (laid_var (T := (· ∈ [138, 147])) (flatT_of (by kernel_rfl)) hL (by kernel_rfl) (n := "internal/strconv.uint64pow10") (d := Rows.laid_internal_strconv_uint64pow10) (t := 147) (by simp [Rows.creditLimitsRow]) (by kernel_rfl) (by kernel_rfl) (by decide) (by kernel_rfl))
    · cases h
end Go.Proofs.YtdajoilaakiinaaGreatDoor.Awp
