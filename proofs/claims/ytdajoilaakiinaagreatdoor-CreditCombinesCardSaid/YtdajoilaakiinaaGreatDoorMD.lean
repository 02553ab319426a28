/- credit.maker: the other steps; finish. -/
import Derived.Test.YtdajoilaakiinaaGreatDoorMC
import Derived.Test.YtdajoilaakiinaaGreatDoorIM
import Derived.Test.YtdajoilaakiinaaGreatDoorMB
set_option linter.unusedSimpArgs false
set_option linter.unusedVariables false
namespace Go.Proofs.YtdajoilaakiinaaGreatDoor.Awp
open Go Go.Proofs
set_option linter.unusedSimpArgs false
set_option linter.unusedVariables false
set_option maxRecDepth 10000
set_option maxHeartbeats 4000000

def penaltyS (l : Line) (m : MK) : MK :=
  let w := if lessS m.pts (weightS l) = true then m.pts else weightS l
  becomeS m l.name (fsub m.pts w) (fsubErr m.pts w)
theorem penalty_fn {σ : Store} {nx k : Nat} {ls : List Line} {m : MK} (hwf : Wf σ nx) (h : MkAt σ k (.list (ls.map Line.cs)) m) (hl : m.parts.length ≤ 1000000) (hls : ls.length ≤ 1000000) {i : Nat} {l : Line} (hi : ls[i]? = some l) :
    ∃ σ' nx', Fn EE 60 σ nx [.int .i64 i, .cells [.ptr k 0 0]] (.ret (.tup [])) σ' nx' ∧ MkAt σ' k (.list (ls.map Line.cs)) (penaltyS l m) ∧ MkStep σ nx k σ' nx' := by
  have hN := h.old hwf
  obtain ⟨hkn, pv, l2, hk, hp⟩ := id hN
  simp only [MK.row] at hk
  have hlt : ∀ a ∈ [PV.int .i64 i, PV.cells [.ptr k 0 0]], Lt nx a := by
    (simp only [push_cast, Nat.reduceEqDiff, Nat.reduceAdd, Nat.reduceMul, Nat.reduceLeDiff, Nat.reduceLT, reduceIte, reduceCtorEq, Nat.reduceShiftRight, Nat.reduceAnd, Nat.reducePow, Nat.reduceOr, Nat.reduceBNe, Nat.reduceBEq, Int.reduceToNat, Int.reduceLT, Int.reduceLE, Int.reduceGT, Int.reduceGE, Int.reduceEq, Int.reduceNe, Int.reduceNeg, Int.reduceAdd, Int.reduceSub, Int.reduceMul, lt_int, lt_bool, lt_str, lt_nil, lt_empty, lt_agg, lt_tup, lt_list, lt_cells, lt_fn, lt_ptr, lt_row, lt_nilp, lt_nilfn, lt_nili, List.mem_cons, List.not_mem_nil, or_false, forall_eq_or_imp, forall_eq, and_true, true_and, and_self, implies_true, false_implies]; try omega)
  have hget : (ls.map Line.cs)[i]? = some l.cs := by rw [List.getElem?_map, hi]; rfl
  have hil : i < ls.length := (List.getElem?_eq_some_iff.1 hi).1
  have hi0 : (0 : Int) ≤ i := by omega
  have hi1 : (i : Int) < ls.length := by omega
  refine fn_ex' goodEE (by rw [EE_P]; exact Tryz.func60) rfl rfl (by kernel_rfl) (Nat.le_of_ble_eq_true rfl) hwf hlt ?_
  rw [show Tryz.f60.results.toList = [] from rfl]
  refine awp_begin _ _ _ _ _ (cc := _) (by conv => lhs; simp only [push_cast, Nat.reduceEqDiff, Nat.reduceAdd, Nat.reduceMul, Nat.reduceLeDiff, Nat.reduceLT, reduceIte, reduceCtorEq, Nat.reduceShiftRight, Nat.reduceAnd, Nat.reducePow, Nat.reduceOr, Nat.reduceBNe, Nat.reduceBEq, Int.reduceToNat, Int.reduceLT, Int.reduceLE, Int.reduceGT, Int.reduceGE, Int.reduceEq, Int.reduceNe, Int.reduceNeg, Int.reduceAdd, Int.reduceSub, Int.reduceMul, Tryz.f60]) ?_
  simp only [push_cast, Nat.reduceEqDiff, Nat.reduceAdd, Nat.reduceMul, Nat.reduceLeDiff, Nat.reduceLT, reduceIte, reduceCtorEq, Nat.reduceShiftRight, Nat.reduceAnd, Nat.reducePow, Nat.reduceOr, Nat.reduceBNe, Nat.reduceBEq, Int.reduceToNat, Int.reduceLT, Int.reduceLE, Int.reduceGT, Int.reduceGE, Int.reduceEq, Int.reduceNe, Int.reduceNeg, Int.reduceAdd, Int.reduceSub, Int.reduceMul, EE_P]
  repeat' (first | simp only [push_cast, Nat.reduceEqDiff, Nat.reduceAdd, Nat.reduceMul, Nat.reduceLeDiff, Nat.reduceLT, reduceIte, reduceCtorEq, Nat.reduceShiftRight, Nat.reduceAnd, Nat.reducePow, Nat.reduceOr, Nat.reduceBNe, Nat.reduceBEq, Int.reduceToNat, Int.reduceLT, Int.reduceLE, Int.reduceGT, Int.reduceGE, Int.reduceEq, Int.reduceNe, Int.reduceNeg, Int.reduceAdd, Int.reduceSub, Int.reduceMul, EE_P, hk, (key_ne hkn).1, (key_ne hkn).2.1, (key_ne hkn).2.2.1, (key_ne hkn).2.2.2, hget, hi0, hi1, List.length_map, Int.toNat_natCast] | simp (disch := omega) only [wrap_fits] | ((first | with_reducible apply wcall_pure | with_reducible apply wdcall_pure); focus (first | assumption | exact sub_fn goodEE EE_P _ _ _ _ | exact weight_fn goodEE EE_P EE_zero _ _ _ _ _ _ _ | exact less_fn goodEE EE_P _ _ _ _)) | (with_reducible refine wguard_split_t (fun h => ?_) (fun h => ?_)) | (with_reducible refine wguard_split_f (fun h => ?_) (fun h => ?_)) | (with_reducible refine wcond_split (fun h => ?_) (fun h => ?_)) | (with_reducible refine wdguard_split_t (fun h => ?_) (fun h => ?_)) | (with_reducible refine wdguard_split_f (fun h => ?_) (fun h => ?_)) | (with_reducible refine And.intro (fun h => ?_) (fun h => ?_)) | (with_reducible apply And.intro; focus omega))
  · refine wdcall_mk (fun σ nx hw hm => become_fn hw hm hl l.name (fsub m.pts m.pts) (fsubErr m.pts m.pts)) (σ0 := σ) (nx0 := nx) (lv := .list (ls.map Line.cs)) ?_ ?_ ?_ ?_
    · (repeat' (first | exact MkStep.base hwf (by omega) | exact MkStep.mono (by assumption) (by omega) | refine MkStep.new ?_ hkn (by omega) (by omega) (by simp only [ObjLt, push_cast, Nat.reduceEqDiff, Nat.reduceAdd, Nat.reduceMul, Nat.reduceLeDiff, Nat.reduceLT, reduceIte, reduceCtorEq, Nat.reduceShiftRight, Nat.reduceAnd, Nat.reducePow, Nat.reduceOr, Nat.reduceBNe, Nat.reduceBEq, Int.reduceToNat, Int.reduceLT, Int.reduceLE, Int.reduceGT, Int.reduceGE, Int.reduceEq, Int.reduceNe, Int.reduceNeg, Int.reduceAdd, Int.reduceSub, Int.reduceMul, lt_int, lt_bool, lt_str, lt_nil, lt_empty, lt_agg, lt_tup, lt_list, lt_cells, lt_fn, lt_ptr, lt_row, lt_nilp, lt_nilfn, lt_nili, List.mem_cons, List.not_mem_nil, or_false, forall_eq_or_imp, forall_eq, and_true, true_and, and_self, implies_true, false_implies]; try omega)))
    · (repeat' (first | exact hN | assumption | refine MkAtN.new ?_ (by omega)))
    · simp
    · intro σ' nx' hm hs
      repeat' (first | simp only [push_cast, Nat.reduceEqDiff, Nat.reduceAdd, Nat.reduceMul, Nat.reduceLeDiff, Nat.reduceLT, reduceIte, reduceCtorEq, Nat.reduceShiftRight, Nat.reduceAnd, Nat.reducePow, Nat.reduceOr, Nat.reduceBNe, Nat.reduceBEq, Int.reduceToNat, Int.reduceLT, Int.reduceLE, Int.reduceGT, Int.reduceGE, Int.reduceEq, Int.reduceNe, Int.reduceNeg, Int.reduceAdd, Int.reduceSub, Int.reduceMul, EE_P] | simp (disch := omega) only [wrap_fits] | ((first | with_reducible apply wcall_pure | with_reducible apply wdcall_pure); focus (first | assumption | exact sub_fn goodEE EE_P _ _ _ _ | exact weight_fn goodEE EE_P EE_zero _ _ _ _ _ _ _ | exact less_fn goodEE EE_P _ _ _ _)) | (with_reducible refine wguard_split_t (fun h => ?_) (fun h => ?_)) | (with_reducible refine wguard_split_f (fun h => ?_) (fun h => ?_)) | (with_reducible refine wcond_split (fun h => ?_) (fun h => ?_)) | (with_reducible refine wdguard_split_t (fun h => ?_) (fun h => ?_)) | (with_reducible refine wdguard_split_f (fun h => ?_) (fun h => ?_)) | (with_reducible refine And.intro (fun h => ?_) (fun h => ?_)) | (with_reducible apply And.intro; focus omega))
      rw [show penaltyS l m = _ from by unfold penaltyS; rw [if_pos (by simp [lessS, weightS, *])]]
      exact ends_mk trivial hm hs
  · refine wdcall_mk (fun σ nx hw hm => become_fn hw hm hl l.name (fsub m.pts (weightS l)) (fsubErr m.pts (weightS l))) (σ0 := σ) (nx0 := nx) (lv := .list (ls.map Line.cs)) ?_ ?_ ?_ ?_
    · (repeat' (first | exact MkStep.base hwf (by omega) | exact MkStep.mono (by assumption) (by omega) | refine MkStep.new ?_ hkn (by omega) (by omega) (by simp only [ObjLt, push_cast, Nat.reduceEqDiff, Nat.reduceAdd, Nat.reduceMul, Nat.reduceLeDiff, Nat.reduceLT, reduceIte, reduceCtorEq, Nat.reduceShiftRight, Nat.reduceAnd, Nat.reducePow, Nat.reduceOr, Nat.reduceBNe, Nat.reduceBEq, Int.reduceToNat, Int.reduceLT, Int.reduceLE, Int.reduceGT, Int.reduceGE, Int.reduceEq, Int.reduceNe, Int.reduceNeg, Int.reduceAdd, Int.reduceSub, Int.reduceMul, lt_int, lt_bool, lt_str, lt_nil, lt_empty, lt_agg, lt_tup, lt_list, lt_cells, lt_fn, lt_ptr, lt_row, lt_nilp, lt_nilfn, lt_nili, List.mem_cons, List.not_mem_nil, or_false, forall_eq_or_imp, forall_eq, and_true, true_and, and_self, implies_true, false_implies]; try omega)))
    · (repeat' (first | exact hN | assumption | refine MkAtN.new ?_ (by omega)))
    · simp
    · intro σ' nx' hm hs
      repeat' (first | simp only [push_cast, Nat.reduceEqDiff, Nat.reduceAdd, Nat.reduceMul, Nat.reduceLeDiff, Nat.reduceLT, reduceIte, reduceCtorEq, Nat.reduceShiftRight, Nat.reduceAnd, Nat.reducePow, Nat.reduceOr, Nat.reduceBNe, Nat.reduceBEq, Int.reduceToNat, Int.reduceLT, Int.reduceLE, Int.reduceGT, Int.reduceGE, Int.reduceEq, Int.reduceNe, Int.reduceNeg, Int.reduceAdd, Int.reduceSub, Int.reduceMul, EE_P] | simp (disch := omega) only [wrap_fits] | ((first | with_reducible apply wcall_pure | with_reducible apply wdcall_pure); focus (first | assumption | exact sub_fn goodEE EE_P _ _ _ _ | exact weight_fn goodEE EE_P EE_zero _ _ _ _ _ _ _ | exact less_fn goodEE EE_P _ _ _ _)) | (with_reducible refine wguard_split_t (fun h => ?_) (fun h => ?_)) | (with_reducible refine wguard_split_f (fun h => ?_) (fun h => ?_)) | (with_reducible refine wcond_split (fun h => ?_) (fun h => ?_)) | (with_reducible refine wdguard_split_t (fun h => ?_) (fun h => ?_)) | (with_reducible refine wdguard_split_f (fun h => ?_) (fun h => ?_)) | (with_reducible refine And.intro (fun h => ?_) (fun h => ?_)) | (with_reducible apply And.intro; focus omega))
      rw [show penaltyS l m = _ from by unfold penaltyS; rw [if_neg (by simp [lessS, weightS, *])]]
      exact ends_mk trivial hm hs
def chooseS (better : Frac → Frac → Bool) (l : Line) (m : MK) : MK := becomeS m l.name (if better (weightS l) m.pts = true then weightS l else m.pts) 0
theorem choose_fn {σ : Store} {nx k : Nat} {ls : List Line} {m : MK} (hwf : Wf σ nx) (h : MkAt σ k (.list (ls.map Line.cs)) m) (hl : m.parts.length ≤ 1000000) (hls : ls.length ≤ 1000000) {i : Nat} {l : Line} (hi : ls[i]? = some l) {g : FuncId} {better : Frac → Frac → Bool}
    (hg : ∀ a b : Frac, Pure EE g [a.pv, b.pv] (.bool (better a b))) :
    ∃ σ' nx', Fn EE 64 σ nx [.int .i64 i, .cells [.ptr k 0 0], .cells [.fn g [] []]] (.ret (.tup [])) σ' nx' ∧ MkAt σ' k (.list (ls.map Line.cs)) (chooseS better l m) ∧ MkStep σ nx k σ' nx' := by
  have hN := h.old hwf
  obtain ⟨hkn, pv, l2, hk, hp⟩ := id hN
  simp only [MK.row] at hk
  have hlt : ∀ a ∈ [PV.int .i64 i, PV.cells [.ptr k 0 0], PV.cells [.fn g [] []]], Lt nx a := by
    (simp only [push_cast, Nat.reduceEqDiff, Nat.reduceAdd, Nat.reduceMul, Nat.reduceLeDiff, Nat.reduceLT, reduceIte, reduceCtorEq, Nat.reduceShiftRight, Nat.reduceAnd, Nat.reducePow, Nat.reduceOr, Nat.reduceBNe, Nat.reduceBEq, Int.reduceToNat, Int.reduceLT, Int.reduceLE, Int.reduceGT, Int.reduceGE, Int.reduceEq, Int.reduceNe, Int.reduceNeg, Int.reduceAdd, Int.reduceSub, Int.reduceMul, lt_int, lt_bool, lt_str, lt_nil, lt_empty, lt_agg, lt_tup, lt_list, lt_cells, lt_fn, lt_ptr, lt_row, lt_nilp, lt_nilfn, lt_nili, List.mem_cons, List.not_mem_nil, or_false, forall_eq_or_imp, forall_eq, and_true, true_and, and_self, implies_true, false_implies]; try omega)
  have hget : (ls.map Line.cs)[i]? = some l.cs := by rw [List.getElem?_map, hi]; rfl
  have hil : i < ls.length := (List.getElem?_eq_some_iff.1 hi).1
  have hi0 : (0 : Int) ≤ i := by omega
  have hi1 : (i : Int) < ls.length := by omega
  have hgc := hg (weightS l) m.pts
  refine fn_ex' goodEE (by rw [EE_P]; exact Tryz.func64) rfl rfl (by kernel_rfl) (Nat.le_of_ble_eq_true rfl) hwf hlt ?_
  rw [show Tryz.f64.results.toList = [] from rfl]
  refine awp_begin _ _ _ _ _ (cc := _) (by conv => lhs; simp only [push_cast, Nat.reduceEqDiff, Nat.reduceAdd, Nat.reduceMul, Nat.reduceLeDiff, Nat.reduceLT, reduceIte, reduceCtorEq, Nat.reduceShiftRight, Nat.reduceAnd, Nat.reducePow, Nat.reduceOr, Nat.reduceBNe, Nat.reduceBEq, Int.reduceToNat, Int.reduceLT, Int.reduceLE, Int.reduceGT, Int.reduceGE, Int.reduceEq, Int.reduceNe, Int.reduceNeg, Int.reduceAdd, Int.reduceSub, Int.reduceMul, Tryz.f64]) ?_
  simp only [push_cast, Nat.reduceEqDiff, Nat.reduceAdd, Nat.reduceMul, Nat.reduceLeDiff, Nat.reduceLT, reduceIte, reduceCtorEq, Nat.reduceShiftRight, Nat.reduceAnd, Nat.reducePow, Nat.reduceOr, Nat.reduceBNe, Nat.reduceBEq, Int.reduceToNat, Int.reduceLT, Int.reduceLE, Int.reduceGT, Int.reduceGE, Int.reduceEq, Int.reduceNe, Int.reduceNeg, Int.reduceAdd, Int.reduceSub, Int.reduceMul, EE_P]
  repeat' (first | simp only [push_cast, Nat.reduceEqDiff, Nat.reduceAdd, Nat.reduceMul, Nat.reduceLeDiff, Nat.reduceLT, reduceIte, reduceCtorEq, Nat.reduceShiftRight, Nat.reduceAnd, Nat.reducePow, Nat.reduceOr, Nat.reduceBNe, Nat.reduceBEq, Int.reduceToNat, Int.reduceLT, Int.reduceLE, Int.reduceGT, Int.reduceGE, Int.reduceEq, Int.reduceNe, Int.reduceNeg, Int.reduceAdd, Int.reduceSub, Int.reduceMul, EE_P, hk, (key_ne hkn).1, (key_ne hkn).2.1, (key_ne hkn).2.2.1, (key_ne hkn).2.2.2, hget, hi0, hi1, List.length_map, Int.toNat_natCast] | simp (disch := omega) only [wrap_fits] | ((first | with_reducible apply wcall_pure | with_reducible apply wdcall_pure); focus (first | assumption | exact wrong_fn _ | exact right_fn _ | exact isName_fn _ | exact formatExpr_name _ | exact format_name _ | exact right_name _ | exact depth_name _ | exact name_fn _ | exact run_fn _ (by omega) _ [] [] _ (fun b _ _ => inName_fn b) | exact keywords_fn | exact contains_fn kwS (by decide) _ | exact inName_fn _ | exact digit_fn _ | exact letter_fn _ | exact hundredths_fn goodEE EE_P _ _ | exact mul_fn goodEE EE_P _ _ _ _ | exact sub_fn goodEE EE_P _ _ _ _ | exact add_fn goodEE EE_P _ _ _ _ | exact weight_fn goodEE EE_P EE_zero _ _ _ _ _ _ _ | exact less_fn goodEE EE_P _ _ _ _ | exact compare_fn goodEE EE_P _ _ _ _ | exact cmp_fn goodEE EE_P _ _ | exact isNaN_fn goodEE EE_P _ | exact valid_fn goodEE EE_P _ _ | exact abs_fn goodEE EE_P (by omega) (by omega))) | (with_reducible refine wguard_split_t (fun h => ?_) (fun h => ?_)) | (with_reducible refine wguard_split_f (fun h => ?_) (fun h => ?_)) | (with_reducible refine wcond_split (fun h => ?_) (fun h => ?_)) | (with_reducible refine wdguard_split_t (fun h => ?_) (fun h => ?_)) | (with_reducible refine wdguard_split_f (fun h => ?_) (fun h => ?_)) | (with_reducible refine And.intro (fun h => ?_) (fun h => ?_)) | (with_reducible apply And.intro; focus omega))
  · have hb : better (weightS l) m.pts = false := by simpa using ‹(!better (weightS l) m.pts) = true›
    refine wdcall_mk (fun σ nx hw hm => become_fn hw hm hl l.name m.pts 0) (σ0 := σ) (nx0 := nx) (lv := .list (ls.map Line.cs)) ?_ ?_ ?_ ?_
    · (repeat' (first | exact MkStep.base hwf (by omega) | exact MkStep.mono (by assumption) (by omega) | refine MkStep.new ?_ hkn (by omega) (by omega) (by simp only [ObjLt, push_cast, Nat.reduceEqDiff, Nat.reduceAdd, Nat.reduceMul, Nat.reduceLeDiff, Nat.reduceLT, reduceIte, reduceCtorEq, Nat.reduceShiftRight, Nat.reduceAnd, Nat.reducePow, Nat.reduceOr, Nat.reduceBNe, Nat.reduceBEq, Int.reduceToNat, Int.reduceLT, Int.reduceLE, Int.reduceGT, Int.reduceGE, Int.reduceEq, Int.reduceNe, Int.reduceNeg, Int.reduceAdd, Int.reduceSub, Int.reduceMul, lt_int, lt_bool, lt_str, lt_nil, lt_empty, lt_agg, lt_tup, lt_list, lt_cells, lt_fn, lt_ptr, lt_row, lt_nilp, lt_nilfn, lt_nili, List.mem_cons, List.not_mem_nil, or_false, forall_eq_or_imp, forall_eq, and_true, true_and, and_self, implies_true, false_implies]; try omega)))
    · (repeat' (first | exact hN | assumption | refine MkAtN.new ?_ (by omega)))
    · simp
    · intro σ' nx' hm hs
      repeat' (first | simp only [push_cast, Nat.reduceEqDiff, Nat.reduceAdd, Nat.reduceMul, Nat.reduceLeDiff, Nat.reduceLT, reduceIte, reduceCtorEq, Nat.reduceShiftRight, Nat.reduceAnd, Nat.reducePow, Nat.reduceOr, Nat.reduceBNe, Nat.reduceBEq, Int.reduceToNat, Int.reduceLT, Int.reduceLE, Int.reduceGT, Int.reduceGE, Int.reduceEq, Int.reduceNe, Int.reduceNeg, Int.reduceAdd, Int.reduceSub, Int.reduceMul, EE_P] | simp (disch := omega) only [wrap_fits] | ((first | with_reducible apply wcall_pure | with_reducible apply wdcall_pure); focus (first | assumption | exact wrong_fn _ | exact right_fn _ | exact isName_fn _ | exact formatExpr_name _ | exact format_name _ | exact right_name _ | exact depth_name _ | exact name_fn _ | exact run_fn _ (by omega) _ [] [] _ (fun b _ _ => inName_fn b) | exact keywords_fn | exact contains_fn kwS (by decide) _ | exact inName_fn _ | exact digit_fn _ | exact letter_fn _ | exact hundredths_fn goodEE EE_P _ _ | exact mul_fn goodEE EE_P _ _ _ _ | exact sub_fn goodEE EE_P _ _ _ _ | exact add_fn goodEE EE_P _ _ _ _ | exact weight_fn goodEE EE_P EE_zero _ _ _ _ _ _ _ | exact less_fn goodEE EE_P _ _ _ _ | exact compare_fn goodEE EE_P _ _ _ _ | exact cmp_fn goodEE EE_P _ _ | exact isNaN_fn goodEE EE_P _ | exact valid_fn goodEE EE_P _ _ | exact abs_fn goodEE EE_P (by omega) (by omega))) | (with_reducible refine wguard_split_t (fun h => ?_) (fun h => ?_)) | (with_reducible refine wguard_split_f (fun h => ?_) (fun h => ?_)) | (with_reducible refine wcond_split (fun h => ?_) (fun h => ?_)) | (with_reducible refine wdguard_split_t (fun h => ?_) (fun h => ?_)) | (with_reducible refine wdguard_split_f (fun h => ?_) (fun h => ?_)) | (with_reducible refine And.intro (fun h => ?_) (fun h => ?_)) | (with_reducible apply And.intro; focus omega))
      rw [show chooseS better l m = _ from by unfold chooseS; rw [if_neg (by rw [hb]; simp)]]
      exact ends_mk trivial hm hs
  · have hb : better (weightS l) m.pts = true := by simpa using ‹(!better (weightS l) m.pts) = false›
    refine wdcall_mk (fun σ nx hw hm => become_fn hw hm hl l.name (weightS l) 0) (σ0 := σ) (nx0 := nx) (lv := .list (ls.map Line.cs)) ?_ ?_ ?_ ?_
    · (repeat' (first | exact MkStep.base hwf (by omega) | exact MkStep.mono (by assumption) (by omega) | refine MkStep.new ?_ hkn (by omega) (by omega) (by simp only [ObjLt, push_cast, Nat.reduceEqDiff, Nat.reduceAdd, Nat.reduceMul, Nat.reduceLeDiff, Nat.reduceLT, reduceIte, reduceCtorEq, Nat.reduceShiftRight, Nat.reduceAnd, Nat.reducePow, Nat.reduceOr, Nat.reduceBNe, Nat.reduceBEq, Int.reduceToNat, Int.reduceLT, Int.reduceLE, Int.reduceGT, Int.reduceGE, Int.reduceEq, Int.reduceNe, Int.reduceNeg, Int.reduceAdd, Int.reduceSub, Int.reduceMul, lt_int, lt_bool, lt_str, lt_nil, lt_empty, lt_agg, lt_tup, lt_list, lt_cells, lt_fn, lt_ptr, lt_row, lt_nilp, lt_nilfn, lt_nili, List.mem_cons, List.not_mem_nil, or_false, forall_eq_or_imp, forall_eq, and_true, true_and, and_self, implies_true, false_implies]; try omega)))
    · (repeat' (first | exact hN | assumption | refine MkAtN.new ?_ (by omega)))
    · simp
    · intro σ' nx' hm hs
      repeat' (first | simp only [push_cast, Nat.reduceEqDiff, Nat.reduceAdd, Nat.reduceMul, Nat.reduceLeDiff, Nat.reduceLT, reduceIte, reduceCtorEq, Nat.reduceShiftRight, Nat.reduceAnd, Nat.reducePow, Nat.reduceOr, Nat.reduceBNe, Nat.reduceBEq, Int.reduceToNat, Int.reduceLT, Int.reduceLE, Int.reduceGT, Int.reduceGE, Int.reduceEq, Int.reduceNe, Int.reduceNeg, Int.reduceAdd, Int.reduceSub, Int.reduceMul, EE_P] | simp (disch := omega) only [wrap_fits] | ((first | with_reducible apply wcall_pure | with_reducible apply wdcall_pure); focus (first | assumption | exact wrong_fn _ | exact right_fn _ | exact isName_fn _ | exact formatExpr_name _ | exact format_name _ | exact right_name _ | exact depth_name _ | exact name_fn _ | exact run_fn _ (by omega) _ [] [] _ (fun b _ _ => inName_fn b) | exact keywords_fn | exact contains_fn kwS (by decide) _ | exact inName_fn _ | exact digit_fn _ | exact letter_fn _ | exact hundredths_fn goodEE EE_P _ _ | exact mul_fn goodEE EE_P _ _ _ _ | exact sub_fn goodEE EE_P _ _ _ _ | exact add_fn goodEE EE_P _ _ _ _ | exact weight_fn goodEE EE_P EE_zero _ _ _ _ _ _ _ | exact less_fn goodEE EE_P _ _ _ _ | exact compare_fn goodEE EE_P _ _ _ _ | exact cmp_fn goodEE EE_P _ _ | exact isNaN_fn goodEE EE_P _ | exact valid_fn goodEE EE_P _ _ | exact abs_fn goodEE EE_P (by omega) (by omega))) | (with_reducible refine wguard_split_t (fun h => ?_) (fun h => ?_)) | (with_reducible refine wguard_split_f (fun h => ?_) (fun h => ?_)) | (with_reducible refine wcond_split (fun h => ?_) (fun h => ?_)) | (with_reducible refine wdguard_split_t (fun h => ?_) (fun h => ?_)) | (with_reducible refine wdguard_split_f (fun h => ?_) (fun h => ?_)) | (with_reducible refine And.intro (fun h => ?_) (fun h => ?_)) | (with_reducible apply And.intro; focus omega))
      rw [show chooseS better l m = _ from by unfold chooseS; rw [if_pos hb]]
      exact ends_mk trivial hm hs
theorem floorless_fn (a b : Frac) : Pure EE 65 [a.pv, b.pv] (.bool (lessS b a)) := by
  intro σ nx
  refine fn_of_body goodEE (by rw [EE_P]; exact Tryz.func65) rfl rfl (by kernel_rfl) (Nat.le_of_ble_eq_true rfl) (Nat.le_refl _) fun hwf hlt => ?_
  rw [show Tryz.f65.results.toList = [.tmp 4] from rfl]
  refine awp_begin _ _ _ _ _ (cc := _) (by conv => lhs; simp only [push_cast, Nat.reduceEqDiff, Nat.reduceAdd, Nat.reduceMul, Nat.reduceLeDiff, Nat.reduceLT, reduceIte, reduceCtorEq, Nat.reduceShiftRight, Nat.reduceAnd, Nat.reducePow, Nat.reduceOr, Nat.reduceBNe, Nat.reduceBEq, Int.reduceToNat, Int.reduceLT, Int.reduceLE, Int.reduceGT, Int.reduceGE, Int.reduceEq, Int.reduceNe, Int.reduceNeg, Int.reduceAdd, Int.reduceSub, Int.reduceMul, Tryz.f65]) ?_
  simp only [push_cast, Nat.reduceEqDiff, Nat.reduceAdd, Nat.reduceMul, Nat.reduceLeDiff, Nat.reduceLT, reduceIte, reduceCtorEq, Nat.reduceShiftRight, Nat.reduceAnd, Nat.reducePow, Nat.reduceOr, Nat.reduceBNe, Nat.reduceBEq, Int.reduceToNat, Int.reduceLT, Int.reduceLE, Int.reduceGT, Int.reduceGE, Int.reduceEq, Int.reduceNe, Int.reduceNeg, Int.reduceAdd, Int.reduceSub, Int.reduceMul, EE_P]
  repeat' (first | simp only [push_cast, Nat.reduceEqDiff, Nat.reduceAdd, Nat.reduceMul, Nat.reduceLeDiff, Nat.reduceLT, reduceIte, reduceCtorEq, Nat.reduceShiftRight, Nat.reduceAnd, Nat.reducePow, Nat.reduceOr, Nat.reduceBNe, Nat.reduceBEq, Int.reduceToNat, Int.reduceLT, Int.reduceLE, Int.reduceGT, Int.reduceGE, Int.reduceEq, Int.reduceNe, Int.reduceNeg, Int.reduceAdd, Int.reduceSub, Int.reduceMul, EE_P] | simp (disch := omega) only [wrap_fits] | ((first | with_reducible apply wcall_pure | with_reducible apply wdcall_pure); focus (first | assumption | exact less_fn goodEE EE_P _ _ _ _)) | (with_reducible refine wguard_split_t (fun h => ?_) (fun h => ?_)) | (with_reducible refine wguard_split_f (fun h => ?_) (fun h => ?_)) | (with_reducible refine wcond_split (fun h => ?_) (fun h => ?_)) | (with_reducible refine wdguard_split_t (fun h => ?_) (fun h => ?_)) | (with_reducible refine wdguard_split_f (fun h => ?_) (fun h => ?_)) | (with_reducible refine And.intro (fun h => ?_) (fun h => ?_)) | (with_reducible apply And.intro; focus omega))
  all_goals ((refine ends_ret (by simp only [resultsOf, resOf, push_cast, Nat.reduceEqDiff, Nat.reduceAdd, Nat.reduceMul, Nat.reduceLeDiff, Nat.reduceLT, reduceIte, reduceCtorEq, Nat.reduceShiftRight, Nat.reduceAnd, Nat.reducePow, Nat.reduceOr, Nat.reduceBNe, Nat.reduceBEq, Int.reduceToNat, Int.reduceLT, Int.reduceLE, Int.reduceGT, Int.reduceGE, Int.reduceEq, Int.reduceNe, Int.reduceNeg, Int.reduceAdd, Int.reduceSub, Int.reduceMul, EE_P]; rfl) (by simp only [push_cast, Nat.reduceEqDiff, Nat.reduceAdd, Nat.reduceMul, Nat.reduceLeDiff, Nat.reduceLT, reduceIte, reduceCtorEq, Nat.reduceShiftRight, Nat.reduceAnd, Nat.reducePow, Nat.reduceOr, Nat.reduceBNe, Nat.reduceBEq, Int.reduceToNat, Int.reduceLT, Int.reduceLE, Int.reduceGT, Int.reduceGE, Int.reduceEq, Int.reduceNe, Int.reduceNeg, Int.reduceAdd, Int.reduceSub, Int.reduceMul, EE_P]) ?_ (by repeat' (first | exact Keeps.refl _ | assumption | exact (hwf.keep1 _) | refine Keeps.new hwf ?_ (by omega) _)) (by simp only [lt_int, lt_bool, lt_str, lt_nil, lt_empty, lt_agg, lt_tup, lt_list, lt_cells, lt_fn, lt_nilp, lt_nilfn, lt_nili, List.mem_cons, List.not_mem_nil, or_false, forall_eq_or_imp, forall_eq, and_true, true_and, and_self, implies_true, *]; try omega)); (try simp only [tupOf, push_cast, Nat.reduceEqDiff, Nat.reduceAdd, Nat.reduceMul, Nat.reduceLeDiff, Nat.reduceLT, reduceIte, reduceCtorEq, Nat.reduceShiftRight, Nat.reduceAnd, Nat.reducePow, Nat.reduceOr, Nat.reduceBNe, Nat.reduceBEq, Int.reduceToNat, Int.reduceLT, Int.reduceLE, Int.reduceGT, Int.reduceGE, Int.reduceEq, Int.reduceNe, Int.reduceNeg, Int.reduceAdd, Int.reduceSub, Int.reduceMul, EE_P]))
  all_goals (first | (simp_all [lessS]; done) | (simp_all [lessS]; omega) | (simp [lessS, *]; done) | (simp [lessS, *]; omega))
theorem fz_ptr {σ σ' : Store} {k : Nat} {cs : List PV} (h : σ k = some (.row [cs])) (h' : σ' k = none) : Fz σ σ' (.ptr k 0 0) (.cells cs) := by
  refine .ptr k 0 0 [cs] cs cs h h' rfl (by simp) fun j x y hx hy => ?_
  rw [Nat.zero_add, hy] at hx
  cases hx
  exact .refl _
theorem fz_fn {σ σ' : Store} {f : FuncId} {a b b' : List PV} (hl : b'.length = b.length) (h : ∀ (j : Nat) (x y : PV), b[j]? = some x → b'[j]? = some y → Fz σ σ' x y) : Fz σ σ' (.fn f a b) (.fn f a b') :=
  .fn f a b a b' rfl hl (fun j x y hx hy => by rw [hx] at hy; cases hy; exact .refl _) h
def FzL (σ σ' : Store) : List PV → List PV → Prop
  | [], [] => True
  | x :: xs, y :: ys => Fz σ σ' x y ∧ FzL σ σ' xs ys
  | _, _ => False
theorem FzL.get {σ σ' : Store} : ∀ {xs ys : List PV}, FzL σ σ' xs ys → ys.length = xs.length ∧ ∀ (j : Nat) (x y : PV), xs[j]? = some x → ys[j]? = some y → Fz σ σ' x y
  | [], [], _ => ⟨rfl, fun j x y h => by simp at h⟩
  | x :: xs, y :: ys, h => by
    obtain ⟨h1, h2⟩ := FzL.get h.2
    refine ⟨by simp [h1], fun j a b ha hb => ?_⟩
    cases j with
    | zero => simp at ha hb; subst ha; subst hb; exact h.1
    | succ j => exact h2 j a b (by simpa using ha) (by simpa using hb)
theorem fz_agg {σ σ' : Store} {xs ys : List PV} (h : FzL σ σ' xs ys) : Fz σ σ' (.agg xs) (.agg ys) := .agg _ _ h.get.1 h.get.2
theorem fz_tup {σ σ' : Store} {xs ys : List PV} (h : FzL σ σ' xs ys) : Fz σ σ' (.tup xs) (.tup ys) := .tup _ _ h.get.1 h.get.2
theorem fz_caps {σ σ' : Store} {f : FuncId} {a b b' : List PV} (h : FzL σ σ' b b') : Fz σ σ' (.fn f a b) (.fn f a b') := fz_fn h.get.1 h.get.2
theorem choosef_fn (c : PV) (g : FuncId) : Pure EE 63 [.fn g [] [], c] (.fn 64 [] [c, .cells [.fn g [] []]]) := by
  intro σ nx
  refine fn_of_body goodEE (by rw [EE_P]; exact Tryz.func63) rfl rfl (by kernel_rfl) (Nat.le_of_ble_eq_true rfl) (Nat.le_refl _) fun hwf hlt => ?_
  rw [show Tryz.f63.results.toList = [.tmp 3] from rfl]
  refine awp_begin _ _ _ _ _ (cc := _) (by conv => lhs; simp only [push_cast, Nat.reduceEqDiff, Nat.reduceAdd, Nat.reduceMul, Nat.reduceLeDiff, Nat.reduceLT, reduceIte, reduceCtorEq, Nat.reduceShiftRight, Nat.reduceAnd, Nat.reducePow, Nat.reduceOr, Nat.reduceBNe, Nat.reduceBEq, Int.reduceToNat, Int.reduceLT, Int.reduceLE, Int.reduceGT, Int.reduceGE, Int.reduceEq, Int.reduceNe, Int.reduceNeg, Int.reduceAdd, Int.reduceSub, Int.reduceMul, Tryz.f63]) ?_
  simp only [push_cast, Nat.reduceEqDiff, Nat.reduceAdd, Nat.reduceMul, Nat.reduceLeDiff, Nat.reduceLT, reduceIte, reduceCtorEq, Nat.reduceShiftRight, Nat.reduceAnd, Nat.reducePow, Nat.reduceOr, Nat.reduceBNe, Nat.reduceBEq, Int.reduceToNat, Int.reduceLT, Int.reduceLE, Int.reduceGT, Int.reduceGE, Int.reduceEq, Int.reduceNe, Int.reduceNeg, Int.reduceAdd, Int.reduceSub, Int.reduceMul, EE_P]
  have hc : Lt nx c := hlt c (by simp)
  refine ends_fz (by simp only [resultsOf, resOf, push_cast, Nat.reduceEqDiff, Nat.reduceAdd, Nat.reduceMul, Nat.reduceLeDiff, Nat.reduceLT, reduceIte, reduceCtorEq, Nat.reduceShiftRight, Nat.reduceAnd, Nat.reducePow, Nat.reduceOr, Nat.reduceBNe, Nat.reduceBEq, Int.reduceToNat, Int.reduceLT, Int.reduceLE, Int.reduceGT, Int.reduceGE, Int.reduceEq, Int.reduceNe, Int.reduceNeg, Int.reduceAdd, Int.reduceSub, Int.reduceMul, EE_P]; rfl) (by simp only [push_cast, Nat.reduceEqDiff, Nat.reduceAdd, Nat.reduceMul, Nat.reduceLeDiff, Nat.reduceLT, reduceIte, reduceCtorEq, Nat.reduceShiftRight, Nat.reduceAnd, Nat.reducePow, Nat.reduceOr, Nat.reduceBNe, Nat.reduceBEq, Int.reduceToNat, Int.reduceLT, Int.reduceLE, Int.reduceGT, Int.reduceGE, Int.reduceEq, Int.reduceNe, Int.reduceNeg, Int.reduceAdd, Int.reduceSub, Int.reduceMul]) (fz_fn (b := [c, .ptr nx 0 0]) (b' := [c, .cells [.fn g [] []]]) rfl fun j x y hx hy => ?_) (by repeat' (first | exact Keeps.refl _ | assumption | exact (hwf.keep1 _) | refine Keeps.new hwf ?_ (by omega) _)) (.fn _ _ _ (by simp) (by simp [lt_cells, lt_fn, hc]))
  match j with
  | 0 => simp at hx hy; subst hx; subst hy; exact .refl _
  | 1 =>
    simp at hx hy
    subst hx; subst hy
    exact fz_ptr (by simp only [upd_at, push_cast, Nat.reduceEqDiff, Nat.reduceAdd, Nat.reduceMul, Nat.reduceLeDiff, Nat.reduceLT, reduceIte, reduceCtorEq, Nat.reduceShiftRight, Nat.reduceAnd, Nat.reducePow, Nat.reduceOr, Nat.reduceBNe, Nat.reduceBEq, Int.reduceToNat, Int.reduceLT, Int.reduceLE, Int.reduceGT, Int.reduceGE, Int.reduceEq, Int.reduceNe, Int.reduceNeg, Int.reduceAdd, Int.reduceSub, Int.reduceMul]) (hwf.none (Nat.le_refl _))
  | j + 2 => simp at hx
theorem tpl_steps : tpl Tryz.prog 63 = none := by kernel_rfl
attribute [push_cast] tpl_steps
def stepsP (k : Nat) : List PV := [.int .i64 0, .fn 66 [.ptr k 0 0] [], .int .i64 1, .fn 60 [] [.cells [.ptr k 0 0]], .int .i64 3, .fn 64 [] [.cells [.ptr k 0 0], .cells [.fn 65 [] []]],
  .int .i64 2, .fn 64 [] [.cells [.ptr k 0 0], .cells [.fn 44 [] []]]]
theorem steps_fn (k : Nat) : Pure EE 34 [.ptr k 0 0] (.agg (stepsP k)) := by
  intro σ nx
  refine fn_of_body goodEE (by rw [EE_P]; exact Tryz.func34) rfl rfl (by kernel_rfl) (Nat.le_of_ble_eq_true rfl) (Nat.le_refl _) fun hwf hlt => ?_
  rw [show Tryz.f34.results.toList = [.cell 2 63] from rfl]
  refine awp_begin _ _ _ _ _ (cc := _) (by conv => lhs; simp only [push_cast, Nat.reduceEqDiff, Nat.reduceAdd, Nat.reduceMul, Nat.reduceLeDiff, Nat.reduceLT, reduceIte, reduceCtorEq, Nat.reduceShiftRight, Nat.reduceAnd, Nat.reducePow, Nat.reduceOr, Nat.reduceBNe, Nat.reduceBEq, Int.reduceToNat, Int.reduceLT, Int.reduceLE, Int.reduceGT, Int.reduceGE, Int.reduceEq, Int.reduceNe, Int.reduceNeg, Int.reduceAdd, Int.reduceSub, Int.reduceMul, Tryz.f34]) ?_
  simp only [push_cast, Nat.reduceEqDiff, Nat.reduceAdd, Nat.reduceMul, Nat.reduceLeDiff, Nat.reduceLT, reduceIte, reduceCtorEq, Nat.reduceShiftRight, Nat.reduceAnd, Nat.reducePow, Nat.reduceOr, Nat.reduceBNe, Nat.reduceBEq, Int.reduceToNat, Int.reduceLT, Int.reduceLE, Int.reduceGT, Int.reduceGE, Int.reduceEq, Int.reduceNe, Int.reduceNeg, Int.reduceAdd, Int.reduceSub, Int.reduceMul, EE_P]
  have hkn : k < nx := by have := hlt (.ptr k 0 0) (by simp); rwa [lt_ptr] at this
  repeat' (first | simp only [push_cast, Nat.reduceEqDiff, Nat.reduceAdd, Nat.reduceMul, Nat.reduceLeDiff, Nat.reduceLT, reduceIte, reduceCtorEq, Nat.reduceShiftRight, Nat.reduceAnd, Nat.reducePow, Nat.reduceOr, Nat.reduceBNe, Nat.reduceBEq, Int.reduceToNat, Int.reduceLT, Int.reduceLE, Int.reduceGT, Int.reduceGE, Int.reduceEq, Int.reduceNe, Int.reduceNeg, Int.reduceAdd, Int.reduceSub, Int.reduceMul, EE_P, (key_ne hkn).1, (key_ne hkn).2.1, (key_ne hkn).2.2.1, (key_ne hkn).2.2.2] | simp (disch := omega) only [wrap_fits] | ((first | with_reducible apply wcall_pure | with_reducible apply wdcall_pure); focus (first | assumption | exact choosef_fn _ _ | exact wrong_fn _ | exact right_fn _ | exact isName_fn _ | exact formatExpr_name _ | exact format_name _ | exact right_name _ | exact depth_name _ | exact name_fn _ | exact run_fn _ (by omega) _ [] [] _ (fun b _ _ => inName_fn b) | exact keywords_fn | exact contains_fn kwS (by decide) _ | exact inName_fn _ | exact digit_fn _ | exact letter_fn _ | exact hundredths_fn goodEE EE_P _ _ | exact mul_fn goodEE EE_P _ _ _ _ | exact sub_fn goodEE EE_P _ _ _ _ | exact add_fn goodEE EE_P _ _ _ _ | exact weight_fn goodEE EE_P EE_zero _ _ _ _ _ _ _ | exact less_fn goodEE EE_P _ _ _ _ | exact compare_fn goodEE EE_P _ _ _ _ | exact cmp_fn goodEE EE_P _ _ | exact isNaN_fn goodEE EE_P _ | exact valid_fn goodEE EE_P _ _ | exact abs_fn goodEE EE_P (by omega) (by omega))) | (with_reducible refine wguard_split_t (fun h => ?_) (fun h => ?_)) | (with_reducible refine wguard_split_f (fun h => ?_) (fun h => ?_)) | (with_reducible refine wcond_split (fun h => ?_) (fun h => ?_)) | (with_reducible refine wdguard_split_t (fun h => ?_) (fun h => ?_)) | (with_reducible refine wdguard_split_f (fun h => ?_) (fun h => ?_)) | (with_reducible refine And.intro (fun h => ?_) (fun h => ?_)) | (with_reducible apply And.intro; focus omega))
  have h0 : Fz (upd (upd (upd σ nx (some (.row [[.ptr k 0 0]]))) (nx + 1) (some (.row [[.int .i64 0, .nilfn, .int .i64 0, .nilfn, .int .i64 0, .nilfn, .int .i64 0, .nilfn]]))) (nx + 1)
      (some (.row [[.int .i64 0, .fn 66 [.ptr k 0 0] [], .int .i64 1, .fn 60 [] [.ptr nx 0 0], .int .i64 3, .fn 64 [] [.ptr nx 0 0, .cells [.fn 65 [] []]], .int .i64 2, .fn 64 [] [.ptr nx 0 0, .cells [.fn 44 [] []]]]]))) σ
      (.ptr nx 0 0) (.cells [.ptr k 0 0]) := fz_ptr (by simp only [upd_at, push_cast, Nat.reduceEqDiff, Nat.reduceAdd, Nat.reduceMul, Nat.reduceLeDiff, Nat.reduceLT, reduceIte, reduceCtorEq, Nat.reduceShiftRight, Nat.reduceAnd, Nat.reducePow, Nat.reduceOr, Nat.reduceBNe, Nat.reduceBEq, Int.reduceToNat, Int.reduceLT, Int.reduceLE, Int.reduceGT, Int.reduceGE, Int.reduceEq, Int.reduceNe, Int.reduceNeg, Int.reduceAdd, Int.reduceSub, Int.reduceMul]) (hwf.none (Nat.le_refl _))
  refine ends_fz (by simp only [resultsOf, resOf, push_cast, Nat.reduceEqDiff, Nat.reduceAdd, Nat.reduceMul, Nat.reduceLeDiff, Nat.reduceLT, reduceIte, reduceCtorEq, Nat.reduceShiftRight, Nat.reduceAnd, Nat.reducePow, Nat.reduceOr, Nat.reduceBNe, Nat.reduceBEq, Int.reduceToNat, Int.reduceLT, Int.reduceLE, Int.reduceGT, Int.reduceGE, Int.reduceEq, Int.reduceNe, Int.reduceNeg, Int.reduceAdd, Int.reduceSub, Int.reduceMul, EE_P]; rfl) (by simp only [push_cast, Nat.reduceEqDiff, Nat.reduceAdd, Nat.reduceMul, Nat.reduceLeDiff, Nat.reduceLT, reduceIte, reduceCtorEq, Nat.reduceShiftRight, Nat.reduceAnd, Nat.reducePow, Nat.reduceOr, Nat.reduceBNe, Nat.reduceBEq, Int.reduceToNat, Int.reduceLT, Int.reduceLE, Int.reduceGT, Int.reduceGE, Int.reduceEq, Int.reduceNe, Int.reduceNeg, Int.reduceAdd, Int.reduceSub, Int.reduceMul]) ?_ (by repeat' (first | exact Keeps.refl _ | assumption | exact (hwf.keep1 _) | refine Keeps.new hwf ?_ (by omega) _)) ?_
  · exact fz_agg ⟨.refl _, .refl _, .refl _, fz_caps ⟨h0, trivial⟩, .refl _, fz_caps ⟨h0, .refl _, trivial⟩, .refl _, fz_caps ⟨h0, .refl _, trivial⟩, trivial⟩
  · simp only [stepsP]
    (simp only [push_cast, Nat.reduceEqDiff, Nat.reduceAdd, Nat.reduceMul, Nat.reduceLeDiff, Nat.reduceLT, reduceIte, reduceCtorEq, Nat.reduceShiftRight, Nat.reduceAnd, Nat.reducePow, Nat.reduceOr, Nat.reduceBNe, Nat.reduceBEq, Int.reduceToNat, Int.reduceLT, Int.reduceLE, Int.reduceGT, Int.reduceGE, Int.reduceEq, Int.reduceNe, Int.reduceNeg, Int.reduceAdd, Int.reduceSub, Int.reduceMul, lt_int, lt_bool, lt_str, lt_nil, lt_empty, lt_agg, lt_tup, lt_list, lt_cells, lt_fn, lt_ptr, lt_row, lt_nilp, lt_nilfn, lt_nili, List.mem_cons, List.not_mem_nil, or_false, forall_eq_or_imp, forall_eq, and_true, true_and, and_self, implies_true, false_implies]; try omega)
structure Credit where
  parts : List Part
  pts : Frac
  hund : Int
  deriving DecidableEq
def Credit.pv (c : Credit) (pv : PV) : PV := .agg [pv, .int .i64 c.pts.n, .int .i64 c.pts.d, .int .i64 c.hund]
attribute [push_cast] Credit.pv
def hundS (f : Frac) : Int := if FV f.n f.d then (200 * f.n + f.d) / (2 * f.d) else 0
def zeroCredit : Credit := ⟨[], ⟨0, 0⟩, 0⟩
def finishS (m : MK) : Credit × Int := if m.wrong = true ∨ ¬ FV m.pts.n m.pts.d ∨ hundS m.pts > 100000000 then (zeroCredit, 2) else (⟨m.parts, m.pts, hundS m.pts⟩, 0)
theorem leaves_drop2 {σ σs : Store} {nx nxs k kp : Nat} {sl : Nat → PV} {v v' : PV} (hwf : Wf σ nx) (h3 : ∀ j, j < nx → j ≠ k → σs j = σ j) (hz : Fz σs (upd (upd σ kp none) k none) v v') (hv : Lt nx v') : Leaves σ nx ⟨sl, σs, nxs⟩ v (upd (upd σ kp none) k none) nx v' := by
  refine ⟨Nat.le_refl _, fun j o hj => ?_, hz, hv⟩
  by_cases hjk : j = k
  · subst hjk
    rw [upd_same] at hj
    cases hj
  · rw [upd_other _ _ hjk] at hj
    by_cases hjp : j = kp
    · subst hjp
      rw [upd_same] at hj
      cases hj
    · rw [upd_other _ _ hjp] at hj
      exact .inl ⟨hj, by show σs j = some o; rw [h3 j (hwf j o hj).1 hjk]; exact hj⟩
theorem slice_lt {n : Nat} (ps : List Part) : Lt n (.list (ps.map Part.cs)) := .list _ fun cs hcs c hc => objlt_parts (n := n) ps cs hcs c hc
def badS (m : MK) : Prop := m.wrong = true ∨ ¬ FV m.pts.n m.pts.d ∨ hundS m.pts > 100000000
theorem finish_bad {σ : Store} {nx k kp : Nat} {lv pv : PV} {m : MK} (hk : σ k = some (.row [m.row lv pv])) (hc : badS m) :
    Fn EE 35 σ nx [.ptr k 0 0] (.ret (.tup [zeroCredit.pv .nil, .int .i64 2])) (upd (upd σ kp none) k none) nx := by
  refine fn_of_body goodEE (by rw [EE_P]; exact Tryz.func35) rfl rfl (by kernel_rfl) (Nat.le_of_ble_eq_true rfl) ?_ fun hwf hlt => ?_
  rotate_left
  rw [show Tryz.f35.results.toList = [.cell 2 29, .tmp 3] from rfl]
  refine awp_begin _ _ _ _ _ (cc := _) (by conv => lhs; simp only [push_cast, Nat.reduceEqDiff, Nat.reduceAdd, Nat.reduceMul, Nat.reduceLeDiff, Nat.reduceLT, reduceIte, reduceCtorEq, Nat.reduceShiftRight, Nat.reduceAnd, Nat.reducePow, Nat.reduceOr, Nat.reduceBNe, Nat.reduceBEq, Int.reduceToNat, Int.reduceLT, Int.reduceLE, Int.reduceGT, Int.reduceGE, Int.reduceEq, Int.reduceNe, Int.reduceNeg, Int.reduceAdd, Int.reduceSub, Int.reduceMul, Tryz.f35]) ?_
  simp only [push_cast, Nat.reduceEqDiff, Nat.reduceAdd, Nat.reduceMul, Nat.reduceLeDiff, Nat.reduceLT, reduceIte, reduceCtorEq, Nat.reduceShiftRight, Nat.reduceAnd, Nat.reducePow, Nat.reduceOr, Nat.reduceBNe, Nat.reduceBEq, Int.reduceToNat, Int.reduceLT, Int.reduceLE, Int.reduceGT, Int.reduceGE, Int.reduceEq, Int.reduceNe, Int.reduceNeg, Int.reduceAdd, Int.reduceSub, Int.reduceMul, EE_P]
  · obtain ⟨hkn, l1, l2⟩ := row_lt hwf hk
    simp only [MK.row] at hk
    unfold badS hundS at hc
    repeat' (first | simp only [push_cast, Nat.reduceEqDiff, Nat.reduceAdd, Nat.reduceMul, Nat.reduceLeDiff, Nat.reduceLT, reduceIte, reduceCtorEq, Nat.reduceShiftRight, Nat.reduceAnd, Nat.reducePow, Nat.reduceOr, Nat.reduceBNe, Nat.reduceBEq, Int.reduceToNat, Int.reduceLT, Int.reduceLE, Int.reduceGT, Int.reduceGE, Int.reduceEq, Int.reduceNe, Int.reduceNeg, Int.reduceAdd, Int.reduceSub, Int.reduceMul, EE_P, hk, (key_ne hkn).1, (key_ne hkn).2.1, (key_ne hkn).2.2.1, (key_ne hkn).2.2.2] | simp (disch := omega) only [wrap_fits] | ((first | with_reducible apply wcall_pure | with_reducible apply wdcall_pure); focus (first | assumption | exact hundredths_fn goodEE EE_P _ _)) | (with_reducible refine wguard_split_t (fun h => ?_) (fun h => ?_)) | (with_reducible refine wguard_split_f (fun h => ?_) (fun h => ?_)) | (with_reducible refine wcond_split (fun h => ?_) (fun h => ?_)) | (with_reducible refine wdguard_split_t (fun h => ?_) (fun h => ?_)) | (with_reducible refine wdguard_split_f (fun h => ?_) (fun h => ?_)) | (with_reducible refine And.intro (fun h => ?_) (fun h => ?_)) | (with_reducible apply And.intro; focus omega))
    all_goals (try (exfalso; simp_all; done))
    all_goals refine ends_of trivial (by simp only [resultsOf, resOf, push_cast, Nat.reduceEqDiff, Nat.reduceAdd, Nat.reduceMul, Nat.reduceLeDiff, Nat.reduceLT, reduceIte, reduceCtorEq, Nat.reduceShiftRight, Nat.reduceAnd, Nat.reducePow, Nat.reduceOr, Nat.reduceBNe, Nat.reduceBEq, Int.reduceToNat, Int.reduceLT, Int.reduceLE, Int.reduceGT, Int.reduceGE, Int.reduceEq, Int.reduceNe, Int.reduceNeg, Int.reduceAdd, Int.reduceSub, Int.reduceMul, EE_P]; rfl) (by simp only [push_cast, Nat.reduceEqDiff, Nat.reduceAdd, Nat.reduceMul, Nat.reduceLeDiff, Nat.reduceLT, reduceIte, reduceCtorEq, Nat.reduceShiftRight, Nat.reduceAnd, Nat.reducePow, Nat.reduceOr, Nat.reduceBNe, Nat.reduceBEq, Int.reduceToNat, Int.reduceLT, Int.reduceLE, Int.reduceGT, Int.reduceGE, Int.reduceEq, Int.reduceNe, Int.reduceNeg, Int.reduceAdd, Int.reduceSub, Int.reduceMul]) (leaves_drop2 hwf (fun j hj hjk => by simp only [upd_at, push_cast, Nat.reduceEqDiff, Nat.reduceAdd, Nat.reduceMul, Nat.reduceLeDiff, Nat.reduceLT, reduceIte, reduceCtorEq, Nat.reduceShiftRight, Nat.reduceAnd, Nat.reducePow, Nat.reduceOr, Nat.reduceBNe, Nat.reduceBEq, Int.reduceToNat, Int.reduceLT, Int.reduceLE, Int.reduceGT, Int.reduceGE, Int.reduceEq, Int.reduceNe, Int.reduceNeg, Int.reduceAdd, Int.reduceSub, Int.reduceMul, (key_ne hj).1, (key_ne hj).2.1, (key_ne hj).2.2.1, (key_ne hj).2.2.2, hjk]) (by exact .refl _) ?_)
    all_goals (simp only [push_cast, Nat.reduceEqDiff, Nat.reduceAdd, Nat.reduceMul, Nat.reduceLeDiff, Nat.reduceLT, reduceIte, reduceCtorEq, Nat.reduceShiftRight, Nat.reduceAnd, Nat.reducePow, Nat.reduceOr, Nat.reduceBNe, Nat.reduceBEq, Int.reduceToNat, Int.reduceLT, Int.reduceLE, Int.reduceGT, Int.reduceGE, Int.reduceEq, Int.reduceNe, Int.reduceNeg, Int.reduceAdd, Int.reduceSub, Int.reduceMul, lt_int, lt_bool, lt_str, lt_nil, lt_empty, lt_agg, lt_tup, lt_list, lt_cells, lt_fn, lt_ptr, lt_row, lt_nilp, lt_nilfn, lt_nili, List.mem_cons, List.not_mem_nil, or_false, forall_eq_or_imp, forall_eq, and_true, true_and, and_self, implies_true, false_implies]; try omega)
  · omega
theorem not_bad {m : MK} (h : ¬ badS m) : m.wrong = false ∧ FV m.pts.n m.pts.d ∧ ¬ (200 * m.pts.n + m.pts.d) / (2 * m.pts.d) > 100000000 ∧ hundS m.pts = (200 * m.pts.n + m.pts.d) / (2 * m.pts.d) := by
  unfold badS at h
  have h1 : m.wrong = false := by cases hw : m.wrong <;> simp_all
  have h2 : FV m.pts.n m.pts.d := Decidable.byContradiction fun hn => h (.inr (.inl hn))
  have h3 : hundS m.pts = (200 * m.pts.n + m.pts.d) / (2 * m.pts.d) := if_pos h2
  exact ⟨h1, h2, fun hn => h (.inr (.inr (by rw [h3]; exact hn))), h3⟩
theorem finish_nil {σ : Store} {nx k : Nat} {lv : PV} {m : MK} (hk : σ k = some (.row [m.row lv .nil])) (hp : m.parts = []) (hc : ¬ badS m) :
    Fn EE 35 σ nx [.ptr k 0 0] (.ret (.tup [(Credit.mk m.parts m.pts (hundS m.pts)).pv .nil, .int .i64 0])) (upd (upd σ k none) k none) nx := by
  obtain ⟨hc1, hc2, hc3, hc4⟩ := not_bad hc
  rw [hc4]
  refine fn_of_body goodEE (by rw [EE_P]; exact Tryz.func35) rfl rfl (by kernel_rfl) (Nat.le_of_ble_eq_true rfl) ?_ fun hwf hlt => ?_
  rotate_left
  rw [show Tryz.f35.results.toList = [.cell 2 29, .tmp 3] from rfl]
  refine awp_begin _ _ _ _ _ (cc := _) (by conv => lhs; simp only [push_cast, Nat.reduceEqDiff, Nat.reduceAdd, Nat.reduceMul, Nat.reduceLeDiff, Nat.reduceLT, reduceIte, reduceCtorEq, Nat.reduceShiftRight, Nat.reduceAnd, Nat.reducePow, Nat.reduceOr, Nat.reduceBNe, Nat.reduceBEq, Int.reduceToNat, Int.reduceLT, Int.reduceLE, Int.reduceGT, Int.reduceGE, Int.reduceEq, Int.reduceNe, Int.reduceNeg, Int.reduceAdd, Int.reduceSub, Int.reduceMul, Tryz.f35]) ?_
  simp only [push_cast, Nat.reduceEqDiff, Nat.reduceAdd, Nat.reduceMul, Nat.reduceLeDiff, Nat.reduceLT, reduceIte, reduceCtorEq, Nat.reduceShiftRight, Nat.reduceAnd, Nat.reducePow, Nat.reduceOr, Nat.reduceBNe, Nat.reduceBEq, Int.reduceToNat, Int.reduceLT, Int.reduceLE, Int.reduceGT, Int.reduceGE, Int.reduceEq, Int.reduceNe, Int.reduceNeg, Int.reduceAdd, Int.reduceSub, Int.reduceMul, EE_P]
  · obtain ⟨hkn, l1, l2⟩ := row_lt hwf hk
    simp only [MK.row] at hk
    repeat' (first | simp only [push_cast, Nat.reduceEqDiff, Nat.reduceAdd, Nat.reduceMul, Nat.reduceLeDiff, Nat.reduceLT, reduceIte, reduceCtorEq, Nat.reduceShiftRight, Nat.reduceAnd, Nat.reducePow, Nat.reduceOr, Nat.reduceBNe, Nat.reduceBEq, Int.reduceToNat, Int.reduceLT, Int.reduceLE, Int.reduceGT, Int.reduceGE, Int.reduceEq, Int.reduceNe, Int.reduceNeg, Int.reduceAdd, Int.reduceSub, Int.reduceMul, EE_P, hk, (key_ne hkn).1, (key_ne hkn).2.1, (key_ne hkn).2.2.1, (key_ne hkn).2.2.2, hc1, hc2, hc3, decide_true, decide_false] | simp (disch := omega) only [wrap_fits] | ((first | with_reducible apply wcall_pure | with_reducible apply wdcall_pure); focus (first | assumption | exact hundredths_fn goodEE EE_P _ _)) | (with_reducible refine wguard_split_t (fun h => ?_) (fun h => ?_)) | (with_reducible refine wguard_split_f (fun h => ?_) (fun h => ?_)) | (with_reducible refine wcond_split (fun h => ?_) (fun h => ?_)) | (with_reducible refine wdguard_split_t (fun h => ?_) (fun h => ?_)) | (with_reducible refine wdguard_split_f (fun h => ?_) (fun h => ?_)) | (with_reducible refine And.intro (fun h => ?_) (fun h => ?_)) | (with_reducible apply And.intro; focus omega))
    refine ends_of trivial (by simp only [resultsOf, resOf, push_cast, Nat.reduceEqDiff, Nat.reduceAdd, Nat.reduceMul, Nat.reduceLeDiff, Nat.reduceLT, reduceIte, reduceCtorEq, Nat.reduceShiftRight, Nat.reduceAnd, Nat.reducePow, Nat.reduceOr, Nat.reduceBNe, Nat.reduceBEq, Int.reduceToNat, Int.reduceLT, Int.reduceLE, Int.reduceGT, Int.reduceGE, Int.reduceEq, Int.reduceNe, Int.reduceNeg, Int.reduceAdd, Int.reduceSub, Int.reduceMul, EE_P]; rfl) (by simp only [push_cast, Nat.reduceEqDiff, Nat.reduceAdd, Nat.reduceMul, Nat.reduceLeDiff, Nat.reduceLT, reduceIte, reduceCtorEq, Nat.reduceShiftRight, Nat.reduceAnd, Nat.reducePow, Nat.reduceOr, Nat.reduceBNe, Nat.reduceBEq, Int.reduceToNat, Int.reduceLT, Int.reduceLE, Int.reduceGT, Int.reduceGE, Int.reduceEq, Int.reduceNe, Int.reduceNeg, Int.reduceAdd, Int.reduceSub, Int.reduceMul]) (leaves_drop2 hwf (fun j hj hjk => by simp only [upd_at, push_cast, Nat.reduceEqDiff, Nat.reduceAdd, Nat.reduceMul, Nat.reduceLeDiff, Nat.reduceLT, reduceIte, reduceCtorEq, Nat.reduceShiftRight, Nat.reduceAnd, Nat.reducePow, Nat.reduceOr, Nat.reduceBNe, Nat.reduceBEq, Int.reduceToNat, Int.reduceLT, Int.reduceLE, Int.reduceGT, Int.reduceGE, Int.reduceEq, Int.reduceNe, Int.reduceNeg, Int.reduceAdd, Int.reduceSub, Int.reduceMul, (key_ne hj).1, (key_ne hj).2.1, (key_ne hj).2.2.1, (key_ne hj).2.2.2, hjk]) (by simp only [tupOf]; exact .refl _) ?_)
    (simp only [push_cast, Nat.reduceEqDiff, Nat.reduceAdd, Nat.reduceMul, Nat.reduceLeDiff, Nat.reduceLT, reduceIte, reduceCtorEq, Nat.reduceShiftRight, Nat.reduceAnd, Nat.reducePow, Nat.reduceOr, Nat.reduceBNe, Nat.reduceBEq, Int.reduceToNat, Int.reduceLT, Int.reduceLE, Int.reduceGT, Int.reduceGE, Int.reduceEq, Int.reduceNe, Int.reduceNeg, Int.reduceAdd, Int.reduceSub, Int.reduceMul, lt_int, lt_bool, lt_str, lt_nil, lt_empty, lt_agg, lt_tup, lt_list, lt_cells, lt_fn, lt_ptr, lt_row, lt_nilp, lt_nilfn, lt_nili, List.mem_cons, List.not_mem_nil, or_false, forall_eq_or_imp, forall_eq, and_true, true_and, and_self, implies_true, false_implies]; try omega)
  · omega
theorem finish_row {σ : Store} {nx k kp : Nat} {lv : PV} {m : MK} (hk : σ k = some (.row [m.row lv (.row kp 0 m.parts.length)])) (hkk : kp ≠ k) (hkp : σ kp = some (.row (m.parts.map Part.cs))) (hc : ¬ badS m) :
    Fn EE 35 σ nx [.ptr k 0 0] (.ret (.tup [(Credit.mk m.parts m.pts (hundS m.pts)).pv (.list (m.parts.map Part.cs)), .int .i64 0])) (upd (upd σ kp none) k none) nx := by
  obtain ⟨hc1, hc2, hc3, hc4⟩ := not_bad hc
  rw [hc4]
  refine fn_of_body goodEE (by rw [EE_P]; exact Tryz.func35) rfl rfl (by kernel_rfl) (Nat.le_of_ble_eq_true rfl) ?_ fun hwf hlt => ?_
  rotate_left
  rw [show Tryz.f35.results.toList = [.cell 2 29, .tmp 3] from rfl]
  refine awp_begin _ _ _ _ _ (cc := _) (by conv => lhs; simp only [push_cast, Nat.reduceEqDiff, Nat.reduceAdd, Nat.reduceMul, Nat.reduceLeDiff, Nat.reduceLT, reduceIte, reduceCtorEq, Nat.reduceShiftRight, Nat.reduceAnd, Nat.reducePow, Nat.reduceOr, Nat.reduceBNe, Nat.reduceBEq, Int.reduceToNat, Int.reduceLT, Int.reduceLE, Int.reduceGT, Int.reduceGE, Int.reduceEq, Int.reduceNe, Int.reduceNeg, Int.reduceAdd, Int.reduceSub, Int.reduceMul, Tryz.f35]) ?_
  simp only [push_cast, Nat.reduceEqDiff, Nat.reduceAdd, Nat.reduceMul, Nat.reduceLeDiff, Nat.reduceLT, reduceIte, reduceCtorEq, Nat.reduceShiftRight, Nat.reduceAnd, Nat.reducePow, Nat.reduceOr, Nat.reduceBNe, Nat.reduceBEq, Int.reduceToNat, Int.reduceLT, Int.reduceLE, Int.reduceGT, Int.reduceGE, Int.reduceEq, Int.reduceNe, Int.reduceNeg, Int.reduceAdd, Int.reduceSub, Int.reduceMul, EE_P]
  · obtain ⟨hkn, l1, l2⟩ := row_lt hwf hk
    have hkpn : kp < nx := (hwf kp _ hkp).1
    simp only [MK.row] at hk
    repeat' (first | simp only [push_cast, Nat.reduceEqDiff, Nat.reduceAdd, Nat.reduceMul, Nat.reduceLeDiff, Nat.reduceLT, reduceIte, reduceCtorEq, Nat.reduceShiftRight, Nat.reduceAnd, Nat.reducePow, Nat.reduceOr, Nat.reduceBNe, Nat.reduceBEq, Int.reduceToNat, Int.reduceLT, Int.reduceLE, Int.reduceGT, Int.reduceGE, Int.reduceEq, Int.reduceNe, Int.reduceNeg, Int.reduceAdd, Int.reduceSub, Int.reduceMul, EE_P, hk, (key_ne hkn).1, (key_ne hkn).2.1, (key_ne hkn).2.2.1, (key_ne hkn).2.2.2, (key_ne hkpn).1, (key_ne hkpn).2.1, (key_ne hkpn).2.2.1, (key_ne hkpn).2.2.2, (ne_keys hkk).1, (ne_keys hkk).2, hc1, hc2, hc3, decide_true, decide_false] | simp (disch := omega) only [wrap_fits] | ((first | with_reducible apply wcall_pure | with_reducible apply wdcall_pure); focus (first | assumption | exact hundredths_fn goodEE EE_P _ _)) | (with_reducible refine wguard_split_t (fun h => ?_) (fun h => ?_)) | (with_reducible refine wguard_split_f (fun h => ?_) (fun h => ?_)) | (with_reducible refine wcond_split (fun h => ?_) (fun h => ?_)) | (with_reducible refine wdguard_split_t (fun h => ?_) (fun h => ?_)) | (with_reducible refine wdguard_split_f (fun h => ?_) (fun h => ?_)) | (with_reducible refine And.intro (fun h => ?_) (fun h => ?_)) | (with_reducible apply And.intro; focus omega))
    refine ends_of trivial (by simp only [resultsOf, resOf, push_cast, Nat.reduceEqDiff, Nat.reduceAdd, Nat.reduceMul, Nat.reduceLeDiff, Nat.reduceLT, reduceIte, reduceCtorEq, Nat.reduceShiftRight, Nat.reduceAnd, Nat.reducePow, Nat.reduceOr, Nat.reduceBNe, Nat.reduceBEq, Int.reduceToNat, Int.reduceLT, Int.reduceLE, Int.reduceGT, Int.reduceGE, Int.reduceEq, Int.reduceNe, Int.reduceNeg, Int.reduceAdd, Int.reduceSub, Int.reduceMul, EE_P]; rfl) (by simp only [push_cast, Nat.reduceEqDiff, Nat.reduceAdd, Nat.reduceMul, Nat.reduceLeDiff, Nat.reduceLT, reduceIte, reduceCtorEq, Nat.reduceShiftRight, Nat.reduceAnd, Nat.reducePow, Nat.reduceOr, Nat.reduceBNe, Nat.reduceBEq, Int.reduceToNat, Int.reduceLT, Int.reduceLE, Int.reduceGT, Int.reduceGE, Int.reduceEq, Int.reduceNe, Int.reduceNeg, Int.reduceAdd, Int.reduceSub, Int.reduceMul]) (leaves_drop2 hwf (fun j hj hjk => by simp only [upd_at, push_cast, Nat.reduceEqDiff, Nat.reduceAdd, Nat.reduceMul, Nat.reduceLeDiff, Nat.reduceLT, reduceIte, reduceCtorEq, Nat.reduceShiftRight, Nat.reduceAnd, Nat.reducePow, Nat.reduceOr, Nat.reduceBNe, Nat.reduceBEq, Int.reduceToNat, Int.reduceLT, Int.reduceLE, Int.reduceGT, Int.reduceGE, Int.reduceEq, Int.reduceNe, Int.reduceNeg, Int.reduceAdd, Int.reduceSub, Int.reduceMul, (key_ne hj).1, (key_ne hj).2.1, (key_ne hj).2.2.1, (key_ne hj).2.2.2, hjk]) ?_ ?_)
    · show Fz _ _ (.tup [.agg [.row kp 0 m.parts.length, _, _, _], _]) (.tup [.agg [.list (m.parts.map Part.cs), _, _, _], _])
      refine fz_tup (And.intro (fz_agg (And.intro (fz_row ?_ ?_ (by simp)) ⟨.refl _, .refl _, .refl _, trivial⟩)) ⟨.refl _, trivial⟩)
      · simp only [upd_at, push_cast, Nat.reduceEqDiff, Nat.reduceAdd, Nat.reduceMul, Nat.reduceLeDiff, Nat.reduceLT, reduceIte, reduceCtorEq, Nat.reduceShiftRight, Nat.reduceAnd, Nat.reducePow, Nat.reduceOr, Nat.reduceBNe, Nat.reduceBEq, Int.reduceToNat, Int.reduceLT, Int.reduceLE, Int.reduceGT, Int.reduceGE, Int.reduceEq, Int.reduceNe, Int.reduceNeg, Int.reduceAdd, Int.reduceSub, Int.reduceMul, (key_ne hkpn).1, (key_ne hkpn).2.1, (key_ne hkpn).2.2.1, (key_ne hkpn).2.2.2, (ne_keys hkk).1, (ne_keys hkk).2, hkp]
      · simp only [upd_at, push_cast, Nat.reduceEqDiff, Nat.reduceAdd, Nat.reduceMul, Nat.reduceLeDiff, Nat.reduceLT, reduceIte, reduceCtorEq, Nat.reduceShiftRight, Nat.reduceAnd, Nat.reducePow, Nat.reduceOr, Nat.reduceBNe, Nat.reduceBEq, Int.reduceToNat, Int.reduceLT, Int.reduceLE, Int.reduceGT, Int.reduceGE, Int.reduceEq, Int.reduceNe, Int.reduceNeg, Int.reduceAdd, Int.reduceSub, Int.reduceMul, (ne_keys hkk).1, (ne_keys hkk).2]
    · refine .tup _ fun c hc => ?_
      simp only [Credit.pv, List.mem_cons, List.not_mem_nil, or_false] at hc
      rcases hc with rfl | rfl
      · refine .agg _ fun c hc => ?_
        simp only [List.mem_cons, List.not_mem_nil, or_false] at hc
        rcases hc with rfl | rfl | rfl | rfl
        · exact slice_lt _
        · exact .int _ _
        · exact .int _ _
        · exact .int _ _
      · exact .int _ _
  · omega
/-- A credit's parts, as finish hands them back. -/
def partsV (ps : List Part) : PV := if ps = [] then .nil else .list (ps.map Part.cs)
theorem partsV_slice (ps : List Part) : SliceP (ps.map Part.cs) (partsV ps) := by
  unfold partsV
  split
  · rename_i h; exact .nil (by simp [h])
  · exact .list
def Credit.val (c : Credit) : PV := c.pv (partsV c.parts)
theorem parts_lt (n : Nat) (ps : List Part) : Lt n (partsV ps) := by
  unfold partsV
  split
  · exact .nil
  · exact slice_lt _
theorem credit_lt (n : Nat) (c : Credit) : Lt n c.val := .agg _ fun x hx => by
  simp only [List.mem_cons, List.not_mem_nil, or_false] at hx
  rcases hx with rfl | rfl | rfl | rfl
  · exact parts_lt n _
  · exact .int _ _
  · exact .int _ _
  · exact .int _ _
theorem finish_fn {σ : Store} {nx k : Nat} {lv : PV} {m : MK} (h : MkAt σ k lv m) : ∃ σ', Fn EE 35 σ nx [.ptr k 0 0] (.ret (.tup [(finishS m).1.val, .int .i64 (finishS m).2])) σ' nx ∧ (∀ j, ¬ Own σ k j → σ' j = σ j) ∧ (Wf σ nx → Wf σ' nx) := by
  obtain ⟨pv, hk, hp⟩ := h
  have wf2 : ∀ kp, kp < nx ∨ kp = k → Wf σ nx → Wf (upd (upd σ kp none) k none) nx := fun kp hkp hwf => by
    have hkn := (hwf k _ hk).1
    exact (hwf.set (Nat.le_refl _) (by omega) (fun o e => by cases e)).set (Nat.le_refl _) hkn (fun o e => by cases e)
  by_cases hc : badS m
  · have e : finishS m = (zeroCredit, 2) := if_pos hc
    rw [e]
    refine ⟨_, finish_bad (kp := k) hk hc, fun j hj => ?_, wf2 k (.inr rfl)⟩
    have : j ≠ k := fun e => hj (.inl e)
    rw [upd_other _ _ this, upd_other _ _ this]
  · have e : finishS m = (⟨m.parts, m.pts, hundS m.pts⟩, 0) := if_neg hc
    rw [e]
    cases hp with
    | nil h =>
      have hv : (Credit.mk m.parts m.pts (hundS m.pts)).val = (Credit.mk m.parts m.pts (hundS m.pts)).pv .nil := by unfold Credit.val partsV; rw [if_pos h]
      rw [hv]
      refine ⟨_, finish_nil hk h hc, fun j hj => ?_, wf2 k (.inr rfl)⟩
      have : j ≠ k := fun e => hj (.inl e)
      rw [upd_other _ _ this, upd_other _ _ this]
    | row kp hkp hr hn =>
      have hv : (Credit.mk m.parts m.pts (hundS m.pts)).val = (Credit.mk m.parts m.pts (hundS m.pts)).pv (.list (m.parts.map Part.cs)) := by unfold Credit.val partsV; rw [if_neg hn]
      rw [hv]
      refine ⟨_, finish_row hk hkp hr hc, fun j hj => ?_, fun hwf => wf2 kp (.inl (hwf kp _ hr).1) hwf⟩
      have h1 : j ≠ k := fun e => hj (.inl e)
      have h2 : j ≠ kp := fun e => hj (.inr ⟨lv, m, 0, m.parts.length, by rw [e]; exact hk⟩)
      rw [upd_other _ _ h1, upd_other _ _ h2]
end Go.Proofs.YtdajoilaakiinaaGreatDoor.Awp

/- credit.Combine. -/
namespace Go.Proofs.YtdajoilaakiinaaGreatDoor.Awp
open Go Go.Proofs
set_option linter.unusedSimpArgs false
set_option linter.unusedVariables false
set_option maxRecDepth 10000
set_option maxHeartbeats 4000000

/-- A step's lines, up to an index. -/
def stepsTo (kind : Int) (f : Nat → Line → MK → MK) (ls : List Line) (m : MK) : Nat → MK
  | 0 => m
  | j + 1 => match ls[j]? with
    | some l => if (l.app && decide (l.kind = kind)) = true then f j l (stepsTo kind f ls m j) else stepsTo kind f ls m j
    | none => stepsTo kind f ls m j
def kindAt : Nat → Int
  | 0 => 0
  | 1 => 1
  | 2 => 3
  | _ => 2
def funAt (ls : List Line) : Nat → Nat → Line → MK → MK
  | 0 => pointsS ls
  | 1 => fun _ => penaltyS
  | 2 => fun _ => chooseS fun w p => lessS p w
  | _ => fun _ => chooseS lessS
def phase (ls : List Line) (m : MK) : Nat → MK
  | 0 => m
  | t + 1 => stepsTo (kindAt t) (funAt ls t) ls (phase ls m t) ls.length
def m0S : MK := ⟨[], ⟨0, 1⟩, 0, false⟩
def combineS (ls : List Line) : Credit × Int := if ls.length > 32 ∨ ls.any (fun l => !rightS l) = true then (zeroCredit, 1) else finishS (phase ls m0S 4)

theorem become_len (m : MK) (n : ByteArray) (p : Frac) (e : Int) : (becomeS m n p e).parts.length ≤ m.parts.length + 1 := by
  unfold becomeS
  split <;> simp
theorem funAt_len (ls : List Line) (t i : Nat) (l : Line) (m : MK) : (funAt ls t i l m).parts.length ≤ m.parts.length + 1 := by
  unfold funAt
  split
  · unfold pointsS
    split
    · exact become_len ..
    · split
      · omega
      · exact become_len ..
  · exact become_len ..
  · exact become_len ..
  · exact become_len ..
theorem stepsTo_len {kind : Int} {f : Nat → Line → MK → MK} (hf : ∀ i l m, (f i l m).parts.length ≤ m.parts.length + 1) (ls : List Line) (m : MK) : ∀ j, (stepsTo kind f ls m j).parts.length ≤ m.parts.length + j
  | 0 => by simp [stepsTo]
  | j + 1 => by
    have ih := stepsTo_len hf ls m j (kind := kind)
    unfold stepsTo
    split
    · split
      · have := hf j (by assumption) (stepsTo kind f ls m j)
        omega
      · omega
    · omega
theorem phase_len (ls : List Line) (m : MK) : ∀ t, (phase ls m t).parts.length ≤ m.parts.length + t * ls.length
  | 0 => by simp [phase]
  | t + 1 => by
    have ih := phase_len ls m t
    have := stepsTo_len (kind := kindAt t) (funAt_len ls t) ls (phase ls m t) ls.length
    simp only [phase, Nat.succ_mul]
    omega

theorem less_frac (a b : Frac) : Pure EE 44 [a.pv, b.pv] (.bool (lessS a b)) := less_fn goodEE EE_P a.n a.d b.n b.d
/-- Each of the four steps. -/
theorem step_at (k : Nat) (ls : List Line) (hls : ls.length ≤ 32) (v : PV) (hv : SliceP (ls.map Line.cs) v) {t : Nat} (ht : t < 4) :
    ∃ g first caps, (((stepsP k).drop (t * 2)).take 2 = [.int .i64 (kindAt t), .fn g first caps]) ∧ (∀ c ∈ first, c = .ptr k 0 0) ∧ (∀ nx, k < nx → ∀ c ∈ caps, Lt nx c) ∧
      ∀ (σ : Store) (nx : Nat) (m : MK) (i : Nat) (l : Line), Wf σ nx → MkAt σ k v m → m.parts.length ≤ 1000000 → ls[i]? = some l → ∃ σ' nx', Fn EE g σ nx (first ++ [.int .i64 i] ++ caps) (.ret (.tup [])) σ' nx' ∧ MkAt σ' k v (funAt ls t i l m) ∧ MkStep σ nx k σ' nx' := by
  have hlist : ∀ i l, ls[i]? = some l → v = .list (ls.map Line.cs) := fun i l h => hv.lt (i := i) (by simpa using (List.getElem?_eq_some_iff.1 h).1)
  match t, ht with
  | 0, _ =>
    refine ⟨_, _, _, rfl, fun c hc => by simpa using hc, fun nx _ c hc => by simp at hc, fun σ nx m i l hw hm hl hi => ?_⟩
    obtain rfl := hlist i l hi
    exact points_fn hw hm hl (by omega) hi
  | 1, _ =>
    refine ⟨_, _, _, rfl, fun c hc => by simp at hc, fun nx h c hc => ?_, fun σ nx m i l hw hm hl hi => ?_⟩
    · simp at hc; subst hc; simp [lt_cells, lt_ptr, h]
    · obtain rfl := hlist i l hi
      exact penalty_fn hw hm hl (by omega) hi
  | 2, _ =>
    refine ⟨_, _, _, rfl, fun c hc => by simp at hc, fun nx h c hc => ?_, fun σ nx m i l hw hm hl hi => ?_⟩
    · simp at hc; rcases hc with rfl | rfl <;> simp [lt_cells, lt_ptr, lt_fn, h]
    · obtain rfl := hlist i l hi
      exact choose_fn hw hm hl (by omega) hi floorless_fn
  | 3, _ =>
    refine ⟨_, _, _, rfl, fun c hc => by simp at hc, fun nx h c hc => ?_, fun σ nx m i l hw hm hl hi => ?_⟩
    · simp at hc; rcases hc with rfl | rfl <;> simp [lt_cells, lt_ptr, lt_fn, h]
    · obtain rfl := hlist i l hi
      exact choose_fn hw hm hl (by omega) hi less_frac
theorem indexFunc_none {v : PV} (hv : SliceP [] v) (fv : PV) : Pure EE 59 [v, fv] (.int .i64 (-1)) := by
  intro σ nx
  refine fn_of_body goodEE (by rw [EE_P]; exact Tryz.func59) rfl rfl (by kernel_rfl) (Nat.le_of_ble_eq_true rfl) (Nat.le_refl _) fun hwf hlt => ?_
  rw [show Tryz.f59.results.toList = [.tmp 4] from rfl]
  refine awp_begin _ _ _ _ _ (cc := _) (by conv => lhs; simp only [push_cast, Nat.reduceEqDiff, Nat.reduceAdd, Nat.reduceMul, Nat.reduceLeDiff, Nat.reduceLT, reduceIte, reduceCtorEq, Nat.reduceShiftRight, Nat.reduceAnd, Nat.reducePow, Nat.reduceOr, Nat.reduceBNe, Nat.reduceBEq, Int.reduceToNat, Int.reduceLT, Int.reduceLE, Int.reduceGT, Int.reduceGE, Int.reduceEq, Int.reduceNe, Int.reduceNeg, Int.reduceAdd, Int.reduceSub, Int.reduceMul, Tryz.f59]) ?_
  simp only [push_cast, Nat.reduceEqDiff, Nat.reduceAdd, Nat.reduceMul, Nat.reduceLeDiff, Nat.reduceLT, reduceIte, reduceCtorEq, Nat.reduceShiftRight, Nat.reduceAnd, Nat.reducePow, Nat.reduceOr, Nat.reduceBNe, Nat.reduceBEq, Int.reduceToNat, Int.reduceLT, Int.reduceLE, Int.reduceGT, Int.reduceGE, Int.reduceEq, Int.reduceNe, Int.reduceNeg, Int.reduceAdd, Int.reduceSub, Int.reduceMul, EE_P]
  repeat' (first | simp only [push_cast, Nat.reduceEqDiff, Nat.reduceAdd, Nat.reduceMul, Nat.reduceLeDiff, Nat.reduceLT, reduceIte, reduceCtorEq, Nat.reduceShiftRight, Nat.reduceAnd, Nat.reducePow, Nat.reduceOr, Nat.reduceBNe, Nat.reduceBEq, Int.reduceToNat, Int.reduceLT, Int.reduceLE, Int.reduceGT, Int.reduceGE, Int.reduceEq, Int.reduceNe, Int.reduceNeg, Int.reduceAdd, Int.reduceSub, Int.reduceMul, EE_P, hv.len, hv.str] | simp (disch := omega) only [wrap_fits] | ((first | with_reducible apply wcall_pure | with_reducible apply wdcall_pure); focus (first | assumption | exact steps_fn _ | exact choosef_fn _ _ | exact wrong_fn _ | exact right_fn _ | exact isName_fn _ | exact formatExpr_name _ | exact format_name _ | exact right_name _ | exact depth_name _ | exact name_fn _ | exact run_fn _ (by omega) _ [] [] _ (fun b _ _ => inName_fn b) | exact keywords_fn | exact contains_fn kwS (by decide) _ | exact inName_fn _ | exact digit_fn _ | exact letter_fn _ | exact hundredths_fn goodEE EE_P _ _ | exact mul_fn goodEE EE_P _ _ _ _ | exact sub_fn goodEE EE_P _ _ _ _ | exact add_fn goodEE EE_P _ _ _ _ | exact weight_fn goodEE EE_P EE_zero _ _ _ _ _ _ _ | exact less_fn goodEE EE_P _ _ _ _ | exact compare_fn goodEE EE_P _ _ _ _ | exact cmp_fn goodEE EE_P _ _ | exact isNaN_fn goodEE EE_P _ | exact valid_fn goodEE EE_P _ _ | exact abs_fn goodEE EE_P (by omega) (by omega))) | (with_reducible refine wguard_split_t (fun h => ?_) (fun h => ?_)) | (with_reducible refine wguard_split_f (fun h => ?_) (fun h => ?_)) | (with_reducible refine wcond_split (fun h => ?_) (fun h => ?_)) | (with_reducible refine wdguard_split_t (fun h => ?_) (fun h => ?_)) | (with_reducible refine wdguard_split_f (fun h => ?_) (fun h => ?_)) | (with_reducible refine And.intro (fun h => ?_) (fun h => ?_)) | (with_reducible apply And.intro; focus omega))
  apply wloop_once
  repeat' (first | simp only [push_cast, Nat.reduceEqDiff, Nat.reduceAdd, Nat.reduceMul, Nat.reduceLeDiff, Nat.reduceLT, reduceIte, reduceCtorEq, Nat.reduceShiftRight, Nat.reduceAnd, Nat.reducePow, Nat.reduceOr, Nat.reduceBNe, Nat.reduceBEq, Int.reduceToNat, Int.reduceLT, Int.reduceLE, Int.reduceGT, Int.reduceGE, Int.reduceEq, Int.reduceNe, Int.reduceNeg, Int.reduceAdd, Int.reduceSub, Int.reduceMul, EE_P, hv.len, hv.str] | simp (disch := omega) only [wrap_fits] | ((first | with_reducible apply wcall_pure | with_reducible apply wdcall_pure); focus (first | assumption | exact steps_fn _ | exact choosef_fn _ _ | exact wrong_fn _ | exact right_fn _ | exact isName_fn _ | exact formatExpr_name _ | exact format_name _ | exact right_name _ | exact depth_name _ | exact name_fn _ | exact run_fn _ (by omega) _ [] [] _ (fun b _ _ => inName_fn b) | exact keywords_fn | exact contains_fn kwS (by decide) _ | exact inName_fn _ | exact digit_fn _ | exact letter_fn _ | exact hundredths_fn goodEE EE_P _ _ | exact mul_fn goodEE EE_P _ _ _ _ | exact sub_fn goodEE EE_P _ _ _ _ | exact add_fn goodEE EE_P _ _ _ _ | exact weight_fn goodEE EE_P EE_zero _ _ _ _ _ _ _ | exact less_fn goodEE EE_P _ _ _ _ | exact compare_fn goodEE EE_P _ _ _ _ | exact cmp_fn goodEE EE_P _ _ | exact isNaN_fn goodEE EE_P _ | exact valid_fn goodEE EE_P _ _ | exact abs_fn goodEE EE_P (by omega) (by omega))) | (with_reducible refine wguard_split_t (fun h => ?_) (fun h => ?_)) | (with_reducible refine wguard_split_f (fun h => ?_) (fun h => ?_)) | (with_reducible refine wcond_split (fun h => ?_) (fun h => ?_)) | (with_reducible refine wdguard_split_t (fun h => ?_) (fun h => ?_)) | (with_reducible refine wdguard_split_f (fun h => ?_) (fun h => ?_)) | (with_reducible refine And.intro (fun h => ?_) (fun h => ?_)) | (with_reducible apply And.intro; focus omega))
  ((refine ends_ret (by simp only [resultsOf, resOf, push_cast, Nat.reduceEqDiff, Nat.reduceAdd, Nat.reduceMul, Nat.reduceLeDiff, Nat.reduceLT, reduceIte, reduceCtorEq, Nat.reduceShiftRight, Nat.reduceAnd, Nat.reducePow, Nat.reduceOr, Nat.reduceBNe, Nat.reduceBEq, Int.reduceToNat, Int.reduceLT, Int.reduceLE, Int.reduceGT, Int.reduceGE, Int.reduceEq, Int.reduceNe, Int.reduceNeg, Int.reduceAdd, Int.reduceSub, Int.reduceMul, EE_P]; rfl) (by simp only [push_cast, Nat.reduceEqDiff, Nat.reduceAdd, Nat.reduceMul, Nat.reduceLeDiff, Nat.reduceLT, reduceIte, reduceCtorEq, Nat.reduceShiftRight, Nat.reduceAnd, Nat.reducePow, Nat.reduceOr, Nat.reduceBNe, Nat.reduceBEq, Int.reduceToNat, Int.reduceLT, Int.reduceLE, Int.reduceGT, Int.reduceGE, Int.reduceEq, Int.reduceNe, Int.reduceNeg, Int.reduceAdd, Int.reduceSub, Int.reduceMul, EE_P]) ?_ (by repeat' (first | exact Keeps.refl _ | assumption | exact (hwf.keep1 _) | refine Keeps.new hwf ?_ (by omega) _)) (by simp only [lt_int, lt_bool, lt_str, lt_nil, lt_empty, lt_agg, lt_tup, lt_list, lt_cells, lt_fn, lt_nilp, lt_nilfn, lt_nili, List.mem_cons, List.not_mem_nil, or_false, forall_eq_or_imp, forall_eq, and_true, true_and, and_self, implies_true, *]; try omega)); (try simp only [tupOf, push_cast, Nat.reduceEqDiff, Nat.reduceAdd, Nat.reduceMul, Nat.reduceLeDiff, Nat.reduceLT, reduceIte, reduceCtorEq, Nat.reduceShiftRight, Nat.reduceAnd, Nat.reducePow, Nat.reduceOr, Nat.reduceBNe, Nat.reduceBEq, Int.reduceToNat, Int.reduceLT, Int.reduceLE, Int.reduceGT, Int.reduceGE, Int.reduceEq, Int.reduceNe, Int.reduceNeg, Int.reduceAdd, Int.reduceSub, Int.reduceMul, EE_P]))
theorem containsFunc_none {v : PV} (hv : SliceP [] v) (fv : PV) : Pure EE 31 [v, fv] (.bool false) := by
  intro σ nx
  refine fn_of_body goodEE (by rw [EE_P]; exact Tryz.func31) rfl rfl (by kernel_rfl) (Nat.le_of_ble_eq_true rfl) (Nat.le_refl _) fun hwf hlt => ?_
  rw [show Tryz.f31.results.toList = [.tmp 4] from rfl]
  refine awp_begin _ _ _ _ _ (cc := _) (by conv => lhs; simp only [push_cast, Nat.reduceEqDiff, Nat.reduceAdd, Nat.reduceMul, Nat.reduceLeDiff, Nat.reduceLT, reduceIte, reduceCtorEq, Nat.reduceShiftRight, Nat.reduceAnd, Nat.reducePow, Nat.reduceOr, Nat.reduceBNe, Nat.reduceBEq, Int.reduceToNat, Int.reduceLT, Int.reduceLE, Int.reduceGT, Int.reduceGE, Int.reduceEq, Int.reduceNe, Int.reduceNeg, Int.reduceAdd, Int.reduceSub, Int.reduceMul, Tryz.f31]) ?_
  simp only [push_cast, Nat.reduceEqDiff, Nat.reduceAdd, Nat.reduceMul, Nat.reduceLeDiff, Nat.reduceLT, reduceIte, reduceCtorEq, Nat.reduceShiftRight, Nat.reduceAnd, Nat.reducePow, Nat.reduceOr, Nat.reduceBNe, Nat.reduceBEq, Int.reduceToNat, Int.reduceLT, Int.reduceLE, Int.reduceGT, Int.reduceGE, Int.reduceEq, Int.reduceNe, Int.reduceNeg, Int.reduceAdd, Int.reduceSub, Int.reduceMul, EE_P]
  apply wcall_pure
  focus exact indexFunc_none hv fv
  repeat' (first | simp only [push_cast, Nat.reduceEqDiff, Nat.reduceAdd, Nat.reduceMul, Nat.reduceLeDiff, Nat.reduceLT, reduceIte, reduceCtorEq, Nat.reduceShiftRight, Nat.reduceAnd, Nat.reducePow, Nat.reduceOr, Nat.reduceBNe, Nat.reduceBEq, Int.reduceToNat, Int.reduceLT, Int.reduceLE, Int.reduceGT, Int.reduceGE, Int.reduceEq, Int.reduceNe, Int.reduceNeg, Int.reduceAdd, Int.reduceSub, Int.reduceMul, EE_P] | simp (disch := omega) only [wrap_fits] | ((first | with_reducible apply wcall_pure | with_reducible apply wdcall_pure); focus (first | assumption | fail)) | (with_reducible refine wguard_split_t (fun h => ?_) (fun h => ?_)) | (with_reducible refine wguard_split_f (fun h => ?_) (fun h => ?_)) | (with_reducible refine wcond_split (fun h => ?_) (fun h => ?_)) | (with_reducible refine wdguard_split_t (fun h => ?_) (fun h => ?_)) | (with_reducible refine wdguard_split_f (fun h => ?_) (fun h => ?_)) | (with_reducible refine And.intro (fun h => ?_) (fun h => ?_)) | (with_reducible apply And.intro; focus omega))
  ((refine ends_ret (by simp only [resultsOf, resOf, push_cast, Nat.reduceEqDiff, Nat.reduceAdd, Nat.reduceMul, Nat.reduceLeDiff, Nat.reduceLT, reduceIte, reduceCtorEq, Nat.reduceShiftRight, Nat.reduceAnd, Nat.reducePow, Nat.reduceOr, Nat.reduceBNe, Nat.reduceBEq, Int.reduceToNat, Int.reduceLT, Int.reduceLE, Int.reduceGT, Int.reduceGE, Int.reduceEq, Int.reduceNe, Int.reduceNeg, Int.reduceAdd, Int.reduceSub, Int.reduceMul, EE_P]; rfl) (by simp only [push_cast, Nat.reduceEqDiff, Nat.reduceAdd, Nat.reduceMul, Nat.reduceLeDiff, Nat.reduceLT, reduceIte, reduceCtorEq, Nat.reduceShiftRight, Nat.reduceAnd, Nat.reducePow, Nat.reduceOr, Nat.reduceBNe, Nat.reduceBEq, Int.reduceToNat, Int.reduceLT, Int.reduceLE, Int.reduceGT, Int.reduceGE, Int.reduceEq, Int.reduceNe, Int.reduceNeg, Int.reduceAdd, Int.reduceSub, Int.reduceMul, EE_P]) ?_ (by repeat' (first | exact Keeps.refl _ | assumption | exact (hwf.keep1 _) | refine Keeps.new hwf ?_ (by omega) _)) (by simp only [lt_int, lt_bool, lt_str, lt_nil, lt_empty, lt_agg, lt_tup, lt_list, lt_cells, lt_fn, lt_nilp, lt_nilfn, lt_nili, List.mem_cons, List.not_mem_nil, or_false, forall_eq_or_imp, forall_eq, and_true, true_and, and_self, implies_true, *]; try omega)); (try simp only [tupOf, push_cast, Nat.reduceEqDiff, Nat.reduceAdd, Nat.reduceMul, Nat.reduceLeDiff, Nat.reduceLT, reduceIte, reduceCtorEq, Nat.reduceShiftRight, Nat.reduceAnd, Nat.reducePow, Nat.reduceOr, Nat.reduceBNe, Nat.reduceBEq, Int.reduceToNat, Int.reduceLT, Int.reduceLE, Int.reduceGT, Int.reduceGE, Int.reduceEq, Int.reduceNe, Int.reduceNeg, Int.reduceAdd, Int.reduceSub, Int.reduceMul, EE_P]))
  simp
theorem contains_wrong {ls : List Line} (hls : ls.length ≤ 32) {v : PV} (hv : SliceP (ls.map Line.cs) v) : Pure EE 31 [v, .fn 32 [] []] (.bool (ls.any fun l => !rightS l)) := by
  cases hv with
  | list =>
    intro σ nx
    exact containsFunc_lines (first := []) (caps := []) (by omega) (fun l _ m _ => wrong_fn l σ m) nx (Nat.le_refl _)
  | nil h =>
    have : ls = [] := by simpa using h
    subst this
    exact containsFunc_none (.nil rfl) _
  | empty h =>
    have : ls = [] := by simpa using h
    subst this
    exact containsFunc_none (.empty rfl) _
theorem combine_big {ls : List Line} {v : PV} (hv : SliceP (ls.map Line.cs) v) (h : ¬ ls.length ≤ 32) : Pure EE 12 [v] (.tup [zeroCredit.val, .int .i64 1]) := by
  have hl : ((ls.length : Int) > 32) := by omega
  have hvl := hv.len
  simp only [List.length_map] at hvl
  intro σ nx
  refine fn_of_body goodEE (by rw [EE_P]; exact Tryz.func12) rfl rfl (by kernel_rfl) (Nat.le_of_ble_eq_true rfl) (Nat.le_refl _) fun hwf hlt => ?_
  rw [show Tryz.f12.results.toList = [.cell 2 29, .tmp 3] from rfl]
  refine awp_begin _ _ _ _ _ (cc := _) (by conv => lhs; simp only [push_cast, Nat.reduceEqDiff, Nat.reduceAdd, Nat.reduceMul, Nat.reduceLeDiff, Nat.reduceLT, reduceIte, reduceCtorEq, Nat.reduceShiftRight, Nat.reduceAnd, Nat.reducePow, Nat.reduceOr, Nat.reduceBNe, Nat.reduceBEq, Int.reduceToNat, Int.reduceLT, Int.reduceLE, Int.reduceGT, Int.reduceGE, Int.reduceEq, Int.reduceNe, Int.reduceNeg, Int.reduceAdd, Int.reduceSub, Int.reduceMul, Tryz.f12]) ?_
  simp only [push_cast, Nat.reduceEqDiff, Nat.reduceAdd, Nat.reduceMul, Nat.reduceLeDiff, Nat.reduceLT, reduceIte, reduceCtorEq, Nat.reduceShiftRight, Nat.reduceAnd, Nat.reducePow, Nat.reduceOr, Nat.reduceBNe, Nat.reduceBEq, Int.reduceToNat, Int.reduceLT, Int.reduceLE, Int.reduceGT, Int.reduceGE, Int.reduceEq, Int.reduceNe, Int.reduceNeg, Int.reduceAdd, Int.reduceSub, Int.reduceMul, EE_P]
  have hzl := credit_lt nx zeroCredit
  repeat' (first | simp only [push_cast, Nat.reduceEqDiff, Nat.reduceAdd, Nat.reduceMul, Nat.reduceLeDiff, Nat.reduceLT, reduceIte, reduceCtorEq, Nat.reduceShiftRight, Nat.reduceAnd, Nat.reducePow, Nat.reduceOr, Nat.reduceBNe, Nat.reduceBEq, Int.reduceToNat, Int.reduceLT, Int.reduceLE, Int.reduceGT, Int.reduceGE, Int.reduceEq, Int.reduceNe, Int.reduceNeg, Int.reduceAdd, Int.reduceSub, Int.reduceMul, EE_P, hvl, hv.str, hl, decide_true] | simp (disch := omega) only [wrap_fits] | ((first | with_reducible apply wcall_pure | with_reducible apply wdcall_pure); focus (first | assumption | exact steps_fn _ | exact choosef_fn _ _ | exact wrong_fn _ | exact right_fn _ | exact isName_fn _ | exact formatExpr_name _ | exact format_name _ | exact right_name _ | exact depth_name _ | exact name_fn _ | exact run_fn _ (by omega) _ [] [] _ (fun b _ _ => inName_fn b) | exact keywords_fn | exact contains_fn kwS (by decide) _ | exact inName_fn _ | exact digit_fn _ | exact letter_fn _ | exact hundredths_fn goodEE EE_P _ _ | exact mul_fn goodEE EE_P _ _ _ _ | exact sub_fn goodEE EE_P _ _ _ _ | exact add_fn goodEE EE_P _ _ _ _ | exact weight_fn goodEE EE_P EE_zero _ _ _ _ _ _ _ | exact less_fn goodEE EE_P _ _ _ _ | exact compare_fn goodEE EE_P _ _ _ _ | exact cmp_fn goodEE EE_P _ _ | exact isNaN_fn goodEE EE_P _ | exact valid_fn goodEE EE_P _ _ | exact abs_fn goodEE EE_P (by omega) (by omega))) | (with_reducible refine wguard_split_t (fun h => ?_) (fun h => ?_)) | (with_reducible refine wguard_split_f (fun h => ?_) (fun h => ?_)) | (with_reducible refine wcond_split (fun h => ?_) (fun h => ?_)) | (with_reducible refine wdguard_split_t (fun h => ?_) (fun h => ?_)) | (with_reducible refine wdguard_split_f (fun h => ?_) (fun h => ?_)) | (with_reducible refine And.intro (fun h => ?_) (fun h => ?_)) | (with_reducible apply And.intro; focus omega))
  ((refine ends_ret (by simp only [resultsOf, resOf, push_cast, Nat.reduceEqDiff, Nat.reduceAdd, Nat.reduceMul, Nat.reduceLeDiff, Nat.reduceLT, reduceIte, reduceCtorEq, Nat.reduceShiftRight, Nat.reduceAnd, Nat.reducePow, Nat.reduceOr, Nat.reduceBNe, Nat.reduceBEq, Int.reduceToNat, Int.reduceLT, Int.reduceLE, Int.reduceGT, Int.reduceGE, Int.reduceEq, Int.reduceNe, Int.reduceNeg, Int.reduceAdd, Int.reduceSub, Int.reduceMul, EE_P]; rfl) (by simp only [push_cast, Nat.reduceEqDiff, Nat.reduceAdd, Nat.reduceMul, Nat.reduceLeDiff, Nat.reduceLT, reduceIte, reduceCtorEq, Nat.reduceShiftRight, Nat.reduceAnd, Nat.reducePow, Nat.reduceOr, Nat.reduceBNe, Nat.reduceBEq, Int.reduceToNat, Int.reduceLT, Int.reduceLE, Int.reduceGT, Int.reduceGE, Int.reduceEq, Int.reduceNe, Int.reduceNeg, Int.reduceAdd, Int.reduceSub, Int.reduceMul, EE_P]) ?_ (by repeat' (first | exact Keeps.refl _ | assumption | exact (hwf.keep1 _) | refine Keeps.new hwf ?_ (by omega) _)) (by simp only [lt_int, lt_bool, lt_str, lt_nil, lt_empty, lt_agg, lt_tup, lt_list, lt_cells, lt_fn, lt_nilp, lt_nilfn, lt_nili, List.mem_cons, List.not_mem_nil, or_false, forall_eq_or_imp, forall_eq, and_true, true_and, and_self, implies_true, *]; try omega)); (try simp only [tupOf, push_cast, Nat.reduceEqDiff, Nat.reduceAdd, Nat.reduceMul, Nat.reduceLeDiff, Nat.reduceLT, reduceIte, reduceCtorEq, Nat.reduceShiftRight, Nat.reduceAnd, Nat.reducePow, Nat.reduceOr, Nat.reduceBNe, Nat.reduceBEq, Int.reduceToNat, Int.reduceLT, Int.reduceLE, Int.reduceGT, Int.reduceGE, Int.reduceEq, Int.reduceNe, Int.reduceNeg, Int.reduceAdd, Int.reduceSub, Int.reduceMul, EE_P]))
  simp [zeroCredit, Credit.val, Credit.pv, partsV]
theorem combine_wrong {ls : List Line} {v : PV} (hv : SliceP (ls.map Line.cs) v) (h : ls.length ≤ 32) (h' : (ls.any fun l => !rightS l) = true) : Pure EE 12 [v] (.tup [zeroCredit.val, .int .i64 1]) := by
  have hl : ¬ ((ls.length : Int) > 32) := by omega
  have hvl := hv.len
  simp only [List.length_map] at hvl
  have hc := contains_wrong h hv
  rw [h'] at hc
  intro σ nx
  refine fn_of_body goodEE (by rw [EE_P]; exact Tryz.func12) rfl rfl (by kernel_rfl) (Nat.le_of_ble_eq_true rfl) (Nat.le_refl _) fun hwf hlt => ?_
  rw [show Tryz.f12.results.toList = [.cell 2 29, .tmp 3] from rfl]
  refine awp_begin _ _ _ _ _ (cc := _) (by conv => lhs; simp only [push_cast, Nat.reduceEqDiff, Nat.reduceAdd, Nat.reduceMul, Nat.reduceLeDiff, Nat.reduceLT, reduceIte, reduceCtorEq, Nat.reduceShiftRight, Nat.reduceAnd, Nat.reducePow, Nat.reduceOr, Nat.reduceBNe, Nat.reduceBEq, Int.reduceToNat, Int.reduceLT, Int.reduceLE, Int.reduceGT, Int.reduceGE, Int.reduceEq, Int.reduceNe, Int.reduceNeg, Int.reduceAdd, Int.reduceSub, Int.reduceMul, Tryz.f12]) ?_
  simp only [push_cast, Nat.reduceEqDiff, Nat.reduceAdd, Nat.reduceMul, Nat.reduceLeDiff, Nat.reduceLT, reduceIte, reduceCtorEq, Nat.reduceShiftRight, Nat.reduceAnd, Nat.reducePow, Nat.reduceOr, Nat.reduceBNe, Nat.reduceBEq, Int.reduceToNat, Int.reduceLT, Int.reduceLE, Int.reduceGT, Int.reduceGE, Int.reduceEq, Int.reduceNe, Int.reduceNeg, Int.reduceAdd, Int.reduceSub, Int.reduceMul, EE_P]
  have hzl := credit_lt nx zeroCredit
  repeat' (first | simp only [push_cast, Nat.reduceEqDiff, Nat.reduceAdd, Nat.reduceMul, Nat.reduceLeDiff, Nat.reduceLT, reduceIte, reduceCtorEq, Nat.reduceShiftRight, Nat.reduceAnd, Nat.reducePow, Nat.reduceOr, Nat.reduceBNe, Nat.reduceBEq, Int.reduceToNat, Int.reduceLT, Int.reduceLE, Int.reduceGT, Int.reduceGE, Int.reduceEq, Int.reduceNe, Int.reduceNeg, Int.reduceAdd, Int.reduceSub, Int.reduceMul, EE_P, hvl, hv.str, hl, decide_false] | simp (disch := omega) only [wrap_fits] | ((first | with_reducible apply wcall_pure | with_reducible apply wdcall_pure); focus (first | assumption | exact steps_fn _ | exact choosef_fn _ _ | exact wrong_fn _ | exact right_fn _ | exact isName_fn _ | exact formatExpr_name _ | exact format_name _ | exact right_name _ | exact depth_name _ | exact name_fn _ | exact run_fn _ (by omega) _ [] [] _ (fun b _ _ => inName_fn b) | exact keywords_fn | exact contains_fn kwS (by decide) _ | exact inName_fn _ | exact digit_fn _ | exact letter_fn _ | exact hundredths_fn goodEE EE_P _ _ | exact mul_fn goodEE EE_P _ _ _ _ | exact sub_fn goodEE EE_P _ _ _ _ | exact add_fn goodEE EE_P _ _ _ _ | exact weight_fn goodEE EE_P EE_zero _ _ _ _ _ _ _ | exact less_fn goodEE EE_P _ _ _ _ | exact compare_fn goodEE EE_P _ _ _ _ | exact cmp_fn goodEE EE_P _ _ | exact isNaN_fn goodEE EE_P _ | exact valid_fn goodEE EE_P _ _ | exact abs_fn goodEE EE_P (by omega) (by omega))) | (with_reducible refine wguard_split_t (fun h => ?_) (fun h => ?_)) | (with_reducible refine wguard_split_f (fun h => ?_) (fun h => ?_)) | (with_reducible refine wcond_split (fun h => ?_) (fun h => ?_)) | (with_reducible refine wdguard_split_t (fun h => ?_) (fun h => ?_)) | (with_reducible refine wdguard_split_f (fun h => ?_) (fun h => ?_)) | (with_reducible refine And.intro (fun h => ?_) (fun h => ?_)) | (with_reducible apply And.intro; focus omega))
  ((refine ends_ret (by simp only [resultsOf, resOf, push_cast, Nat.reduceEqDiff, Nat.reduceAdd, Nat.reduceMul, Nat.reduceLeDiff, Nat.reduceLT, reduceIte, reduceCtorEq, Nat.reduceShiftRight, Nat.reduceAnd, Nat.reducePow, Nat.reduceOr, Nat.reduceBNe, Nat.reduceBEq, Int.reduceToNat, Int.reduceLT, Int.reduceLE, Int.reduceGT, Int.reduceGE, Int.reduceEq, Int.reduceNe, Int.reduceNeg, Int.reduceAdd, Int.reduceSub, Int.reduceMul, EE_P]; rfl) (by simp only [push_cast, Nat.reduceEqDiff, Nat.reduceAdd, Nat.reduceMul, Nat.reduceLeDiff, Nat.reduceLT, reduceIte, reduceCtorEq, Nat.reduceShiftRight, Nat.reduceAnd, Nat.reducePow, Nat.reduceOr, Nat.reduceBNe, Nat.reduceBEq, Int.reduceToNat, Int.reduceLT, Int.reduceLE, Int.reduceGT, Int.reduceGE, Int.reduceEq, Int.reduceNe, Int.reduceNeg, Int.reduceAdd, Int.reduceSub, Int.reduceMul, EE_P]) ?_ (by repeat' (first | exact Keeps.refl _ | assumption | exact (hwf.keep1 _) | refine Keeps.new hwf ?_ (by omega) _)) (by simp only [lt_int, lt_bool, lt_str, lt_nil, lt_empty, lt_agg, lt_tup, lt_list, lt_cells, lt_fn, lt_nilp, lt_nilfn, lt_nili, List.mem_cons, List.not_mem_nil, or_false, forall_eq_or_imp, forall_eq, and_true, true_and, and_self, implies_true, *]; try omega)); (try simp only [tupOf, push_cast, Nat.reduceEqDiff, Nat.reduceAdd, Nat.reduceMul, Nat.reduceLeDiff, Nat.reduceLT, reduceIte, reduceCtorEq, Nat.reduceShiftRight, Nat.reduceAnd, Nat.reducePow, Nat.reduceOr, Nat.reduceBNe, Nat.reduceBEq, Int.reduceToNat, Int.reduceLT, Int.reduceLE, Int.reduceGT, Int.reduceGE, Int.reduceEq, Int.reduceNe, Int.reduceNeg, Int.reduceAdd, Int.reduceSub, Int.reduceMul, EE_P]))
  simp [zeroCredit, Credit.val, Credit.pv, partsV]
theorem not_own {σ : Store} {k j : Nat} {lv : PV} {m : MK} (h : MkAt σ k lv m) (hj : j ≠ k) (hr : ∀ p rest, σ j ≠ some (.row (Part.cs p :: rest))) : ¬ Own σ k j := by
  rintro (rfl | ⟨lv', m', off, len, ho⟩)
  · exact hj rfl
  · obtain ⟨pv, hk, hp⟩ := h
    rw [hk] at ho
    simp only [MK.row, Option.some.injEq, AObj.row.injEq, List.cons.injEq, and_true] at ho
    obtain ⟨_, rfl, _⟩ := ho
    cases hp with
    | row kp hkp h' hn =>
      cases hps : m.parts with
      | nil => exact hn hps
      | cons p ps =>
        rw [hps] at h'
        exact hr p (ps.map Part.cs) h'
theorem stepsTo_succ {kind : Int} {f : Nat → Line → MK → MK} {ls : List Line} {m : MK} {j : Nat} (h : j < ls.length) :
    stepsTo kind f ls m (j + 1) = if (ls[j].app && decide (ls[j].kind = kind)) = true then f j ls[j] (stepsTo kind f ls m j) else stepsTo kind f ls m j := by
  conv => lhs; unfold stepsTo
  rw [List.getElem?_eq_getElem h]
theorem combine_right {ls : List Line} {v : PV} (hv : SliceP (ls.map Line.cs) v) (h : ls.length ≤ 32) (h' : (ls.any fun l => !rightS l) = false) : Pure EE 12 [v] (.tup [(finishS (phase ls m0S 4)).1.val, .int .i64 (finishS (phase ls m0S 4)).2]) := by
  have hl : ¬ ((ls.length : Int) > 32) := by omega
  have hvl := hv.len
  simp only [List.length_map] at hvl
  have hc := contains_wrong h hv
  rw [h'] at hc
  intro σ nx
  refine fn_of_body goodEE (by rw [EE_P]; exact Tryz.func12) rfl rfl (by kernel_rfl) (Nat.le_of_ble_eq_true rfl) (Nat.le_refl _) fun hwf hlt => ?_
  rw [show Tryz.f12.results.toList = [.cell 2 29, .tmp 3] from rfl]
  refine awp_begin _ _ _ _ _ (cc := _) (by conv => lhs; simp only [push_cast, Nat.reduceEqDiff, Nat.reduceAdd, Nat.reduceMul, Nat.reduceLeDiff, Nat.reduceLT, reduceIte, reduceCtorEq, Nat.reduceShiftRight, Nat.reduceAnd, Nat.reducePow, Nat.reduceOr, Nat.reduceBNe, Nat.reduceBEq, Int.reduceToNat, Int.reduceLT, Int.reduceLE, Int.reduceGT, Int.reduceGE, Int.reduceEq, Int.reduceNe, Int.reduceNeg, Int.reduceAdd, Int.reduceSub, Int.reduceMul, Tryz.f12]) ?_
  simp only [push_cast, Nat.reduceEqDiff, Nat.reduceAdd, Nat.reduceMul, Nat.reduceLeDiff, Nat.reduceLT, reduceIte, reduceCtorEq, Nat.reduceShiftRight, Nat.reduceAnd, Nat.reducePow, Nat.reduceOr, Nat.reduceBNe, Nat.reduceBEq, Int.reduceToNat, Int.reduceLT, Int.reduceLE, Int.reduceGT, Int.reduceGE, Int.reduceEq, Int.reduceNe, Int.reduceNeg, Int.reduceAdd, Int.reduceSub, Int.reduceMul, EE_P]
  repeat' (first | simp only [push_cast, Nat.reduceEqDiff, Nat.reduceAdd, Nat.reduceMul, Nat.reduceLeDiff, Nat.reduceLT, reduceIte, reduceCtorEq, Nat.reduceShiftRight, Nat.reduceAnd, Nat.reducePow, Nat.reduceOr, Nat.reduceBNe, Nat.reduceBEq, Int.reduceToNat, Int.reduceLT, Int.reduceLE, Int.reduceGT, Int.reduceGE, Int.reduceEq, Int.reduceNe, Int.reduceNeg, Int.reduceAdd, Int.reduceSub, Int.reduceMul, EE_P, hvl, hv.str, hv.one, hv.cells, hl, decide_false, EE_zero] | simp (disch := omega) only [wrap_fits] | ((first | with_reducible apply wcall_pure | with_reducible apply wdcall_pure); focus (first | assumption | exact steps_fn _ | exact choosef_fn _ _ | exact wrong_fn _ | exact right_fn _ | exact isName_fn _ | exact formatExpr_name _ | exact format_name _ | exact right_name _ | exact depth_name _ | exact name_fn _ | exact run_fn _ (by omega) _ [] [] _ (fun b _ _ => inName_fn b) | exact keywords_fn | exact contains_fn kwS (by decide) _ | exact inName_fn _ | exact digit_fn _ | exact letter_fn _ | exact hundredths_fn goodEE EE_P _ _ | exact mul_fn goodEE EE_P _ _ _ _ | exact sub_fn goodEE EE_P _ _ _ _ | exact add_fn goodEE EE_P _ _ _ _ | exact weight_fn goodEE EE_P EE_zero _ _ _ _ _ _ _ | exact less_fn goodEE EE_P _ _ _ _ | exact compare_fn goodEE EE_P _ _ _ _ | exact cmp_fn goodEE EE_P _ _ | exact isNaN_fn goodEE EE_P _ | exact valid_fn goodEE EE_P _ _ | exact abs_fn goodEE EE_P (by omega) (by omega))) | (with_reducible refine wguard_split_t (fun h => ?_) (fun h => ?_)) | (with_reducible refine wguard_split_f (fun h => ?_) (fun h => ?_)) | (with_reducible refine wcond_split (fun h => ?_) (fun h => ?_)) | (with_reducible refine wdguard_split_t (fun h => ?_) (fun h => ?_)) | (with_reducible refine wdguard_split_f (fun h => ?_) (fun h => ?_)) | (with_reducible refine And.intro (fun h => ?_) (fun h => ?_)) | (with_reducible apply And.intro; focus omega))
  obtain ⟨k, hk⟩ : ∃ k, k = nx + 13 := ⟨_, rfl⟩
  rw [← hk]
  have hkx : nx ≤ k := by omega
  have hvlt : Lt nx v := hlt v (by simp)
  have hwf1 : Wf (upd (upd σ nx (some (.row [[.nil, .int .i64 0, .int .i64 0, .int .i64 0]]))) k (some (.row [[v, .nil, .int .i64 0, .int .i64 1, .int .i64 0, .bool false]]))) (nx + 18) := by
    refine (hwf.set (m := nx + 18) (by omega) (by omega) (fun o e => ?_)).set (Nat.le_refl _) (by omega) (fun o e => ?_)
    · cases e; (simp only [ObjLt, push_cast, Nat.reduceEqDiff, Nat.reduceAdd, Nat.reduceMul, Nat.reduceLeDiff, Nat.reduceLT, reduceIte, reduceCtorEq, Nat.reduceShiftRight, Nat.reduceAnd, Nat.reducePow, Nat.reduceOr, Nat.reduceBNe, Nat.reduceBEq, Int.reduceToNat, Int.reduceLT, Int.reduceLE, Int.reduceGT, Int.reduceGE, Int.reduceEq, Int.reduceNe, Int.reduceNeg, Int.reduceAdd, Int.reduceSub, Int.reduceMul, lt_int, lt_bool, lt_str, lt_nil, lt_empty, lt_agg, lt_tup, lt_list, lt_cells, lt_fn, lt_ptr, lt_row, lt_nilp, lt_nilfn, lt_nili, List.mem_cons, List.not_mem_nil, or_false, forall_eq_or_imp, forall_eq, and_true, true_and, and_self, implies_true, false_implies]; try omega)
    · cases e; exact objlt_row (m := m0S) (hvlt.mono (by omega)) .nil
  have hm1 : MkAt (upd (upd σ nx (some (.row [[.nil, .int .i64 0, .int .i64 0, .int .i64 0]]))) k (some (.row [[v, .nil, .int .i64 0, .int .i64 1, .int .i64 0, .bool false]]))) k v m0S := ⟨.nil, upd_same .., .nil rfl⟩
  generalize hσ1 : upd (upd σ nx (some (.row [[.nil, .int .i64 0, .int .i64 0, .int .i64 0]]))) k (some (.row [[v, .nil, .int .i64 0, .int .i64 1, .int .i64 0, .bool false]])) = σ1 at hwf1 hm1 ⊢
  refine wloop_by (fun mm sl σ' nx' => ∃ t : Nat, t ≤ 4 ∧ mm = 4 - t ∧ sl 0 = v ∧ sl 2 = .ptr nx 0 0 ∧ sl 4 = .ptr k 0 0 ∧ sl 23 = .agg (stepsP k) ∧ sl 24 = .int .i64 t ∧ MkAt σ' k v (phase ls m0S t) ∧ MkStep σ1 (nx + 18) k σ' nx') 4
    ⟨0, by omega, rfl, rfl, rfl, rfl, rfl, rfl, hm1, .refl hwf1⟩ ?_
  rintro mm sl σ' nx' ⟨t, ht, hmm, h0, h2, h4, h23, h24, hm, hs⟩
  have ht0 : (0 : Int) ≤ t := by omega
  by_cases ht4 : t < 4
  · have ht4' : (t : Int) < 4 := by omega
    have hw : IntKind.i64.wrap ((t : Int) + 1) = (t : Int) + 1 := wrap_small (by omega) (by omega)
    obtain ⟨g, first, caps, hpk, hfirst, hcaps, hstep⟩ := step_at k ls h v hv ht4
    have hsl : (stepsP k).length = 8 := rfl
    repeat' (first | simp only [push_cast, Nat.reduceEqDiff, Nat.reduceAdd, Nat.reduceMul, Nat.reduceLeDiff, Nat.reduceLT, reduceIte, reduceCtorEq, Nat.reduceShiftRight, Nat.reduceAnd, Nat.reducePow, Nat.reduceOr, Nat.reduceBNe, Nat.reduceBEq, Int.reduceToNat, Int.reduceLT, Int.reduceLE, Int.reduceGT, Int.reduceGE, Int.reduceEq, Int.reduceNe, Int.reduceNeg, Int.reduceAdd, Int.reduceSub, Int.reduceMul, EE_P, h0, h2, h4, h23, h24, ht0, ht4', hw, hpk, hvl, hv.str, hsl, Int.toNat_natCast] | simp (disch := omega) only [wrap_fits] | ((first | with_reducible apply wcall_pure | with_reducible apply wdcall_pure); focus (first | assumption | exact steps_fn _ | exact choosef_fn _ _ | exact wrong_fn _ | exact right_fn _ | exact isName_fn _ | exact formatExpr_name _ | exact format_name _ | exact right_name _ | exact depth_name _ | exact name_fn _ | exact run_fn _ (by omega) _ [] [] _ (fun b _ _ => inName_fn b) | exact keywords_fn | exact contains_fn kwS (by decide) _ | exact inName_fn _ | exact digit_fn _ | exact letter_fn _ | exact hundredths_fn goodEE EE_P _ _ | exact mul_fn goodEE EE_P _ _ _ _ | exact sub_fn goodEE EE_P _ _ _ _ | exact add_fn goodEE EE_P _ _ _ _ | exact weight_fn goodEE EE_P EE_zero _ _ _ _ _ _ _ | exact less_fn goodEE EE_P _ _ _ _ | exact compare_fn goodEE EE_P _ _ _ _ | exact cmp_fn goodEE EE_P _ _ | exact isNaN_fn goodEE EE_P _ | exact valid_fn goodEE EE_P _ _ | exact abs_fn goodEE EE_P (by omega) (by omega))) | (with_reducible refine wguard_split_t (fun h => ?_) (fun h => ?_)) | (with_reducible refine wguard_split_f (fun h => ?_) (fun h => ?_)) | (with_reducible refine wcond_split (fun h => ?_) (fun h => ?_)) | (with_reducible refine wdguard_split_t (fun h => ?_) (fun h => ?_)) | (with_reducible refine wdguard_split_f (fun h => ?_) (fun h => ?_)) | (with_reducible refine And.intro (fun h => ?_) (fun h => ?_)) | (with_reducible apply And.intro; focus omega))
    have hle := hs.le
    have hkn : k < nx + 18 := by omega
    refine wloop_by (fun m2 sl σ2 nx2 => ∃ j k6 : Nat, j ≤ ls.length ∧ m2 = ls.length - j ∧ nx + 18 ≤ k6 ∧ k6 < nx2 ∧ sl 0 = v ∧ sl 2 = .ptr nx 0 0 ∧ sl 4 = .ptr k 0 0 ∧ sl 23 = .agg (stepsP k) ∧ sl 24 = .int .i64 t ∧ sl 6 = .ptr k6 0 0 ∧ sl 27 = v ∧ sl 28 = .int .i64 ls.length ∧ sl 29 = .int .i64 j ∧
      σ2 k6 = some (.row [[.int .i64 (kindAt t), .fn g first caps]]) ∧ MkAt σ2 k v (stepsTo (kindAt t) (funAt ls t) ls (phase ls m0S t) j) ∧ MkStep σ1 (nx + 18) k σ2 nx2) ls.length
      ⟨0, nx' + 2, by omega, rfl, by omega, by omega, ?_, ?_, ?_, ?_, ?_, rfl, rfl, rfl, rfl, ?_, ?_, ?_⟩ ?_
    · simp only [upd_at, push_cast, Nat.reduceEqDiff, Nat.reduceAdd, Nat.reduceMul, Nat.reduceLeDiff, Nat.reduceLT, reduceIte, reduceCtorEq, Nat.reduceShiftRight, Nat.reduceAnd, Nat.reducePow, Nat.reduceOr, Nat.reduceBNe, Nat.reduceBEq, Int.reduceToNat, Int.reduceLT, Int.reduceLE, Int.reduceGT, Int.reduceGE, Int.reduceEq, Int.reduceNe, Int.reduceNeg, Int.reduceAdd, Int.reduceSub, Int.reduceMul, h0]
    · simp only [upd_at, push_cast, Nat.reduceEqDiff, Nat.reduceAdd, Nat.reduceMul, Nat.reduceLeDiff, Nat.reduceLT, reduceIte, reduceCtorEq, Nat.reduceShiftRight, Nat.reduceAnd, Nat.reducePow, Nat.reduceOr, Nat.reduceBNe, Nat.reduceBEq, Int.reduceToNat, Int.reduceLT, Int.reduceLE, Int.reduceGT, Int.reduceGE, Int.reduceEq, Int.reduceNe, Int.reduceNeg, Int.reduceAdd, Int.reduceSub, Int.reduceMul, h2]
    · simp only [upd_at, push_cast, Nat.reduceEqDiff, Nat.reduceAdd, Nat.reduceMul, Nat.reduceLeDiff, Nat.reduceLT, reduceIte, reduceCtorEq, Nat.reduceShiftRight, Nat.reduceAnd, Nat.reducePow, Nat.reduceOr, Nat.reduceBNe, Nat.reduceBEq, Int.reduceToNat, Int.reduceLT, Int.reduceLE, Int.reduceGT, Int.reduceGE, Int.reduceEq, Int.reduceNe, Int.reduceNeg, Int.reduceAdd, Int.reduceSub, Int.reduceMul, h4]
    · simp only [upd_at, push_cast, Nat.reduceEqDiff, Nat.reduceAdd, Nat.reduceMul, Nat.reduceLeDiff, Nat.reduceLT, reduceIte, reduceCtorEq, Nat.reduceShiftRight, Nat.reduceAnd, Nat.reducePow, Nat.reduceOr, Nat.reduceBNe, Nat.reduceBEq, Int.reduceToNat, Int.reduceLT, Int.reduceLE, Int.reduceGT, Int.reduceGE, Int.reduceEq, Int.reduceNe, Int.reduceNeg, Int.reduceAdd, Int.reduceSub, Int.reduceMul, h23]
    · simp only [upd_at, push_cast, Nat.reduceEqDiff, Nat.reduceAdd, Nat.reduceMul, Nat.reduceLeDiff, Nat.reduceLT, reduceIte, reduceCtorEq, Nat.reduceShiftRight, Nat.reduceAnd, Nat.reducePow, Nat.reduceOr, Nat.reduceBNe, Nat.reduceBEq, Int.reduceToNat, Int.reduceLT, Int.reduceLE, Int.reduceGT, Int.reduceGE, Int.reduceEq, Int.reduceNe, Int.reduceNeg, Int.reduceAdd, Int.reduceSub, Int.reduceMul, h24]
    · simp only [upd_at, push_cast, Nat.reduceEqDiff, Nat.reduceAdd, Nat.reduceMul, Nat.reduceLeDiff, Nat.reduceLT, reduceIte, reduceCtorEq, Nat.reduceShiftRight, Nat.reduceAnd, Nat.reducePow, Nat.reduceOr, Nat.reduceBNe, Nat.reduceBEq, Int.reduceToNat, Int.reduceLT, Int.reduceLE, Int.reduceGT, Int.reduceGE, Int.reduceEq, Int.reduceNe, Int.reduceNeg, Int.reduceAdd, Int.reduceSub, Int.reduceMul]
    · exact (((hm.old hs.wf).new (by omega)).new (by omega)).at
    · refine MkStep.new (MkStep.new (hs.mono (by omega)) hkn (by omega) (by omega) ?_) hkn (by omega) (by omega) ?_
      · (simp only [ObjLt, push_cast, Nat.reduceEqDiff, Nat.reduceAdd, Nat.reduceMul, Nat.reduceLeDiff, Nat.reduceLT, reduceIte, reduceCtorEq, Nat.reduceShiftRight, Nat.reduceAnd, Nat.reducePow, Nat.reduceOr, Nat.reduceBNe, Nat.reduceBEq, Int.reduceToNat, Int.reduceLT, Int.reduceLE, Int.reduceGT, Int.reduceGE, Int.reduceEq, Int.reduceNe, Int.reduceNeg, Int.reduceAdd, Int.reduceSub, Int.reduceMul, lt_int, lt_bool, lt_str, lt_nil, lt_empty, lt_agg, lt_tup, lt_list, lt_cells, lt_fn, lt_ptr, lt_row, lt_nilp, lt_nilfn, lt_nili, List.mem_cons, List.not_mem_nil, or_false, forall_eq_or_imp, forall_eq, and_true, true_and, and_self, implies_true, false_implies]; try omega)
      · simp only [ObjLt, List.mem_cons, List.not_mem_nil, or_false, forall_eq, forall_eq_or_imp, lt_int, true_and, lt_fn]
        exact ⟨fun c hc => by rw [hfirst c hc, lt_ptr]; omega, hcaps _ (by omega)⟩
    clear hm hs h0 h2 h4 h23 h24 hle
    rintro m2 sl σ2 nx2 ⟨j, k6, hj, hm2, hk6, hk62, h0, h2, h4, h23, h24, h6, h27, h28, h29, hs6, hm, hs⟩
    have hj0 : (0 : Int) ≤ j := by omega
    have hle := hs.le
    by_cases hjl : j < ls.length
    · have hjl' : (j : Int) < ls.length := by omega
      have hwj : IntKind.i64.wrap ((j : Int) + 1) = (j : Int) + 1 := wrap_small (by omega) (by omega)
      have hvl' : v = .list (ls.map Line.cs) := hv.lt (i := j) (by simpa using hjl)
      have h27' : sl 27 = .list (ls.map Line.cs) := h27.trans hvl'
      have hgj : (ls.map Line.cs)[j]? = some ls[j].cs := by rw [List.getElem?_map, List.getElem?_eq_getElem hjl]; rfl
      have hst := stepsTo_succ (kind := kindAt t) (f := funAt ls t) (m := phase ls m0S t) hjl
      have hgl : ls[j]? = some ls[j] := List.getElem?_eq_getElem hjl
      generalize ls[j] = l at hgj hst hgl
      repeat' (first | simp only [push_cast, Nat.reduceEqDiff, Nat.reduceAdd, Nat.reduceMul, Nat.reduceLeDiff, Nat.reduceLT, reduceIte, reduceCtorEq, Nat.reduceShiftRight, Nat.reduceAnd, Nat.reducePow, Nat.reduceOr, Nat.reduceBNe, Nat.reduceBEq, Int.reduceToNat, Int.reduceLT, Int.reduceLE, Int.reduceGT, Int.reduceGE, Int.reduceEq, Int.reduceNe, Int.reduceNeg, Int.reduceAdd, Int.reduceSub, Int.reduceMul, EE_P, h0, h2, h4, h23, h24, h6, h27', h28, h29, hs6, (key_ne hk62).1, (key_ne hk62).2.1, (key_ne hk62).2.2.1, (key_ne hk62).2.2.2, hj0, hjl', hgj, List.length_map, Int.toNat_natCast] | simp (disch := omega) only [wrap_fits] | ((first | with_reducible apply wcall_pure | with_reducible apply wdcall_pure); focus (first | assumption | exact steps_fn _ | exact choosef_fn _ _ | exact wrong_fn _ | exact right_fn _ | exact isName_fn _ | exact formatExpr_name _ | exact format_name _ | exact right_name _ | exact depth_name _ | exact name_fn _ | exact run_fn _ (by omega) _ [] [] _ (fun b _ _ => inName_fn b) | exact keywords_fn | exact contains_fn kwS (by decide) _ | exact inName_fn _ | exact digit_fn _ | exact letter_fn _ | exact hundredths_fn goodEE EE_P _ _ | exact mul_fn goodEE EE_P _ _ _ _ | exact sub_fn goodEE EE_P _ _ _ _ | exact add_fn goodEE EE_P _ _ _ _ | exact weight_fn goodEE EE_P EE_zero _ _ _ _ _ _ _ | exact less_fn goodEE EE_P _ _ _ _ | exact compare_fn goodEE EE_P _ _ _ _ | exact cmp_fn goodEE EE_P _ _ | exact isNaN_fn goodEE EE_P _ | exact valid_fn goodEE EE_P _ _ | exact abs_fn goodEE EE_P (by omega) (by omega))) | (with_reducible refine wguard_split_t (fun h => ?_) (fun h => ?_)) | (with_reducible refine wguard_split_f (fun h => ?_) (fun h => ?_)) | (with_reducible refine wcond_split (fun h => ?_) (fun h => ?_)) | (with_reducible refine wdguard_split_t (fun h => ?_) (fun h => ?_)) | (with_reducible refine wdguard_split_f (fun h => ?_) (fun h => ?_)) | (with_reducible refine And.intro (fun h => ?_) (fun h => ?_)) | (with_reducible apply And.intro; focus omega))
      · have hlen : (stepsTo (kindAt t) (funAt ls t) ls (phase ls m0S t) j).parts.length ≤ 1000000 := by
          have h1 := stepsTo_len (kind := kindAt t) (funAt_len ls t) ls (phase ls m0S t) j
          have h2 := phase_len ls m0S t
          have h3 : t * ls.length ≤ 3 * 32 := Nat.mul_le_mul (by omega) (by omega)
          have h4 : m0S.parts.length = 0 := rfl
          rw [h4] at h2
          omega
        have hno : ¬ Own σ2 k k6 := not_own hm (by omega) (fun p rest e => by rw [hs6] at e; simp [Part.cs] at e)
        have hN := hm.old hs.wf
        have hkn2 : k < nx2 := by omega
        refine wcall_mk (σ0 := σ2) (nx0 := nx2) (lv := v) (fun σ nx hw hm => hstep σ nx _ j l hw hm hlen hgl) ?_ ?_ ?_
        · refine MkStep.new (MkStep.new (MkStep.base hs.wf (by omega)) hkn2 (by omega) (by omega) ?_) hkn2 (by omega) (by omega) ?_
          · (simp only [ObjLt, push_cast, Nat.reduceEqDiff, Nat.reduceAdd, Nat.reduceMul, Nat.reduceLeDiff, Nat.reduceLT, reduceIte, reduceCtorEq, Nat.reduceShiftRight, Nat.reduceAnd, Nat.reducePow, Nat.reduceOr, Nat.reduceBNe, Nat.reduceBEq, Int.reduceToNat, Int.reduceLT, Int.reduceLE, Int.reduceGT, Int.reduceGE, Int.reduceEq, Int.reduceNe, Int.reduceNeg, Int.reduceAdd, Int.reduceSub, Int.reduceMul, lt_int, lt_bool, lt_str, lt_nil, lt_empty, lt_agg, lt_tup, lt_list, lt_cells, lt_fn, lt_ptr, lt_row, lt_nilp, lt_nilfn, lt_nili, List.mem_cons, List.not_mem_nil, or_false, forall_eq_or_imp, forall_eq, and_true, true_and, and_self, implies_true, false_implies]; try omega)
          · (simp only [ObjLt, push_cast, Nat.reduceEqDiff, Nat.reduceAdd, Nat.reduceMul, Nat.reduceLeDiff, Nat.reduceLT, reduceIte, reduceCtorEq, Nat.reduceShiftRight, Nat.reduceAnd, Nat.reducePow, Nat.reduceOr, Nat.reduceBNe, Nat.reduceBEq, Int.reduceToNat, Int.reduceLT, Int.reduceLE, Int.reduceGT, Int.reduceGE, Int.reduceEq, Int.reduceNe, Int.reduceNeg, Int.reduceAdd, Int.reduceSub, Int.reduceMul, lt_int, lt_bool, lt_str, lt_nil, lt_empty, lt_agg, lt_tup, lt_list, lt_cells, lt_fn, lt_ptr, lt_row, lt_nilp, lt_nilfn, lt_nili, List.mem_cons, List.not_mem_nil, or_false, forall_eq_or_imp, forall_eq, and_true, true_and, and_self, implies_true, false_implies]; try omega)
        · (repeat' (first | exact hN | assumption | refine MkAtN.new ?_ (by omega)))
        · intro σ3 nx3 hm3 hs3
          have hle3 := hs3.le
          repeat' (first | simp only [push_cast, Nat.reduceEqDiff, Nat.reduceAdd, Nat.reduceMul, Nat.reduceLeDiff, Nat.reduceLT, reduceIte, reduceCtorEq, Nat.reduceShiftRight, Nat.reduceAnd, Nat.reducePow, Nat.reduceOr, Nat.reduceBNe, Nat.reduceBEq, Int.reduceToNat, Int.reduceLT, Int.reduceLE, Int.reduceGT, Int.reduceGE, Int.reduceEq, Int.reduceNe, Int.reduceNeg, Int.reduceAdd, Int.reduceSub, Int.reduceMul, EE_P, h0, h2, h4, h23, h24, h6, h27, h28, h29, hwj] | simp (disch := omega) only [wrap_fits] | ((first | with_reducible apply wcall_pure | with_reducible apply wdcall_pure); focus (first | assumption | exact steps_fn _ | exact choosef_fn _ _ | exact wrong_fn _ | exact right_fn _ | exact isName_fn _ | exact formatExpr_name _ | exact format_name _ | exact right_name _ | exact depth_name _ | exact name_fn _ | exact run_fn _ (by omega) _ [] [] _ (fun b _ _ => inName_fn b) | exact keywords_fn | exact contains_fn kwS (by decide) _ | exact inName_fn _ | exact digit_fn _ | exact letter_fn _ | exact hundredths_fn goodEE EE_P _ _ | exact mul_fn goodEE EE_P _ _ _ _ | exact sub_fn goodEE EE_P _ _ _ _ | exact add_fn goodEE EE_P _ _ _ _ | exact weight_fn goodEE EE_P EE_zero _ _ _ _ _ _ _ | exact less_fn goodEE EE_P _ _ _ _ | exact compare_fn goodEE EE_P _ _ _ _ | exact cmp_fn goodEE EE_P _ _ | exact isNaN_fn goodEE EE_P _ | exact valid_fn goodEE EE_P _ _ | exact abs_fn goodEE EE_P (by omega) (by omega))) | (with_reducible refine wguard_split_t (fun h => ?_) (fun h => ?_)) | (with_reducible refine wguard_split_f (fun h => ?_) (fun h => ?_)) | (with_reducible refine wcond_split (fun h => ?_) (fun h => ?_)) | (with_reducible refine wdguard_split_t (fun h => ?_) (fun h => ?_)) | (with_reducible refine wdguard_split_f (fun h => ?_) (fun h => ?_)) | (with_reducible refine And.intro (fun h => ?_) (fun h => ?_)) | (with_reducible apply And.intro; focus omega))
          refine ⟨ls.length - (j + 1), by omega, j + 1, k6, by omega, rfl, hk6, by omega, rfl, by simp, ?_, ?_, (hs.trans hs3).mono (by omega)⟩
          · rw [hs3.frame k6 hk62 hno, hs6]
          · rw [hst, if_pos (by simp [*])]
            exact hm3
      all_goals refine ⟨ls.length - (j + 1), by omega, j + 1, k6, by omega, rfl, hk6, by omega, rfl, hvl'.symm, by simp, ?_, ?_, ?_⟩
      · simp only [push_cast, Nat.reduceEqDiff, Nat.reduceAdd, Nat.reduceMul, Nat.reduceLeDiff, Nat.reduceLT, reduceIte, reduceCtorEq, Nat.reduceShiftRight, Nat.reduceAnd, Nat.reducePow, Nat.reduceOr, Nat.reduceBNe, Nat.reduceBEq, Int.reduceToNat, Int.reduceLT, Int.reduceLE, Int.reduceGT, Int.reduceGE, Int.reduceEq, Int.reduceNe, Int.reduceNeg, Int.reduceAdd, Int.reduceSub, Int.reduceMul, (key_ne hk62).1, (key_ne hk62).2.1, (key_ne hk62).2.2.1, (key_ne hk62).2.2.2, hs6]
      · rw [hst, if_neg (by simp [*])]
        exact (((hm.old hs.wf).new (by omega)).new (by omega)).at
      · refine MkStep.new (MkStep.new (hs.mono (by omega)) hkn (by omega) (by omega) ?_) hkn (by omega) (by omega) ?_
        · (simp only [ObjLt, push_cast, Nat.reduceEqDiff, Nat.reduceAdd, Nat.reduceMul, Nat.reduceLeDiff, Nat.reduceLT, reduceIte, reduceCtorEq, Nat.reduceShiftRight, Nat.reduceAnd, Nat.reducePow, Nat.reduceOr, Nat.reduceBNe, Nat.reduceBEq, Int.reduceToNat, Int.reduceLT, Int.reduceLE, Int.reduceGT, Int.reduceGE, Int.reduceEq, Int.reduceNe, Int.reduceNeg, Int.reduceAdd, Int.reduceSub, Int.reduceMul, lt_int, lt_bool, lt_str, lt_nil, lt_empty, lt_agg, lt_tup, lt_list, lt_cells, lt_fn, lt_ptr, lt_row, lt_nilp, lt_nilfn, lt_nili, List.mem_cons, List.not_mem_nil, or_false, forall_eq_or_imp, forall_eq, and_true, true_and, and_self, implies_true, false_implies]; try omega)
        · (simp only [ObjLt, push_cast, Nat.reduceEqDiff, Nat.reduceAdd, Nat.reduceMul, Nat.reduceLeDiff, Nat.reduceLT, reduceIte, reduceCtorEq, Nat.reduceShiftRight, Nat.reduceAnd, Nat.reducePow, Nat.reduceOr, Nat.reduceBNe, Nat.reduceBEq, Int.reduceToNat, Int.reduceLT, Int.reduceLE, Int.reduceGT, Int.reduceGE, Int.reduceEq, Int.reduceNe, Int.reduceNeg, Int.reduceAdd, Int.reduceSub, Int.reduceMul, lt_int, lt_bool, lt_str, lt_nil, lt_empty, lt_agg, lt_tup, lt_list, lt_cells, lt_fn, lt_ptr, lt_row, lt_nilp, lt_nilfn, lt_nili, List.mem_cons, List.not_mem_nil, or_false, forall_eq_or_imp, forall_eq, and_true, true_and, and_self, implies_true, false_implies]; try omega)
      · simp only [push_cast, Nat.reduceEqDiff, Nat.reduceAdd, Nat.reduceMul, Nat.reduceLeDiff, Nat.reduceLT, reduceIte, reduceCtorEq, Nat.reduceShiftRight, Nat.reduceAnd, Nat.reducePow, Nat.reduceOr, Nat.reduceBNe, Nat.reduceBEq, Int.reduceToNat, Int.reduceLT, Int.reduceLE, Int.reduceGT, Int.reduceGE, Int.reduceEq, Int.reduceNe, Int.reduceNeg, Int.reduceAdd, Int.reduceSub, Int.reduceMul, (key_ne hk62).1, (key_ne hk62).2.1, (key_ne hk62).2.2.1, (key_ne hk62).2.2.2, hs6]
      · rw [hst, if_neg (by simp [*])]
        exact (((hm.old hs.wf).new (by omega)).new (by omega)).at
      · refine MkStep.new (MkStep.new (hs.mono (by omega)) hkn (by omega) (by omega) ?_) hkn (by omega) (by omega) ?_
        · (simp only [ObjLt, push_cast, Nat.reduceEqDiff, Nat.reduceAdd, Nat.reduceMul, Nat.reduceLeDiff, Nat.reduceLT, reduceIte, reduceCtorEq, Nat.reduceShiftRight, Nat.reduceAnd, Nat.reducePow, Nat.reduceOr, Nat.reduceBNe, Nat.reduceBEq, Int.reduceToNat, Int.reduceLT, Int.reduceLE, Int.reduceGT, Int.reduceGE, Int.reduceEq, Int.reduceNe, Int.reduceNeg, Int.reduceAdd, Int.reduceSub, Int.reduceMul, lt_int, lt_bool, lt_str, lt_nil, lt_empty, lt_agg, lt_tup, lt_list, lt_cells, lt_fn, lt_ptr, lt_row, lt_nilp, lt_nilfn, lt_nili, List.mem_cons, List.not_mem_nil, or_false, forall_eq_or_imp, forall_eq, and_true, true_and, and_self, implies_true, false_implies]; try omega)
        · (simp only [ObjLt, push_cast, Nat.reduceEqDiff, Nat.reduceAdd, Nat.reduceMul, Nat.reduceLeDiff, Nat.reduceLT, reduceIte, reduceCtorEq, Nat.reduceShiftRight, Nat.reduceAnd, Nat.reducePow, Nat.reduceOr, Nat.reduceBNe, Nat.reduceBEq, Int.reduceToNat, Int.reduceLT, Int.reduceLE, Int.reduceGT, Int.reduceGE, Int.reduceEq, Int.reduceNe, Int.reduceNeg, Int.reduceAdd, Int.reduceSub, Int.reduceMul, lt_int, lt_bool, lt_str, lt_nil, lt_empty, lt_agg, lt_tup, lt_list, lt_cells, lt_fn, lt_ptr, lt_row, lt_nilp, lt_nilfn, lt_nili, List.mem_cons, List.not_mem_nil, or_false, forall_eq_or_imp, forall_eq, and_true, true_and, and_self, implies_true, false_implies]; try omega)
    · have hjl' : ¬ (j : Int) < ls.length := by omega
      have hje : j = ls.length := by omega
      subst hje
      repeat' (first | simp only [push_cast, Nat.reduceEqDiff, Nat.reduceAdd, Nat.reduceMul, Nat.reduceLeDiff, Nat.reduceLT, reduceIte, reduceCtorEq, Nat.reduceShiftRight, Nat.reduceAnd, Nat.reducePow, Nat.reduceOr, Nat.reduceBNe, Nat.reduceBEq, Int.reduceToNat, Int.reduceLT, Int.reduceLE, Int.reduceGT, Int.reduceGE, Int.reduceEq, Int.reduceNe, Int.reduceNeg, Int.reduceAdd, Int.reduceSub, Int.reduceMul, EE_P, h0, h2, h4, h23, h24, h6, h28, h29, hjl', hw] | simp (disch := omega) only [wrap_fits] | ((first | with_reducible apply wcall_pure | with_reducible apply wdcall_pure); focus (first | assumption | exact steps_fn _ | exact choosef_fn _ _ | exact wrong_fn _ | exact right_fn _ | exact isName_fn _ | exact formatExpr_name _ | exact format_name _ | exact right_name _ | exact depth_name _ | exact name_fn _ | exact run_fn _ (by omega) _ [] [] _ (fun b _ _ => inName_fn b) | exact keywords_fn | exact contains_fn kwS (by decide) _ | exact inName_fn _ | exact digit_fn _ | exact letter_fn _ | exact hundredths_fn goodEE EE_P _ _ | exact mul_fn goodEE EE_P _ _ _ _ | exact sub_fn goodEE EE_P _ _ _ _ | exact add_fn goodEE EE_P _ _ _ _ | exact weight_fn goodEE EE_P EE_zero _ _ _ _ _ _ _ | exact less_fn goodEE EE_P _ _ _ _ | exact compare_fn goodEE EE_P _ _ _ _ | exact cmp_fn goodEE EE_P _ _ | exact isNaN_fn goodEE EE_P _ | exact valid_fn goodEE EE_P _ _ | exact abs_fn goodEE EE_P (by omega) (by omega))) | (with_reducible refine wguard_split_t (fun h => ?_) (fun h => ?_)) | (with_reducible refine wguard_split_f (fun h => ?_) (fun h => ?_)) | (with_reducible refine wcond_split (fun h => ?_) (fun h => ?_)) | (with_reducible refine wdguard_split_t (fun h => ?_) (fun h => ?_)) | (with_reducible refine wdguard_split_f (fun h => ?_) (fun h => ?_)) | (with_reducible refine And.intro (fun h => ?_) (fun h => ?_)) | (with_reducible apply And.intro; focus omega))
      exact ⟨4 - (t + 1), by omega, t + 1, by omega, rfl, by simp, hm, hs.mono (by omega)⟩
  · have ht4' : ¬ (t : Int) < 4 := by omega
    have hte : t = 4 := by omega
    subst hte
    have hle := hs.le
    have hno1 : ∀ j, j < nx + 18 → j ≠ k → ¬ Own σ' k j := by
      intro j hj hjk ho
      rcases hs.own j ho hj with rfl | ⟨lv, m, off, len, he⟩
      · exact hjk rfl
      · rw [← hσ1, upd_same] at he
        simp [MK.row] at he
    obtain ⟨σ3, hfn, hfr, hwf3⟩ := finish_fn (nx := nx' + 7) hm
    have hσn : σ3 nx = some (.row [[.nil, .int .i64 0, .int .i64 0, .int .i64 0]]) := by
      have hnk : nx ≠ k := by omega
      rw [hfr nx (hno1 nx (by omega) hnk), hs.frame nx (by omega) (fun ho => hno1 nx (by omega) hnk (by
        rcases ho with rfl | ⟨lv, m, off, len, he⟩
        · exact (hnk rfl).elim
        · rw [← hσ1, upd_same] at he
          simp [MK.row] at he)), ← hσ1, upd_other _ _ hnk, upd_same]
    have hkeep : Keeps σ σ3 := by
      intro j o hj
      have hjn := (hwf j o hj).1
      have hjk : j ≠ k := by omega
      rw [hfr j (hno1 j (by omega) hjk), hs.frame j (by omega) (fun ho => by
        rcases ho with rfl | ⟨lv, m, off, len, he⟩
        · exact (hjk rfl).elim
        · rw [← hσ1, upd_same] at he
          simp [MK.row] at he), ← hσ1, upd_other _ _ hjk, upd_other _ _ (by omega)]
      exact hj
    repeat' (first | simp only [push_cast, Nat.reduceEqDiff, Nat.reduceAdd, Nat.reduceMul, Nat.reduceLeDiff, Nat.reduceLT, reduceIte, reduceCtorEq, Nat.reduceShiftRight, Nat.reduceAnd, Nat.reducePow, Nat.reduceOr, Nat.reduceBNe, Nat.reduceBEq, Int.reduceToNat, Int.reduceLT, Int.reduceLE, Int.reduceGT, Int.reduceGE, Int.reduceEq, Int.reduceNe, Int.reduceNeg, Int.reduceAdd, Int.reduceSub, Int.reduceMul, EE_P, h0, h2, h4, h23, h24, ht0, ht4'] | simp (disch := omega) only [wrap_fits] | ((first | with_reducible apply wcall_pure | with_reducible apply wdcall_pure); focus (first | assumption | exact steps_fn _ | exact choosef_fn _ _ | exact wrong_fn _ | exact right_fn _ | exact isName_fn _ | exact formatExpr_name _ | exact format_name _ | exact right_name _ | exact depth_name _ | exact name_fn _ | exact run_fn _ (by omega) _ [] [] _ (fun b _ _ => inName_fn b) | exact keywords_fn | exact contains_fn kwS (by decide) _ | exact inName_fn _ | exact digit_fn _ | exact letter_fn _ | exact hundredths_fn goodEE EE_P _ _ | exact mul_fn goodEE EE_P _ _ _ _ | exact sub_fn goodEE EE_P _ _ _ _ | exact add_fn goodEE EE_P _ _ _ _ | exact weight_fn goodEE EE_P EE_zero _ _ _ _ _ _ _ | exact less_fn goodEE EE_P _ _ _ _ | exact compare_fn goodEE EE_P _ _ _ _ | exact cmp_fn goodEE EE_P _ _ | exact isNaN_fn goodEE EE_P _ | exact valid_fn goodEE EE_P _ _ | exact abs_fn goodEE EE_P (by omega) (by omega))) | (with_reducible refine wguard_split_t (fun h => ?_) (fun h => ?_)) | (with_reducible refine wguard_split_f (fun h => ?_) (fun h => ?_)) | (with_reducible refine wcond_split (fun h => ?_) (fun h => ?_)) | (with_reducible refine wdguard_split_t (fun h => ?_) (fun h => ?_)) | (with_reducible refine wdguard_split_f (fun h => ?_) (fun h => ?_)) | (with_reducible refine And.intro (fun h => ?_) (fun h => ?_)) | (with_reducible apply And.intro; focus omega))
    refine wcall_of _ _ _ _ _ _ hfn ?_
    simp only [Credit.val]
    have hlt2 := parts_lt nx (finishS (phase ls m0S 4)).1.parts
    have hone := (partsV_slice (finishS (phase ls m0S 4)).1.parts).one
    generalize partsV (finishS (phase ls m0S 4)).1.parts = pvv at hlt2 hone ⊢
    repeat' (first | simp only [push_cast, Nat.reduceEqDiff, Nat.reduceAdd, Nat.reduceMul, Nat.reduceLeDiff, Nat.reduceLT, reduceIte, reduceCtorEq, Nat.reduceShiftRight, Nat.reduceAnd, Nat.reducePow, Nat.reduceOr, Nat.reduceBNe, Nat.reduceBEq, Int.reduceToNat, Int.reduceLT, Int.reduceLE, Int.reduceGT, Int.reduceGE, Int.reduceEq, Int.reduceNe, Int.reduceNeg, Int.reduceAdd, Int.reduceSub, Int.reduceMul, EE_P, h0, h2, h4, hσn, hone] | simp (disch := omega) only [wrap_fits] | ((first | with_reducible apply wcall_pure | with_reducible apply wdcall_pure); focus (first | assumption | exact steps_fn _ | exact choosef_fn _ _ | exact wrong_fn _ | exact right_fn _ | exact isName_fn _ | exact formatExpr_name _ | exact format_name _ | exact right_name _ | exact depth_name _ | exact name_fn _ | exact run_fn _ (by omega) _ [] [] _ (fun b _ _ => inName_fn b) | exact keywords_fn | exact contains_fn kwS (by decide) _ | exact inName_fn _ | exact digit_fn _ | exact letter_fn _ | exact hundredths_fn goodEE EE_P _ _ | exact mul_fn goodEE EE_P _ _ _ _ | exact sub_fn goodEE EE_P _ _ _ _ | exact add_fn goodEE EE_P _ _ _ _ | exact weight_fn goodEE EE_P EE_zero _ _ _ _ _ _ _ | exact less_fn goodEE EE_P _ _ _ _ | exact compare_fn goodEE EE_P _ _ _ _ | exact cmp_fn goodEE EE_P _ _ | exact isNaN_fn goodEE EE_P _ | exact valid_fn goodEE EE_P _ _ | exact abs_fn goodEE EE_P (by omega) (by omega))) | (with_reducible refine wguard_split_t (fun h => ?_) (fun h => ?_)) | (with_reducible refine wguard_split_f (fun h => ?_) (fun h => ?_)) | (with_reducible refine wcond_split (fun h => ?_) (fun h => ?_)) | (with_reducible refine wdguard_split_t (fun h => ?_) (fun h => ?_)) | (with_reducible refine wdguard_split_f (fun h => ?_) (fun h => ?_)) | (with_reducible refine And.intro (fun h => ?_) (fun h => ?_)) | (with_reducible apply And.intro; focus omega))
    refine ends_ret (by simp only [resultsOf, resOf, push_cast, Nat.reduceEqDiff, Nat.reduceAdd, Nat.reduceMul, Nat.reduceLeDiff, Nat.reduceLT, reduceIte, reduceCtorEq, Nat.reduceShiftRight, Nat.reduceAnd, Nat.reducePow, Nat.reduceOr, Nat.reduceBNe, Nat.reduceBEq, Int.reduceToNat, Int.reduceLT, Int.reduceLE, Int.reduceGT, Int.reduceGE, Int.reduceEq, Int.reduceNe, Int.reduceNeg, Int.reduceAdd, Int.reduceSub, Int.reduceMul, EE_P, h2]; rfl) (by simp only [push_cast, Nat.reduceEqDiff, Nat.reduceAdd, Nat.reduceMul, Nat.reduceLeDiff, Nat.reduceLT, reduceIte, reduceCtorEq, Nat.reduceShiftRight, Nat.reduceAnd, Nat.reducePow, Nat.reduceOr, Nat.reduceBNe, Nat.reduceBEq, Int.reduceToNat, Int.reduceLT, Int.reduceLE, Int.reduceGT, Int.reduceGE, Int.reduceEq, Int.reduceNe, Int.reduceNeg, Int.reduceAdd, Int.reduceSub, Int.reduceMul, EE_P]) rfl (Keeps.new hwf hkeep (Nat.le_refl _) _) ?_
    simp only [lt_tup, lt_agg, List.mem_cons, List.not_mem_nil, or_false, forall_eq_or_imp, forall_eq, lt_int, and_self, and_true]
    exact hlt2
theorem combine_fn {ls : List Line} {v : PV} (hv : SliceP (ls.map Line.cs) v) : Pure EE 12 [v] (.tup [(combineS ls).1.val, .int .i64 (combineS ls).2]) := by
  unfold combineS
  by_cases h : ls.length ≤ 32
  · cases h' : ls.any fun l => !rightS l with
    | true =>
      rw [if_pos (.inr rfl)]
      exact combine_wrong hv h h'
    | false =>
      rw [if_neg (by simp; omega)]
      exact combine_right hv h h'
  · rw [if_pos (.inl (by omega))]
    exact combine_big hv h
end Go.Proofs.YtdajoilaakiinaaGreatDoor.Awp

/- strconv.Itoa; texts of fractions. -/
namespace Go.Proofs.YtdajoilaakiinaaGreatDoor.Awp
open Go Go.Proofs
set_option linter.unusedSimpArgs false
set_option linter.unusedVariables false
set_option maxRecDepth 10000
set_option maxHeartbeats 4000000

def itoaS (n : Int) : ByteArray := ⟨(Lib.itoa n).toArray⟩
theorem globalNamed_pow10 : Tryz.prog.globalNamed "internal/strconv.uint64pow10" = some 1 := by kernel_rfl
theorem tab_of_sim {σ : Store} {μ : Mu} {w : World} (S : Sim EE σ μ w) : Lib.TabIs Tryz.prog w "internal/strconv.uint64pow10" .u64 Lib.pow10Tab := by
  obtain ⟨h1, c, t, fr, h2, h3⟩ := S.glob _ _ EE_pow10
  unfold Lib.TabIs World.var?
  rw [globalNamed_pow10]
  simp only [Option.bind_some, h2, Option.some.injEq]
  have hcell : ∀ i, w.cell? ⟨1, 0 + i, none⟩ = c[i]? := by
    intro i
    simp [World.cell?, h2]
  cases h1 with
  | cells cs b off vs hu hv hr =>
    apply Array.ext'
    apply List.ext_getElem?
    intro i
    simp only [Array.getElem?_toList]
    simp only [List.length_map] at h3
    by_cases hi : i < Lib.pow10Tab.length
    · have hp : (Lib.pow10Tab.map fun z => PV.int .u64 z)[i]? = some (.int .u64 Lib.pow10Tab[i]) := by simp [hi]
      have e1 := hv i _ hp
      have e2 := hr i _ hp
      rw [hcell] at e1
      rw [e1]
      generalize vs i = x at e2 ⊢
      cases e2
      simp [hi]
    · have : ¬ i < c.size := by omega
      rw [Array.getElem?_eq_none (by omega)]
      simp [hi]
theorem itoa_fn {n : Int} (h0 : -9223372036854775808 ≤ n) (h1 : n ≤ 9223372036854775807) : Pure EE 85 [.int .i64 n] (.str (itoaS n)) := by
  refine pure_of_calls ⟨Tryz.f85, by rw [EE_P]; exact Tryz.func85, rfl, by kernel_rfl⟩ fun σ μ w vs S hvs => ?_
  have hargs : vs = #[.int .i64 n] := by
    obtain ⟨hl, hr⟩ := hvs
    obtain ⟨vs⟩ := vs
    match vs, hl with
    | [x], _ =>
      have := hr 0 _ x rfl rfl
      cases this
      rfl
  subst hargs
  refine (Tryz.strconv_Itoa n h0 h1 w (tab_of_sim S)).mono fun e w' ⟨he, k, os, hw⟩ => ?_
  subst he; subst hw
  refine ⟨_, rfl, fun U μ w => .str _, ?_, fun b hb => ?_, rfl, rfl, rfl⟩
  · rw [Sort.size_grow]; exact Nat.le_add_right _ _
  · exact Sort.heap_grow_old _ _ hb
end Go.Proofs.YtdajoilaakiinaaGreatDoor.Awp

/- Texts of fractions; sums. -/
namespace Go.Proofs.YtdajoilaakiinaaGreatDoor.Awp
open Go Go.Proofs
set_option linter.unusedSimpArgs false
set_option linter.unusedVariables false
set_option maxRecDepth 10000
set_option maxHeartbeats 4000000

theorem decDigits_len (u : Nat) : 1 ≤ (Lib.decDigits u).length ∧ (Lib.decDigits u).length ≤ u + 1 := by
  induction u using Nat.strongRecOn with
  | _ u ih =>
    rw [Lib.decDigits]
    split
    · simp
    · have := ih (u / 10) (by omega)
      simp
      omega
theorem itoaS_size (n : Int) : 1 ≤ (itoaS n).size ∧ (itoaS n).size ≤ n.natAbs + 2 := by
  have e : (itoaS n).size = (Lib.itoa n).length := by simp [itoaS, ByteArray.size]
  rw [e]
  unfold Lib.itoa
  split
  · have := decDigits_len n.natAbs
    simp; omega
  · have := decDigits_len n.toNat
    omega
def formatS (f : Frac) : ByteArray := if FV f.n f.d then (if f.d = 1 then itoaS f.n else itoaS f.n ++ (⟨#[47]⟩ : ByteArray) ++ itoaS f.d) else ⟨#[]⟩
theorem format_fn (f : Frac) : Pure EE 54 [f.pv] (.str (formatS f)) := by
  by_cases hv : FV f.n f.d
  · obtain ⟨h1, h2, h3, h4, _⟩ := id hv
    have z1 := itoaS_size f.n
    have z2 := itoaS_size f.d
    intro σ nx
    refine fn_of_body goodEE (by rw [EE_P]; exact Tryz.func54) rfl rfl (by kernel_rfl) (Nat.le_of_ble_eq_true rfl) (Nat.le_refl _) fun hwf hlt => ?_
    rw [show Tryz.f54.results.toList = [.tmp 2] from rfl]
    refine awp_begin _ _ _ _ _ (cc := _) (by conv => lhs; simp only [push_cast, Nat.reduceEqDiff, Nat.reduceAdd, Nat.reduceMul, Nat.reduceLeDiff, Nat.reduceLT, reduceIte, reduceCtorEq, Nat.reduceShiftRight, Nat.reduceAnd, Nat.reducePow, Nat.reduceOr, Nat.reduceBNe, Nat.reduceBEq, Int.reduceToNat, Int.reduceLT, Int.reduceLE, Int.reduceGT, Int.reduceGE, Int.reduceEq, Int.reduceNe, Int.reduceNeg, Int.reduceAdd, Int.reduceSub, Int.reduceMul, Tryz.f54]) ?_
    simp only [push_cast, Nat.reduceEqDiff, Nat.reduceAdd, Nat.reduceMul, Nat.reduceLeDiff, Nat.reduceLT, reduceIte, reduceCtorEq, Nat.reduceShiftRight, Nat.reduceAnd, Nat.reducePow, Nat.reduceOr, Nat.reduceBNe, Nat.reduceBEq, Int.reduceToNat, Int.reduceLT, Int.reduceLE, Int.reduceGT, Int.reduceGE, Int.reduceEq, Int.reduceNe, Int.reduceNeg, Int.reduceAdd, Int.reduceSub, Int.reduceMul, EE_P]
    repeat' (first | simp only [push_cast, Nat.reduceEqDiff, Nat.reduceAdd, Nat.reduceMul, Nat.reduceLeDiff, Nat.reduceLT, reduceIte, reduceCtorEq, Nat.reduceShiftRight, Nat.reduceAnd, Nat.reducePow, Nat.reduceOr, Nat.reduceBNe, Nat.reduceBEq, Int.reduceToNat, Int.reduceLT, Int.reduceLE, Int.reduceGT, Int.reduceGE, Int.reduceEq, Int.reduceNe, Int.reduceNeg, Int.reduceAdd, Int.reduceSub, Int.reduceMul, EE_P, hv] | simp (disch := omega) only [wrap_fits] | ((first | with_reducible apply wcall_pure | with_reducible apply wdcall_pure); focus (first | assumption | exact itoa_fn (by omega) (by omega) | exact valid_fn goodEE EE_P _ _)) | (with_reducible refine wguard_split_t (fun h => ?_) (fun h => ?_)) | (with_reducible refine wguard_split_f (fun h => ?_) (fun h => ?_)) | (with_reducible refine wcond_split (fun h => ?_) (fun h => ?_)) | (with_reducible refine wdguard_split_t (fun h => ?_) (fun h => ?_)) | (with_reducible refine wdguard_split_f (fun h => ?_) (fun h => ?_)) | (with_reducible refine And.intro (fun h => ?_) (fun h => ?_)) | (with_reducible apply And.intro; focus omega))
    all_goals ((refine ends_ret (by simp only [resultsOf, resOf, push_cast, Nat.reduceEqDiff, Nat.reduceAdd, Nat.reduceMul, Nat.reduceLeDiff, Nat.reduceLT, reduceIte, reduceCtorEq, Nat.reduceShiftRight, Nat.reduceAnd, Nat.reducePow, Nat.reduceOr, Nat.reduceBNe, Nat.reduceBEq, Int.reduceToNat, Int.reduceLT, Int.reduceLE, Int.reduceGT, Int.reduceGE, Int.reduceEq, Int.reduceNe, Int.reduceNeg, Int.reduceAdd, Int.reduceSub, Int.reduceMul, EE_P]; rfl) (by simp only [push_cast, Nat.reduceEqDiff, Nat.reduceAdd, Nat.reduceMul, Nat.reduceLeDiff, Nat.reduceLT, reduceIte, reduceCtorEq, Nat.reduceShiftRight, Nat.reduceAnd, Nat.reducePow, Nat.reduceOr, Nat.reduceBNe, Nat.reduceBEq, Int.reduceToNat, Int.reduceLT, Int.reduceLE, Int.reduceGT, Int.reduceGE, Int.reduceEq, Int.reduceNe, Int.reduceNeg, Int.reduceAdd, Int.reduceSub, Int.reduceMul, EE_P]) ?_ (by repeat' (first | exact Keeps.refl _ | assumption | exact (hwf.keep1 _) | refine Keeps.new hwf ?_ (by omega) _)) (by simp only [lt_int, lt_bool, lt_str, lt_nil, lt_empty, lt_agg, lt_tup, lt_list, lt_cells, lt_fn, lt_nilp, lt_nilfn, lt_nili, List.mem_cons, List.not_mem_nil, or_false, forall_eq_or_imp, forall_eq, and_true, true_and, and_self, implies_true, *]; try omega)); (try simp only [tupOf, push_cast, Nat.reduceEqDiff, Nat.reduceAdd, Nat.reduceMul, Nat.reduceLeDiff, Nat.reduceLT, reduceIte, reduceCtorEq, Nat.reduceShiftRight, Nat.reduceAnd, Nat.reducePow, Nat.reduceOr, Nat.reduceBNe, Nat.reduceBEq, Int.reduceToNat, Int.reduceLT, Int.reduceLE, Int.reduceGT, Int.reduceGE, Int.reduceEq, Int.reduceNe, Int.reduceNeg, Int.reduceAdd, Int.reduceSub, Int.reduceMul, EE_P]))
    all_goals (first | (simp_all [formatS]; done) | (simp_all [formatS]; omega) | (simp [formatS, *]; done) | (simp [formatS, *]; omega))
  · intro σ nx
    refine fn_of_body goodEE (by rw [EE_P]; exact Tryz.func54) rfl rfl (by kernel_rfl) (Nat.le_of_ble_eq_true rfl) (Nat.le_refl _) fun hwf hlt => ?_
    rw [show Tryz.f54.results.toList = [.tmp 2] from rfl]
    refine awp_begin _ _ _ _ _ (cc := _) (by conv => lhs; simp only [push_cast, Nat.reduceEqDiff, Nat.reduceAdd, Nat.reduceMul, Nat.reduceLeDiff, Nat.reduceLT, reduceIte, reduceCtorEq, Nat.reduceShiftRight, Nat.reduceAnd, Nat.reducePow, Nat.reduceOr, Nat.reduceBNe, Nat.reduceBEq, Int.reduceToNat, Int.reduceLT, Int.reduceLE, Int.reduceGT, Int.reduceGE, Int.reduceEq, Int.reduceNe, Int.reduceNeg, Int.reduceAdd, Int.reduceSub, Int.reduceMul, Tryz.f54]) ?_
    simp only [push_cast, Nat.reduceEqDiff, Nat.reduceAdd, Nat.reduceMul, Nat.reduceLeDiff, Nat.reduceLT, reduceIte, reduceCtorEq, Nat.reduceShiftRight, Nat.reduceAnd, Nat.reducePow, Nat.reduceOr, Nat.reduceBNe, Nat.reduceBEq, Int.reduceToNat, Int.reduceLT, Int.reduceLE, Int.reduceGT, Int.reduceGE, Int.reduceEq, Int.reduceNe, Int.reduceNeg, Int.reduceAdd, Int.reduceSub, Int.reduceMul, EE_P]
    repeat' (first | simp only [push_cast, Nat.reduceEqDiff, Nat.reduceAdd, Nat.reduceMul, Nat.reduceLeDiff, Nat.reduceLT, reduceIte, reduceCtorEq, Nat.reduceShiftRight, Nat.reduceAnd, Nat.reducePow, Nat.reduceOr, Nat.reduceBNe, Nat.reduceBEq, Int.reduceToNat, Int.reduceLT, Int.reduceLE, Int.reduceGT, Int.reduceGE, Int.reduceEq, Int.reduceNe, Int.reduceNeg, Int.reduceAdd, Int.reduceSub, Int.reduceMul, EE_P, hv] | simp (disch := omega) only [wrap_fits] | ((first | with_reducible apply wcall_pure | with_reducible apply wdcall_pure); focus (first | assumption | exact itoa_fn (by omega) (by omega) | exact valid_fn goodEE EE_P _ _)) | (with_reducible refine wguard_split_t (fun h => ?_) (fun h => ?_)) | (with_reducible refine wguard_split_f (fun h => ?_) (fun h => ?_)) | (with_reducible refine wcond_split (fun h => ?_) (fun h => ?_)) | (with_reducible refine wdguard_split_t (fun h => ?_) (fun h => ?_)) | (with_reducible refine wdguard_split_f (fun h => ?_) (fun h => ?_)) | (with_reducible refine And.intro (fun h => ?_) (fun h => ?_)) | (with_reducible apply And.intro; focus omega))
    all_goals ((refine ends_ret (by simp only [resultsOf, resOf, push_cast, Nat.reduceEqDiff, Nat.reduceAdd, Nat.reduceMul, Nat.reduceLeDiff, Nat.reduceLT, reduceIte, reduceCtorEq, Nat.reduceShiftRight, Nat.reduceAnd, Nat.reducePow, Nat.reduceOr, Nat.reduceBNe, Nat.reduceBEq, Int.reduceToNat, Int.reduceLT, Int.reduceLE, Int.reduceGT, Int.reduceGE, Int.reduceEq, Int.reduceNe, Int.reduceNeg, Int.reduceAdd, Int.reduceSub, Int.reduceMul, EE_P]; rfl) (by simp only [push_cast, Nat.reduceEqDiff, Nat.reduceAdd, Nat.reduceMul, Nat.reduceLeDiff, Nat.reduceLT, reduceIte, reduceCtorEq, Nat.reduceShiftRight, Nat.reduceAnd, Nat.reducePow, Nat.reduceOr, Nat.reduceBNe, Nat.reduceBEq, Int.reduceToNat, Int.reduceLT, Int.reduceLE, Int.reduceGT, Int.reduceGE, Int.reduceEq, Int.reduceNe, Int.reduceNeg, Int.reduceAdd, Int.reduceSub, Int.reduceMul, EE_P]) ?_ (by repeat' (first | exact Keeps.refl _ | assumption | exact (hwf.keep1 _) | refine Keeps.new hwf ?_ (by omega) _)) (by simp only [lt_int, lt_bool, lt_str, lt_nil, lt_empty, lt_agg, lt_tup, lt_list, lt_cells, lt_fn, lt_nilp, lt_nilfn, lt_nili, List.mem_cons, List.not_mem_nil, or_false, forall_eq_or_imp, forall_eq, and_true, true_and, and_self, implies_true, *]; try omega)); (try simp only [tupOf, push_cast, Nat.reduceEqDiff, Nat.reduceAdd, Nat.reduceMul, Nat.reduceLeDiff, Nat.reduceLT, reduceIte, reduceCtorEq, Nat.reduceShiftRight, Nat.reduceAnd, Nat.reducePow, Nat.reduceOr, Nat.reduceBNe, Nat.reduceBEq, Int.reduceToNat, Int.reduceLT, Int.reduceLE, Int.reduceGT, Int.reduceGE, Int.reduceEq, Int.reduceNe, Int.reduceNeg, Int.reduceAdd, Int.reduceSub, Int.reduceMul, EE_P]))
    all_goals (first | (simp_all [formatS]; done) | (simp_all [formatS]; omega) | (simp [formatS, *]; done) | (simp [formatS, *]; omega))
def hasPrefixS (s p : ByteArray) : Bool := decide ((s.size : Int) ≥ p.size) && decide (s.extract 0 p.size = p)
theorem hasPrefix_fn (s p : ByteArray) : Pure EE 102 [.str s, .str p] (.bool (hasPrefixS s p)) := by
  intro σ nx
  refine fn_of_body goodEE (by rw [EE_P]; exact Tryz.func102) rfl rfl (by kernel_rfl) (Nat.le_of_ble_eq_true rfl) (Nat.le_refl _) fun hwf hlt => ?_
  rw [show Tryz.f102.results.toList = [.tmp 4] from rfl]
  refine awp_begin _ _ _ _ _ (cc := _) (by conv => lhs; simp only [push_cast, Nat.reduceEqDiff, Nat.reduceAdd, Nat.reduceMul, Nat.reduceLeDiff, Nat.reduceLT, reduceIte, reduceCtorEq, Nat.reduceShiftRight, Nat.reduceAnd, Nat.reducePow, Nat.reduceOr, Nat.reduceBNe, Nat.reduceBEq, Int.reduceToNat, Int.reduceLT, Int.reduceLE, Int.reduceGT, Int.reduceGE, Int.reduceEq, Int.reduceNe, Int.reduceNeg, Int.reduceAdd, Int.reduceSub, Int.reduceMul, Tryz.f102]) ?_
  simp only [push_cast, Nat.reduceEqDiff, Nat.reduceAdd, Nat.reduceMul, Nat.reduceLeDiff, Nat.reduceLT, reduceIte, reduceCtorEq, Nat.reduceShiftRight, Nat.reduceAnd, Nat.reducePow, Nat.reduceOr, Nat.reduceBNe, Nat.reduceBEq, Int.reduceToNat, Int.reduceLT, Int.reduceLE, Int.reduceGT, Int.reduceGE, Int.reduceEq, Int.reduceNe, Int.reduceNeg, Int.reduceAdd, Int.reduceSub, Int.reduceMul, EE_P]
  repeat' (first | simp only [push_cast, Nat.reduceEqDiff, Nat.reduceAdd, Nat.reduceMul, Nat.reduceLeDiff, Nat.reduceLT, reduceIte, reduceCtorEq, Nat.reduceShiftRight, Nat.reduceAnd, Nat.reducePow, Nat.reduceOr, Nat.reduceBNe, Nat.reduceBEq, Int.reduceToNat, Int.reduceLT, Int.reduceLE, Int.reduceGT, Int.reduceGE, Int.reduceEq, Int.reduceNe, Int.reduceNeg, Int.reduceAdd, Int.reduceSub, Int.reduceMul, EE_P, Int.toNat_natCast] | simp (disch := omega) only [wrap_fits] | ((first | with_reducible apply wcall_pure | with_reducible apply wdcall_pure); focus (first | assumption | fail)) | (with_reducible refine wguard_split_t (fun h => ?_) (fun h => ?_)) | (with_reducible refine wguard_split_f (fun h => ?_) (fun h => ?_)) | (with_reducible refine wcond_split (fun h => ?_) (fun h => ?_)) | (with_reducible refine wdguard_split_t (fun h => ?_) (fun h => ?_)) | (with_reducible refine wdguard_split_f (fun h => ?_) (fun h => ?_)) | (with_reducible refine And.intro (fun h => ?_) (fun h => ?_)) | (with_reducible apply And.intro; focus omega))
  all_goals ((refine ends_ret (by simp only [resultsOf, resOf, push_cast, Nat.reduceEqDiff, Nat.reduceAdd, Nat.reduceMul, Nat.reduceLeDiff, Nat.reduceLT, reduceIte, reduceCtorEq, Nat.reduceShiftRight, Nat.reduceAnd, Nat.reducePow, Nat.reduceOr, Nat.reduceBNe, Nat.reduceBEq, Int.reduceToNat, Int.reduceLT, Int.reduceLE, Int.reduceGT, Int.reduceGE, Int.reduceEq, Int.reduceNe, Int.reduceNeg, Int.reduceAdd, Int.reduceSub, Int.reduceMul, EE_P]; rfl) (by simp only [push_cast, Nat.reduceEqDiff, Nat.reduceAdd, Nat.reduceMul, Nat.reduceLeDiff, Nat.reduceLT, reduceIte, reduceCtorEq, Nat.reduceShiftRight, Nat.reduceAnd, Nat.reducePow, Nat.reduceOr, Nat.reduceBNe, Nat.reduceBEq, Int.reduceToNat, Int.reduceLT, Int.reduceLE, Int.reduceGT, Int.reduceGE, Int.reduceEq, Int.reduceNe, Int.reduceNeg, Int.reduceAdd, Int.reduceSub, Int.reduceMul, EE_P]) ?_ (by repeat' (first | exact Keeps.refl _ | assumption | exact (hwf.keep1 _) | refine Keeps.new hwf ?_ (by omega) _)) (by simp only [lt_int, lt_bool, lt_str, lt_nil, lt_empty, lt_agg, lt_tup, lt_list, lt_cells, lt_fn, lt_nilp, lt_nilfn, lt_nili, List.mem_cons, List.not_mem_nil, or_false, forall_eq_or_imp, forall_eq, and_true, true_and, and_self, implies_true, *]; try omega)); (try simp only [tupOf, push_cast, Nat.reduceEqDiff, Nat.reduceAdd, Nat.reduceMul, Nat.reduceLeDiff, Nat.reduceLT, reduceIte, reduceCtorEq, Nat.reduceShiftRight, Nat.reduceAnd, Nat.reducePow, Nat.reduceOr, Nat.reduceBNe, Nat.reduceBEq, Int.reduceToNat, Int.reduceLT, Int.reduceLE, Int.reduceGT, Int.reduceGE, Int.reduceEq, Int.reduceNe, Int.reduceNeg, Int.reduceAdd, Int.reduceSub, Int.reduceMul, EE_P]))
  all_goals (first | (simp_all [hasPrefixS]; done) | (simp_all [hasPrefixS]; omega) | (simp [hasPrefixS, *]; done) | (simp [hasPrefixS, *]; omega))
def cutPrefixS (s p : ByteArray) : ByteArray := if hasPrefixS s p = true then s.extract p.size s.size else s
theorem cutPrefix1_fn (s p : ByteArray) : Pure EE 84 [.str s, .str p] (.tup [.str (cutPrefixS s p), .bool (hasPrefixS s p)]) := by
  have hle : hasPrefixS s p = true → (p.size : Int) ≤ s.size := fun h => by simp [hasPrefixS] at h; omega
  cases hp : hasPrefixS s p
  · intro σ nx
    refine fn_of_body goodEE (by rw [EE_P]; exact Tryz.func84) rfl rfl (by kernel_rfl) (Nat.le_of_ble_eq_true rfl) (Nat.le_refl _) fun hwf hlt => ?_
    rw [show Tryz.f84.results.toList = [.tmp 4, .tmp 5] from rfl]
    refine awp_begin _ _ _ _ _ (cc := _) (by conv => lhs; simp only [push_cast, Nat.reduceEqDiff, Nat.reduceAdd, Nat.reduceMul, Nat.reduceLeDiff, Nat.reduceLT, reduceIte, reduceCtorEq, Nat.reduceShiftRight, Nat.reduceAnd, Nat.reducePow, Nat.reduceOr, Nat.reduceBNe, Nat.reduceBEq, Int.reduceToNat, Int.reduceLT, Int.reduceLE, Int.reduceGT, Int.reduceGE, Int.reduceEq, Int.reduceNe, Int.reduceNeg, Int.reduceAdd, Int.reduceSub, Int.reduceMul, Tryz.f84]) ?_
    simp only [push_cast, Nat.reduceEqDiff, Nat.reduceAdd, Nat.reduceMul, Nat.reduceLeDiff, Nat.reduceLT, reduceIte, reduceCtorEq, Nat.reduceShiftRight, Nat.reduceAnd, Nat.reducePow, Nat.reduceOr, Nat.reduceBNe, Nat.reduceBEq, Int.reduceToNat, Int.reduceLT, Int.reduceLE, Int.reduceGT, Int.reduceGE, Int.reduceEq, Int.reduceNe, Int.reduceNeg, Int.reduceAdd, Int.reduceSub, Int.reduceMul, EE_P]
    repeat' (first | simp only [push_cast, Nat.reduceEqDiff, Nat.reduceAdd, Nat.reduceMul, Nat.reduceLeDiff, Nat.reduceLT, reduceIte, reduceCtorEq, Nat.reduceShiftRight, Nat.reduceAnd, Nat.reducePow, Nat.reduceOr, Nat.reduceBNe, Nat.reduceBEq, Int.reduceToNat, Int.reduceLT, Int.reduceLE, Int.reduceGT, Int.reduceGE, Int.reduceEq, Int.reduceNe, Int.reduceNeg, Int.reduceAdd, Int.reduceSub, Int.reduceMul, EE_P, hp] | simp (disch := omega) only [wrap_fits] | ((first | with_reducible apply wcall_pure | with_reducible apply wdcall_pure); focus (first | assumption | exact hasPrefix_fn _ _)) | (with_reducible refine wguard_split_t (fun h => ?_) (fun h => ?_)) | (with_reducible refine wguard_split_f (fun h => ?_) (fun h => ?_)) | (with_reducible refine wcond_split (fun h => ?_) (fun h => ?_)) | (with_reducible refine wdguard_split_t (fun h => ?_) (fun h => ?_)) | (with_reducible refine wdguard_split_f (fun h => ?_) (fun h => ?_)) | (with_reducible refine And.intro (fun h => ?_) (fun h => ?_)) | (with_reducible apply And.intro; focus omega))
    all_goals ((refine ends_ret (by simp only [resultsOf, resOf, push_cast, Nat.reduceEqDiff, Nat.reduceAdd, Nat.reduceMul, Nat.reduceLeDiff, Nat.reduceLT, reduceIte, reduceCtorEq, Nat.reduceShiftRight, Nat.reduceAnd, Nat.reducePow, Nat.reduceOr, Nat.reduceBNe, Nat.reduceBEq, Int.reduceToNat, Int.reduceLT, Int.reduceLE, Int.reduceGT, Int.reduceGE, Int.reduceEq, Int.reduceNe, Int.reduceNeg, Int.reduceAdd, Int.reduceSub, Int.reduceMul, EE_P]; rfl) (by simp only [push_cast, Nat.reduceEqDiff, Nat.reduceAdd, Nat.reduceMul, Nat.reduceLeDiff, Nat.reduceLT, reduceIte, reduceCtorEq, Nat.reduceShiftRight, Nat.reduceAnd, Nat.reducePow, Nat.reduceOr, Nat.reduceBNe, Nat.reduceBEq, Int.reduceToNat, Int.reduceLT, Int.reduceLE, Int.reduceGT, Int.reduceGE, Int.reduceEq, Int.reduceNe, Int.reduceNeg, Int.reduceAdd, Int.reduceSub, Int.reduceMul, EE_P]) ?_ (by repeat' (first | exact Keeps.refl _ | assumption | exact (hwf.keep1 _) | refine Keeps.new hwf ?_ (by omega) _)) (by simp only [lt_int, lt_bool, lt_str, lt_nil, lt_empty, lt_agg, lt_tup, lt_list, lt_cells, lt_fn, lt_nilp, lt_nilfn, lt_nili, List.mem_cons, List.not_mem_nil, or_false, forall_eq_or_imp, forall_eq, and_true, true_and, and_self, implies_true, *]; try omega)); (try simp only [tupOf, push_cast, Nat.reduceEqDiff, Nat.reduceAdd, Nat.reduceMul, Nat.reduceLeDiff, Nat.reduceLT, reduceIte, reduceCtorEq, Nat.reduceShiftRight, Nat.reduceAnd, Nat.reducePow, Nat.reduceOr, Nat.reduceBNe, Nat.reduceBEq, Int.reduceToNat, Int.reduceLT, Int.reduceLE, Int.reduceGT, Int.reduceGE, Int.reduceEq, Int.reduceNe, Int.reduceNeg, Int.reduceAdd, Int.reduceSub, Int.reduceMul, EE_P]))
    all_goals (first | (simp_all [cutPrefixS]; done) | (simp_all [cutPrefixS]; omega) | (simp [cutPrefixS, *]; done) | (simp [cutPrefixS, *]; omega))
  · have hle := hle hp
    intro σ nx
    refine fn_of_body goodEE (by rw [EE_P]; exact Tryz.func84) rfl rfl (by kernel_rfl) (Nat.le_of_ble_eq_true rfl) (Nat.le_refl _) fun hwf hlt => ?_
    rw [show Tryz.f84.results.toList = [.tmp 4, .tmp 5] from rfl]
    refine awp_begin _ _ _ _ _ (cc := _) (by conv => lhs; simp only [push_cast, Nat.reduceEqDiff, Nat.reduceAdd, Nat.reduceMul, Nat.reduceLeDiff, Nat.reduceLT, reduceIte, reduceCtorEq, Nat.reduceShiftRight, Nat.reduceAnd, Nat.reducePow, Nat.reduceOr, Nat.reduceBNe, Nat.reduceBEq, Int.reduceToNat, Int.reduceLT, Int.reduceLE, Int.reduceGT, Int.reduceGE, Int.reduceEq, Int.reduceNe, Int.reduceNeg, Int.reduceAdd, Int.reduceSub, Int.reduceMul, Tryz.f84]) ?_
    simp only [push_cast, Nat.reduceEqDiff, Nat.reduceAdd, Nat.reduceMul, Nat.reduceLeDiff, Nat.reduceLT, reduceIte, reduceCtorEq, Nat.reduceShiftRight, Nat.reduceAnd, Nat.reducePow, Nat.reduceOr, Nat.reduceBNe, Nat.reduceBEq, Int.reduceToNat, Int.reduceLT, Int.reduceLE, Int.reduceGT, Int.reduceGE, Int.reduceEq, Int.reduceNe, Int.reduceNeg, Int.reduceAdd, Int.reduceSub, Int.reduceMul, EE_P]
    repeat' (first | simp only [push_cast, Nat.reduceEqDiff, Nat.reduceAdd, Nat.reduceMul, Nat.reduceLeDiff, Nat.reduceLT, reduceIte, reduceCtorEq, Nat.reduceShiftRight, Nat.reduceAnd, Nat.reducePow, Nat.reduceOr, Nat.reduceBNe, Nat.reduceBEq, Int.reduceToNat, Int.reduceLT, Int.reduceLE, Int.reduceGT, Int.reduceGE, Int.reduceEq, Int.reduceNe, Int.reduceNeg, Int.reduceAdd, Int.reduceSub, Int.reduceMul, EE_P, hp, hle, Int.toNat_natCast] | simp (disch := omega) only [wrap_fits] | ((first | with_reducible apply wcall_pure | with_reducible apply wdcall_pure); focus (first | assumption | exact hasPrefix_fn _ _)) | (with_reducible refine wguard_split_t (fun h => ?_) (fun h => ?_)) | (with_reducible refine wguard_split_f (fun h => ?_) (fun h => ?_)) | (with_reducible refine wcond_split (fun h => ?_) (fun h => ?_)) | (with_reducible refine wdguard_split_t (fun h => ?_) (fun h => ?_)) | (with_reducible refine wdguard_split_f (fun h => ?_) (fun h => ?_)) | (with_reducible refine And.intro (fun h => ?_) (fun h => ?_)) | (with_reducible apply And.intro; focus omega))
    all_goals ((refine ends_ret (by simp only [resultsOf, resOf, push_cast, Nat.reduceEqDiff, Nat.reduceAdd, Nat.reduceMul, Nat.reduceLeDiff, Nat.reduceLT, reduceIte, reduceCtorEq, Nat.reduceShiftRight, Nat.reduceAnd, Nat.reducePow, Nat.reduceOr, Nat.reduceBNe, Nat.reduceBEq, Int.reduceToNat, Int.reduceLT, Int.reduceLE, Int.reduceGT, Int.reduceGE, Int.reduceEq, Int.reduceNe, Int.reduceNeg, Int.reduceAdd, Int.reduceSub, Int.reduceMul, EE_P]; rfl) (by simp only [push_cast, Nat.reduceEqDiff, Nat.reduceAdd, Nat.reduceMul, Nat.reduceLeDiff, Nat.reduceLT, reduceIte, reduceCtorEq, Nat.reduceShiftRight, Nat.reduceAnd, Nat.reducePow, Nat.reduceOr, Nat.reduceBNe, Nat.reduceBEq, Int.reduceToNat, Int.reduceLT, Int.reduceLE, Int.reduceGT, Int.reduceGE, Int.reduceEq, Int.reduceNe, Int.reduceNeg, Int.reduceAdd, Int.reduceSub, Int.reduceMul, EE_P]) ?_ (by repeat' (first | exact Keeps.refl _ | assumption | exact (hwf.keep1 _) | refine Keeps.new hwf ?_ (by omega) _)) (by simp only [lt_int, lt_bool, lt_str, lt_nil, lt_empty, lt_agg, lt_tup, lt_list, lt_cells, lt_fn, lt_nilp, lt_nilfn, lt_nili, List.mem_cons, List.not_mem_nil, or_false, forall_eq_or_imp, forall_eq, and_true, true_and, and_self, implies_true, *]; try omega)); (try simp only [tupOf, push_cast, Nat.reduceEqDiff, Nat.reduceAdd, Nat.reduceMul, Nat.reduceLeDiff, Nat.reduceLT, reduceIte, reduceCtorEq, Nat.reduceShiftRight, Nat.reduceAnd, Nat.reducePow, Nat.reduceOr, Nat.reduceBNe, Nat.reduceBEq, Int.reduceToNat, Int.reduceLT, Int.reduceLE, Int.reduceGT, Int.reduceGE, Int.reduceEq, Int.reduceNe, Int.reduceNeg, Int.reduceAdd, Int.reduceSub, Int.reduceMul, EE_P]))
    all_goals (first | (simp_all [cutPrefixS]; done) | (simp_all [cutPrefixS]; omega) | (simp [cutPrefixS, *]; done) | (simp [cutPrefixS, *]; omega))
theorem cutPrefix_fn (s p : ByteArray) : Pure EE 53 [.str s, .str p] (.tup [.str (cutPrefixS s p), .bool (hasPrefixS s p)]) := by
  intro σ nx
  refine fn_of_body goodEE (by rw [EE_P]; exact Tryz.func53) rfl rfl (by kernel_rfl) (Nat.le_of_ble_eq_true rfl) (Nat.le_refl _) fun hwf hlt => ?_
  rw [show Tryz.f53.results.toList = [.tmp 4, .tmp 5] from rfl]
  refine awp_begin _ _ _ _ _ (cc := _) (by conv => lhs; simp only [push_cast, Nat.reduceEqDiff, Nat.reduceAdd, Nat.reduceMul, Nat.reduceLeDiff, Nat.reduceLT, reduceIte, reduceCtorEq, Nat.reduceShiftRight, Nat.reduceAnd, Nat.reducePow, Nat.reduceOr, Nat.reduceBNe, Nat.reduceBEq, Int.reduceToNat, Int.reduceLT, Int.reduceLE, Int.reduceGT, Int.reduceGE, Int.reduceEq, Int.reduceNe, Int.reduceNeg, Int.reduceAdd, Int.reduceSub, Int.reduceMul, Tryz.f53]) ?_
  simp only [push_cast, Nat.reduceEqDiff, Nat.reduceAdd, Nat.reduceMul, Nat.reduceLeDiff, Nat.reduceLT, reduceIte, reduceCtorEq, Nat.reduceShiftRight, Nat.reduceAnd, Nat.reducePow, Nat.reduceOr, Nat.reduceBNe, Nat.reduceBEq, Int.reduceToNat, Int.reduceLT, Int.reduceLE, Int.reduceGT, Int.reduceGE, Int.reduceEq, Int.reduceNe, Int.reduceNeg, Int.reduceAdd, Int.reduceSub, Int.reduceMul, EE_P]
  repeat' (first | simp only [push_cast, Nat.reduceEqDiff, Nat.reduceAdd, Nat.reduceMul, Nat.reduceLeDiff, Nat.reduceLT, reduceIte, reduceCtorEq, Nat.reduceShiftRight, Nat.reduceAnd, Nat.reducePow, Nat.reduceOr, Nat.reduceBNe, Nat.reduceBEq, Int.reduceToNat, Int.reduceLT, Int.reduceLE, Int.reduceGT, Int.reduceGE, Int.reduceEq, Int.reduceNe, Int.reduceNeg, Int.reduceAdd, Int.reduceSub, Int.reduceMul, EE_P] | simp (disch := omega) only [wrap_fits] | ((first | with_reducible apply wcall_pure | with_reducible apply wdcall_pure); focus (first | assumption | exact cutPrefix1_fn _ _)) | (with_reducible refine wguard_split_t (fun h => ?_) (fun h => ?_)) | (with_reducible refine wguard_split_f (fun h => ?_) (fun h => ?_)) | (with_reducible refine wcond_split (fun h => ?_) (fun h => ?_)) | (with_reducible refine wdguard_split_t (fun h => ?_) (fun h => ?_)) | (with_reducible refine wdguard_split_f (fun h => ?_) (fun h => ?_)) | (with_reducible refine And.intro (fun h => ?_) (fun h => ?_)) | (with_reducible apply And.intro; focus omega))
  all_goals ((refine ends_ret (by simp only [resultsOf, resOf, push_cast, Nat.reduceEqDiff, Nat.reduceAdd, Nat.reduceMul, Nat.reduceLeDiff, Nat.reduceLT, reduceIte, reduceCtorEq, Nat.reduceShiftRight, Nat.reduceAnd, Nat.reducePow, Nat.reduceOr, Nat.reduceBNe, Nat.reduceBEq, Int.reduceToNat, Int.reduceLT, Int.reduceLE, Int.reduceGT, Int.reduceGE, Int.reduceEq, Int.reduceNe, Int.reduceNeg, Int.reduceAdd, Int.reduceSub, Int.reduceMul, EE_P]; rfl) (by simp only [push_cast, Nat.reduceEqDiff, Nat.reduceAdd, Nat.reduceMul, Nat.reduceLeDiff, Nat.reduceLT, reduceIte, reduceCtorEq, Nat.reduceShiftRight, Nat.reduceAnd, Nat.reducePow, Nat.reduceOr, Nat.reduceBNe, Nat.reduceBEq, Int.reduceToNat, Int.reduceLT, Int.reduceLE, Int.reduceGT, Int.reduceGE, Int.reduceEq, Int.reduceNe, Int.reduceNeg, Int.reduceAdd, Int.reduceSub, Int.reduceMul, EE_P]) ?_ (by repeat' (first | exact Keeps.refl _ | assumption | exact (hwf.keep1 _) | refine Keeps.new hwf ?_ (by omega) _)) (by simp only [lt_int, lt_bool, lt_str, lt_nil, lt_empty, lt_agg, lt_tup, lt_list, lt_cells, lt_fn, lt_nilp, lt_nilfn, lt_nili, List.mem_cons, List.not_mem_nil, or_false, forall_eq_or_imp, forall_eq, and_true, true_and, and_self, implies_true, *]; try omega)); (try simp only [tupOf, push_cast, Nat.reduceEqDiff, Nat.reduceAdd, Nat.reduceMul, Nat.reduceLeDiff, Nat.reduceLT, reduceIte, reduceCtorEq, Nat.reduceShiftRight, Nat.reduceAnd, Nat.reducePow, Nat.reduceOr, Nat.reduceBNe, Nat.reduceBEq, Int.reduceToNat, Int.reduceLT, Int.reduceLE, Int.reduceGT, Int.reduceGE, Int.reduceEq, Int.reduceNe, Int.reduceNeg, Int.reduceAdd, Int.reduceSub, Int.reduceMul, EE_P]))
def signS (n : Int) : ByteArray := if n < 0 then (⟨#[45]⟩ : ByteArray) else ⟨#[]⟩
def restS (n power : Int) : ByteArray := (itoaS (power + (n.natAbs : Int).tmod power)).extract 1 (itoaS (power + (n.natAbs : Int).tmod power)).size
def pointS (n power : Int) : ByteArray := signS n ++ itoaS ((n.natAbs : Int).tdiv power) ++ (⟨#[46]⟩ : ByteArray) ++ restS n power
theorem tmod_bd {a b : Int} (ha : 0 ≤ a) (hb : 0 < b) : 0 ≤ a.tmod b ∧ a.tmod b < b := ⟨Int.tmod_nonneg b ha, Int.tmod_lt_of_pos a hb⟩
theorem tdiv_bd {a b : Int} (ha : 0 ≤ a) (hb : 0 < b) : 0 ≤ a.tdiv b ∧ a.tdiv b ≤ a := by
  rw [Int.tdiv_eq_ediv_of_nonneg ha]
  exact ⟨Int.ediv_nonneg ha (by omega), Int.ediv_le_self b ha⟩
theorem point_fn {n power : Int} (h0 : -1000000000000000 ≤ n) (h1 : n ≤ 1000000000000000) (h2 : 0 < power) (h3 : power ≤ 1000000) : Pure EE 86 [.int .i64 n, .int .i64 power] (.str (pointS n power)) := by
  have m1 := tmod_bd (a := n.natAbs) (b := power) (by omega) h2
  have m2 := tdiv_bd (a := n.natAbs) (b := power) (by omega) h2
  have hp0 : ¬ power = 0 := by omega
  have w1 : IntKind.i64.wrap (power + (n.natAbs : Int).tmod power) = power + (n.natAbs : Int).tmod power := wrap_small (by omega) (by omega)
  have w2 : IntKind.i64.wrap ((n.natAbs : Int).tdiv power) = (n.natAbs : Int).tdiv power := wrap_small (by omega) (by omega)
  have z1 := itoaS_size (power + (n.natAbs : Int).tmod power)
  have z2 := itoaS_size ((n.natAbs : Int).tdiv power)
  have z3 : (1 : Int) ≤ (itoaS (power + (n.natAbs : Int).tmod power)).size := by omega
  have z4 : (restS n power).size = (itoaS (power + (n.natAbs : Int).tmod power)).size - 1 := by unfold restS; simp
  have hr : (itoaS (power + (n.natAbs : Int).tmod power)).extract 1 (itoaS (power + (n.natAbs : Int).tmod power)).size = restS n power := rfl
  by_cases hn : n < 0
  · intro σ nx
    refine fn_of_body goodEE (by rw [EE_P]; exact Tryz.func86) rfl rfl (by kernel_rfl) (Nat.le_of_ble_eq_true rfl) (Nat.le_refl _) fun hwf hlt => ?_
    rw [show Tryz.f86.results.toList = [.tmp 4] from rfl]
    refine awp_begin _ _ _ _ _ (cc := _) (by conv => lhs; simp only [push_cast, Nat.reduceEqDiff, Nat.reduceAdd, Nat.reduceMul, Nat.reduceLeDiff, Nat.reduceLT, reduceIte, reduceCtorEq, Nat.reduceShiftRight, Nat.reduceAnd, Nat.reducePow, Nat.reduceOr, Nat.reduceBNe, Nat.reduceBEq, Int.reduceToNat, Int.reduceLT, Int.reduceLE, Int.reduceGT, Int.reduceGE, Int.reduceEq, Int.reduceNe, Int.reduceNeg, Int.reduceAdd, Int.reduceSub, Int.reduceMul, Tryz.f86]) ?_
    simp only [push_cast, Nat.reduceEqDiff, Nat.reduceAdd, Nat.reduceMul, Nat.reduceLeDiff, Nat.reduceLT, reduceIte, reduceCtorEq, Nat.reduceShiftRight, Nat.reduceAnd, Nat.reducePow, Nat.reduceOr, Nat.reduceBNe, Nat.reduceBEq, Int.reduceToNat, Int.reduceLT, Int.reduceLE, Int.reduceGT, Int.reduceGE, Int.reduceEq, Int.reduceNe, Int.reduceNeg, Int.reduceAdd, Int.reduceSub, Int.reduceMul, EE_P]
    repeat' (first | simp only [push_cast, Nat.reduceEqDiff, Nat.reduceAdd, Nat.reduceMul, Nat.reduceLeDiff, Nat.reduceLT, reduceIte, reduceCtorEq, Nat.reduceShiftRight, Nat.reduceAnd, Nat.reducePow, Nat.reduceOr, Nat.reduceBNe, Nat.reduceBEq, Int.reduceToNat, Int.reduceLT, Int.reduceLE, Int.reduceGT, Int.reduceGE, Int.reduceEq, Int.reduceNe, Int.reduceNeg, Int.reduceAdd, Int.reduceSub, Int.reduceMul, EE_P, hn, hp0, w1, w2, z3, hr, Int.toNat_natCast] | simp (disch := omega) only [wrap_fits] | ((first | with_reducible apply wcall_pure | with_reducible apply wdcall_pure); focus (first | assumption | exact itoa_fn (by omega) (by omega) | exact abs_fn goodEE EE_P (by omega) (by omega))) | (with_reducible refine wguard_split_t (fun h => ?_) (fun h => ?_)) | (with_reducible refine wguard_split_f (fun h => ?_) (fun h => ?_)) | (with_reducible refine wcond_split (fun h => ?_) (fun h => ?_)) | (with_reducible refine wdguard_split_t (fun h => ?_) (fun h => ?_)) | (with_reducible refine wdguard_split_f (fun h => ?_) (fun h => ?_)) | (with_reducible refine And.intro (fun h => ?_) (fun h => ?_)) | (with_reducible apply And.intro; focus omega))
    all_goals ((refine ends_ret (by simp only [resultsOf, resOf, push_cast, Nat.reduceEqDiff, Nat.reduceAdd, Nat.reduceMul, Nat.reduceLeDiff, Nat.reduceLT, reduceIte, reduceCtorEq, Nat.reduceShiftRight, Nat.reduceAnd, Nat.reducePow, Nat.reduceOr, Nat.reduceBNe, Nat.reduceBEq, Int.reduceToNat, Int.reduceLT, Int.reduceLE, Int.reduceGT, Int.reduceGE, Int.reduceEq, Int.reduceNe, Int.reduceNeg, Int.reduceAdd, Int.reduceSub, Int.reduceMul, EE_P]; rfl) (by simp only [push_cast, Nat.reduceEqDiff, Nat.reduceAdd, Nat.reduceMul, Nat.reduceLeDiff, Nat.reduceLT, reduceIte, reduceCtorEq, Nat.reduceShiftRight, Nat.reduceAnd, Nat.reducePow, Nat.reduceOr, Nat.reduceBNe, Nat.reduceBEq, Int.reduceToNat, Int.reduceLT, Int.reduceLE, Int.reduceGT, Int.reduceGE, Int.reduceEq, Int.reduceNe, Int.reduceNeg, Int.reduceAdd, Int.reduceSub, Int.reduceMul, EE_P]) ?_ (by repeat' (first | exact Keeps.refl _ | assumption | exact (hwf.keep1 _) | refine Keeps.new hwf ?_ (by omega) _)) (by simp only [lt_int, lt_bool, lt_str, lt_nil, lt_empty, lt_agg, lt_tup, lt_list, lt_cells, lt_fn, lt_nilp, lt_nilfn, lt_nili, List.mem_cons, List.not_mem_nil, or_false, forall_eq_or_imp, forall_eq, and_true, true_and, and_self, implies_true, *]; try omega)); (try simp only [tupOf, push_cast, Nat.reduceEqDiff, Nat.reduceAdd, Nat.reduceMul, Nat.reduceLeDiff, Nat.reduceLT, reduceIte, reduceCtorEq, Nat.reduceShiftRight, Nat.reduceAnd, Nat.reducePow, Nat.reduceOr, Nat.reduceBNe, Nat.reduceBEq, Int.reduceToNat, Int.reduceLT, Int.reduceLE, Int.reduceGT, Int.reduceGE, Int.reduceEq, Int.reduceNe, Int.reduceNeg, Int.reduceAdd, Int.reduceSub, Int.reduceMul, EE_P]))
    simp [pointS, signS, hn]
  · intro σ nx
    refine fn_of_body goodEE (by rw [EE_P]; exact Tryz.func86) rfl rfl (by kernel_rfl) (Nat.le_of_ble_eq_true rfl) (Nat.le_refl _) fun hwf hlt => ?_
    rw [show Tryz.f86.results.toList = [.tmp 4] from rfl]
    refine awp_begin _ _ _ _ _ (cc := _) (by conv => lhs; simp only [push_cast, Nat.reduceEqDiff, Nat.reduceAdd, Nat.reduceMul, Nat.reduceLeDiff, Nat.reduceLT, reduceIte, reduceCtorEq, Nat.reduceShiftRight, Nat.reduceAnd, Nat.reducePow, Nat.reduceOr, Nat.reduceBNe, Nat.reduceBEq, Int.reduceToNat, Int.reduceLT, Int.reduceLE, Int.reduceGT, Int.reduceGE, Int.reduceEq, Int.reduceNe, Int.reduceNeg, Int.reduceAdd, Int.reduceSub, Int.reduceMul, Tryz.f86]) ?_
    simp only [push_cast, Nat.reduceEqDiff, Nat.reduceAdd, Nat.reduceMul, Nat.reduceLeDiff, Nat.reduceLT, reduceIte, reduceCtorEq, Nat.reduceShiftRight, Nat.reduceAnd, Nat.reducePow, Nat.reduceOr, Nat.reduceBNe, Nat.reduceBEq, Int.reduceToNat, Int.reduceLT, Int.reduceLE, Int.reduceGT, Int.reduceGE, Int.reduceEq, Int.reduceNe, Int.reduceNeg, Int.reduceAdd, Int.reduceSub, Int.reduceMul, EE_P]
    repeat' (first | simp only [push_cast, Nat.reduceEqDiff, Nat.reduceAdd, Nat.reduceMul, Nat.reduceLeDiff, Nat.reduceLT, reduceIte, reduceCtorEq, Nat.reduceShiftRight, Nat.reduceAnd, Nat.reducePow, Nat.reduceOr, Nat.reduceBNe, Nat.reduceBEq, Int.reduceToNat, Int.reduceLT, Int.reduceLE, Int.reduceGT, Int.reduceGE, Int.reduceEq, Int.reduceNe, Int.reduceNeg, Int.reduceAdd, Int.reduceSub, Int.reduceMul, EE_P, hn, hp0, w1, w2, z3, hr, Int.toNat_natCast] | simp (disch := omega) only [wrap_fits] | ((first | with_reducible apply wcall_pure | with_reducible apply wdcall_pure); focus (first | assumption | exact itoa_fn (by omega) (by omega) | exact abs_fn goodEE EE_P (by omega) (by omega))) | (with_reducible refine wguard_split_t (fun h => ?_) (fun h => ?_)) | (with_reducible refine wguard_split_f (fun h => ?_) (fun h => ?_)) | (with_reducible refine wcond_split (fun h => ?_) (fun h => ?_)) | (with_reducible refine wdguard_split_t (fun h => ?_) (fun h => ?_)) | (with_reducible refine wdguard_split_f (fun h => ?_) (fun h => ?_)) | (with_reducible refine And.intro (fun h => ?_) (fun h => ?_)) | (with_reducible apply And.intro; focus omega))
    all_goals ((refine ends_ret (by simp only [resultsOf, resOf, push_cast, Nat.reduceEqDiff, Nat.reduceAdd, Nat.reduceMul, Nat.reduceLeDiff, Nat.reduceLT, reduceIte, reduceCtorEq, Nat.reduceShiftRight, Nat.reduceAnd, Nat.reducePow, Nat.reduceOr, Nat.reduceBNe, Nat.reduceBEq, Int.reduceToNat, Int.reduceLT, Int.reduceLE, Int.reduceGT, Int.reduceGE, Int.reduceEq, Int.reduceNe, Int.reduceNeg, Int.reduceAdd, Int.reduceSub, Int.reduceMul, EE_P]; rfl) (by simp only [push_cast, Nat.reduceEqDiff, Nat.reduceAdd, Nat.reduceMul, Nat.reduceLeDiff, Nat.reduceLT, reduceIte, reduceCtorEq, Nat.reduceShiftRight, Nat.reduceAnd, Nat.reducePow, Nat.reduceOr, Nat.reduceBNe, Nat.reduceBEq, Int.reduceToNat, Int.reduceLT, Int.reduceLE, Int.reduceGT, Int.reduceGE, Int.reduceEq, Int.reduceNe, Int.reduceNeg, Int.reduceAdd, Int.reduceSub, Int.reduceMul, EE_P]) ?_ (by repeat' (first | exact Keeps.refl _ | assumption | exact (hwf.keep1 _) | refine Keeps.new hwf ?_ (by omega) _)) (by simp only [lt_int, lt_bool, lt_str, lt_nil, lt_empty, lt_agg, lt_tup, lt_list, lt_cells, lt_fn, lt_nilp, lt_nilfn, lt_nili, List.mem_cons, List.not_mem_nil, or_false, forall_eq_or_imp, forall_eq, and_true, true_and, and_self, implies_true, *]; try omega)); (try simp only [tupOf, push_cast, Nat.reduceEqDiff, Nat.reduceAdd, Nat.reduceMul, Nat.reduceLeDiff, Nat.reduceLT, reduceIte, reduceCtorEq, Nat.reduceShiftRight, Nat.reduceAnd, Nat.reducePow, Nat.reduceOr, Nat.reduceBNe, Nat.reduceBEq, Int.reduceToNat, Int.reduceLT, Int.reduceLE, Int.reduceGT, Int.reduceGE, Int.reduceEq, Int.reduceNe, Int.reduceNeg, Int.reduceAdd, Int.reduceSub, Int.reduceMul, EE_P]))
    simp [pointS, signS, hn]
def pointsTextS (n : Int) : ByteArray := if n < -100000000 ∨ n > 100000000 then ⟨#[]⟩ else pointS n 100
theorem pointsText_fn (n : Int) : Pure EE 55 [.int .i64 n] (.str (pointsTextS n)) := by
  by_cases hb : n < -100000000 ∨ n > 100000000
  · intro σ nx
    refine fn_of_body goodEE (by rw [EE_P]; exact Tryz.func55) rfl rfl (by kernel_rfl) (Nat.le_of_ble_eq_true rfl) (Nat.le_refl _) fun hwf hlt => ?_
    rw [show Tryz.f55.results.toList = [.tmp 2] from rfl]
    refine awp_begin _ _ _ _ _ (cc := _) (by conv => lhs; simp only [push_cast, Nat.reduceEqDiff, Nat.reduceAdd, Nat.reduceMul, Nat.reduceLeDiff, Nat.reduceLT, reduceIte, reduceCtorEq, Nat.reduceShiftRight, Nat.reduceAnd, Nat.reducePow, Nat.reduceOr, Nat.reduceBNe, Nat.reduceBEq, Int.reduceToNat, Int.reduceLT, Int.reduceLE, Int.reduceGT, Int.reduceGE, Int.reduceEq, Int.reduceNe, Int.reduceNeg, Int.reduceAdd, Int.reduceSub, Int.reduceMul, Tryz.f55]) ?_
    simp only [push_cast, Nat.reduceEqDiff, Nat.reduceAdd, Nat.reduceMul, Nat.reduceLeDiff, Nat.reduceLT, reduceIte, reduceCtorEq, Nat.reduceShiftRight, Nat.reduceAnd, Nat.reducePow, Nat.reduceOr, Nat.reduceBNe, Nat.reduceBEq, Int.reduceToNat, Int.reduceLT, Int.reduceLE, Int.reduceGT, Int.reduceGE, Int.reduceEq, Int.reduceNe, Int.reduceNeg, Int.reduceAdd, Int.reduceSub, Int.reduceMul, EE_P]
    repeat' (first | simp only [push_cast, Nat.reduceEqDiff, Nat.reduceAdd, Nat.reduceMul, Nat.reduceLeDiff, Nat.reduceLT, reduceIte, reduceCtorEq, Nat.reduceShiftRight, Nat.reduceAnd, Nat.reducePow, Nat.reduceOr, Nat.reduceBNe, Nat.reduceBEq, Int.reduceToNat, Int.reduceLT, Int.reduceLE, Int.reduceGT, Int.reduceGE, Int.reduceEq, Int.reduceNe, Int.reduceNeg, Int.reduceAdd, Int.reduceSub, Int.reduceMul, EE_P] | simp (disch := omega) only [wrap_fits] | ((first | with_reducible apply wcall_pure | with_reducible apply wdcall_pure); focus (first | assumption | fail)) | (with_reducible refine wguard_split_t (fun h => ?_) (fun h => ?_)) | (with_reducible refine wguard_split_f (fun h => ?_) (fun h => ?_)) | (with_reducible refine wcond_split (fun h => ?_) (fun h => ?_)) | (with_reducible refine wdguard_split_t (fun h => ?_) (fun h => ?_)) | (with_reducible refine wdguard_split_f (fun h => ?_) (fun h => ?_)) | (with_reducible refine And.intro (fun h => ?_) (fun h => ?_)) | (with_reducible apply And.intro; focus omega))
    all_goals (try (exfalso; omega))
    all_goals ((refine ends_ret (by simp only [resultsOf, resOf, push_cast, Nat.reduceEqDiff, Nat.reduceAdd, Nat.reduceMul, Nat.reduceLeDiff, Nat.reduceLT, reduceIte, reduceCtorEq, Nat.reduceShiftRight, Nat.reduceAnd, Nat.reducePow, Nat.reduceOr, Nat.reduceBNe, Nat.reduceBEq, Int.reduceToNat, Int.reduceLT, Int.reduceLE, Int.reduceGT, Int.reduceGE, Int.reduceEq, Int.reduceNe, Int.reduceNeg, Int.reduceAdd, Int.reduceSub, Int.reduceMul, EE_P]; rfl) (by simp only [push_cast, Nat.reduceEqDiff, Nat.reduceAdd, Nat.reduceMul, Nat.reduceLeDiff, Nat.reduceLT, reduceIte, reduceCtorEq, Nat.reduceShiftRight, Nat.reduceAnd, Nat.reducePow, Nat.reduceOr, Nat.reduceBNe, Nat.reduceBEq, Int.reduceToNat, Int.reduceLT, Int.reduceLE, Int.reduceGT, Int.reduceGE, Int.reduceEq, Int.reduceNe, Int.reduceNeg, Int.reduceAdd, Int.reduceSub, Int.reduceMul, EE_P]) ?_ (by repeat' (first | exact Keeps.refl _ | assumption | exact (hwf.keep1 _) | refine Keeps.new hwf ?_ (by omega) _)) (by simp only [lt_int, lt_bool, lt_str, lt_nil, lt_empty, lt_agg, lt_tup, lt_list, lt_cells, lt_fn, lt_nilp, lt_nilfn, lt_nili, List.mem_cons, List.not_mem_nil, or_false, forall_eq_or_imp, forall_eq, and_true, true_and, and_self, implies_true, *]; try omega)); (try simp only [tupOf, push_cast, Nat.reduceEqDiff, Nat.reduceAdd, Nat.reduceMul, Nat.reduceLeDiff, Nat.reduceLT, reduceIte, reduceCtorEq, Nat.reduceShiftRight, Nat.reduceAnd, Nat.reducePow, Nat.reduceOr, Nat.reduceBNe, Nat.reduceBEq, Int.reduceToNat, Int.reduceLT, Int.reduceLE, Int.reduceGT, Int.reduceGE, Int.reduceEq, Int.reduceNe, Int.reduceNeg, Int.reduceAdd, Int.reduceSub, Int.reduceMul, EE_P]))
    all_goals (unfold pointsTextS; rw [if_pos hb])
  · have h1 : ¬ n < -100000000 := by omega
    have h2 : ¬ n > 100000000 := by omega
    have hp := point_fn (n := n) (power := 100) (by omega) (by omega) (by omega) (by omega)
    intro σ nx
    refine fn_of_body goodEE (by rw [EE_P]; exact Tryz.func55) rfl rfl (by kernel_rfl) (Nat.le_of_ble_eq_true rfl) (Nat.le_refl _) fun hwf hlt => ?_
    rw [show Tryz.f55.results.toList = [.tmp 2] from rfl]
    refine awp_begin _ _ _ _ _ (cc := _) (by conv => lhs; simp only [push_cast, Nat.reduceEqDiff, Nat.reduceAdd, Nat.reduceMul, Nat.reduceLeDiff, Nat.reduceLT, reduceIte, reduceCtorEq, Nat.reduceShiftRight, Nat.reduceAnd, Nat.reducePow, Nat.reduceOr, Nat.reduceBNe, Nat.reduceBEq, Int.reduceToNat, Int.reduceLT, Int.reduceLE, Int.reduceGT, Int.reduceGE, Int.reduceEq, Int.reduceNe, Int.reduceNeg, Int.reduceAdd, Int.reduceSub, Int.reduceMul, Tryz.f55]) ?_
    simp only [push_cast, Nat.reduceEqDiff, Nat.reduceAdd, Nat.reduceMul, Nat.reduceLeDiff, Nat.reduceLT, reduceIte, reduceCtorEq, Nat.reduceShiftRight, Nat.reduceAnd, Nat.reducePow, Nat.reduceOr, Nat.reduceBNe, Nat.reduceBEq, Int.reduceToNat, Int.reduceLT, Int.reduceLE, Int.reduceGT, Int.reduceGE, Int.reduceEq, Int.reduceNe, Int.reduceNeg, Int.reduceAdd, Int.reduceSub, Int.reduceMul, EE_P]
    repeat' (first | simp only [push_cast, Nat.reduceEqDiff, Nat.reduceAdd, Nat.reduceMul, Nat.reduceLeDiff, Nat.reduceLT, reduceIte, reduceCtorEq, Nat.reduceShiftRight, Nat.reduceAnd, Nat.reducePow, Nat.reduceOr, Nat.reduceBNe, Nat.reduceBEq, Int.reduceToNat, Int.reduceLT, Int.reduceLE, Int.reduceGT, Int.reduceGE, Int.reduceEq, Int.reduceNe, Int.reduceNeg, Int.reduceAdd, Int.reduceSub, Int.reduceMul, EE_P, h1, h2] | simp (disch := omega) only [wrap_fits] | ((first | with_reducible apply wcall_pure | with_reducible apply wdcall_pure); focus (first | assumption | fail)) | (with_reducible refine wguard_split_t (fun h => ?_) (fun h => ?_)) | (with_reducible refine wguard_split_f (fun h => ?_) (fun h => ?_)) | (with_reducible refine wcond_split (fun h => ?_) (fun h => ?_)) | (with_reducible refine wdguard_split_t (fun h => ?_) (fun h => ?_)) | (with_reducible refine wdguard_split_f (fun h => ?_) (fun h => ?_)) | (with_reducible refine And.intro (fun h => ?_) (fun h => ?_)) | (with_reducible apply And.intro; focus omega))
    all_goals ((refine ends_ret (by simp only [resultsOf, resOf, push_cast, Nat.reduceEqDiff, Nat.reduceAdd, Nat.reduceMul, Nat.reduceLeDiff, Nat.reduceLT, reduceIte, reduceCtorEq, Nat.reduceShiftRight, Nat.reduceAnd, Nat.reducePow, Nat.reduceOr, Nat.reduceBNe, Nat.reduceBEq, Int.reduceToNat, Int.reduceLT, Int.reduceLE, Int.reduceGT, Int.reduceGE, Int.reduceEq, Int.reduceNe, Int.reduceNeg, Int.reduceAdd, Int.reduceSub, Int.reduceMul, EE_P]; rfl) (by simp only [push_cast, Nat.reduceEqDiff, Nat.reduceAdd, Nat.reduceMul, Nat.reduceLeDiff, Nat.reduceLT, reduceIte, reduceCtorEq, Nat.reduceShiftRight, Nat.reduceAnd, Nat.reducePow, Nat.reduceOr, Nat.reduceBNe, Nat.reduceBEq, Int.reduceToNat, Int.reduceLT, Int.reduceLE, Int.reduceGT, Int.reduceGE, Int.reduceEq, Int.reduceNe, Int.reduceNeg, Int.reduceAdd, Int.reduceSub, Int.reduceMul, EE_P]) ?_ (by repeat' (first | exact Keeps.refl _ | assumption | exact (hwf.keep1 _) | refine Keeps.new hwf ?_ (by omega) _)) (by simp only [lt_int, lt_bool, lt_str, lt_nil, lt_empty, lt_agg, lt_tup, lt_list, lt_cells, lt_fn, lt_nilp, lt_nilfn, lt_nili, List.mem_cons, List.not_mem_nil, or_false, forall_eq_or_imp, forall_eq, and_true, true_and, and_self, implies_true, *]; try omega)); (try simp only [tupOf, push_cast, Nat.reduceEqDiff, Nat.reduceAdd, Nat.reduceMul, Nat.reduceLeDiff, Nat.reduceLT, reduceIte, reduceCtorEq, Nat.reduceShiftRight, Nat.reduceAnd, Nat.reducePow, Nat.reduceOr, Nat.reduceBNe, Nat.reduceBEq, Int.reduceToNat, Int.reduceLT, Int.reduceLE, Int.reduceGT, Int.reduceGE, Int.reduceEq, Int.reduceNe, Int.reduceNeg, Int.reduceAdd, Int.reduceSub, Int.reduceMul, EE_P]))
    all_goals (unfold pointsTextS; rw [if_neg hb])

/-! ### sums -/
def Frac.cs (f : Frac) : List PV := [.int .i64 f.n, .int .i64 f.d]
attribute [push_cast] Frac.cs
def allS (l : List Frac) : Bool := l.all fun f => decide (FV f.n f.d)
theorem frac2 (l : List Frac) : (∀ c ∈ l.map Frac.cs, c.length = 2) = True := eq_true fun c hc => by
  obtain ⟨f, _, rfl⟩ := List.mem_map.1 hc
  rfl
theorem allS_no {l : List Frac} {i : Nat} (h : i < l.length) (hn : ¬ FV l[i].n l[i].d) : allS l = false := by
  unfold allS
  rw [List.all_eq_false]
  exact ⟨l[i], List.getElem_mem h, by simpa using hn⟩
theorem allS_yes {l : List Frac} (h : ∀ j (hj : j < l.length), FV l[j].n l[j].d) : allS l = true := by
  unfold allS
  rw [List.all_eq_true]
  intro f hf
  obtain ⟨j, hj, rfl⟩ := List.getElem_of_mem hf
  exact decide_eq_true (h j hj)
theorem all_fn {l : List Frac} {v : PV} (hv : SliceP (l.map Frac.cs) v) (hl : l.length ≤ 4611686018427387904) : Pure EE 81 [v] (.bool (allS l)) := by
  have hvl := hv.len
  simp only [List.length_map] at hvl
  intro σ nx
  refine fn_of_body goodEE (by rw [EE_P]; exact Tryz.func81) rfl rfl (by kernel_rfl) (Nat.le_of_ble_eq_true rfl) (Nat.le_refl _) fun hwf hlt => ?_
  rw [show Tryz.f81.results.toList = [.tmp 2] from rfl]
  refine awp_begin _ _ _ _ _ (cc := _) (by conv => lhs; simp only [push_cast, Nat.reduceEqDiff, Nat.reduceAdd, Nat.reduceMul, Nat.reduceLeDiff, Nat.reduceLT, reduceIte, reduceCtorEq, Nat.reduceShiftRight, Nat.reduceAnd, Nat.reducePow, Nat.reduceOr, Nat.reduceBNe, Nat.reduceBEq, Int.reduceToNat, Int.reduceLT, Int.reduceLE, Int.reduceGT, Int.reduceGE, Int.reduceEq, Int.reduceNe, Int.reduceNeg, Int.reduceAdd, Int.reduceSub, Int.reduceMul, Tryz.f81]) ?_
  simp only [push_cast, Nat.reduceEqDiff, Nat.reduceAdd, Nat.reduceMul, Nat.reduceLeDiff, Nat.reduceLT, reduceIte, reduceCtorEq, Nat.reduceShiftRight, Nat.reduceAnd, Nat.reducePow, Nat.reduceOr, Nat.reduceBNe, Nat.reduceBEq, Int.reduceToNat, Int.reduceLT, Int.reduceLE, Int.reduceGT, Int.reduceGE, Int.reduceEq, Int.reduceNe, Int.reduceNeg, Int.reduceAdd, Int.reduceSub, Int.reduceMul, EE_P]
  repeat' (first | simp only [push_cast, Nat.reduceEqDiff, Nat.reduceAdd, Nat.reduceMul, Nat.reduceLeDiff, Nat.reduceLT, reduceIte, reduceCtorEq, Nat.reduceShiftRight, Nat.reduceAnd, Nat.reducePow, Nat.reduceOr, Nat.reduceBNe, Nat.reduceBEq, Int.reduceToNat, Int.reduceLT, Int.reduceLE, Int.reduceGT, Int.reduceGE, Int.reduceEq, Int.reduceNe, Int.reduceNeg, Int.reduceAdd, Int.reduceSub, Int.reduceMul, EE_P, hvl, hv.str] | simp (disch := omega) only [wrap_fits] | ((first | with_reducible apply wcall_pure | with_reducible apply wdcall_pure); focus (first | assumption | exact valid_fn goodEE EE_P _ _)) | (with_reducible refine wguard_split_t (fun h => ?_) (fun h => ?_)) | (with_reducible refine wguard_split_f (fun h => ?_) (fun h => ?_)) | (with_reducible refine wcond_split (fun h => ?_) (fun h => ?_)) | (with_reducible refine wdguard_split_t (fun h => ?_) (fun h => ?_)) | (with_reducible refine wdguard_split_f (fun h => ?_) (fun h => ?_)) | (with_reducible refine And.intro (fun h => ?_) (fun h => ?_)) | (with_reducible apply And.intro; focus omega))
  refine wloop_by (fun m sl σ' nx' => ∃ i : Nat, i ≤ l.length ∧ m = l.length - i ∧ (∀ j (hj : j < l.length), j < i → FV l[j].n l[j].d) ∧ sl 5 = v ∧ sl 6 = .int .i64 l.length ∧ sl 7 = .int .i64 i ∧ Keeps σ σ' ∧ nx ≤ nx') l.length
    ⟨0, by omega, rfl, fun j _ h => by omega, rfl, rfl, rfl, .refl _, by omega⟩ ?_
  rintro m sl σ' nx' ⟨i, hi, hm, hb, h5, h6, h7, hk, hnx⟩
  have hi0 : (0 : Int) ≤ i := by omega
  by_cases hil : i < l.length
  · have hil' : (i : Int) < l.length := by omega
    have h5' : sl 5 = .list (l.map Frac.cs) := h5.trans (hv.lt (i := i) (by simpa using hil))
    have hw : IntKind.i64.wrap ((i : Int) + 1) = (i : Int) + 1 := wrap_small (by omega) (by omega)
    have hget : (l.map Frac.cs)[i]? = some l[i].cs := by rw [List.getElem?_map, List.getElem?_eq_getElem hil]; rfl
    have hno := allS_no hil
    generalize hf : l[i] = f at hget hno
    repeat' (first | simp only [push_cast, Nat.reduceEqDiff, Nat.reduceAdd, Nat.reduceMul, Nat.reduceLeDiff, Nat.reduceLT, reduceIte, reduceCtorEq, Nat.reduceShiftRight, Nat.reduceAnd, Nat.reducePow, Nat.reduceOr, Nat.reduceBNe, Nat.reduceBEq, Int.reduceToNat, Int.reduceLT, Int.reduceLE, Int.reduceGT, Int.reduceGE, Int.reduceEq, Int.reduceNe, Int.reduceNeg, Int.reduceAdd, Int.reduceSub, Int.reduceMul, EE_P, h5', h6, h7, hi0, hil', hget, hw, List.length_map, Int.toNat_natCast] | simp (disch := omega) only [wrap_fits] | ((first | with_reducible apply wcall_pure | with_reducible apply wdcall_pure); focus (first | assumption | exact valid_fn goodEE EE_P _ _)) | (with_reducible refine wguard_split_t (fun h => ?_) (fun h => ?_)) | (with_reducible refine wguard_split_f (fun h => ?_) (fun h => ?_)) | (with_reducible refine wcond_split (fun h => ?_) (fun h => ?_)) | (with_reducible refine wdguard_split_t (fun h => ?_) (fun h => ?_)) | (with_reducible refine wdguard_split_f (fun h => ?_) (fun h => ?_)) | (with_reducible refine And.intro (fun h => ?_) (fun h => ?_)) | (with_reducible apply And.intro; focus omega))
    · ((refine ends_ret (by simp only [resultsOf, resOf, push_cast, Nat.reduceEqDiff, Nat.reduceAdd, Nat.reduceMul, Nat.reduceLeDiff, Nat.reduceLT, reduceIte, reduceCtorEq, Nat.reduceShiftRight, Nat.reduceAnd, Nat.reducePow, Nat.reduceOr, Nat.reduceBNe, Nat.reduceBEq, Int.reduceToNat, Int.reduceLT, Int.reduceLE, Int.reduceGT, Int.reduceGE, Int.reduceEq, Int.reduceNe, Int.reduceNeg, Int.reduceAdd, Int.reduceSub, Int.reduceMul, EE_P]; rfl) (by simp only [push_cast, Nat.reduceEqDiff, Nat.reduceAdd, Nat.reduceMul, Nat.reduceLeDiff, Nat.reduceLT, reduceIte, reduceCtorEq, Nat.reduceShiftRight, Nat.reduceAnd, Nat.reducePow, Nat.reduceOr, Nat.reduceBNe, Nat.reduceBEq, Int.reduceToNat, Int.reduceLT, Int.reduceLE, Int.reduceGT, Int.reduceGE, Int.reduceEq, Int.reduceNe, Int.reduceNeg, Int.reduceAdd, Int.reduceSub, Int.reduceMul, EE_P]) ?_ (by repeat' (first | exact Keeps.refl _ | assumption | exact (hwf.keep1 _) | refine Keeps.new hwf ?_ (by omega) _)) (by simp only [lt_int, lt_bool, lt_str, lt_nil, lt_empty, lt_agg, lt_tup, lt_list, lt_cells, lt_fn, lt_nilp, lt_nilfn, lt_nili, List.mem_cons, List.not_mem_nil, or_false, forall_eq_or_imp, forall_eq, and_true, true_and, and_self, implies_true, *]; try omega)); (try simp only [tupOf, push_cast, Nat.reduceEqDiff, Nat.reduceAdd, Nat.reduceMul, Nat.reduceLeDiff, Nat.reduceLT, reduceIte, reduceCtorEq, Nat.reduceShiftRight, Nat.reduceAnd, Nat.reducePow, Nat.reduceOr, Nat.reduceBNe, Nat.reduceBEq, Int.reduceToNat, Int.reduceLT, Int.reduceLE, Int.reduceGT, Int.reduceGE, Int.reduceEq, Int.reduceNe, Int.reduceNeg, Int.reduceAdd, Int.reduceSub, Int.reduceMul, EE_P]))
      rw [hno (by assumption)]
    · refine ⟨l.length - (i + 1), by omega, i + 1, by omega, rfl, fun j hj hji => ?_, h5'.symm.trans h5, by simp, (by repeat' (first | exact Keeps.refl _ | assumption | exact (hwf.keep1 _) | refine Keeps.new hwf ?_ (by omega) _)), by omega⟩
      by_cases hjj : j = i
      · subst hjj; rw [hf]; assumption
      · exact hb j hj (by omega)
  · have hil' : ¬ (i : Int) < l.length := by omega
    repeat' (first | simp only [push_cast, Nat.reduceEqDiff, Nat.reduceAdd, Nat.reduceMul, Nat.reduceLeDiff, Nat.reduceLT, reduceIte, reduceCtorEq, Nat.reduceShiftRight, Nat.reduceAnd, Nat.reducePow, Nat.reduceOr, Nat.reduceBNe, Nat.reduceBEq, Int.reduceToNat, Int.reduceLT, Int.reduceLE, Int.reduceGT, Int.reduceGE, Int.reduceEq, Int.reduceNe, Int.reduceNeg, Int.reduceAdd, Int.reduceSub, Int.reduceMul, EE_P, h5, h6, h7, hil'] | simp (disch := omega) only [wrap_fits] | ((first | with_reducible apply wcall_pure | with_reducible apply wdcall_pure); focus (first | assumption | exact valid_fn goodEE EE_P _ _)) | (with_reducible refine wguard_split_t (fun h => ?_) (fun h => ?_)) | (with_reducible refine wguard_split_f (fun h => ?_) (fun h => ?_)) | (with_reducible refine wcond_split (fun h => ?_) (fun h => ?_)) | (with_reducible refine wdguard_split_t (fun h => ?_) (fun h => ?_)) | (with_reducible refine wdguard_split_f (fun h => ?_) (fun h => ?_)) | (with_reducible refine And.intro (fun h => ?_) (fun h => ?_)) | (with_reducible apply And.intro; focus omega))
    ((refine ends_ret (by simp only [resultsOf, resOf, push_cast, Nat.reduceEqDiff, Nat.reduceAdd, Nat.reduceMul, Nat.reduceLeDiff, Nat.reduceLT, reduceIte, reduceCtorEq, Nat.reduceShiftRight, Nat.reduceAnd, Nat.reducePow, Nat.reduceOr, Nat.reduceBNe, Nat.reduceBEq, Int.reduceToNat, Int.reduceLT, Int.reduceLE, Int.reduceGT, Int.reduceGE, Int.reduceEq, Int.reduceNe, Int.reduceNeg, Int.reduceAdd, Int.reduceSub, Int.reduceMul, EE_P]; rfl) (by simp only [push_cast, Nat.reduceEqDiff, Nat.reduceAdd, Nat.reduceMul, Nat.reduceLeDiff, Nat.reduceLT, reduceIte, reduceCtorEq, Nat.reduceShiftRight, Nat.reduceAnd, Nat.reducePow, Nat.reduceOr, Nat.reduceBNe, Nat.reduceBEq, Int.reduceToNat, Int.reduceLT, Int.reduceLE, Int.reduceGT, Int.reduceGE, Int.reduceEq, Int.reduceNe, Int.reduceNeg, Int.reduceAdd, Int.reduceSub, Int.reduceMul, EE_P]) ?_ (by repeat' (first | exact Keeps.refl _ | assumption | exact (hwf.keep1 _) | refine Keeps.new hwf ?_ (by omega) _)) (by simp only [lt_int, lt_bool, lt_str, lt_nil, lt_empty, lt_agg, lt_tup, lt_list, lt_cells, lt_fn, lt_nilp, lt_nilfn, lt_nili, List.mem_cons, List.not_mem_nil, or_false, forall_eq_or_imp, forall_eq, and_true, true_and, and_self, implies_true, *]; try omega)); (try simp only [tupOf, push_cast, Nat.reduceEqDiff, Nat.reduceAdd, Nat.reduceMul, Nat.reduceLeDiff, Nat.reduceLT, reduceIte, reduceCtorEq, Nat.reduceShiftRight, Nat.reduceAnd, Nat.reducePow, Nat.reduceOr, Nat.reduceBNe, Nat.reduceBEq, Int.reduceToNat, Int.reduceLT, Int.reduceLE, Int.reduceGT, Int.reduceGE, Int.reduceEq, Int.reduceNe, Int.reduceNeg, Int.reduceAdd, Int.reduceSub, Int.reduceMul, EE_P]))
    rw [allS_yes fun j hj => hb j hj (by omega)]
def sumTo (l : List Frac) : Nat → Frac × Int
  | 0 => (⟨0, 1⟩, 0)
  | i + 1 => match l[i]? with
    | some f => if (sumTo l i).2 = 0 then (fadd (sumTo l i).1 f, faddErr (sumTo l i).1 f) else sumTo l i
    | none => sumTo l i
def sumS (l : List Frac) : Frac × Int := if l.length > 1024 ∨ allS l = false then (⟨0, 0⟩, 1) else if (sumTo l l.length).2 = 0 then sumTo l l.length else (⟨0, 0⟩, (sumTo l l.length).2)
theorem sumTo_succ {l : List Frac} {i : Nat} (h : i < l.length) : sumTo l (i + 1) = if (sumTo l i).2 = 0 then (fadd (sumTo l i).1 l[i], faddErr (sumTo l i).1 l[i]) else sumTo l i := by
  conv => lhs; unfold sumTo
  rw [List.getElem?_eq_getElem h]
theorem sumTo_err {l : List Frac} {i j : Nat} (hij : i ≤ j) (h : (sumTo l i).2 ≠ 0) : sumTo l j = sumTo l i := by
  induction hij with
  | refl => rfl
  | step _ ih =>
    conv => lhs; unfold sumTo
    rw [ih]
    split
    · rw [if_neg h]
    · rfl
theorem sum_fn {l : List Frac} {v : PV} (hv : SliceP (l.map Frac.cs) v) (hl : l.length ≤ 4611686018427387904) : Pure EE 50 [v] (.tup [(sumS l).1.pv, .int .i64 (sumS l).2]) := by
  have hvl := hv.len
  simp only [List.length_map] at hvl
  have hall := all_fn hv hl
  by_cases hbig : (l.length : Int) > 1024
  · have e : sumS l = (⟨0, 0⟩, 1) := if_pos (.inl (by omega))
    rw [e]
    intro σ nx
    refine fn_of_body goodEE (by rw [EE_P]; exact Tryz.func50) rfl rfl (by kernel_rfl) (Nat.le_of_ble_eq_true rfl) (Nat.le_refl _) fun hwf hlt => ?_
    rw [show Tryz.f50.results.toList = [.cell 2 27, .tmp 3] from rfl]
    refine awp_begin _ _ _ _ _ (cc := _) (by conv => lhs; simp only [push_cast, Nat.reduceEqDiff, Nat.reduceAdd, Nat.reduceMul, Nat.reduceLeDiff, Nat.reduceLT, reduceIte, reduceCtorEq, Nat.reduceShiftRight, Nat.reduceAnd, Nat.reducePow, Nat.reduceOr, Nat.reduceBNe, Nat.reduceBEq, Int.reduceToNat, Int.reduceLT, Int.reduceLE, Int.reduceGT, Int.reduceGE, Int.reduceEq, Int.reduceNe, Int.reduceNeg, Int.reduceAdd, Int.reduceSub, Int.reduceMul, Tryz.f50]) ?_
    simp only [push_cast, Nat.reduceEqDiff, Nat.reduceAdd, Nat.reduceMul, Nat.reduceLeDiff, Nat.reduceLT, reduceIte, reduceCtorEq, Nat.reduceShiftRight, Nat.reduceAnd, Nat.reducePow, Nat.reduceOr, Nat.reduceBNe, Nat.reduceBEq, Int.reduceToNat, Int.reduceLT, Int.reduceLE, Int.reduceGT, Int.reduceGE, Int.reduceEq, Int.reduceNe, Int.reduceNeg, Int.reduceAdd, Int.reduceSub, Int.reduceMul, EE_P]
    repeat' (first | simp only [push_cast, Nat.reduceEqDiff, Nat.reduceAdd, Nat.reduceMul, Nat.reduceLeDiff, Nat.reduceLT, reduceIte, reduceCtorEq, Nat.reduceShiftRight, Nat.reduceAnd, Nat.reducePow, Nat.reduceOr, Nat.reduceBNe, Nat.reduceBEq, Int.reduceToNat, Int.reduceLT, Int.reduceLE, Int.reduceGT, Int.reduceGE, Int.reduceEq, Int.reduceNe, Int.reduceNeg, Int.reduceAdd, Int.reduceSub, Int.reduceMul, EE_P, hvl, hv.str, hbig, decide_true] | simp (disch := omega) only [wrap_fits] | ((first | with_reducible apply wcall_pure | with_reducible apply wdcall_pure); focus (first | assumption | exact all_fn (by assumption) (by omega) | exact add_fn goodEE EE_P _ _ _ _)) | (with_reducible refine wguard_split_t (fun h => ?_) (fun h => ?_)) | (with_reducible refine wguard_split_f (fun h => ?_) (fun h => ?_)) | (with_reducible refine wcond_split (fun h => ?_) (fun h => ?_)) | (with_reducible refine wdguard_split_t (fun h => ?_) (fun h => ?_)) | (with_reducible refine wdguard_split_f (fun h => ?_) (fun h => ?_)) | (with_reducible refine And.intro (fun h => ?_) (fun h => ?_)) | (with_reducible apply And.intro; focus omega))
    ((refine ends_ret (by simp only [resultsOf, resOf, push_cast, Nat.reduceEqDiff, Nat.reduceAdd, Nat.reduceMul, Nat.reduceLeDiff, Nat.reduceLT, reduceIte, reduceCtorEq, Nat.reduceShiftRight, Nat.reduceAnd, Nat.reducePow, Nat.reduceOr, Nat.reduceBNe, Nat.reduceBEq, Int.reduceToNat, Int.reduceLT, Int.reduceLE, Int.reduceGT, Int.reduceGE, Int.reduceEq, Int.reduceNe, Int.reduceNeg, Int.reduceAdd, Int.reduceSub, Int.reduceMul, EE_P]; rfl) (by simp only [push_cast, Nat.reduceEqDiff, Nat.reduceAdd, Nat.reduceMul, Nat.reduceLeDiff, Nat.reduceLT, reduceIte, reduceCtorEq, Nat.reduceShiftRight, Nat.reduceAnd, Nat.reducePow, Nat.reduceOr, Nat.reduceBNe, Nat.reduceBEq, Int.reduceToNat, Int.reduceLT, Int.reduceLE, Int.reduceGT, Int.reduceGE, Int.reduceEq, Int.reduceNe, Int.reduceNeg, Int.reduceAdd, Int.reduceSub, Int.reduceMul, EE_P]) ?_ (by repeat' (first | exact Keeps.refl _ | assumption | exact (hwf.keep1 _) | refine Keeps.new hwf ?_ (by omega) _)) (by simp only [lt_int, lt_bool, lt_str, lt_nil, lt_empty, lt_agg, lt_tup, lt_list, lt_cells, lt_fn, lt_nilp, lt_nilfn, lt_nili, List.mem_cons, List.not_mem_nil, or_false, forall_eq_or_imp, forall_eq, and_true, true_and, and_self, implies_true, *]; try omega)); (try simp only [tupOf, push_cast, Nat.reduceEqDiff, Nat.reduceAdd, Nat.reduceMul, Nat.reduceLeDiff, Nat.reduceLT, reduceIte, reduceCtorEq, Nat.reduceShiftRight, Nat.reduceAnd, Nat.reducePow, Nat.reduceOr, Nat.reduceBNe, Nat.reduceBEq, Int.reduceToNat, Int.reduceLT, Int.reduceLE, Int.reduceGT, Int.reduceGE, Int.reduceEq, Int.reduceNe, Int.reduceNeg, Int.reduceAdd, Int.reduceSub, Int.reduceMul, EE_P]))
  cases hA : allS l
  · have e : sumS l = (⟨0, 0⟩, 1) := if_pos (.inr hA)
    rw [e]
    rw [hA] at hall
    intro σ nx
    refine fn_of_body goodEE (by rw [EE_P]; exact Tryz.func50) rfl rfl (by kernel_rfl) (Nat.le_of_ble_eq_true rfl) (Nat.le_refl _) fun hwf hlt => ?_
    rw [show Tryz.f50.results.toList = [.cell 2 27, .tmp 3] from rfl]
    refine awp_begin _ _ _ _ _ (cc := _) (by conv => lhs; simp only [push_cast, Nat.reduceEqDiff, Nat.reduceAdd, Nat.reduceMul, Nat.reduceLeDiff, Nat.reduceLT, reduceIte, reduceCtorEq, Nat.reduceShiftRight, Nat.reduceAnd, Nat.reducePow, Nat.reduceOr, Nat.reduceBNe, Nat.reduceBEq, Int.reduceToNat, Int.reduceLT, Int.reduceLE, Int.reduceGT, Int.reduceGE, Int.reduceEq, Int.reduceNe, Int.reduceNeg, Int.reduceAdd, Int.reduceSub, Int.reduceMul, Tryz.f50]) ?_
    simp only [push_cast, Nat.reduceEqDiff, Nat.reduceAdd, Nat.reduceMul, Nat.reduceLeDiff, Nat.reduceLT, reduceIte, reduceCtorEq, Nat.reduceShiftRight, Nat.reduceAnd, Nat.reducePow, Nat.reduceOr, Nat.reduceBNe, Nat.reduceBEq, Int.reduceToNat, Int.reduceLT, Int.reduceLE, Int.reduceGT, Int.reduceGE, Int.reduceEq, Int.reduceNe, Int.reduceNeg, Int.reduceAdd, Int.reduceSub, Int.reduceMul, EE_P]
    repeat' (first | simp only [push_cast, Nat.reduceEqDiff, Nat.reduceAdd, Nat.reduceMul, Nat.reduceLeDiff, Nat.reduceLT, reduceIte, reduceCtorEq, Nat.reduceShiftRight, Nat.reduceAnd, Nat.reducePow, Nat.reduceOr, Nat.reduceBNe, Nat.reduceBEq, Int.reduceToNat, Int.reduceLT, Int.reduceLE, Int.reduceGT, Int.reduceGE, Int.reduceEq, Int.reduceNe, Int.reduceNeg, Int.reduceAdd, Int.reduceSub, Int.reduceMul, EE_P, hvl, hv.str, hbig, decide_false] | simp (disch := omega) only [wrap_fits] | ((first | with_reducible apply wcall_pure | with_reducible apply wdcall_pure); focus (first | assumption | exact all_fn (by assumption) (by omega) | exact add_fn goodEE EE_P _ _ _ _)) | (with_reducible refine wguard_split_t (fun h => ?_) (fun h => ?_)) | (with_reducible refine wguard_split_f (fun h => ?_) (fun h => ?_)) | (with_reducible refine wcond_split (fun h => ?_) (fun h => ?_)) | (with_reducible refine wdguard_split_t (fun h => ?_) (fun h => ?_)) | (with_reducible refine wdguard_split_f (fun h => ?_) (fun h => ?_)) | (with_reducible refine And.intro (fun h => ?_) (fun h => ?_)) | (with_reducible apply And.intro; focus omega))
    ((refine ends_ret (by simp only [resultsOf, resOf, push_cast, Nat.reduceEqDiff, Nat.reduceAdd, Nat.reduceMul, Nat.reduceLeDiff, Nat.reduceLT, reduceIte, reduceCtorEq, Nat.reduceShiftRight, Nat.reduceAnd, Nat.reducePow, Nat.reduceOr, Nat.reduceBNe, Nat.reduceBEq, Int.reduceToNat, Int.reduceLT, Int.reduceLE, Int.reduceGT, Int.reduceGE, Int.reduceEq, Int.reduceNe, Int.reduceNeg, Int.reduceAdd, Int.reduceSub, Int.reduceMul, EE_P]; rfl) (by simp only [push_cast, Nat.reduceEqDiff, Nat.reduceAdd, Nat.reduceMul, Nat.reduceLeDiff, Nat.reduceLT, reduceIte, reduceCtorEq, Nat.reduceShiftRight, Nat.reduceAnd, Nat.reducePow, Nat.reduceOr, Nat.reduceBNe, Nat.reduceBEq, Int.reduceToNat, Int.reduceLT, Int.reduceLE, Int.reduceGT, Int.reduceGE, Int.reduceEq, Int.reduceNe, Int.reduceNeg, Int.reduceAdd, Int.reduceSub, Int.reduceMul, EE_P]) ?_ (by repeat' (first | exact Keeps.refl _ | assumption | exact (hwf.keep1 _) | refine Keeps.new hwf ?_ (by omega) _)) (by simp only [lt_int, lt_bool, lt_str, lt_nil, lt_empty, lt_agg, lt_tup, lt_list, lt_cells, lt_fn, lt_nilp, lt_nilfn, lt_nili, List.mem_cons, List.not_mem_nil, or_false, forall_eq_or_imp, forall_eq, and_true, true_and, and_self, implies_true, *]; try omega)); (try simp only [tupOf, push_cast, Nat.reduceEqDiff, Nat.reduceAdd, Nat.reduceMul, Nat.reduceLeDiff, Nat.reduceLT, reduceIte, reduceCtorEq, Nat.reduceShiftRight, Nat.reduceAnd, Nat.reducePow, Nat.reduceOr, Nat.reduceBNe, Nat.reduceBEq, Int.reduceToNat, Int.reduceLT, Int.reduceLE, Int.reduceGT, Int.reduceGE, Int.reduceEq, Int.reduceNe, Int.reduceNeg, Int.reduceAdd, Int.reduceSub, Int.reduceMul, EE_P]))
  have e : sumS l = if (sumTo l l.length).2 = 0 then sumTo l l.length else (⟨0, 0⟩, (sumTo l l.length).2) := if_neg (by rw [hA]; simp; omega)
  rw [e]
  rw [hA] at hall
  intro σ nx
  refine fn_of_body goodEE (by rw [EE_P]; exact Tryz.func50) rfl rfl (by kernel_rfl) (Nat.le_of_ble_eq_true rfl) (Nat.le_refl _) fun hwf hlt => ?_
  rw [show Tryz.f50.results.toList = [.cell 2 27, .tmp 3] from rfl]
  refine awp_begin _ _ _ _ _ (cc := _) (by conv => lhs; simp only [push_cast, Nat.reduceEqDiff, Nat.reduceAdd, Nat.reduceMul, Nat.reduceLeDiff, Nat.reduceLT, reduceIte, reduceCtorEq, Nat.reduceShiftRight, Nat.reduceAnd, Nat.reducePow, Nat.reduceOr, Nat.reduceBNe, Nat.reduceBEq, Int.reduceToNat, Int.reduceLT, Int.reduceLE, Int.reduceGT, Int.reduceGE, Int.reduceEq, Int.reduceNe, Int.reduceNeg, Int.reduceAdd, Int.reduceSub, Int.reduceMul, Tryz.f50]) ?_
  simp only [push_cast, Nat.reduceEqDiff, Nat.reduceAdd, Nat.reduceMul, Nat.reduceLeDiff, Nat.reduceLT, reduceIte, reduceCtorEq, Nat.reduceShiftRight, Nat.reduceAnd, Nat.reducePow, Nat.reduceOr, Nat.reduceBNe, Nat.reduceBEq, Int.reduceToNat, Int.reduceLT, Int.reduceLE, Int.reduceGT, Int.reduceGE, Int.reduceEq, Int.reduceNe, Int.reduceNeg, Int.reduceAdd, Int.reduceSub, Int.reduceMul, EE_P]
  repeat' (first | simp only [push_cast, Nat.reduceEqDiff, Nat.reduceAdd, Nat.reduceMul, Nat.reduceLeDiff, Nat.reduceLT, reduceIte, reduceCtorEq, Nat.reduceShiftRight, Nat.reduceAnd, Nat.reducePow, Nat.reduceOr, Nat.reduceBNe, Nat.reduceBEq, Int.reduceToNat, Int.reduceLT, Int.reduceLE, Int.reduceGT, Int.reduceGE, Int.reduceEq, Int.reduceNe, Int.reduceNeg, Int.reduceAdd, Int.reduceSub, Int.reduceMul, EE_P, hvl, hv.str, hbig, decide_false] | simp (disch := omega) only [wrap_fits] | ((first | with_reducible apply wcall_pure | with_reducible apply wdcall_pure); focus (first | assumption | exact all_fn (by assumption) (by omega) | exact add_fn goodEE EE_P _ _ _ _)) | (with_reducible refine wguard_split_t (fun h => ?_) (fun h => ?_)) | (with_reducible refine wguard_split_f (fun h => ?_) (fun h => ?_)) | (with_reducible refine wcond_split (fun h => ?_) (fun h => ?_)) | (with_reducible refine wdguard_split_t (fun h => ?_) (fun h => ?_)) | (with_reducible refine wdguard_split_f (fun h => ?_) (fun h => ?_)) | (with_reducible refine And.intro (fun h => ?_) (fun h => ?_)) | (with_reducible apply And.intro; focus omega))
  refine wloop_by (fun m sl σ' nx' => ∃ i k4 : Nat, i ≤ l.length ∧ m = l.length - i ∧ nx ≤ k4 ∧ k4 < nx' ∧ k4 ≠ nx ∧ (sumTo l i).2 = 0 ∧ sl 2 = .ptr nx 0 0 ∧ sl 4 = .ptr k4 0 0 ∧ sl 18 = v ∧ sl 19 = .int .i64 l.length ∧ sl 20 = .int .i64 i ∧ σ' nx = some (.row [[.int .i64 0, .int .i64 0]]) ∧ σ' k4 = some (.row [(sumTo l i).1.cs]) ∧ Keeps σ σ') l.length
    ⟨0, nx + 11, by omega, rfl, by omega, by omega, by omega, rfl, rfl, rfl, rfl, rfl, rfl, ?_, ?_, (by repeat' (first | exact Keeps.refl _ | assumption | exact (hwf.keep1 _) | refine Keeps.new hwf ?_ (by omega) _))⟩ ?_
  · simp only [upd_at, push_cast, Nat.reduceEqDiff, Nat.reduceAdd, Nat.reduceMul, Nat.reduceLeDiff, Nat.reduceLT, reduceIte, reduceCtorEq, Nat.reduceShiftRight, Nat.reduceAnd, Nat.reducePow, Nat.reduceOr, Nat.reduceBNe, Nat.reduceBEq, Int.reduceToNat, Int.reduceLT, Int.reduceLE, Int.reduceGT, Int.reduceGE, Int.reduceEq, Int.reduceNe, Int.reduceNeg, Int.reduceAdd, Int.reduceSub, Int.reduceMul]
  · simp only [upd_at, push_cast, Nat.reduceEqDiff, Nat.reduceAdd, Nat.reduceMul, Nat.reduceLeDiff, Nat.reduceLT, reduceIte, reduceCtorEq, Nat.reduceShiftRight, Nat.reduceAnd, Nat.reducePow, Nat.reduceOr, Nat.reduceBNe, Nat.reduceBEq, Int.reduceToNat, Int.reduceLT, Int.reduceLE, Int.reduceGT, Int.reduceGE, Int.reduceEq, Int.reduceNe, Int.reduceNeg, Int.reduceAdd, Int.reduceSub, Int.reduceMul, sumTo]
  rintro m sl σ' nx' ⟨i, k4, hi, hm, hk1, hk2, hk3, hs0, h2, h4, h18, h19, h20, hsn, hs4, hk⟩
  have hi0 : (0 : Int) ≤ i := by omega
  have hnn : nx < nx' := by omega
  by_cases hil : i < l.length
  · have hil' : (i : Int) < l.length := by omega
    have h18' : sl 18 = .list (l.map Frac.cs) := h18.trans (hv.lt (i := i) (by simpa using hil))
    have hw : IntKind.i64.wrap ((i : Int) + 1) = (i : Int) + 1 := wrap_small (by omega) (by omega)
    have hget : (l.map Frac.cs)[i]? = some l[i].cs := by rw [List.getElem?_map, List.getElem?_eq_getElem hil]; rfl
    have hst := sumTo_succ hil
    rw [if_pos hs0] at hst
    generalize hf : l[i] = f at hget hst
    generalize hg : (sumTo l i).1 = g at hst hs4
    repeat' (first | simp only [push_cast, Nat.reduceEqDiff, Nat.reduceAdd, Nat.reduceMul, Nat.reduceLeDiff, Nat.reduceLT, reduceIte, reduceCtorEq, Nat.reduceShiftRight, Nat.reduceAnd, Nat.reducePow, Nat.reduceOr, Nat.reduceBNe, Nat.reduceBEq, Int.reduceToNat, Int.reduceLT, Int.reduceLE, Int.reduceGT, Int.reduceGE, Int.reduceEq, Int.reduceNe, Int.reduceNeg, Int.reduceAdd, Int.reduceSub, Int.reduceMul, EE_P, h2, h4, h18', h19, h20, hi0, hil', hget, hw, List.length_map, Int.toNat_natCast, (key_ne hk2).1, (key_ne hk2).2.1, (key_ne hk2).2.2.1, (key_ne hk2).2.2.2, (key_ne hnn).1, (key_ne hnn).2.1, (key_ne hnn).2.2.1, (key_ne hnn).2.2.2, (ne_keys hk3).1, (ne_keys hk3).2, hsn, hs4] | simp (disch := omega) only [wrap_fits] | ((first | with_reducible apply wcall_pure | with_reducible apply wdcall_pure); focus (first | assumption | exact all_fn (by assumption) (by omega) | exact add_fn goodEE EE_P _ _ _ _)) | (with_reducible refine wguard_split_t (fun h => ?_) (fun h => ?_)) | (with_reducible refine wguard_split_f (fun h => ?_) (fun h => ?_)) | (with_reducible refine wcond_split (fun h => ?_) (fun h => ?_)) | (with_reducible refine wdguard_split_t (fun h => ?_) (fun h => ?_)) | (with_reducible refine wdguard_split_f (fun h => ?_) (fun h => ?_)) | (with_reducible refine And.intro (fun h => ?_) (fun h => ?_)) | (with_reducible apply And.intro; focus omega))
    · have he : (sumTo l l.length) = (fadd g f, faddErr g f) := by rw [sumTo_err hil (by rw [hst]; assumption), hst]
      ((refine ends_ret (by simp only [resultsOf, resOf, push_cast, Nat.reduceEqDiff, Nat.reduceAdd, Nat.reduceMul, Nat.reduceLeDiff, Nat.reduceLT, reduceIte, reduceCtorEq, Nat.reduceShiftRight, Nat.reduceAnd, Nat.reducePow, Nat.reduceOr, Nat.reduceBNe, Nat.reduceBEq, Int.reduceToNat, Int.reduceLT, Int.reduceLE, Int.reduceGT, Int.reduceGE, Int.reduceEq, Int.reduceNe, Int.reduceNeg, Int.reduceAdd, Int.reduceSub, Int.reduceMul, EE_P, h2, h4, (key_ne hk2).1, (key_ne hk2).2.1, (key_ne hk2).2.2.1, (key_ne hk2).2.2.2, (key_ne hnn).1, (key_ne hnn).2.1, (key_ne hnn).2.2.1, (key_ne hnn).2.2.2, (ne_keys hk3).1, (ne_keys hk3).2, hsn]; rfl) (by simp only [push_cast, Nat.reduceEqDiff, Nat.reduceAdd, Nat.reduceMul, Nat.reduceLeDiff, Nat.reduceLT, reduceIte, reduceCtorEq, Nat.reduceShiftRight, Nat.reduceAnd, Nat.reducePow, Nat.reduceOr, Nat.reduceBNe, Nat.reduceBEq, Int.reduceToNat, Int.reduceLT, Int.reduceLE, Int.reduceGT, Int.reduceGE, Int.reduceEq, Int.reduceNe, Int.reduceNeg, Int.reduceAdd, Int.reduceSub, Int.reduceMul, EE_P, h2, h4, (key_ne hk2).1, (key_ne hk2).2.1, (key_ne hk2).2.2.1, (key_ne hk2).2.2.2, (key_ne hnn).1, (key_ne hnn).2.1, (key_ne hnn).2.2.1, (key_ne hnn).2.2.2, (ne_keys hk3).1, (ne_keys hk3).2, hsn]) ?_ (by repeat' (first | exact Keeps.refl _ | assumption | exact (hwf.keep1 _) | refine Keeps.new hwf ?_ (by omega) _)) (by simp only [lt_int, lt_bool, lt_str, lt_nil, lt_empty, lt_agg, lt_tup, lt_list, lt_cells, lt_fn, lt_nilp, lt_nilfn, lt_nili, List.mem_cons, List.not_mem_nil, or_false, forall_eq_or_imp, forall_eq, and_true, true_and, and_self, implies_true, *]; try omega)); (try simp only [tupOf, push_cast, Nat.reduceEqDiff, Nat.reduceAdd, Nat.reduceMul, Nat.reduceLeDiff, Nat.reduceLT, reduceIte, reduceCtorEq, Nat.reduceShiftRight, Nat.reduceAnd, Nat.reducePow, Nat.reduceOr, Nat.reduceBNe, Nat.reduceBEq, Int.reduceToNat, Int.reduceLT, Int.reduceLE, Int.reduceGT, Int.reduceGE, Int.reduceEq, Int.reduceNe, Int.reduceNeg, Int.reduceAdd, Int.reduceSub, Int.reduceMul, EE_P, h2, h4, (key_ne hk2).1, (key_ne hk2).2.1, (key_ne hk2).2.2.1, (key_ne hk2).2.2.2, (key_ne hnn).1, (key_ne hnn).2.1, (key_ne hnn).2.2.1, (key_ne hnn).2.2.2, (ne_keys hk3).1, (ne_keys hk3).2, hsn]))
      rw [he, if_neg (by assumption)]
      simp [faddErr]
    · refine ⟨l.length - (i + 1), by omega, i + 1, k4, by omega, rfl, hk1, by omega, hk3, (by rw [hst]; assumption), rfl, h18'.symm.trans h18, by simp, ?_, (by repeat' (first | exact Keeps.refl _ | assumption | exact (hwf.keep1 _) | refine Keeps.new hwf ?_ (by omega) _))⟩
      simp only [if_true, hst]
      rfl
  · have hil' : ¬ (i : Int) < l.length := by omega
    obtain rfl : i = l.length := by omega
    rw [if_pos hs0]
    generalize hg : (sumTo l l.length) = g at hs4 hs0 ⊢
    repeat' (first | simp only [push_cast, Nat.reduceEqDiff, Nat.reduceAdd, Nat.reduceMul, Nat.reduceLeDiff, Nat.reduceLT, reduceIte, reduceCtorEq, Nat.reduceShiftRight, Nat.reduceAnd, Nat.reducePow, Nat.reduceOr, Nat.reduceBNe, Nat.reduceBEq, Int.reduceToNat, Int.reduceLT, Int.reduceLE, Int.reduceGT, Int.reduceGE, Int.reduceEq, Int.reduceNe, Int.reduceNeg, Int.reduceAdd, Int.reduceSub, Int.reduceMul, EE_P, h2, h4, h18, h19, h20, hil', (key_ne hk2).1, (key_ne hk2).2.1, (key_ne hk2).2.2.1, (key_ne hk2).2.2.2, (key_ne hnn).1, (key_ne hnn).2.1, (key_ne hnn).2.2.1, (key_ne hnn).2.2.2, (ne_keys hk3).1, (ne_keys hk3).2, hsn, hs4] | simp (disch := omega) only [wrap_fits] | ((first | with_reducible apply wcall_pure | with_reducible apply wdcall_pure); focus (first | assumption | exact all_fn (by assumption) (by omega) | exact add_fn goodEE EE_P _ _ _ _)) | (with_reducible refine wguard_split_t (fun h => ?_) (fun h => ?_)) | (with_reducible refine wguard_split_f (fun h => ?_) (fun h => ?_)) | (with_reducible refine wcond_split (fun h => ?_) (fun h => ?_)) | (with_reducible refine wdguard_split_t (fun h => ?_) (fun h => ?_)) | (with_reducible refine wdguard_split_f (fun h => ?_) (fun h => ?_)) | (with_reducible refine And.intro (fun h => ?_) (fun h => ?_)) | (with_reducible apply And.intro; focus omega))
    ((refine ends_ret (by simp only [resultsOf, resOf, push_cast, Nat.reduceEqDiff, Nat.reduceAdd, Nat.reduceMul, Nat.reduceLeDiff, Nat.reduceLT, reduceIte, reduceCtorEq, Nat.reduceShiftRight, Nat.reduceAnd, Nat.reducePow, Nat.reduceOr, Nat.reduceBNe, Nat.reduceBEq, Int.reduceToNat, Int.reduceLT, Int.reduceLE, Int.reduceGT, Int.reduceGE, Int.reduceEq, Int.reduceNe, Int.reduceNeg, Int.reduceAdd, Int.reduceSub, Int.reduceMul, EE_P, h2, h4, (key_ne hk2).1, (key_ne hk2).2.1, (key_ne hk2).2.2.1, (key_ne hk2).2.2.2, (key_ne hnn).1, (key_ne hnn).2.1, (key_ne hnn).2.2.1, (key_ne hnn).2.2.2, (ne_keys hk3).1, (ne_keys hk3).2, hsn]; rfl) (by simp only [push_cast, Nat.reduceEqDiff, Nat.reduceAdd, Nat.reduceMul, Nat.reduceLeDiff, Nat.reduceLT, reduceIte, reduceCtorEq, Nat.reduceShiftRight, Nat.reduceAnd, Nat.reducePow, Nat.reduceOr, Nat.reduceBNe, Nat.reduceBEq, Int.reduceToNat, Int.reduceLT, Int.reduceLE, Int.reduceGT, Int.reduceGE, Int.reduceEq, Int.reduceNe, Int.reduceNeg, Int.reduceAdd, Int.reduceSub, Int.reduceMul, EE_P, h2, h4, (key_ne hk2).1, (key_ne hk2).2.1, (key_ne hk2).2.2.1, (key_ne hk2).2.2.2, (key_ne hnn).1, (key_ne hnn).2.1, (key_ne hnn).2.2.1, (key_ne hnn).2.2.2, (ne_keys hk3).1, (ne_keys hk3).2, hsn]) ?_ (by repeat' (first | exact Keeps.refl _ | assumption | exact (hwf.keep1 _) | refine Keeps.new hwf ?_ (by omega) _)) (by simp only [lt_int, lt_bool, lt_str, lt_nil, lt_empty, lt_agg, lt_tup, lt_list, lt_cells, lt_fn, lt_nilp, lt_nilfn, lt_nili, List.mem_cons, List.not_mem_nil, or_false, forall_eq_or_imp, forall_eq, and_true, true_and, and_self, implies_true, *]; try omega)); (try simp only [tupOf, push_cast, Nat.reduceEqDiff, Nat.reduceAdd, Nat.reduceMul, Nat.reduceLeDiff, Nat.reduceLT, reduceIte, reduceCtorEq, Nat.reduceShiftRight, Nat.reduceAnd, Nat.reducePow, Nat.reduceOr, Nat.reduceBNe, Nat.reduceBEq, Int.reduceToNat, Int.reduceLT, Int.reduceLE, Int.reduceGT, Int.reduceGE, Int.reduceEq, Int.reduceNe, Int.reduceNeg, Int.reduceAdd, Int.reduceSub, Int.reduceMul, EE_P, h2, h4, (key_ne hk2).1, (key_ne hk2).2.1, (key_ne hk2).2.2.1, (key_ne hk2).2.2.2, (key_ne hnn).1, (key_ne hnn).2.1, (key_ne hnn).2.2.1, (key_ne hnn).2.2.2, (ne_keys hk3).1, (ne_keys hk3).2, hsn]))
    rw [hs0]
end Go.Proofs.YtdajoilaakiinaaGreatDoor.Awp

/- credit.Valid and Explain. -/
namespace Go.Proofs.YtdajoilaakiinaaGreatDoor.Awp
open Go Go.Proofs
set_option linter.unusedSimpArgs false
set_option linter.unusedVariables false
set_option maxRecDepth 10000
set_option maxHeartbeats 4000000

attribute [push_cast] Part.cs
theorem flat_frac (f : Frac) : FlatV f.pv := .agg _ fun c hc => by
  simp only [List.mem_cons, List.not_mem_nil, or_false] at hc
  rcases hc with rfl | rfl <;> exact .int _ _
theorem flat_fracerr (f : Frac) (e : Int) : FlatV (.tup [f.pv, .int .i64 e]) := .tup _ fun c hc => by
  simp only [List.mem_cons, List.not_mem_nil, or_false] at hc
  rcases hc with rfl | rfl
  · exact flat_frac f
  · exact .int _ _
/-- A slice that was made by appending, from key nx on. -/
inductive Grown (σ : Store) (nx hi : Nat) : PV → List (List PV) → Prop
  | nil : Grown σ nx hi .nil []
  | row (k : Nat) (es : List (List PV)) (hk : nx ≤ k) (hk' : k < hi) (h : σ k = some (.row es)) (hn : es ≠ []) : Grown σ nx hi (.row k 0 es.length) es
theorem Grown.mk {σ : Store} {nx hi k n : Nat} {es : List (List PV)} (hk : nx ≤ k) (hk' : k < hi) (h : σ k = some (.row es)) (hn : es.length = n) (h0 : 0 < n) : Grown σ nx hi (.row k 0 n) es := by
  subst hn
  exact .row k es hk hk' h (fun e => by rw [e] at h0; cases h0)
theorem Grown.fza {σ : Store} {nx hi : Nat} {v : PV} {es : List (List PV)} (h : Grown σ nx hi v es) : ∃ q, FzA σ [v] [q] ∧ SliceP es q := by
  cases h with
  | nil => exact ⟨.nil, ⟨.refl _, trivial⟩, .nil rfl⟩
  | row k es hk hk' h hn => exact ⟨.list es, ⟨fza_row h rfl, trivial⟩, .list⟩
theorem frac_iff (a b : Frac) : a = b ↔ a.n = b.n ∧ a.d = b.d := by
  cases a; cases b; simp
def partNames (ps : List Part) : Bool := ps.all fun p => nameS p.name
def effs (ps : List Part) : List Frac := ps.map Part.eff
def validS (c : Credit) : Bool := partNames c.parts && decide ((sumS (effs c.parts)).2 = 0) && decide ((sumS (effs c.parts)).1 = c.pts) && decide (FV c.pts.n c.pts.d) && !lessS c.pts ⟨0, 1⟩ && decide (hundS c.pts = c.hund) && decide (hundS c.pts ≤ 100000000)
theorem partNames_no {ps : List Part} {i : Nat} (h : i < ps.length) (hn : nameS ps[i].name = false) : partNames ps = false := by
  unfold partNames
  rw [List.all_eq_false]
  exact ⟨ps[i], List.getElem_mem h, by simp [hn]⟩
theorem partNames_yes {ps : List Part} (h : ∀ j (hj : j < ps.length), nameS ps[j].name = true) : partNames ps = true := by
  unfold partNames
  rw [List.all_eq_true]
  intro f hf
  obtain ⟨j, hj, rfl⟩ := List.getElem_of_mem hf
  exact h j hj
theorem parts3 (l : List Part) : (∀ c ∈ l.map Part.cs, c.length = 3) = True := eq_true fun c hc => by
  obtain ⟨f, _, rfl⟩ := List.mem_map.1 hc
  rfl
theorem frac2' (l : List Frac) : (∀ c ∈ l.map Frac.cs, c.length = 2) := fun c hc => by
  obtain ⟨f, _, rfl⟩ := List.mem_map.1 hc
  rfl
theorem effs_succ {ps : List Part} {i : Nat} {p : Part} (h : ps[i]? = some p) : effs (ps.take (i + 1)) = effs (ps.take i) ++ [p.eff] := by
  unfold effs
  obtain ⟨h1, h2⟩ := List.getElem?_eq_some_iff.1 h
  rw [List.take_succ_eq_append_getElem h1, List.map_append, h2]
  rfl
theorem effs_len {ps : List Part} {i : Nat} (h : i ≤ ps.length) : (effs (ps.take i)).length = i := by
  unfold effs
  rw [List.length_map, List.length_take]
  omega
theorem valid_credit_fn (c : Credit) {v : PV} (hv : SliceP (c.parts.map Part.cs) v) (hl : c.parts.length ≤ 1000000) : Pure EE 24 [c.pv v] (.bool (validS c)) := by
  have hvl := hv.len
  simp only [List.length_map] at hvl
  intro σ nx
  refine fn_of_body goodEE (by rw [EE_P]; exact Tryz.func24) rfl rfl (by kernel_rfl) (Nat.le_of_ble_eq_true rfl) (Nat.le_refl _) fun hwf hlt => ?_
  rw [show Tryz.f24.results.toList = [.tmp 2] from rfl]
  refine awp_begin _ _ _ _ _ (cc := _) (by conv => lhs; simp only [push_cast, Nat.reduceEqDiff, Nat.reduceAdd, Nat.reduceMul, Nat.reduceLeDiff, Nat.reduceLT, reduceIte, reduceCtorEq, Nat.reduceShiftRight, Nat.reduceAnd, Nat.reducePow, Nat.reduceOr, Nat.reduceBNe, Nat.reduceBEq, Int.reduceToNat, Int.reduceLT, Int.reduceLE, Int.reduceGT, Int.reduceGE, Int.reduceEq, Int.reduceNe, Int.reduceNeg, Int.reduceAdd, Int.reduceSub, Int.reduceMul, Tryz.f24]) ?_
  simp only [push_cast, Nat.reduceEqDiff, Nat.reduceAdd, Nat.reduceMul, Nat.reduceLeDiff, Nat.reduceLT, reduceIte, reduceCtorEq, Nat.reduceShiftRight, Nat.reduceAnd, Nat.reducePow, Nat.reduceOr, Nat.reduceBNe, Nat.reduceBEq, Int.reduceToNat, Int.reduceLT, Int.reduceLE, Int.reduceGT, Int.reduceGE, Int.reduceEq, Int.reduceNe, Int.reduceNeg, Int.reduceAdd, Int.reduceSub, Int.reduceMul, EE_P]
  repeat' (first | simp only [push_cast, Nat.reduceEqDiff, Nat.reduceAdd, Nat.reduceMul, Nat.reduceLeDiff, Nat.reduceLT, reduceIte, reduceCtorEq, Nat.reduceShiftRight, Nat.reduceAnd, Nat.reducePow, Nat.reduceOr, Nat.reduceBNe, Nat.reduceBEq, Int.reduceToNat, Int.reduceLT, Int.reduceLE, Int.reduceGT, Int.reduceGE, Int.reduceEq, Int.reduceNe, Int.reduceNeg, Int.reduceAdd, Int.reduceSub, Int.reduceMul, EE_P, hvl, hv.str, hv.one, hv.cells] | simp (disch := omega) only [wrap_fits] | ((first | with_reducible apply wcall_pure | with_reducible apply wdcall_pure); focus (first | assumption | exact sum_fn (by assumption) (by omega) | exact isName_fn _ | exact hundredths_fn goodEE EE_P _ _ | exact less_fn goodEE EE_P _ _ _ _)) | (with_reducible refine wguard_split_t (fun h => ?_) (fun h => ?_)) | (with_reducible refine wguard_split_f (fun h => ?_) (fun h => ?_)) | (with_reducible refine wcond_split (fun h => ?_) (fun h => ?_)) | (with_reducible refine wdguard_split_t (fun h => ?_) (fun h => ?_)) | (with_reducible refine wdguard_split_f (fun h => ?_) (fun h => ?_)) | (with_reducible refine And.intro (fun h => ?_) (fun h => ?_)) | (with_reducible apply And.intro; focus omega))
  refine wloop_by (fun m sl σ' nx' => ∃ i : Nat, i ≤ c.parts.length ∧ m = c.parts.length - i ∧ nx < nx' ∧ (∀ j (hj : j < c.parts.length), j < i → nameS c.parts[j].name = true) ∧ Grown σ' (nx + 1) nx' (sl 3) ((effs (c.parts.take i)).map Frac.cs) ∧ sl 1 = .ptr nx 0 0 ∧ sl 11 = v ∧ sl 12 = .int .i64 c.parts.length ∧ sl 13 = .int .i64 i ∧ σ' nx = some (.row [[v, .int .i64 c.pts.n, .int .i64 c.pts.d, .int .i64 c.hund]]) ∧ Keeps σ σ') c.parts.length
    ⟨0, by omega, rfl, by omega, fun j _ h => by omega, .nil, ?_⟩ ?_
  · refine ⟨rfl, rfl, rfl, rfl, ?_, (by repeat' (first | exact Keeps.refl _ | assumption | exact (hwf.keep1 _) | refine Keeps.new hwf ?_ (by omega) _))⟩
    simp only [upd_at, push_cast, Nat.reduceEqDiff, Nat.reduceAdd, Nat.reduceMul, Nat.reduceLeDiff, Nat.reduceLT, reduceIte, reduceCtorEq, Nat.reduceShiftRight, Nat.reduceAnd, Nat.reducePow, Nat.reduceOr, Nat.reduceBNe, Nat.reduceBEq, Int.reduceToNat, Int.reduceLT, Int.reduceLE, Int.reduceGT, Int.reduceGE, Int.reduceEq, Int.reduceNe, Int.reduceNeg, Int.reduceAdd, Int.reduceSub, Int.reduceMul]
  rintro m sl σ' nx' ⟨i, hi, hm, hnx, hb, h3, h1, h11, h12, h13, hs, hk⟩
  have hi0 : (0 : Int) ≤ i := by omega
  by_cases hil : i < c.parts.length
  · have hil' : (i : Int) < c.parts.length := by omega
    have h11' : sl 11 = .list (c.parts.map Part.cs) := h11.trans (hv.lt (i := i) (by simpa using hil))
    have hw : IntKind.i64.wrap ((i : Int) + 1) = (i : Int) + 1 := wrap_small (by omega) (by omega)
    have hget : (c.parts.map Part.cs)[i]? = some c.parts[i].cs := by rw [List.getElem?_map, List.getElem?_eq_getElem hil]; rfl
    have hget' : c.parts[i]? = some c.parts[i] := List.getElem?_eq_getElem hil
    have hno := partNames_no hil
    have hj : ∀ j (hj : j < c.parts.length), j < i + 1 → nameS c.parts[i].name = true → nameS c.parts[j].name = true := fun j hj hji hn => by
      by_cases hjj : j = i
      · subst hjj; exact hn
      · exact hb j hj (by omega)
    generalize hf : c.parts[i] = f at hget hget' hno hj
    have he := effs_succ hget'
    have hen := effs_len hi
    generalize ht : effs (c.parts.take i) = es at h3 he hen
    generalize h3v : sl 3 = sv at h3
    generalize hes : es.map Frac.cs = ec at h3
    cases h3 with
    | nil =>
      repeat' (first | simp only [push_cast, Nat.reduceEqDiff, Nat.reduceAdd, Nat.reduceMul, Nat.reduceLeDiff, Nat.reduceLT, reduceIte, reduceCtorEq, Nat.reduceShiftRight, Nat.reduceAnd, Nat.reducePow, Nat.reduceOr, Nat.reduceBNe, Nat.reduceBEq, Int.reduceToNat, Int.reduceLT, Int.reduceLE, Int.reduceGT, Int.reduceGE, Int.reduceEq, Int.reduceNe, Int.reduceNeg, Int.reduceAdd, Int.reduceSub, Int.reduceMul, EE_P, h1, h11', h12, h13, h3v, hi0, hil', hget, hw, List.length_map, Int.toNat_natCast, (key_ne hnx).1, (key_ne hnx).2.1, (key_ne hnx).2.2.1, (key_ne hnx).2.2.2, hs] | simp (disch := omega) only [wrap_fits] | ((first | with_reducible apply wcall_pure | with_reducible apply wdcall_pure); focus (first | assumption | exact sum_fn (by assumption) (by omega) | exact isName_fn _ | exact hundredths_fn goodEE EE_P _ _ | exact less_fn goodEE EE_P _ _ _ _)) | (with_reducible refine wguard_split_t (fun h => ?_) (fun h => ?_)) | (with_reducible refine wguard_split_f (fun h => ?_) (fun h => ?_)) | (with_reducible refine wcond_split (fun h => ?_) (fun h => ?_)) | (with_reducible refine wdguard_split_t (fun h => ?_) (fun h => ?_)) | (with_reducible refine wdguard_split_f (fun h => ?_) (fun h => ?_)) | (with_reducible refine And.intro (fun h => ?_) (fun h => ?_)) | (with_reducible apply And.intro; focus omega))
      · ((refine ends_ret (by simp only [resultsOf, resOf, push_cast, Nat.reduceEqDiff, Nat.reduceAdd, Nat.reduceMul, Nat.reduceLeDiff, Nat.reduceLT, reduceIte, reduceCtorEq, Nat.reduceShiftRight, Nat.reduceAnd, Nat.reducePow, Nat.reduceOr, Nat.reduceBNe, Nat.reduceBEq, Int.reduceToNat, Int.reduceLT, Int.reduceLE, Int.reduceGT, Int.reduceGE, Int.reduceEq, Int.reduceNe, Int.reduceNeg, Int.reduceAdd, Int.reduceSub, Int.reduceMul, EE_P]; rfl) (by simp only [push_cast, Nat.reduceEqDiff, Nat.reduceAdd, Nat.reduceMul, Nat.reduceLeDiff, Nat.reduceLT, reduceIte, reduceCtorEq, Nat.reduceShiftRight, Nat.reduceAnd, Nat.reducePow, Nat.reduceOr, Nat.reduceBNe, Nat.reduceBEq, Int.reduceToNat, Int.reduceLT, Int.reduceLE, Int.reduceGT, Int.reduceGE, Int.reduceEq, Int.reduceNe, Int.reduceNeg, Int.reduceAdd, Int.reduceSub, Int.reduceMul, EE_P]) ?_ (by repeat' (first | exact Keeps.refl _ | assumption | exact (hwf.keep1 _) | refine Keeps.new hwf ?_ (by omega) _)) (by simp only [lt_int, lt_bool, lt_str, lt_nil, lt_empty, lt_agg, lt_tup, lt_list, lt_cells, lt_fn, lt_nilp, lt_nilfn, lt_nili, List.mem_cons, List.not_mem_nil, or_false, forall_eq_or_imp, forall_eq, and_true, true_and, and_self, implies_true, *]; try omega)); (try simp only [tupOf, push_cast, Nat.reduceEqDiff, Nat.reduceAdd, Nat.reduceMul, Nat.reduceLeDiff, Nat.reduceLT, reduceIte, reduceCtorEq, Nat.reduceShiftRight, Nat.reduceAnd, Nat.reducePow, Nat.reduceOr, Nat.reduceBNe, Nat.reduceBEq, Int.reduceToNat, Int.reduceLT, Int.reduceLE, Int.reduceGT, Int.reduceGE, Int.reduceEq, Int.reduceNe, Int.reduceNeg, Int.reduceAdd, Int.reduceSub, Int.reduceMul, EE_P]))
        simp [validS, hno (by simpa using ‹(!nameS f.name) = true›)]
      · refine ⟨by simp only [roomFor, push_cast, Nat.reduceEqDiff, Nat.reduceAdd, Nat.reduceMul, Nat.reduceLeDiff, Nat.reduceLT, reduceIte, reduceCtorEq, Nat.reduceShiftRight, Nat.reduceAnd, Nat.reducePow, Nat.reduceOr, Nat.reduceBNe, Nat.reduceBEq, Int.reduceToNat, Int.reduceLT, Int.reduceLE, Int.reduceGT, Int.reduceGE, Int.reduceEq, Int.reduceNe, Int.reduceNeg, Int.reduceAdd, Int.reduceSub, Int.reduceMul]; try decide, c.parts.length - (i + 1), by omega, i + 1, by omega, rfl, by omega, fun j hj' hji => hj j hj' hji (by simpa using ‹(!nameS f.name) = false›), ?_, h11'.symm.trans h11, by simp, (by repeat' (first | exact Keeps.refl _ | assumption | exact (hwf.keep1 _) | refine Keeps.new hwf ?_ (by omega) _))⟩
        rw [he, List.map_append, hes]
        exact .mk (by omega) (by omega) (by simp only [upd_at, push_cast, Nat.reduceEqDiff, Nat.reduceAdd, Nat.reduceMul, Nat.reduceLeDiff, Nat.reduceLT, reduceIte, reduceCtorEq, Nat.reduceShiftRight, Nat.reduceAnd, Nat.reducePow, Nat.reduceOr, Nat.reduceBNe, Nat.reduceBEq, Int.reduceToNat, Int.reduceLT, Int.reduceLE, Int.reduceGT, Int.reduceGE, Int.reduceEq, Int.reduceNe, Int.reduceNeg, Int.reduceAdd, Int.reduceSub, Int.reduceMul]) (by simp [Frac.cs]) (by omega)
    | row k3 _ hk3 hk3' hs3 hne =>
      have hkk : k3 ≠ nx := by omega
      have hec : ec.length = i := by rw [← hes, List.length_map, hen]
      have hec0 : ¬ ec.length = 0 := fun e => hne (List.length_eq_zero_iff.1 e)
      repeat' (first | simp only [push_cast, Nat.reduceEqDiff, Nat.reduceAdd, Nat.reduceMul, Nat.reduceLeDiff, Nat.reduceLT, reduceIte, reduceCtorEq, Nat.reduceShiftRight, Nat.reduceAnd, Nat.reducePow, Nat.reduceOr, Nat.reduceBNe, Nat.reduceBEq, Int.reduceToNat, Int.reduceLT, Int.reduceLE, Int.reduceGT, Int.reduceGE, Int.reduceEq, Int.reduceNe, Int.reduceNeg, Int.reduceAdd, Int.reduceSub, Int.reduceMul, EE_P, h1, h11', h12, h13, h3v, hi0, hil', hget, hw, List.length_map, Int.toNat_natCast, (key_ne hnx).1, (key_ne hnx).2.1, (key_ne hnx).2.2.1, (key_ne hnx).2.2.2, hs, (key_ne hk3').1, (key_ne hk3').2.1, (key_ne hk3').2.2.1, (key_ne hk3').2.2.2, (ne_keys hkk).1, (ne_keys hkk).2, hs3, hec0] | simp (disch := omega) only [wrap_fits] | ((first | with_reducible apply wcall_pure | with_reducible apply wdcall_pure); focus (first | assumption | exact sum_fn (by assumption) (by omega) | exact isName_fn _ | exact hundredths_fn goodEE EE_P _ _ | exact less_fn goodEE EE_P _ _ _ _)) | (with_reducible refine wguard_split_t (fun h => ?_) (fun h => ?_)) | (with_reducible refine wguard_split_f (fun h => ?_) (fun h => ?_)) | (with_reducible refine wcond_split (fun h => ?_) (fun h => ?_)) | (with_reducible refine wdguard_split_t (fun h => ?_) (fun h => ?_)) | (with_reducible refine wdguard_split_f (fun h => ?_) (fun h => ?_)) | (with_reducible refine And.intro (fun h => ?_) (fun h => ?_)) | (with_reducible apply And.intro; focus omega))
      · ((refine ends_ret (by simp only [resultsOf, resOf, push_cast, Nat.reduceEqDiff, Nat.reduceAdd, Nat.reduceMul, Nat.reduceLeDiff, Nat.reduceLT, reduceIte, reduceCtorEq, Nat.reduceShiftRight, Nat.reduceAnd, Nat.reducePow, Nat.reduceOr, Nat.reduceBNe, Nat.reduceBEq, Int.reduceToNat, Int.reduceLT, Int.reduceLE, Int.reduceGT, Int.reduceGE, Int.reduceEq, Int.reduceNe, Int.reduceNeg, Int.reduceAdd, Int.reduceSub, Int.reduceMul, EE_P]; rfl) (by simp only [push_cast, Nat.reduceEqDiff, Nat.reduceAdd, Nat.reduceMul, Nat.reduceLeDiff, Nat.reduceLT, reduceIte, reduceCtorEq, Nat.reduceShiftRight, Nat.reduceAnd, Nat.reducePow, Nat.reduceOr, Nat.reduceBNe, Nat.reduceBEq, Int.reduceToNat, Int.reduceLT, Int.reduceLE, Int.reduceGT, Int.reduceGE, Int.reduceEq, Int.reduceNe, Int.reduceNeg, Int.reduceAdd, Int.reduceSub, Int.reduceMul, EE_P]) ?_ (by repeat' (first | exact Keeps.refl _ | assumption | exact (hwf.keep1 _) | refine Keeps.new hwf ?_ (by omega) _)) (by simp only [lt_int, lt_bool, lt_str, lt_nil, lt_empty, lt_agg, lt_tup, lt_list, lt_cells, lt_fn, lt_nilp, lt_nilfn, lt_nili, List.mem_cons, List.not_mem_nil, or_false, forall_eq_or_imp, forall_eq, and_true, true_and, and_self, implies_true, *]; try omega)); (try simp only [tupOf, push_cast, Nat.reduceEqDiff, Nat.reduceAdd, Nat.reduceMul, Nat.reduceLeDiff, Nat.reduceLT, reduceIte, reduceCtorEq, Nat.reduceShiftRight, Nat.reduceAnd, Nat.reducePow, Nat.reduceOr, Nat.reduceBNe, Nat.reduceBEq, Int.reduceToNat, Int.reduceLT, Int.reduceLE, Int.reduceGT, Int.reduceGE, Int.reduceEq, Int.reduceNe, Int.reduceNeg, Int.reduceAdd, Int.reduceSub, Int.reduceMul, EE_P]))
        simp [validS, hno (by simpa using ‹(!nameS f.name) = true›)]
      · refine ⟨⟨by simp; omega, .inl trivial, by simp only [roomFor, push_cast, Nat.reduceEqDiff, Nat.reduceAdd, Nat.reduceMul, Nat.reduceLeDiff, Nat.reduceLT, reduceIte, reduceCtorEq, Nat.reduceShiftRight, Nat.reduceAnd, Nat.reducePow, Nat.reduceOr, Nat.reduceBNe, Nat.reduceBEq, Int.reduceToNat, Int.reduceLT, Int.reduceLE, Int.reduceGT, Int.reduceGE, Int.reduceEq, Int.reduceNe, Int.reduceNeg, Int.reduceAdd, Int.reduceSub, Int.reduceMul]; omega, fun c hc => frac2' _ c (by rw [hes]; exact hc)⟩, c.parts.length - (i + 1), by omega, i + 1, by omega, rfl, by omega, fun j hj' hji => hj j hj' hji (by simpa using ‹(!nameS f.name) = false›), ?_, h11'.symm.trans h11, by simp, (by repeat' (first | exact Keeps.refl _ | assumption | exact (hwf.keep1 _) | refine Keeps.new hwf ?_ (by omega) _))⟩
        rw [he, List.map_append, hes]
        exact .mk (by omega) (by omega) (by simp only [upd_at, push_cast, Nat.reduceEqDiff, Nat.reduceAdd, Nat.reduceMul, Nat.reduceLeDiff, Nat.reduceLT, reduceIte, reduceCtorEq, Nat.reduceShiftRight, Nat.reduceAnd, Nat.reducePow, Nat.reduceOr, Nat.reduceBNe, Nat.reduceBEq, Int.reduceToNat, Int.reduceLT, Int.reduceLE, Int.reduceGT, Int.reduceGE, Int.reduceEq, Int.reduceNe, Int.reduceNeg, Int.reduceAdd, Int.reduceSub, Int.reduceMul]) (by simp [Frac.cs]) (by omega)
  · have hil' : ¬ (i : Int) < c.parts.length := by omega
    obtain rfl : i = c.parts.length := by omega
    rw [List.take_length] at h3
    obtain ⟨q, hq, hqs⟩ := h3.fza
    have hcl : (effs c.parts).length ≤ 4611686018427387904 := by unfold effs; simp; omega
    repeat' (first | simp only [push_cast, Nat.reduceEqDiff, Nat.reduceAdd, Nat.reduceMul, Nat.reduceLeDiff, Nat.reduceLT, reduceIte, reduceCtorEq, Nat.reduceShiftRight, Nat.reduceAnd, Nat.reducePow, Nat.reduceOr, Nat.reduceBNe, Nat.reduceBEq, Int.reduceToNat, Int.reduceLT, Int.reduceLE, Int.reduceGT, Int.reduceGE, Int.reduceEq, Int.reduceNe, Int.reduceNeg, Int.reduceAdd, Int.reduceSub, Int.reduceMul, EE_P, h1, h11, h12, h13, hil'] | simp (disch := omega) only [wrap_fits] | ((first | with_reducible apply wcall_pure | with_reducible apply wdcall_pure); focus (first | assumption | exact sum_fn (by assumption) (by omega) | exact isName_fn _ | exact hundredths_fn goodEE EE_P _ _ | exact less_fn goodEE EE_P _ _ _ _)) | (with_reducible refine wguard_split_t (fun h => ?_) (fun h => ?_)) | (with_reducible refine wguard_split_f (fun h => ?_) (fun h => ?_)) | (with_reducible refine wcond_split (fun h => ?_) (fun h => ?_)) | (with_reducible refine wdguard_split_t (fun h => ?_) (fun h => ?_)) | (with_reducible refine wdguard_split_f (fun h => ?_) (fun h => ?_)) | (with_reducible refine And.intro (fun h => ?_) (fun h => ?_)) | (with_reducible apply And.intro; focus omega))
    refine wcall_lend goodEE (sum_fn hqs hcl) hq (flat_fracerr _ _) ?_
    have hnm : partNames c.parts = true := partNames_yes fun j hj => hb j hj hj
    generalize hsm : sumS (effs c.parts) = sm
    repeat' (first | simp only [push_cast, Nat.reduceEqDiff, Nat.reduceAdd, Nat.reduceMul, Nat.reduceLeDiff, Nat.reduceLT, reduceIte, reduceCtorEq, Nat.reduceShiftRight, Nat.reduceAnd, Nat.reducePow, Nat.reduceOr, Nat.reduceBNe, Nat.reduceBEq, Int.reduceToNat, Int.reduceLT, Int.reduceLE, Int.reduceGT, Int.reduceGE, Int.reduceEq, Int.reduceNe, Int.reduceNeg, Int.reduceAdd, Int.reduceSub, Int.reduceMul, EE_P, h1, (key_ne hnx).1, (key_ne hnx).2.1, (key_ne hnx).2.2.1, (key_ne hnx).2.2.2, hs, EE_zero] | simp (disch := omega) only [wrap_fits] | ((first | with_reducible apply wcall_pure | with_reducible apply wdcall_pure); focus (first | assumption | exact sum_fn (by assumption) (by omega) | exact isName_fn _ | exact hundredths_fn goodEE EE_P _ _ | exact less_fn goodEE EE_P _ _ _ _)) | (with_reducible refine wguard_split_t (fun h => ?_) (fun h => ?_)) | (with_reducible refine wguard_split_f (fun h => ?_) (fun h => ?_)) | (with_reducible refine wcond_split (fun h => ?_) (fun h => ?_)) | (with_reducible refine wdguard_split_t (fun h => ?_) (fun h => ?_)) | (with_reducible refine wdguard_split_f (fun h => ?_) (fun h => ?_)) | (with_reducible refine And.intro (fun h => ?_) (fun h => ?_)) | (with_reducible apply And.intro; focus omega))
    all_goals ((refine ends_ret (by simp only [resultsOf, resOf, push_cast, Nat.reduceEqDiff, Nat.reduceAdd, Nat.reduceMul, Nat.reduceLeDiff, Nat.reduceLT, reduceIte, reduceCtorEq, Nat.reduceShiftRight, Nat.reduceAnd, Nat.reducePow, Nat.reduceOr, Nat.reduceBNe, Nat.reduceBEq, Int.reduceToNat, Int.reduceLT, Int.reduceLE, Int.reduceGT, Int.reduceGE, Int.reduceEq, Int.reduceNe, Int.reduceNeg, Int.reduceAdd, Int.reduceSub, Int.reduceMul, EE_P]; rfl) (by simp only [push_cast, Nat.reduceEqDiff, Nat.reduceAdd, Nat.reduceMul, Nat.reduceLeDiff, Nat.reduceLT, reduceIte, reduceCtorEq, Nat.reduceShiftRight, Nat.reduceAnd, Nat.reducePow, Nat.reduceOr, Nat.reduceBNe, Nat.reduceBEq, Int.reduceToNat, Int.reduceLT, Int.reduceLE, Int.reduceGT, Int.reduceGE, Int.reduceEq, Int.reduceNe, Int.reduceNeg, Int.reduceAdd, Int.reduceSub, Int.reduceMul, EE_P]) ?_ (by repeat' (first | exact Keeps.refl _ | assumption | exact (hwf.keep1 _) | refine Keeps.new hwf ?_ (by omega) _)) (by simp only [lt_int, lt_bool, lt_str, lt_nil, lt_empty, lt_agg, lt_tup, lt_list, lt_cells, lt_fn, lt_nilp, lt_nilfn, lt_nili, List.mem_cons, List.not_mem_nil, or_false, forall_eq_or_imp, forall_eq, and_true, true_and, and_self, implies_true, *]; try omega)); (try simp only [tupOf, push_cast, Nat.reduceEqDiff, Nat.reduceAdd, Nat.reduceMul, Nat.reduceLeDiff, Nat.reduceLT, reduceIte, reduceCtorEq, Nat.reduceShiftRight, Nat.reduceAnd, Nat.reducePow, Nat.reduceOr, Nat.reduceBNe, Nat.reduceBEq, Int.reduceToNat, Int.reduceLT, Int.reduceLE, Int.reduceGT, Int.reduceGE, Int.reduceEq, Int.reduceNe, Int.reduceNeg, Int.reduceAdd, Int.reduceSub, Int.reduceMul, EE_P]))
    all_goals (simp only [validS, lessS, hundS, hsm, hnm, frac_iff]; first | (simp [*]; done) | (simp_all; done) | (simp_all; omega))

/-! ### what a credit says -/
def dashS : ByteArray := (⟨#[45]⟩ : ByteArray)
def partText (p : Part) : ByteArray := p.name ++ (⟨#[32]⟩ : ByteArray) ++ (if hasPrefixS (formatS p.eff) (⟨#[45]⟩ : ByteArray) = true then (⟨#[45]⟩ : ByteArray) else (⟨#[43]⟩ : ByteArray)) ++ cutPrefixS (formatS p.eff) (⟨#[45]⟩ : ByteArray)
def explainS (c : Credit) : List ByteArray := c.parts.map partText ++ [(⟨#[116, 111, 116, 97, 108, 32]⟩ : ByteArray) ++ pointsTextS c.hund]
def explainV (c : Credit) : PV := if validS c = true then strsP (explainS c) else .nil
theorem formatS_size (f : Frac) : (formatS f).size ≤ 4000000000 := by
  unfold formatS
  split
  · rename_i hv
    obtain ⟨h1, h2, h3, h4, _⟩ := id hv
    have z1 := itoaS_size f.n
    have z2 := itoaS_size f.d
    split
    · omega
    · simp only [ByteArray.size_append, bsize_mk, List.size_toArray, List.length_cons, List.length_nil]
      omega
  · exact Nat.zero_le _
theorem cutPrefixS_size (s p : ByteArray) : (cutPrefixS s p).size ≤ s.size := by
  unfold cutPrefixS
  split
  · simp
  · omega
theorem pointsTextS_size (n : Int) : (pointsTextS n).size ≤ 1000000000 := by
  unfold pointsTextS
  split
  · exact Nat.zero_le _
  · have m1 := tmod_bd (a := n.natAbs) (b := 100) (by omega) (by omega)
    have m2 := tdiv_bd (a := n.natAbs) (b := 100) (by omega) (by omega)
    have z1 := itoaS_size (100 + (n.natAbs : Int).tmod 100)
    have z2 := itoaS_size ((n.natAbs : Int).tdiv 100)
    simp only [pointS, restS, signS, ByteArray.size_append, ByteArray.size_extract]
    split <;> simp only [bsize_mk, List.size_toArray, List.length_cons, List.length_nil] <;> omega
theorem texts_succ {ps : List Part} {i : Nat} {p : Part} (h : ps[i]? = some p) : (ps.take (i + 1)).map partText = (ps.take i).map partText ++ [partText p] := by
  obtain ⟨h1, h2⟩ := List.getElem?_eq_some_iff.1 h
  rw [List.take_succ_eq_append_getElem h1, List.map_append, h2]
  rfl
def strC (s : ByteArray) : List PV := [.str s]
theorem partNames_get {ps : List Part} (h : partNames ps = true) {i : Nat} {p : Part} (hp : ps[i]? = some p) : nameS p.name = true := by
  unfold partNames at h
  rw [List.all_eq_true] at h
  exact h p (List.mem_of_getElem? hp)
theorem explain_fn (c : Credit) {v : PV} (hv : SliceP (c.parts.map Part.cs) v) (hl : c.parts.length ≤ 1000000) : Pure EE 26 [c.pv v] (explainV c) := by
  have hvl := hv.len
  simp only [List.length_map] at hvl
  have hval := valid_credit_fn c hv hl
  cases hvs : validS c
  · rw [hvs] at hval
    rw [show explainV c = .nil from if_neg (by rw [hvs]; simp)]
    intro σ nx
    refine fn_of_body goodEE (by rw [EE_P]; exact Tryz.func26) rfl rfl (by kernel_rfl) (Nat.le_of_ble_eq_true rfl) (Nat.le_refl _) fun hwf hlt => ?_
    rw [show Tryz.f26.results.toList = [.tmp 2] from rfl]
    refine awp_begin _ _ _ _ _ (cc := _) (by conv => lhs; simp only [push_cast, Nat.reduceEqDiff, Nat.reduceAdd, Nat.reduceMul, Nat.reduceLeDiff, Nat.reduceLT, reduceIte, reduceCtorEq, Nat.reduceShiftRight, Nat.reduceAnd, Nat.reducePow, Nat.reduceOr, Nat.reduceBNe, Nat.reduceBEq, Int.reduceToNat, Int.reduceLT, Int.reduceLE, Int.reduceGT, Int.reduceGE, Int.reduceEq, Int.reduceNe, Int.reduceNeg, Int.reduceAdd, Int.reduceSub, Int.reduceMul, Tryz.f26]) ?_
    simp only [push_cast, Nat.reduceEqDiff, Nat.reduceAdd, Nat.reduceMul, Nat.reduceLeDiff, Nat.reduceLT, reduceIte, reduceCtorEq, Nat.reduceShiftRight, Nat.reduceAnd, Nat.reducePow, Nat.reduceOr, Nat.reduceBNe, Nat.reduceBEq, Int.reduceToNat, Int.reduceLT, Int.reduceLE, Int.reduceGT, Int.reduceGE, Int.reduceEq, Int.reduceNe, Int.reduceNeg, Int.reduceAdd, Int.reduceSub, Int.reduceMul, EE_P]
    repeat' (first | simp only [push_cast, Nat.reduceEqDiff, Nat.reduceAdd, Nat.reduceMul, Nat.reduceLeDiff, Nat.reduceLT, reduceIte, reduceCtorEq, Nat.reduceShiftRight, Nat.reduceAnd, Nat.reducePow, Nat.reduceOr, Nat.reduceBNe, Nat.reduceBEq, Int.reduceToNat, Int.reduceLT, Int.reduceLE, Int.reduceGT, Int.reduceGE, Int.reduceEq, Int.reduceNe, Int.reduceNeg, Int.reduceAdd, Int.reduceSub, Int.reduceMul, EE_P, hvl, hv.str, hv.one, hv.cells] | simp (disch := omega) only [wrap_fits] | ((first | with_reducible apply wcall_pure | with_reducible apply wdcall_pure); focus (first | assumption | exact pointsText_fn _ | exact cutPrefix_fn _ _ | exact format_fn ⟨_, _⟩)) | (with_reducible refine wguard_split_t (fun h => ?_) (fun h => ?_)) | (with_reducible refine wguard_split_f (fun h => ?_) (fun h => ?_)) | (with_reducible refine wcond_split (fun h => ?_) (fun h => ?_)) | (with_reducible refine wdguard_split_t (fun h => ?_) (fun h => ?_)) | (with_reducible refine wdguard_split_f (fun h => ?_) (fun h => ?_)) | (with_reducible refine And.intro (fun h => ?_) (fun h => ?_)) | (with_reducible apply And.intro; focus omega))
    all_goals ((refine ends_ret (by simp only [resultsOf, resOf, push_cast, Nat.reduceEqDiff, Nat.reduceAdd, Nat.reduceMul, Nat.reduceLeDiff, Nat.reduceLT, reduceIte, reduceCtorEq, Nat.reduceShiftRight, Nat.reduceAnd, Nat.reducePow, Nat.reduceOr, Nat.reduceBNe, Nat.reduceBEq, Int.reduceToNat, Int.reduceLT, Int.reduceLE, Int.reduceGT, Int.reduceGE, Int.reduceEq, Int.reduceNe, Int.reduceNeg, Int.reduceAdd, Int.reduceSub, Int.reduceMul, EE_P]; rfl) (by simp only [push_cast, Nat.reduceEqDiff, Nat.reduceAdd, Nat.reduceMul, Nat.reduceLeDiff, Nat.reduceLT, reduceIte, reduceCtorEq, Nat.reduceShiftRight, Nat.reduceAnd, Nat.reducePow, Nat.reduceOr, Nat.reduceBNe, Nat.reduceBEq, Int.reduceToNat, Int.reduceLT, Int.reduceLE, Int.reduceGT, Int.reduceGE, Int.reduceEq, Int.reduceNe, Int.reduceNeg, Int.reduceAdd, Int.reduceSub, Int.reduceMul, EE_P]) ?_ (by repeat' (first | exact Keeps.refl _ | assumption | exact (hwf.keep1 _) | refine Keeps.new hwf ?_ (by omega) _)) (by simp only [lt_int, lt_bool, lt_str, lt_nil, lt_empty, lt_agg, lt_tup, lt_list, lt_cells, lt_fn, lt_nilp, lt_nilfn, lt_nili, List.mem_cons, List.not_mem_nil, or_false, forall_eq_or_imp, forall_eq, and_true, true_and, and_self, implies_true, *]; try omega)); (try simp only [tupOf, push_cast, Nat.reduceEqDiff, Nat.reduceAdd, Nat.reduceMul, Nat.reduceLeDiff, Nat.reduceLT, reduceIte, reduceCtorEq, Nat.reduceShiftRight, Nat.reduceAnd, Nat.reducePow, Nat.reduceOr, Nat.reduceBNe, Nat.reduceBEq, Int.reduceToNat, Int.reduceLT, Int.reduceLE, Int.reduceGT, Int.reduceGE, Int.reduceEq, Int.reduceNe, Int.reduceNeg, Int.reduceAdd, Int.reduceSub, Int.reduceMul, EE_P]))
  have hpn : partNames c.parts = true := by simp [validS] at hvs; exact hvs.1.1.1.1.1.1
  have hev : explainV c = strsP (explainS c) := if_pos hvs
  rw [hev]
  rw [hvs] at hval
  intro σ nx
  refine fn_of_body goodEE (by rw [EE_P]; exact Tryz.func26) rfl rfl (by kernel_rfl) (Nat.le_of_ble_eq_true rfl) (Nat.le_refl _) fun hwf hlt => ?_
  rw [show Tryz.f26.results.toList = [.tmp 2] from rfl]
  refine awp_begin _ _ _ _ _ (cc := _) (by conv => lhs; simp only [push_cast, Nat.reduceEqDiff, Nat.reduceAdd, Nat.reduceMul, Nat.reduceLeDiff, Nat.reduceLT, reduceIte, reduceCtorEq, Nat.reduceShiftRight, Nat.reduceAnd, Nat.reducePow, Nat.reduceOr, Nat.reduceBNe, Nat.reduceBEq, Int.reduceToNat, Int.reduceLT, Int.reduceLE, Int.reduceGT, Int.reduceGE, Int.reduceEq, Int.reduceNe, Int.reduceNeg, Int.reduceAdd, Int.reduceSub, Int.reduceMul, Tryz.f26]) ?_
  simp only [push_cast, Nat.reduceEqDiff, Nat.reduceAdd, Nat.reduceMul, Nat.reduceLeDiff, Nat.reduceLT, reduceIte, reduceCtorEq, Nat.reduceShiftRight, Nat.reduceAnd, Nat.reducePow, Nat.reduceOr, Nat.reduceBNe, Nat.reduceBEq, Int.reduceToNat, Int.reduceLT, Int.reduceLE, Int.reduceGT, Int.reduceGE, Int.reduceEq, Int.reduceNe, Int.reduceNeg, Int.reduceAdd, Int.reduceSub, Int.reduceMul, EE_P]
  repeat' (first | simp only [push_cast, Nat.reduceEqDiff, Nat.reduceAdd, Nat.reduceMul, Nat.reduceLeDiff, Nat.reduceLT, reduceIte, reduceCtorEq, Nat.reduceShiftRight, Nat.reduceAnd, Nat.reducePow, Nat.reduceOr, Nat.reduceBNe, Nat.reduceBEq, Int.reduceToNat, Int.reduceLT, Int.reduceLE, Int.reduceGT, Int.reduceGE, Int.reduceEq, Int.reduceNe, Int.reduceNeg, Int.reduceAdd, Int.reduceSub, Int.reduceMul, EE_P, hvl, hv.str, hv.one, hv.cells] | simp (disch := omega) only [wrap_fits] | ((first | with_reducible apply wcall_pure | with_reducible apply wdcall_pure); focus (first | assumption | exact pointsText_fn _ | exact cutPrefix_fn _ _ | exact format_fn ⟨_, _⟩)) | (with_reducible refine wguard_split_t (fun h => ?_) (fun h => ?_)) | (with_reducible refine wguard_split_f (fun h => ?_) (fun h => ?_)) | (with_reducible refine wcond_split (fun h => ?_) (fun h => ?_)) | (with_reducible refine wdguard_split_t (fun h => ?_) (fun h => ?_)) | (with_reducible refine wdguard_split_f (fun h => ?_) (fun h => ?_)) | (with_reducible refine And.intro (fun h => ?_) (fun h => ?_)) | (with_reducible apply And.intro; focus omega))
  refine wloop_by (fun m sl σ' nx' => ∃ i : Nat, i ≤ c.parts.length ∧ m = c.parts.length - i ∧ nx < nx' ∧ Grown σ' (nx + 1) nx' (sl 3) (((c.parts.take i).map partText).map strC) ∧ sl 1 = .ptr nx 0 0 ∧ sl 13 = v ∧ sl 14 = .int .i64 c.parts.length ∧ sl 15 = .int .i64 i ∧ σ' nx = some (.row [[v, .int .i64 c.pts.n, .int .i64 c.pts.d, .int .i64 c.hund]]) ∧ Keeps σ σ') c.parts.length
    ⟨0, by omega, rfl, by omega, .nil, ?_⟩ ?_
  · refine ⟨rfl, rfl, rfl, rfl, ?_, (by repeat' (first | exact Keeps.refl _ | assumption | exact (hwf.keep1 _) | refine Keeps.new hwf ?_ (by omega) _))⟩
    simp only [upd_at, push_cast, Nat.reduceEqDiff, Nat.reduceAdd, Nat.reduceMul, Nat.reduceLeDiff, Nat.reduceLT, reduceIte, reduceCtorEq, Nat.reduceShiftRight, Nat.reduceAnd, Nat.reducePow, Nat.reduceOr, Nat.reduceBNe, Nat.reduceBEq, Int.reduceToNat, Int.reduceLT, Int.reduceLE, Int.reduceGT, Int.reduceGE, Int.reduceEq, Int.reduceNe, Int.reduceNeg, Int.reduceAdd, Int.reduceSub, Int.reduceMul]
  rintro m sl σ' nx' ⟨i, hi, hm, hnx, h3, h1, h11, h12, h13, hs, hk⟩
  have hi0 : (0 : Int) ≤ i := by omega
  by_cases hil : i < c.parts.length
  · have hil' : (i : Int) < c.parts.length := by omega
    have h11' : sl 13 = .list (c.parts.map Part.cs) := h11.trans (hv.lt (i := i) (by simpa using hil))
    have hw : IntKind.i64.wrap ((i : Int) + 1) = (i : Int) + 1 := wrap_small (by omega) (by omega)
    have hget : (c.parts.map Part.cs)[i]? = some c.parts[i].cs := by rw [List.getElem?_map, List.getElem?_eq_getElem hil]; rfl
    have hget' : c.parts[i]? = some c.parts[i] := List.getElem?_eq_getElem hil
    have hnz := nameS_size (partNames_get hpn hget')
    have hz1 := formatS_size c.parts[i].eff
    have hz2 := cutPrefixS_size (formatS c.parts[i].eff) (⟨#[45]⟩ : ByteArray)
    generalize hf : c.parts[i] = f at hget hget' hnz hz1 hz2
    have he := texts_succ hget'
    have hen : ((c.parts.take i).map partText).length = i := by rw [List.length_map, List.length_take]; omega
    generalize ht : (c.parts.take i).map partText = es at h3 he hen
    generalize h3v : sl 3 = sv at h3
    generalize hes : es.map strC = ec at h3
    cases h3 with
    | nil =>
      repeat' (first | simp only [push_cast, Nat.reduceEqDiff, Nat.reduceAdd, Nat.reduceMul, Nat.reduceLeDiff, Nat.reduceLT, reduceIte, reduceCtorEq, Nat.reduceShiftRight, Nat.reduceAnd, Nat.reducePow, Nat.reduceOr, Nat.reduceBNe, Nat.reduceBEq, Int.reduceToNat, Int.reduceLT, Int.reduceLE, Int.reduceGT, Int.reduceGE, Int.reduceEq, Int.reduceNe, Int.reduceNeg, Int.reduceAdd, Int.reduceSub, Int.reduceMul, EE_P, h1, h11', h12, h13, h3v, hi0, hil', hget, hw, List.length_map, Int.toNat_natCast, (key_ne hnx).1, (key_ne hnx).2.1, (key_ne hnx).2.2.1, (key_ne hnx).2.2.2, hs] | simp (disch := omega) only [wrap_fits] | ((first | with_reducible apply wcall_pure | with_reducible apply wdcall_pure); focus (first | assumption | exact pointsText_fn _ | exact cutPrefix_fn _ _ | exact format_fn ⟨_, _⟩)) | (with_reducible refine wguard_split_t (fun h => ?_) (fun h => ?_)) | (with_reducible refine wguard_split_f (fun h => ?_) (fun h => ?_)) | (with_reducible refine wcond_split (fun h => ?_) (fun h => ?_)) | (with_reducible refine wdguard_split_t (fun h => ?_) (fun h => ?_)) | (with_reducible refine wdguard_split_f (fun h => ?_) (fun h => ?_)) | (with_reducible refine And.intro (fun h => ?_) (fun h => ?_)) | (with_reducible apply And.intro; focus omega))
      · refine ⟨by rw [show Frac.mk f.2.n f.2.d = f.eff from rfl]; omega, by simp only [roomFor, push_cast, Nat.reduceEqDiff, Nat.reduceAdd, Nat.reduceMul, Nat.reduceLeDiff, Nat.reduceLT, reduceIte, reduceCtorEq, Nat.reduceShiftRight, Nat.reduceAnd, Nat.reducePow, Nat.reduceOr, Nat.reduceBNe, Nat.reduceBEq, Int.reduceToNat, Int.reduceLT, Int.reduceLE, Int.reduceGT, Int.reduceGE, Int.reduceEq, Int.reduceNe, Int.reduceNeg, Int.reduceAdd, Int.reduceSub, Int.reduceMul]; try decide, c.parts.length - (i + 1), by omega, i + 1, by omega, rfl, by omega, ?_, h11'.symm.trans h11, by simp, (by repeat' (first | exact Keeps.refl _ | assumption | exact (hwf.keep1 _) | refine Keeps.new hwf ?_ (by omega) _))⟩
        rw [he, List.map_append, hes]
        exact .mk (by omega) (by omega) (by simp only [upd_at, push_cast, Nat.reduceEqDiff, Nat.reduceAdd, Nat.reduceMul, Nat.reduceLeDiff, Nat.reduceLT, reduceIte, reduceCtorEq, Nat.reduceShiftRight, Nat.reduceAnd, Nat.reducePow, Nat.reduceOr, Nat.reduceBNe, Nat.reduceBEq, Int.reduceToNat, Int.reduceLT, Int.reduceLE, Int.reduceGT, Int.reduceGE, Int.reduceEq, Int.reduceNe, Int.reduceNeg, Int.reduceAdd, Int.reduceSub, Int.reduceMul, strC, partText]; simp [ByteArray.append_assoc, *]) (by simp [strC]; try omega) (by omega)
      · refine ⟨by rw [show Frac.mk f.2.n f.2.d = f.eff from rfl]; omega, by simp only [roomFor, push_cast, Nat.reduceEqDiff, Nat.reduceAdd, Nat.reduceMul, Nat.reduceLeDiff, Nat.reduceLT, reduceIte, reduceCtorEq, Nat.reduceShiftRight, Nat.reduceAnd, Nat.reducePow, Nat.reduceOr, Nat.reduceBNe, Nat.reduceBEq, Int.reduceToNat, Int.reduceLT, Int.reduceLE, Int.reduceGT, Int.reduceGE, Int.reduceEq, Int.reduceNe, Int.reduceNeg, Int.reduceAdd, Int.reduceSub, Int.reduceMul]; try decide, c.parts.length - (i + 1), by omega, i + 1, by omega, rfl, by omega, ?_, h11'.symm.trans h11, by simp, (by repeat' (first | exact Keeps.refl _ | assumption | exact (hwf.keep1 _) | refine Keeps.new hwf ?_ (by omega) _))⟩
        rw [he, List.map_append, hes]
        exact .mk (by omega) (by omega) (by simp only [upd_at, push_cast, Nat.reduceEqDiff, Nat.reduceAdd, Nat.reduceMul, Nat.reduceLeDiff, Nat.reduceLT, reduceIte, reduceCtorEq, Nat.reduceShiftRight, Nat.reduceAnd, Nat.reducePow, Nat.reduceOr, Nat.reduceBNe, Nat.reduceBEq, Int.reduceToNat, Int.reduceLT, Int.reduceLE, Int.reduceGT, Int.reduceGE, Int.reduceEq, Int.reduceNe, Int.reduceNeg, Int.reduceAdd, Int.reduceSub, Int.reduceMul, strC, partText]; simp [ByteArray.append_assoc, *]) (by simp [strC]; try omega) (by omega)
    | row k3 _ hk3 hk3' hs3 hne =>
      have hkk : k3 ≠ nx := by omega
      have hec : ec.length = i := by rw [← hes, List.length_map, hen]
      have hec0 : ¬ ec.length = 0 := fun e => hne (List.length_eq_zero_iff.1 e)
      repeat' (first | simp only [push_cast, Nat.reduceEqDiff, Nat.reduceAdd, Nat.reduceMul, Nat.reduceLeDiff, Nat.reduceLT, reduceIte, reduceCtorEq, Nat.reduceShiftRight, Nat.reduceAnd, Nat.reducePow, Nat.reduceOr, Nat.reduceBNe, Nat.reduceBEq, Int.reduceToNat, Int.reduceLT, Int.reduceLE, Int.reduceGT, Int.reduceGE, Int.reduceEq, Int.reduceNe, Int.reduceNeg, Int.reduceAdd, Int.reduceSub, Int.reduceMul, EE_P, h1, h11', h12, h13, h3v, hi0, hil', hget, hw, List.length_map, Int.toNat_natCast, (key_ne hnx).1, (key_ne hnx).2.1, (key_ne hnx).2.2.1, (key_ne hnx).2.2.2, hs, (key_ne hk3').1, (key_ne hk3').2.1, (key_ne hk3').2.2.1, (key_ne hk3').2.2.2, (ne_keys hkk).1, (ne_keys hkk).2, hs3, hec0] | simp (disch := omega) only [wrap_fits] | ((first | with_reducible apply wcall_pure | with_reducible apply wdcall_pure); focus (first | assumption | exact pointsText_fn _ | exact cutPrefix_fn _ _ | exact format_fn ⟨_, _⟩)) | (with_reducible refine wguard_split_t (fun h => ?_) (fun h => ?_)) | (with_reducible refine wguard_split_f (fun h => ?_) (fun h => ?_)) | (with_reducible refine wcond_split (fun h => ?_) (fun h => ?_)) | (with_reducible refine wdguard_split_t (fun h => ?_) (fun h => ?_)) | (with_reducible refine wdguard_split_f (fun h => ?_) (fun h => ?_)) | (with_reducible refine And.intro (fun h => ?_) (fun h => ?_)) | (with_reducible apply And.intro; focus omega))
      · refine ⟨by rw [show Frac.mk f.2.n f.2.d = f.eff from rfl]; omega, ⟨by simp; omega, .inl trivial, by simp only [roomFor, push_cast, Nat.reduceEqDiff, Nat.reduceAdd, Nat.reduceMul, Nat.reduceLeDiff, Nat.reduceLT, reduceIte, reduceCtorEq, Nat.reduceShiftRight, Nat.reduceAnd, Nat.reducePow, Nat.reduceOr, Nat.reduceBNe, Nat.reduceBEq, Int.reduceToNat, Int.reduceLT, Int.reduceLE, Int.reduceGT, Int.reduceGE, Int.reduceEq, Int.reduceNe, Int.reduceNeg, Int.reduceAdd, Int.reduceSub, Int.reduceMul]; omega, fun c hc => by rw [← hes] at hc; obtain ⟨q, _, rfl⟩ := List.mem_map.1 hc; rfl⟩, c.parts.length - (i + 1), by omega, i + 1, by omega, rfl, by omega, ?_, h11'.symm.trans h11, by simp, (by repeat' (first | exact Keeps.refl _ | assumption | exact (hwf.keep1 _) | refine Keeps.new hwf ?_ (by omega) _))⟩
        rw [he, List.map_append, hes]
        exact .mk (by omega) (by omega) (by simp only [upd_at, push_cast, Nat.reduceEqDiff, Nat.reduceAdd, Nat.reduceMul, Nat.reduceLeDiff, Nat.reduceLT, reduceIte, reduceCtorEq, Nat.reduceShiftRight, Nat.reduceAnd, Nat.reducePow, Nat.reduceOr, Nat.reduceBNe, Nat.reduceBEq, Int.reduceToNat, Int.reduceLT, Int.reduceLE, Int.reduceGT, Int.reduceGE, Int.reduceEq, Int.reduceNe, Int.reduceNeg, Int.reduceAdd, Int.reduceSub, Int.reduceMul, strC, partText]; simp [ByteArray.append_assoc, *]) (by simp [strC]; try omega) (by omega)
      · refine ⟨by rw [show Frac.mk f.2.n f.2.d = f.eff from rfl]; omega, ⟨by simp; omega, .inl trivial, by simp only [roomFor, push_cast, Nat.reduceEqDiff, Nat.reduceAdd, Nat.reduceMul, Nat.reduceLeDiff, Nat.reduceLT, reduceIte, reduceCtorEq, Nat.reduceShiftRight, Nat.reduceAnd, Nat.reducePow, Nat.reduceOr, Nat.reduceBNe, Nat.reduceBEq, Int.reduceToNat, Int.reduceLT, Int.reduceLE, Int.reduceGT, Int.reduceGE, Int.reduceEq, Int.reduceNe, Int.reduceNeg, Int.reduceAdd, Int.reduceSub, Int.reduceMul]; omega, fun c hc => by rw [← hes] at hc; obtain ⟨q, _, rfl⟩ := List.mem_map.1 hc; rfl⟩, c.parts.length - (i + 1), by omega, i + 1, by omega, rfl, by omega, ?_, h11'.symm.trans h11, by simp, (by repeat' (first | exact Keeps.refl _ | assumption | exact (hwf.keep1 _) | refine Keeps.new hwf ?_ (by omega) _))⟩
        rw [he, List.map_append, hes]
        exact .mk (by omega) (by omega) (by simp only [upd_at, push_cast, Nat.reduceEqDiff, Nat.reduceAdd, Nat.reduceMul, Nat.reduceLeDiff, Nat.reduceLT, reduceIte, reduceCtorEq, Nat.reduceShiftRight, Nat.reduceAnd, Nat.reducePow, Nat.reduceOr, Nat.reduceBNe, Nat.reduceBEq, Int.reduceToNat, Int.reduceLT, Int.reduceLE, Int.reduceGT, Int.reduceGE, Int.reduceEq, Int.reduceNe, Int.reduceNeg, Int.reduceAdd, Int.reduceSub, Int.reduceMul, strC, partText]; simp [ByteArray.append_assoc, *]) (by simp [strC]; try omega) (by omega)
  · have hil' : ¬ (i : Int) < c.parts.length := by omega
    obtain rfl : i = c.parts.length := by omega
    rw [List.take_length] at h3
    have hz1 := pointsTextS_size c.hund
    generalize h3v : sl 3 = sv at h3
    generalize hes : (c.parts.map partText).map strC = ec at h3
    cases h3 with
    | nil =>
      repeat' (first | simp only [push_cast, Nat.reduceEqDiff, Nat.reduceAdd, Nat.reduceMul, Nat.reduceLeDiff, Nat.reduceLT, reduceIte, reduceCtorEq, Nat.reduceShiftRight, Nat.reduceAnd, Nat.reducePow, Nat.reduceOr, Nat.reduceBNe, Nat.reduceBEq, Int.reduceToNat, Int.reduceLT, Int.reduceLE, Int.reduceGT, Int.reduceGE, Int.reduceEq, Int.reduceNe, Int.reduceNeg, Int.reduceAdd, Int.reduceSub, Int.reduceMul, EE_P, h1, h11, h12, h13, h3v, hil', (key_ne hnx).1, (key_ne hnx).2.1, (key_ne hnx).2.2.1, (key_ne hnx).2.2.2, hs] | simp (disch := omega) only [wrap_fits] | ((first | with_reducible apply wcall_pure | with_reducible apply wdcall_pure); focus (first | assumption | exact pointsText_fn _ | exact cutPrefix_fn _ _ | exact format_fn ⟨_, _⟩)) | (with_reducible refine wguard_split_t (fun h => ?_) (fun h => ?_)) | (with_reducible refine wguard_split_f (fun h => ?_) (fun h => ?_)) | (with_reducible refine wcond_split (fun h => ?_) (fun h => ?_)) | (with_reducible refine wdguard_split_t (fun h => ?_) (fun h => ?_)) | (with_reducible refine wdguard_split_f (fun h => ?_) (fun h => ?_)) | (with_reducible refine And.intro (fun h => ?_) (fun h => ?_)) | (with_reducible apply And.intro; focus omega))
      have e : (explainS c).map (fun s => [PV.str s]) = [] ++ [[.str ((⟨#[116, 111, 116, 97, 108, 32]⟩ : ByteArray) ++ pointsTextS c.hund)]] := by
        rw [explainS, List.map_append]
        show List.map strC _ ++ _ = _
        rw [hes]
        rfl
      rw [strsP, e]
      refine ⟨by simp only [roomFor, push_cast, Nat.reduceEqDiff, Nat.reduceAdd, Nat.reduceMul, Nat.reduceLeDiff, Nat.reduceLT, reduceIte, reduceCtorEq, Nat.reduceShiftRight, Nat.reduceAnd, Nat.reducePow, Nat.reduceOr, Nat.reduceBNe, Nat.reduceBEq, Int.reduceToNat, Int.reduceLT, Int.reduceLE, Int.reduceGT, Int.reduceGE, Int.reduceEq, Int.reduceNe, Int.reduceNeg, Int.reduceAdd, Int.reduceSub, Int.reduceMul]; try decide, ends_fz (by simp only [resultsOf, resOf, push_cast, Nat.reduceEqDiff, Nat.reduceAdd, Nat.reduceMul, Nat.reduceLeDiff, Nat.reduceLT, reduceIte, reduceCtorEq, Nat.reduceShiftRight, Nat.reduceAnd, Nat.reducePow, Nat.reduceOr, Nat.reduceBNe, Nat.reduceBEq, Int.reduceToNat, Int.reduceLT, Int.reduceLE, Int.reduceGT, Int.reduceGE, Int.reduceEq, Int.reduceNe, Int.reduceNeg, Int.reduceAdd, Int.reduceSub, Int.reduceMul, EE_P]; rfl) (by first | exact ⟨trivial, trivial⟩ | simp only [push_cast, Nat.reduceEqDiff, Nat.reduceAdd, Nat.reduceMul, Nat.reduceLeDiff, Nat.reduceLT, reduceIte, reduceCtorEq, Nat.reduceShiftRight, Nat.reduceAnd, Nat.reducePow, Nat.reduceOr, Nat.reduceBNe, Nat.reduceBEq, Int.reduceToNat, Int.reduceLT, Int.reduceLE, Int.reduceGT, Int.reduceGE, Int.reduceEq, Int.reduceNe, Int.reduceNeg, Int.reduceAdd, Int.reduceSub, Int.reduceMul, and_self]) ?_ (by repeat' (first | exact Keeps.refl _ | assumption | exact (hwf.keep1 _) | refine Keeps.new hwf ?_ (by omega) _)) (by rw [← e]; exact lt_strs _)⟩
      exact fz_row (k := nx' + 7) (upd_same ..) (hwf.none (by omega)) (by simp)
    | row k3 _ hk3 hk3' hs3 hne =>
      have hkk : k3 ≠ nx := by omega
      have hec : ec.length = c.parts.length := by rw [← hes, List.length_map, List.length_map]
      have hec0 : ¬ ec.length = 0 := fun e => hne (List.length_eq_zero_iff.1 e)
      repeat' (first | simp only [push_cast, Nat.reduceEqDiff, Nat.reduceAdd, Nat.reduceMul, Nat.reduceLeDiff, Nat.reduceLT, reduceIte, reduceCtorEq, Nat.reduceShiftRight, Nat.reduceAnd, Nat.reducePow, Nat.reduceOr, Nat.reduceBNe, Nat.reduceBEq, Int.reduceToNat, Int.reduceLT, Int.reduceLE, Int.reduceGT, Int.reduceGE, Int.reduceEq, Int.reduceNe, Int.reduceNeg, Int.reduceAdd, Int.reduceSub, Int.reduceMul, EE_P, h1, h11, h12, h13, h3v, hil', (key_ne hnx).1, (key_ne hnx).2.1, (key_ne hnx).2.2.1, (key_ne hnx).2.2.2, hs, (key_ne hk3').1, (key_ne hk3').2.1, (key_ne hk3').2.2.1, (key_ne hk3').2.2.2, (ne_keys hkk).1, (ne_keys hkk).2, hs3, hec0] | simp (disch := omega) only [wrap_fits] | ((first | with_reducible apply wcall_pure | with_reducible apply wdcall_pure); focus (first | assumption | exact pointsText_fn _ | exact cutPrefix_fn _ _ | exact format_fn ⟨_, _⟩)) | (with_reducible refine wguard_split_t (fun h => ?_) (fun h => ?_)) | (with_reducible refine wguard_split_f (fun h => ?_) (fun h => ?_)) | (with_reducible refine wcond_split (fun h => ?_) (fun h => ?_)) | (with_reducible refine wdguard_split_t (fun h => ?_) (fun h => ?_)) | (with_reducible refine wdguard_split_f (fun h => ?_) (fun h => ?_)) | (with_reducible refine And.intro (fun h => ?_) (fun h => ?_)) | (with_reducible apply And.intro; focus omega))
      have e : (explainS c).map (fun s => [PV.str s]) = ec ++ [[.str ((⟨#[116, 111, 116, 97, 108, 32]⟩ : ByteArray) ++ pointsTextS c.hund)]] := by
        rw [explainS, List.map_append]
        show List.map strC _ ++ _ = _
        rw [hes]
        rfl
      rw [strsP, e]
      refine ⟨⟨by simp; omega, .inl trivial, by simp only [roomFor, push_cast, Nat.reduceEqDiff, Nat.reduceAdd, Nat.reduceMul, Nat.reduceLeDiff, Nat.reduceLT, reduceIte, reduceCtorEq, Nat.reduceShiftRight, Nat.reduceAnd, Nat.reducePow, Nat.reduceOr, Nat.reduceBNe, Nat.reduceBEq, Int.reduceToNat, Int.reduceLT, Int.reduceLE, Int.reduceGT, Int.reduceGE, Int.reduceEq, Int.reduceNe, Int.reduceNeg, Int.reduceAdd, Int.reduceSub, Int.reduceMul]; omega, fun c hc => by rw [← hes] at hc; obtain ⟨q, _, rfl⟩ := List.mem_map.1 hc; rfl⟩, ends_fz (by simp only [resultsOf, resOf, push_cast, Nat.reduceEqDiff, Nat.reduceAdd, Nat.reduceMul, Nat.reduceLeDiff, Nat.reduceLT, reduceIte, reduceCtorEq, Nat.reduceShiftRight, Nat.reduceAnd, Nat.reducePow, Nat.reduceOr, Nat.reduceBNe, Nat.reduceBEq, Int.reduceToNat, Int.reduceLT, Int.reduceLE, Int.reduceGT, Int.reduceGE, Int.reduceEq, Int.reduceNe, Int.reduceNeg, Int.reduceAdd, Int.reduceSub, Int.reduceMul, EE_P]; rfl) (by first | exact ⟨trivial, trivial⟩ | simp only [push_cast, Nat.reduceEqDiff, Nat.reduceAdd, Nat.reduceMul, Nat.reduceLeDiff, Nat.reduceLT, reduceIte, reduceCtorEq, Nat.reduceShiftRight, Nat.reduceAnd, Nat.reducePow, Nat.reduceOr, Nat.reduceBNe, Nat.reduceBEq, Int.reduceToNat, Int.reduceLT, Int.reduceLE, Int.reduceGT, Int.reduceGE, Int.reduceEq, Int.reduceNe, Int.reduceNeg, Int.reduceAdd, Int.reduceSub, Int.reduceMul, and_self]) ?_ (by repeat' (first | exact Keeps.refl _ | assumption | exact (hwf.keep1 _) | refine Keeps.new hwf ?_ (by omega) _)) (by rw [← e]; exact lt_strs _)⟩
      exact fz_row (k := nx' + 7) (upd_same ..) (hwf.none (by omega)) (by simp)
end Go.Proofs.YtdajoilaakiinaaGreatDoor.Awp
