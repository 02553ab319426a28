/- The reference's Combine. -/
import Derived.Test.YtdajoilaakiinaaGreatDoorMF
set_option linter.unusedSimpArgs false
set_option linter.unusedVariables false
namespace Go.Proofs.YtdajoilaakiinaaGreatDoor.Awp
open Go Go.Proofs
set_option linter.unusedSimpArgs false
set_option linter.unusedVariables false
set_option maxRecDepth 10000
set_option maxHeartbeats 4000000

theorem steps_pok {ls : List Line} (hr : AllR ls) (t j : Nat) (hj : j ≤ ls.length) : Pok (stepsTo (kindAt t) (funAt ls t) ls (phase ls m0S t) j) := by
  refine stepsTo_ind (P := fun _ m => Pok m) (phase_pok hr t) (fun j l m hj hm => ⟨fun ha hk => ?_, fun _ => hm⟩) j hj
  have hok := right_amt (hr l (List.mem_of_getElem? hj)) ha
  unfold funAt
  split
  · exact points_pok hr hj ha hm
  · exact penalty_pok hok hm
  · exact choose_pok hok hm
  · exact choose_pok hok hm
theorem valid_iff {ls : List Line} : validLinesS ls = true ↔ ls.length ≤ 32 ∧ AllR ls := by
  unfold validLinesS AllR
  simp
theorem combine_invalid {ls : List Line} (h : validLinesS ls = false) : combineS ls = (zeroCredit, 1) := by
  unfold combineS
  rw [if_pos]
  unfold validLinesS at h
  rw [Bool.and_eq_false_iff] at h
  rcases h with h | h
  · left; simp at h; exact h
  · right
    rw [List.all_eq_false] at h
    obtain ⟨l, hl, hn⟩ := h
    rw [List.any_eq_true]
    exact ⟨l, hl, by simpa using hn⟩
theorem combine_valid {ls : List Line} (h : validLinesS ls = true) : combineS ls = finishS (phase ls m0S 4) := by
  obtain ⟨h1, h2⟩ := valid_iff.1 h
  unfold combineS
  rw [if_neg]
  rintro (h | h)
  · omega
  · rw [List.any_eq_true] at h
    obtain ⟨l, hl, hn⟩ := h
    rw [h2 l hl] at hn
    cases hn
theorem combine_wrong_end {ls : List Line} (h : validLinesS ls = true) {t j : Nat} (ht : t < 4) (hj : j ≤ ls.length) (hw : (stepsTo (kindAt t) (funAt ls t) ls (phase ls m0S t) j).wrong = true) : combineS ls = (zeroCredit, 2) := by
  rw [combine_valid h]
  have h1 : (phase ls m0S (t + 1)).wrong = true := stepsTo_sticky hj hw
  have h2 := phase_sticky (show t + 1 ≤ 4 by omega) h1
  unfold finishS
  rw [if_pos (.inl h2)]
theorem ordL_ex : ∃ L : List (List PV), L = [[.int .i64 0], [.int .i64 1], [.int .i64 3], [.int .i64 2]] ∧ L.length = 4 ∧ ∀ t, t < 4 → L[t]? = some [.int .i64 (kindAt t)] := by
  refine ⟨_, rfl, rfl, fun t ht => ?_⟩
  obtain rfl | rfl | rfl | rfl : t = 0 ∨ t = 1 ∨ t = 2 ∨ t = 3 := by omega
  all_goals rfl
theorem Grown.keep {σ σ' : Store} {X hi hi' : Nat} {v : PV} {es : List (List PV)} (h : Grown σ X hi v es) (hh : hi ≤ hi') (hs : ∀ k, X ≤ k → k < hi → σ' k = σ k) : Grown σ' X hi' v es := by
  cases h with
  | nil => exact .nil
  | row k _ hk hk' h hn => exact .row k _ hk (by omega) (by rw [hs k hk hk']; exact h) hn
theorem zero_val : zeroCredit.val = .agg [.nil, .int .i64 0, .int .i64 0, .int .i64 0] := rfl
theorem refcombine_fn {ls : List Line} {v : PV} (hv : SliceP (ls.map Line.cs) v) : Pure EE 14 [v] (.tup [(combineS ls).1.val, .int .i64 (combineS ls).2]) := by
  have hvl := hv.len
  simp only [List.length_map] at hvl
  have hval := validLines_fn hv
  cases hvs : validLinesS ls
  · rw [hvs] at hval
    rw [combine_invalid hvs, zero_val]
    intro σ nx
    refine fn_of_body goodEE (by rw [EE_P]; exact Tryz.func14) rfl rfl (by kernel_rfl) (Nat.le_of_ble_eq_true rfl) (Nat.le_refl _) fun hwf hlt => ?_
    rw [show Tryz.f14.results.toList = [.cell 2 29, .tmp 3] from rfl]
    refine awp_begin _ _ _ _ _ (cc := _) (by conv => lhs; simp only [push_cast, Nat.reduceEqDiff, Nat.reduceAdd, Nat.reduceMul, Nat.reduceLeDiff, Nat.reduceLT, reduceIte, reduceCtorEq, Nat.reduceShiftRight, Nat.reduceAnd, Nat.reducePow, Nat.reduceOr, Nat.reduceBNe, Nat.reduceBEq, Int.reduceToNat, Int.reduceLT, Int.reduceLE, Int.reduceGT, Int.reduceGE, Int.reduceEq, Int.reduceNe, Int.reduceNeg, Int.reduceAdd, Int.reduceSub, Int.reduceMul, Tryz.f14]) ?_
    simp only [push_cast, Nat.reduceEqDiff, Nat.reduceAdd, Nat.reduceMul, Nat.reduceLeDiff, Nat.reduceLT, reduceIte, reduceCtorEq, Nat.reduceShiftRight, Nat.reduceAnd, Nat.reducePow, Nat.reduceOr, Nat.reduceBNe, Nat.reduceBEq, Int.reduceToNat, Int.reduceLT, Int.reduceLE, Int.reduceGT, Int.reduceGE, Int.reduceEq, Int.reduceNe, Int.reduceNeg, Int.reduceAdd, Int.reduceSub, Int.reduceMul, EE_P]
    repeat' (first | simp only [push_cast, Nat.reduceEqDiff, Nat.reduceAdd, Nat.reduceMul, Nat.reduceLeDiff, Nat.reduceLT, reduceIte, reduceCtorEq, Nat.reduceShiftRight, Nat.reduceAnd, Nat.reducePow, Nat.reduceOr, Nat.reduceBNe, Nat.reduceBEq, Int.reduceToNat, Int.reduceLT, Int.reduceLE, Int.reduceGT, Int.reduceGE, Int.reduceEq, Int.reduceNe, Int.reduceNeg, Int.reduceAdd, Int.reduceSub, Int.reduceMul, EE_P] | simp (disch := omega) only [wrap_fits] | ((first | with_reducible apply wcall_pure | with_reducible apply wdcall_pure); focus (first | assumption | exact validLines_fn (by assumption) | exact refhund_fn ⟨_, _⟩ | exact refsub_fn ⟨_, _⟩ ⟨_, _⟩ | exact refzero_fn)) | (with_reducible refine wguard_split_t (fun h => ?_) (fun h => ?_)) | (with_reducible refine wguard_split_f (fun h => ?_) (fun h => ?_)) | (with_reducible refine wcond_split (fun h => ?_) (fun h => ?_)) | (with_reducible refine wdguard_split_t (fun h => ?_) (fun h => ?_)) | (with_reducible refine wdguard_split_f (fun h => ?_) (fun h => ?_)) | (with_reducible refine And.intro (fun h => ?_) (fun h => ?_)) | (with_reducible apply And.intro; focus omega))
    ((refine ends_ret (by simp only [resultsOf, resOf, push_cast, Nat.reduceEqDiff, Nat.reduceAdd, Nat.reduceMul, Nat.reduceLeDiff, Nat.reduceLT, reduceIte, reduceCtorEq, Nat.reduceShiftRight, Nat.reduceAnd, Nat.reducePow, Nat.reduceOr, Nat.reduceBNe, Nat.reduceBEq, Int.reduceToNat, Int.reduceLT, Int.reduceLE, Int.reduceGT, Int.reduceGE, Int.reduceEq, Int.reduceNe, Int.reduceNeg, Int.reduceAdd, Int.reduceSub, Int.reduceMul, EE_P]; rfl) (by simp only [push_cast, Nat.reduceEqDiff, Nat.reduceAdd, Nat.reduceMul, Nat.reduceLeDiff, Nat.reduceLT, reduceIte, reduceCtorEq, Nat.reduceShiftRight, Nat.reduceAnd, Nat.reducePow, Nat.reduceOr, Nat.reduceBNe, Nat.reduceBEq, Int.reduceToNat, Int.reduceLT, Int.reduceLE, Int.reduceGT, Int.reduceGE, Int.reduceEq, Int.reduceNe, Int.reduceNeg, Int.reduceAdd, Int.reduceSub, Int.reduceMul, EE_P]) ?_ (by repeat' (first | exact Keeps.refl _ | assumption | exact (hwf.keep1 _) | refine Keeps.new hwf ?_ (by omega) _)) (by simp only [lt_int, lt_bool, lt_str, lt_nil, lt_empty, lt_agg, lt_tup, lt_list, lt_cells, lt_fn, lt_nilp, lt_nilfn, lt_nili, List.mem_cons, List.not_mem_nil, or_false, forall_eq_or_imp, forall_eq, and_true, true_and, and_self, implies_true, *]; try omega)); (try simp only [tupOf, push_cast, Nat.reduceEqDiff, Nat.reduceAdd, Nat.reduceMul, Nat.reduceLeDiff, Nat.reduceLT, reduceIte, reduceCtorEq, Nat.reduceShiftRight, Nat.reduceAnd, Nat.reducePow, Nat.reduceOr, Nat.reduceBNe, Nat.reduceBEq, Int.reduceToNat, Int.reduceLT, Int.reduceLE, Int.reduceGT, Int.reduceGE, Int.reduceEq, Int.reduceNe, Int.reduceNeg, Int.reduceAdd, Int.reduceSub, Int.reduceMul, EE_P]))
  obtain ⟨hlen, hr⟩ := valid_iff.1 hvs
  rw [hvs] at hval
  obtain ⟨L, hL, hL4, hLg⟩ := ordL_ex
  intro σ nx
  refine fn_of_body goodEE (by rw [EE_P]; exact Tryz.func14) rfl rfl (by kernel_rfl) (Nat.le_of_ble_eq_true rfl) (Nat.le_refl _) fun hwf hlt => ?_
  rw [show Tryz.f14.results.toList = [.cell 2 29, .tmp 3] from rfl]
  refine awp_begin _ _ _ _ _ (cc := _) (by conv => lhs; simp only [push_cast, Nat.reduceEqDiff, Nat.reduceAdd, Nat.reduceMul, Nat.reduceLeDiff, Nat.reduceLT, reduceIte, reduceCtorEq, Nat.reduceShiftRight, Nat.reduceAnd, Nat.reducePow, Nat.reduceOr, Nat.reduceBNe, Nat.reduceBEq, Int.reduceToNat, Int.reduceLT, Int.reduceLE, Int.reduceGT, Int.reduceGE, Int.reduceEq, Int.reduceNe, Int.reduceNeg, Int.reduceAdd, Int.reduceSub, Int.reduceMul, Tryz.f14]) ?_
  simp only [push_cast, Nat.reduceEqDiff, Nat.reduceAdd, Nat.reduceMul, Nat.reduceLeDiff, Nat.reduceLT, reduceIte, reduceCtorEq, Nat.reduceShiftRight, Nat.reduceAnd, Nat.reducePow, Nat.reduceOr, Nat.reduceBNe, Nat.reduceBEq, Int.reduceToNat, Int.reduceLT, Int.reduceLE, Int.reduceGT, Int.reduceGE, Int.reduceEq, Int.reduceNe, Int.reduceNeg, Int.reduceAdd, Int.reduceSub, Int.reduceMul, EE_P]
  repeat' (first | simp only [push_cast, Nat.reduceEqDiff, Nat.reduceAdd, Nat.reduceMul, Nat.reduceLeDiff, Nat.reduceLT, reduceIte, reduceCtorEq, Nat.reduceShiftRight, Nat.reduceAnd, Nat.reducePow, Nat.reduceOr, Nat.reduceBNe, Nat.reduceBEq, Int.reduceToNat, Int.reduceLT, Int.reduceLE, Int.reduceGT, Int.reduceGE, Int.reduceEq, Int.reduceNe, Int.reduceNeg, Int.reduceAdd, Int.reduceSub, Int.reduceMul, EE_P] | simp (disch := omega) only [wrap_fits] | ((first | with_reducible apply wcall_pure | with_reducible apply wdcall_pure); focus (first | assumption | exact validLines_fn (by assumption) | exact refhund_fn ⟨_, _⟩ | exact refsub_fn ⟨_, _⟩ ⟨_, _⟩ | exact refzero_fn)) | (with_reducible refine wguard_split_t (fun h => ?_) (fun h => ?_)) | (with_reducible refine wguard_split_f (fun h => ?_) (fun h => ?_)) | (with_reducible refine wcond_split (fun h => ?_) (fun h => ?_)) | (with_reducible refine wdguard_split_t (fun h => ?_) (fun h => ?_)) | (with_reducible refine wdguard_split_f (fun h => ?_) (fun h => ?_)) | (with_reducible refine And.intro (fun h => ?_) (fun h => ?_)) | (with_reducible apply And.intro; focus omega))
  rw [← hL]
  refine wloop_by (fun m sl σ' nx' => ∃ (t k4 k5 X : Nat) (pv : PV), t ≤ 4 ∧ m = 4 - t ∧ nx < k4 ∧ k4 < X ∧ nx < k5 ∧ k5 < X ∧ k4 ≠ k5 ∧ X ≤ nx' ∧ sl 0 = v ∧ sl 2 = .ptr nx 0 0 ∧ sl 4 = .ptr k4 0 0 ∧ sl 5 = .row k5 0 4 ∧ sl 6 = .int .i64 t ∧
    σ' nx = some (.row [[.nil, .int .i64 0, .int .i64 0, .int .i64 0]]) ∧ σ' k4 = some (.row [[pv, .int .i64 (phase ls m0S t).pts.n, .int .i64 (phase ls m0S t).pts.d, .int .i64 0]]) ∧ σ' k5 = some (.row L) ∧ (phase ls m0S t).wrong = false ∧ Grown σ' X nx' pv ((phase ls m0S t).parts.map Part.cs) ∧ Keeps σ σ') 4
    ⟨0, nx + 7, nx + 9, nx + 10, .nil, by omega, rfl, by omega, by omega, by omega, by omega, by omega, by omega, rfl, rfl, rfl, rfl, rfl, ?_, ?_, ?_, rfl, .nil, (by repeat' (first | exact Keeps.refl _ | assumption | exact (hwf.keep1 _) | refine Keeps.new hwf ?_ (by omega) _))⟩ ?_
  · simp only [upd_at, push_cast, Nat.reduceEqDiff, Nat.reduceAdd, Nat.reduceMul, Nat.reduceLeDiff, Nat.reduceLT, reduceIte, reduceCtorEq, Nat.reduceShiftRight, Nat.reduceAnd, Nat.reducePow, Nat.reduceOr, Nat.reduceBNe, Nat.reduceBEq, Int.reduceToNat, Int.reduceLT, Int.reduceLE, Int.reduceGT, Int.reduceGE, Int.reduceEq, Int.reduceNe, Int.reduceNeg, Int.reduceAdd, Int.reduceSub, Int.reduceMul]
  · simp only [upd_at, push_cast, Nat.reduceEqDiff, Nat.reduceAdd, Nat.reduceMul, Nat.reduceLeDiff, Nat.reduceLT, reduceIte, reduceCtorEq, Nat.reduceShiftRight, Nat.reduceAnd, Nat.reducePow, Nat.reduceOr, Nat.reduceBNe, Nat.reduceBEq, Int.reduceToNat, Int.reduceLT, Int.reduceLE, Int.reduceGT, Int.reduceGE, Int.reduceEq, Int.reduceNe, Int.reduceNeg, Int.reduceAdd, Int.reduceSub, Int.reduceMul]
    rfl
  · simp only [upd_at, push_cast, Nat.reduceEqDiff, Nat.reduceAdd, Nat.reduceMul, Nat.reduceLeDiff, Nat.reduceLT, reduceIte, reduceCtorEq, Nat.reduceShiftRight, Nat.reduceAnd, Nat.reducePow, Nat.reduceOr, Nat.reduceBNe, Nat.reduceBEq, Int.reduceToNat, Int.reduceLT, Int.reduceLE, Int.reduceGT, Int.reduceGE, Int.reduceEq, Int.reduceNe, Int.reduceNeg, Int.reduceAdd, Int.reduceSub, Int.reduceMul]
  rintro m sl σ' nx' ⟨t, k4, k5, X, pv, ht, hm, a4, b4, a5, b5, h45, hX, h0, h2, h4, h5, h6, hsn, hs4, hs5, hwr, hg, hk⟩
  have hnn : nx < nx' := by omega
  have c4 : k4 < nx' := by omega
  have c5 : k5 < nx' := by omega
  have d4 : k4 ≠ nx := by omega
  have d5 : k5 ≠ nx := by omega
  by_cases ht4 : t < 4
  · have ht4' : (t : Int) < 4 := by omega
    have ht0 : (0 : Int) ≤ t := by omega
    have hw : IntKind.i64.wrap ((t : Int) + 1) = (t : Int) + 1 := wrap_small (by omega) (by omega)
    have hLt := hLg t ht4
    repeat' (first | simp only [push_cast, Nat.reduceEqDiff, Nat.reduceAdd, Nat.reduceMul, Nat.reduceLeDiff, Nat.reduceLT, reduceIte, reduceCtorEq, Nat.reduceShiftRight, Nat.reduceAnd, Nat.reducePow, Nat.reduceOr, Nat.reduceBNe, Nat.reduceBEq, Int.reduceToNat, Int.reduceLT, Int.reduceLE, Int.reduceGT, Int.reduceGE, Int.reduceEq, Int.reduceNe, Int.reduceNeg, Int.reduceAdd, Int.reduceSub, Int.reduceMul, EE_P, h0, h2, h4, h5, h6, ht4', ht0, hw, Int.toNat_natCast] | simp (disch := omega) only [wrap_fits] | ((first | with_reducible apply wcall_pure | with_reducible apply wdcall_pure); focus (first | assumption | exact validLines_fn (by assumption) | exact refhund_fn ⟨_, _⟩ | exact refsub_fn ⟨_, _⟩ ⟨_, _⟩ | exact refzero_fn)) | (with_reducible refine wguard_split_t (fun h => ?_) (fun h => ?_)) | (with_reducible refine wguard_split_f (fun h => ?_) (fun h => ?_)) | (with_reducible refine wcond_split (fun h => ?_) (fun h => ?_)) | (with_reducible refine wdguard_split_t (fun h => ?_) (fun h => ?_)) | (with_reducible refine wdguard_split_f (fun h => ?_) (fun h => ?_)) | (with_reducible refine And.intro (fun h => ?_) (fun h => ?_)) | (with_reducible apply And.intro; focus omega))
    refine wloop_by (fun m2 sl2 σ2 nx2 => ∃ (j : Nat) (pv2 : PV), j ≤ ls.length ∧ m2 = ls.length - j ∧ nx' ≤ nx2 ∧ sl2 0 = v ∧ sl2 2 = .ptr nx 0 0 ∧ sl2 4 = .ptr k4 0 0 ∧ sl2 5 = .row k5 0 4 ∧ sl2 6 = .int .i64 t ∧ sl2 7 = .int .i64 j ∧
      σ2 nx = some (.row [[.nil, .int .i64 0, .int .i64 0, .int .i64 0]]) ∧ σ2 k4 = some (.row [[pv2, .int .i64 (stepsTo (kindAt t) (funAt ls t) ls (phase ls m0S t) j).pts.n, .int .i64 (stepsTo (kindAt t) (funAt ls t) ls (phase ls m0S t) j).pts.d, .int .i64 0]]) ∧ σ2 k5 = some (.row L) ∧
      (stepsTo (kindAt t) (funAt ls t) ls (phase ls m0S t) j).wrong = false ∧ Grown σ2 X nx2 pv2 ((stepsTo (kindAt t) (funAt ls t) ls (phase ls m0S t) j).parts.map Part.cs) ∧ Keeps σ σ2) ls.length
      ⟨0, pv, by omega, rfl, by omega, ?_, ?_, ?_, ?_, ?_, rfl, hsn, hs4, hs5, hwr, ?_, hk⟩ ?_
    · simp only [upd_at, push_cast, Nat.reduceEqDiff, Nat.reduceAdd, Nat.reduceMul, Nat.reduceLeDiff, Nat.reduceLT, reduceIte, reduceCtorEq, Nat.reduceShiftRight, Nat.reduceAnd, Nat.reducePow, Nat.reduceOr, Nat.reduceBNe, Nat.reduceBEq, Int.reduceToNat, Int.reduceLT, Int.reduceLE, Int.reduceGT, Int.reduceGE, Int.reduceEq, Int.reduceNe, Int.reduceNeg, Int.reduceAdd, Int.reduceSub, Int.reduceMul, h0]
    · simp only [upd_at, push_cast, Nat.reduceEqDiff, Nat.reduceAdd, Nat.reduceMul, Nat.reduceLeDiff, Nat.reduceLT, reduceIte, reduceCtorEq, Nat.reduceShiftRight, Nat.reduceAnd, Nat.reducePow, Nat.reduceOr, Nat.reduceBNe, Nat.reduceBEq, Int.reduceToNat, Int.reduceLT, Int.reduceLE, Int.reduceGT, Int.reduceGE, Int.reduceEq, Int.reduceNe, Int.reduceNeg, Int.reduceAdd, Int.reduceSub, Int.reduceMul, h2]
    · simp only [upd_at, push_cast, Nat.reduceEqDiff, Nat.reduceAdd, Nat.reduceMul, Nat.reduceLeDiff, Nat.reduceLT, reduceIte, reduceCtorEq, Nat.reduceShiftRight, Nat.reduceAnd, Nat.reducePow, Nat.reduceOr, Nat.reduceBNe, Nat.reduceBEq, Int.reduceToNat, Int.reduceLT, Int.reduceLE, Int.reduceGT, Int.reduceGE, Int.reduceEq, Int.reduceNe, Int.reduceNeg, Int.reduceAdd, Int.reduceSub, Int.reduceMul, h4]
    · simp only [upd_at, push_cast, Nat.reduceEqDiff, Nat.reduceAdd, Nat.reduceMul, Nat.reduceLeDiff, Nat.reduceLT, reduceIte, reduceCtorEq, Nat.reduceShiftRight, Nat.reduceAnd, Nat.reducePow, Nat.reduceOr, Nat.reduceBNe, Nat.reduceBEq, Int.reduceToNat, Int.reduceLT, Int.reduceLE, Int.reduceGT, Int.reduceGE, Int.reduceEq, Int.reduceNe, Int.reduceNeg, Int.reduceAdd, Int.reduceSub, Int.reduceMul, h5]
    · simp only [upd_at, push_cast, Nat.reduceEqDiff, Nat.reduceAdd, Nat.reduceMul, Nat.reduceLeDiff, Nat.reduceLT, reduceIte, reduceCtorEq, Nat.reduceShiftRight, Nat.reduceAnd, Nat.reducePow, Nat.reduceOr, Nat.reduceBNe, Nat.reduceBEq, Int.reduceToNat, Int.reduceLT, Int.reduceLE, Int.reduceGT, Int.reduceGE, Int.reduceEq, Int.reduceNe, Int.reduceNeg, Int.reduceAdd, Int.reduceSub, Int.reduceMul, h6]
    · exact hg.keep (by omega) fun _ _ _ => rfl
    clear h0 h2 h4 h5 h6 hsn hs4 hs5 hg hk
    rintro m2 sl2 σ2 nx2 ⟨j, pv2, hj, hm2, hnx2, h0, h2, h4, h5, h6, h7, hsn, hs4, hs5, hwr2, hg, hk⟩
    have hnn2 : nx < nx2 := by omega
    have c42 : k4 < nx2 := by omega
    have c52 : k5 < nx2 := by omega
    have hj0 : (0 : Int) ≤ j := by omega
    by_cases hjl : j < ls.length
    · have hjl' : (j : Int) < ls.length := by omega
      have hwj : IntKind.i64.wrap ((j : Int) + 1) = (j : Int) + 1 := wrap_small (by omega) (by omega)
      obtain rfl : v = .list (ls.map Line.cs) := hv.lt (i := j) (by simpa using hjl)
      have hx : ls[j]? = some ls[j] := List.getElem?_eq_getElem hjl
      have hget : (ls.map Line.cs)[j]? = some ls[j].cs := by rw [List.getElem?_map, hx]; rfl
      have hst := stepsTo_succ (kind := kindAt t) (f := funAt ls t) (m := phase ls m0S t) hjl
      have hbad : ∀ i, i ≤ ls.length → (stepsTo (kindAt t) (funAt ls t) ls (phase ls m0S t) i).wrong = true → combineS ls = (zeroCredit, 2) := fun i hi hw => combine_wrong_end hvs ht4 hi hw
      have hbad := hbad (j + 1) (by omega)
      have hpk := steps_pok hr t j hj
      have hML : (stepsTo (kindAt t) (funAt ls t) ls (phase ls m0S t) j).parts.length ≤ 1000 := by
        have q1 := stepsTo_len (kind := kindAt t) (funAt_len ls t) ls (phase ls m0S t) j
        have q2 := phase_len ls m0S t
        have q3 : t * ls.length ≤ 3 * 32 := Nat.mul_le_mul (by omega) (by omega)
        have q4 : m0S.parts.length = 0 := rfl
        rw [q4] at q2
        omega
      generalize ls[j] = l at hx hget hst
      generalize stepsTo (kindAt t) (funAt ls t) ls (phase ls m0S t) j = M at hst hpk hs4 hwr2 hg hML
      generalize hM' : stepsTo (kindAt t) (funAt ls t) ls (phase ls m0S t) (j + 1) = M' at hst hbad
      by_cases hc : l.app = true ∧ l.kind = kindAt t
      · obtain ⟨ha, hkd⟩ := hc
        rw [if_pos (by simp [ha, hkd])] at hst
        have hpp : Fok M.pts := by
          rcases hpk with h | ⟨h, _⟩
          · rw [hwr2] at h; cases h
          · exact h
        have hsame := step_same hr hx ha hkd hwr2 hpp
        have hstep := refstep_fn hr (by omega) hx ha M.pts
        generalize stepR ls j l M.pts = r at hsame hstep
        rw [← hst] at hsame
        rcases hsame with ⟨s1, s2, s3⟩ | ⟨s1, s2⟩
        · repeat' (first | simp only [push_cast, Nat.reduceEqDiff, Nat.reduceAdd, Nat.reduceMul, Nat.reduceLeDiff, Nat.reduceLT, reduceIte, reduceCtorEq, Nat.reduceShiftRight, Nat.reduceAnd, Nat.reducePow, Nat.reduceOr, Nat.reduceBNe, Nat.reduceBEq, Int.reduceToNat, Int.reduceLT, Int.reduceLE, Int.reduceGT, Int.reduceGE, Int.reduceEq, Int.reduceNe, Int.reduceNeg, Int.reduceAdd, Int.reduceSub, Int.reduceMul, EE_P, h0, h2, h4, h5, h6, h7, hvl, hj0, hjl', hwj, hget, hLt, hL4, ht4', ht0, ha, hkd, s1, s2, (key_ne hnn2).1, (key_ne hnn2).2.1, (key_ne hnn2).2.2.1, (key_ne hnn2).2.2.2, (key_ne c42).1, (key_ne c42).2.1, (key_ne c42).2.2.1, (key_ne c42).2.2.2, (key_ne c52).1, (key_ne c52).2.1, (key_ne c52).2.2.1, (key_ne c52).2.2.2, (ne_keys d4).1, (ne_keys d4).2, (ne_keys d5).1, (ne_keys d5).2, (ne_keys h45).1, (ne_keys h45).2, hsn, hs4, hs5, List.length_map, Int.toNat_natCast] | simp (disch := omega) only [wrap_fits] | ((first | with_reducible apply wcall_pure | with_reducible apply wdcall_pure); focus (first | assumption | exact validLines_fn (by assumption) | exact refhund_fn ⟨_, _⟩ | exact refsub_fn ⟨_, _⟩ ⟨_, _⟩ | exact refzero_fn)) | (with_reducible refine wguard_split_t (fun h => ?_) (fun h => ?_)) | (with_reducible refine wguard_split_f (fun h => ?_) (fun h => ?_)) | (with_reducible refine wcond_split (fun h => ?_) (fun h => ?_)) | (with_reducible refine wdguard_split_t (fun h => ?_) (fun h => ?_)) | (with_reducible refine wdguard_split_f (fun h => ?_) (fun h => ?_)) | (with_reducible refine And.intro (fun h => ?_) (fun h => ?_)) | (with_reducible apply And.intro; focus omega))
          refine ⟨ls.length - (j + 1), by omega, j + 1, pv2, by omega, rfl, by omega, by simp, by rw [hM', s3], by rw [hM', s3]; exact hwr2, ?_, (by repeat' (first | exact Keeps.refl _ | assumption | exact (hwf.keep1 _) | refine Keeps.new hwf ?_ (by omega) _))⟩
          rw [hM', s3]
          exact hg.keep (by omega) fun k h1 h2 => by rw [upd_other _ _ (by omega), upd_other _ _ (by omega)]
        · by_cases he : r.err = 0
          · by_cases hs : fsubErr r.pts M.pts = 0
            · have hM2 : M' = { M with parts := M.parts ++ [Part.mk r.name (fsub r.pts M.pts)], pts := r.pts } := by
                rw [s2]
                unfold becomeS
                rw [if_neg]
                rintro (h | h | h)
                · rw [hwr2] at h; cases h
                · exact h he
                · exact h hs
              generalize hec : M.parts.map Part.cs = ec at hg
              cases hg with
              | nil =>
                repeat' (first | simp only [push_cast, Nat.reduceEqDiff, Nat.reduceAdd, Nat.reduceMul, Nat.reduceLeDiff, Nat.reduceLT, reduceIte, reduceCtorEq, Nat.reduceShiftRight, Nat.reduceAnd, Nat.reducePow, Nat.reduceOr, Nat.reduceBNe, Nat.reduceBEq, Int.reduceToNat, Int.reduceLT, Int.reduceLE, Int.reduceGT, Int.reduceGE, Int.reduceEq, Int.reduceNe, Int.reduceNeg, Int.reduceAdd, Int.reduceSub, Int.reduceMul, EE_P, h0, h2, h4, h5, h6, h7, hvl, hj0, hjl', hwj, hget, hLt, hL4, ht4', ht0, ha, hkd, s1, he, hs, (key_ne hnn2).1, (key_ne hnn2).2.1, (key_ne hnn2).2.2.1, (key_ne hnn2).2.2.2, (key_ne c42).1, (key_ne c42).2.1, (key_ne c42).2.2.1, (key_ne c42).2.2.2, (key_ne c52).1, (key_ne c52).2.1, (key_ne c52).2.2.1, (key_ne c52).2.2.2, (ne_keys d4).1, (ne_keys d4).2, (ne_keys d5).1, (ne_keys d5).2, (ne_keys h45).1, (ne_keys h45).2, hsn, hs4, hs5, List.length_map, Int.toNat_natCast] | simp (disch := omega) only [wrap_fits] | ((first | with_reducible apply wcall_pure | with_reducible apply wdcall_pure); focus (first | assumption | exact validLines_fn (by assumption) | exact refhund_fn ⟨_, _⟩ | exact refsub_fn ⟨_, _⟩ ⟨_, _⟩ | exact refzero_fn)) | (with_reducible refine wguard_split_t (fun h => ?_) (fun h => ?_)) | (with_reducible refine wguard_split_f (fun h => ?_) (fun h => ?_)) | (with_reducible refine wcond_split (fun h => ?_) (fun h => ?_)) | (with_reducible refine wdguard_split_t (fun h => ?_) (fun h => ?_)) | (with_reducible refine wdguard_split_f (fun h => ?_) (fun h => ?_)) | (with_reducible refine And.intro (fun h => ?_) (fun h => ?_)) | (with_reducible apply And.intro; focus omega))
                refine ⟨by simp only [roomFor, push_cast, Nat.reduceEqDiff, Nat.reduceAdd, Nat.reduceMul, Nat.reduceLeDiff, Nat.reduceLT, reduceIte, reduceCtorEq, Nat.reduceShiftRight, Nat.reduceAnd, Nat.reducePow, Nat.reduceOr, Nat.reduceBNe, Nat.reduceBEq, Int.reduceToNat, Int.reduceLT, Int.reduceLE, Int.reduceGT, Int.reduceGE, Int.reduceEq, Int.reduceNe, Int.reduceNeg, Int.reduceAdd, Int.reduceSub, Int.reduceMul]; try decide, ls.length - (j + 1), by omega, j + 1, .row (nx2 + 59) 0 (1), by omega, rfl, by omega, by simp, by rw [hM', hM2], by rw [hM', hM2]; exact hwr2, ?_, (by repeat' (first | exact Keeps.refl _ | assumption | exact (hwf.keep1 _) | refine Keeps.new hwf ?_ (by omega) _))⟩
                rw [hM', hM2]
                show Grown _ _ _ _ ((M.parts ++ [_]).map Part.cs)
                rw [List.map_append, hec]
                exact .mk (by omega) (by omega) (by simp only [upd_at, push_cast, Nat.reduceEqDiff, Nat.reduceAdd, Nat.reduceMul, Nat.reduceLeDiff, Nat.reduceLT, reduceIte, reduceCtorEq, Nat.reduceShiftRight, Nat.reduceAnd, Nat.reducePow, Nat.reduceOr, Nat.reduceBNe, Nat.reduceBEq, Int.reduceToNat, Int.reduceLT, Int.reduceLE, Int.reduceGT, Int.reduceGE, Int.reduceEq, Int.reduceNe, Int.reduceNeg, Int.reduceAdd, Int.reduceSub, Int.reduceMul, Part.cs, (key_ne c42).1, (key_ne c42).2.1, (key_ne c42).2.2.1, (key_ne c42).2.2.2]; try rfl) (by simp) (by omega)
              | row kp _ g1 g2 g3 g4 =>
                have gl : ec.length = M.parts.length := by rw [← hec, List.length_map]
                have gl0 : ¬ ec.length = 0 := fun e => g4 (List.length_eq_zero_iff.1 e)
                have gd4 : k4 ≠ kp := by omega
                have gd5 : k5 ≠ kp := by omega
                have gdn : nx ≠ kp := by omega
                repeat' (first | simp only [push_cast, Nat.reduceEqDiff, Nat.reduceAdd, Nat.reduceMul, Nat.reduceLeDiff, Nat.reduceLT, reduceIte, reduceCtorEq, Nat.reduceShiftRight, Nat.reduceAnd, Nat.reducePow, Nat.reduceOr, Nat.reduceBNe, Nat.reduceBEq, Int.reduceToNat, Int.reduceLT, Int.reduceLE, Int.reduceGT, Int.reduceGE, Int.reduceEq, Int.reduceNe, Int.reduceNeg, Int.reduceAdd, Int.reduceSub, Int.reduceMul, EE_P, h0, h2, h4, h5, h6, h7, hvl, hj0, hjl', hwj, hget, hLt, hL4, ht4', ht0, ha, hkd, s1, he, hs, (key_ne hnn2).1, (key_ne hnn2).2.1, (key_ne hnn2).2.2.1, (key_ne hnn2).2.2.2, (key_ne c42).1, (key_ne c42).2.1, (key_ne c42).2.2.1, (key_ne c42).2.2.2, (key_ne c52).1, (key_ne c52).2.1, (key_ne c52).2.2.1, (key_ne c52).2.2.2, (ne_keys d4).1, (ne_keys d4).2, (ne_keys d5).1, (ne_keys d5).2, (ne_keys h45).1, (ne_keys h45).2, hsn, hs4, hs5, List.length_map, Int.toNat_natCast, (key_ne g2).1, (key_ne g2).2.1, (key_ne g2).2.2.1, (key_ne g2).2.2.2, g3, gl0, (ne_keys gd4).1, (ne_keys gd4).2, (ne_keys gd5).1, (ne_keys gd5).2, (ne_keys gdn).1, (ne_keys gdn).2] | simp (disch := omega) only [wrap_fits] | ((first | with_reducible apply wcall_pure | with_reducible apply wdcall_pure); focus (first | assumption | exact validLines_fn (by assumption) | exact refhund_fn ⟨_, _⟩ | exact refsub_fn ⟨_, _⟩ ⟨_, _⟩ | exact refzero_fn)) | (with_reducible refine wguard_split_t (fun h => ?_) (fun h => ?_)) | (with_reducible refine wguard_split_f (fun h => ?_) (fun h => ?_)) | (with_reducible refine wcond_split (fun h => ?_) (fun h => ?_)) | (with_reducible refine wdguard_split_t (fun h => ?_) (fun h => ?_)) | (with_reducible refine wdguard_split_f (fun h => ?_) (fun h => ?_)) | (with_reducible refine And.intro (fun h => ?_) (fun h => ?_)) | (with_reducible apply And.intro; focus omega))
                refine ⟨⟨by simp; omega, .inl trivial, by simp only [roomFor, push_cast, Nat.reduceEqDiff, Nat.reduceAdd, Nat.reduceMul, Nat.reduceLeDiff, Nat.reduceLT, reduceIte, reduceCtorEq, Nat.reduceShiftRight, Nat.reduceAnd, Nat.reducePow, Nat.reduceOr, Nat.reduceBNe, Nat.reduceBEq, Int.reduceToNat, Int.reduceLT, Int.reduceLE, Int.reduceGT, Int.reduceGE, Int.reduceEq, Int.reduceNe, Int.reduceNeg, Int.reduceAdd, Int.reduceSub, Int.reduceMul]; omega, fun c hc => by rw [← hec] at hc; exact (parts3' _ c hc).1⟩, ls.length - (j + 1), by omega, j + 1, .row (nx2 + 59) 0 (ec.length + 1), by omega, rfl, by omega, by simp, by rw [hM', hM2], by rw [hM', hM2]; exact hwr2, ?_, (by repeat' (first | exact Keeps.refl _ | assumption | exact (hwf.keep1 _) | refine Keeps.new hwf ?_ (by omega) _))⟩
                rw [hM', hM2]
                show Grown _ _ _ _ ((M.parts ++ [_]).map Part.cs)
                rw [List.map_append, hec]
                exact .mk (by omega) (by omega) (by simp only [upd_at, push_cast, Nat.reduceEqDiff, Nat.reduceAdd, Nat.reduceMul, Nat.reduceLeDiff, Nat.reduceLT, reduceIte, reduceCtorEq, Nat.reduceShiftRight, Nat.reduceAnd, Nat.reducePow, Nat.reduceOr, Nat.reduceBNe, Nat.reduceBEq, Int.reduceToNat, Int.reduceLT, Int.reduceLE, Int.reduceGT, Int.reduceGE, Int.reduceEq, Int.reduceNe, Int.reduceNeg, Int.reduceAdd, Int.reduceSub, Int.reduceMul, Part.cs, (key_ne c42).1, (key_ne c42).2.1, (key_ne c42).2.2.1, (key_ne c42).2.2.2]; try rfl) (by simp) (by omega)
            · rw [hbad (by rw [s2]; unfold becomeS; rw [if_pos (.inr (.inr hs))]), zero_val]
              repeat' (first | simp only [push_cast, Nat.reduceEqDiff, Nat.reduceAdd, Nat.reduceMul, Nat.reduceLeDiff, Nat.reduceLT, reduceIte, reduceCtorEq, Nat.reduceShiftRight, Nat.reduceAnd, Nat.reducePow, Nat.reduceOr, Nat.reduceBNe, Nat.reduceBEq, Int.reduceToNat, Int.reduceLT, Int.reduceLE, Int.reduceGT, Int.reduceGE, Int.reduceEq, Int.reduceNe, Int.reduceNeg, Int.reduceAdd, Int.reduceSub, Int.reduceMul, EE_P, h0, h2, h4, h5, h6, h7, hvl, hj0, hjl', hwj, hget, hLt, hL4, ht4', ht0, ha, hkd, s1, he, hs, (key_ne hnn2).1, (key_ne hnn2).2.1, (key_ne hnn2).2.2.1, (key_ne hnn2).2.2.2, (key_ne c42).1, (key_ne c42).2.1, (key_ne c42).2.2.1, (key_ne c42).2.2.2, (key_ne c52).1, (key_ne c52).2.1, (key_ne c52).2.2.1, (key_ne c52).2.2.2, (ne_keys d4).1, (ne_keys d4).2, (ne_keys d5).1, (ne_keys d5).2, (ne_keys h45).1, (ne_keys h45).2, hsn, hs4, hs5, List.length_map, Int.toNat_natCast] | simp (disch := omega) only [wrap_fits] | ((first | with_reducible apply wcall_pure | with_reducible apply wdcall_pure); focus (first | assumption | exact validLines_fn (by assumption) | exact refhund_fn ⟨_, _⟩ | exact refsub_fn ⟨_, _⟩ ⟨_, _⟩ | exact refzero_fn)) | (with_reducible refine wguard_split_t (fun h => ?_) (fun h => ?_)) | (with_reducible refine wguard_split_f (fun h => ?_) (fun h => ?_)) | (with_reducible refine wcond_split (fun h => ?_) (fun h => ?_)) | (with_reducible refine wdguard_split_t (fun h => ?_) (fun h => ?_)) | (with_reducible refine wdguard_split_f (fun h => ?_) (fun h => ?_)) | (with_reducible refine And.intro (fun h => ?_) (fun h => ?_)) | (with_reducible apply And.intro; focus omega))
              ((refine ends_ret (by simp only [resultsOf, resOf, push_cast, Nat.reduceEqDiff, Nat.reduceAdd, Nat.reduceMul, Nat.reduceLeDiff, Nat.reduceLT, reduceIte, reduceCtorEq, Nat.reduceShiftRight, Nat.reduceAnd, Nat.reducePow, Nat.reduceOr, Nat.reduceBNe, Nat.reduceBEq, Int.reduceToNat, Int.reduceLT, Int.reduceLE, Int.reduceGT, Int.reduceGE, Int.reduceEq, Int.reduceNe, Int.reduceNeg, Int.reduceAdd, Int.reduceSub, Int.reduceMul, EE_P, h2]; rfl) (by simp only [push_cast, Nat.reduceEqDiff, Nat.reduceAdd, Nat.reduceMul, Nat.reduceLeDiff, Nat.reduceLT, reduceIte, reduceCtorEq, Nat.reduceShiftRight, Nat.reduceAnd, Nat.reducePow, Nat.reduceOr, Nat.reduceBNe, Nat.reduceBEq, Int.reduceToNat, Int.reduceLT, Int.reduceLE, Int.reduceGT, Int.reduceGE, Int.reduceEq, Int.reduceNe, Int.reduceNeg, Int.reduceAdd, Int.reduceSub, Int.reduceMul, EE_P, h2]) ?_ (by repeat' (first | exact Keeps.refl _ | assumption | exact (hwf.keep1 _) | refine Keeps.new hwf ?_ (by omega) _)) (by simp only [lt_int, lt_bool, lt_str, lt_nil, lt_empty, lt_agg, lt_tup, lt_list, lt_cells, lt_fn, lt_nilp, lt_nilfn, lt_nili, List.mem_cons, List.not_mem_nil, or_false, forall_eq_or_imp, forall_eq, and_true, true_and, and_self, implies_true, *]; try omega)); (try simp only [tupOf, push_cast, Nat.reduceEqDiff, Nat.reduceAdd, Nat.reduceMul, Nat.reduceLeDiff, Nat.reduceLT, reduceIte, reduceCtorEq, Nat.reduceShiftRight, Nat.reduceAnd, Nat.reducePow, Nat.reduceOr, Nat.reduceBNe, Nat.reduceBEq, Int.reduceToNat, Int.reduceLT, Int.reduceLE, Int.reduceGT, Int.reduceGE, Int.reduceEq, Int.reduceNe, Int.reduceNeg, Int.reduceAdd, Int.reduceSub, Int.reduceMul, EE_P, h2]))
          · rw [hbad (by rw [s2]; unfold becomeS; rw [if_pos (.inr (.inl he))]), zero_val]
            repeat' (first | simp only [push_cast, Nat.reduceEqDiff, Nat.reduceAdd, Nat.reduceMul, Nat.reduceLeDiff, Nat.reduceLT, reduceIte, reduceCtorEq, Nat.reduceShiftRight, Nat.reduceAnd, Nat.reducePow, Nat.reduceOr, Nat.reduceBNe, Nat.reduceBEq, Int.reduceToNat, Int.reduceLT, Int.reduceLE, Int.reduceGT, Int.reduceGE, Int.reduceEq, Int.reduceNe, Int.reduceNeg, Int.reduceAdd, Int.reduceSub, Int.reduceMul, EE_P, h0, h2, h4, h5, h6, h7, hvl, hj0, hjl', hwj, hget, hLt, hL4, ht4', ht0, ha, hkd, s1, he, (key_ne hnn2).1, (key_ne hnn2).2.1, (key_ne hnn2).2.2.1, (key_ne hnn2).2.2.2, (key_ne c42).1, (key_ne c42).2.1, (key_ne c42).2.2.1, (key_ne c42).2.2.2, (key_ne c52).1, (key_ne c52).2.1, (key_ne c52).2.2.1, (key_ne c52).2.2.2, (ne_keys d4).1, (ne_keys d4).2, (ne_keys d5).1, (ne_keys d5).2, (ne_keys h45).1, (ne_keys h45).2, hsn, hs4, hs5, List.length_map, Int.toNat_natCast] | simp (disch := omega) only [wrap_fits] | ((first | with_reducible apply wcall_pure | with_reducible apply wdcall_pure); focus (first | assumption | exact validLines_fn (by assumption) | exact refhund_fn ⟨_, _⟩ | exact refsub_fn ⟨_, _⟩ ⟨_, _⟩ | exact refzero_fn)) | (with_reducible refine wguard_split_t (fun h => ?_) (fun h => ?_)) | (with_reducible refine wguard_split_f (fun h => ?_) (fun h => ?_)) | (with_reducible refine wcond_split (fun h => ?_) (fun h => ?_)) | (with_reducible refine wdguard_split_t (fun h => ?_) (fun h => ?_)) | (with_reducible refine wdguard_split_f (fun h => ?_) (fun h => ?_)) | (with_reducible refine And.intro (fun h => ?_) (fun h => ?_)) | (with_reducible apply And.intro; focus omega))
            ((refine ends_ret (by simp only [resultsOf, resOf, push_cast, Nat.reduceEqDiff, Nat.reduceAdd, Nat.reduceMul, Nat.reduceLeDiff, Nat.reduceLT, reduceIte, reduceCtorEq, Nat.reduceShiftRight, Nat.reduceAnd, Nat.reducePow, Nat.reduceOr, Nat.reduceBNe, Nat.reduceBEq, Int.reduceToNat, Int.reduceLT, Int.reduceLE, Int.reduceGT, Int.reduceGE, Int.reduceEq, Int.reduceNe, Int.reduceNeg, Int.reduceAdd, Int.reduceSub, Int.reduceMul, EE_P, h2]; rfl) (by simp only [push_cast, Nat.reduceEqDiff, Nat.reduceAdd, Nat.reduceMul, Nat.reduceLeDiff, Nat.reduceLT, reduceIte, reduceCtorEq, Nat.reduceShiftRight, Nat.reduceAnd, Nat.reducePow, Nat.reduceOr, Nat.reduceBNe, Nat.reduceBEq, Int.reduceToNat, Int.reduceLT, Int.reduceLE, Int.reduceGT, Int.reduceGE, Int.reduceEq, Int.reduceNe, Int.reduceNeg, Int.reduceAdd, Int.reduceSub, Int.reduceMul, EE_P, h2]) ?_ (by repeat' (first | exact Keeps.refl _ | assumption | exact (hwf.keep1 _) | refine Keeps.new hwf ?_ (by omega) _)) (by simp only [lt_int, lt_bool, lt_str, lt_nil, lt_empty, lt_agg, lt_tup, lt_list, lt_cells, lt_fn, lt_nilp, lt_nilfn, lt_nili, List.mem_cons, List.not_mem_nil, or_false, forall_eq_or_imp, forall_eq, and_true, true_and, and_self, implies_true, *]; try omega)); (try simp only [tupOf, push_cast, Nat.reduceEqDiff, Nat.reduceAdd, Nat.reduceMul, Nat.reduceLeDiff, Nat.reduceLT, reduceIte, reduceCtorEq, Nat.reduceShiftRight, Nat.reduceAnd, Nat.reducePow, Nat.reduceOr, Nat.reduceBNe, Nat.reduceBEq, Int.reduceToNat, Int.reduceLT, Int.reduceLE, Int.reduceGT, Int.reduceGE, Int.reduceEq, Int.reduceNe, Int.reduceNeg, Int.reduceAdd, Int.reduceSub, Int.reduceMul, EE_P, h2]))
      · rw [if_neg (by simpa using hc)] at hst
        repeat' (first | simp only [push_cast, Nat.reduceEqDiff, Nat.reduceAdd, Nat.reduceMul, Nat.reduceLeDiff, Nat.reduceLT, reduceIte, reduceCtorEq, Nat.reduceShiftRight, Nat.reduceAnd, Nat.reducePow, Nat.reduceOr, Nat.reduceBNe, Nat.reduceBEq, Int.reduceToNat, Int.reduceLT, Int.reduceLE, Int.reduceGT, Int.reduceGE, Int.reduceEq, Int.reduceNe, Int.reduceNeg, Int.reduceAdd, Int.reduceSub, Int.reduceMul, EE_P, h0, h2, h4, h5, h6, h7, hvl, hj0, hjl', hwj, hget, hLt, hL4, ht4', ht0, (key_ne hnn2).1, (key_ne hnn2).2.1, (key_ne hnn2).2.2.1, (key_ne hnn2).2.2.2, (key_ne c42).1, (key_ne c42).2.1, (key_ne c42).2.2.1, (key_ne c42).2.2.2, (key_ne c52).1, (key_ne c52).2.1, (key_ne c52).2.2.1, (key_ne c52).2.2.2, (ne_keys d4).1, (ne_keys d4).2, (ne_keys d5).1, (ne_keys d5).2, (ne_keys h45).1, (ne_keys h45).2, hsn, hs4, hs5, List.length_map, Int.toNat_natCast] | simp (disch := omega) only [wrap_fits] | ((first | with_reducible apply wcall_pure | with_reducible apply wdcall_pure); focus (first | assumption | exact validLines_fn (by assumption) | exact refhund_fn ⟨_, _⟩ | exact refsub_fn ⟨_, _⟩ ⟨_, _⟩ | exact refzero_fn)) | (with_reducible refine wguard_split_t (fun h => ?_) (fun h => ?_)) | (with_reducible refine wguard_split_f (fun h => ?_) (fun h => ?_)) | (with_reducible refine wcond_split (fun h => ?_) (fun h => ?_)) | (with_reducible refine wdguard_split_t (fun h => ?_) (fun h => ?_)) | (with_reducible refine wdguard_split_f (fun h => ?_) (fun h => ?_)) | (with_reducible refine And.intro (fun h => ?_) (fun h => ?_)) | (with_reducible apply And.intro; focus omega))
        all_goals (try (exfalso; simp_all; done))
        all_goals
          refine ⟨ls.length - (j + 1), by omega, j + 1, pv2, by omega, rfl, by omega, by simp, by rw [hM', hst], by rw [hM', hst]; exact hwr2, ?_, (by repeat' (first | exact Keeps.refl _ | assumption | exact (hwf.keep1 _) | refine Keeps.new hwf ?_ (by omega) _))⟩
          rw [hM', hst]
          exact hg.keep (by omega) fun _ _ _ => rfl
    · have hjl' : ¬ (j : Int) < ls.length := by omega
      obtain rfl : j = ls.length := by omega
      repeat' (first | simp only [push_cast, Nat.reduceEqDiff, Nat.reduceAdd, Nat.reduceMul, Nat.reduceLeDiff, Nat.reduceLT, reduceIte, reduceCtorEq, Nat.reduceShiftRight, Nat.reduceAnd, Nat.reducePow, Nat.reduceOr, Nat.reduceBNe, Nat.reduceBEq, Int.reduceToNat, Int.reduceLT, Int.reduceLE, Int.reduceGT, Int.reduceGE, Int.reduceEq, Int.reduceNe, Int.reduceNeg, Int.reduceAdd, Int.reduceSub, Int.reduceMul, EE_P, h0, h2, h4, h5, h6, h7, hvl, hv.str, hjl', hw] | simp (disch := omega) only [wrap_fits] | ((first | with_reducible apply wcall_pure | with_reducible apply wdcall_pure); focus (first | assumption | exact validLines_fn (by assumption) | exact refhund_fn ⟨_, _⟩ | exact refsub_fn ⟨_, _⟩ ⟨_, _⟩ | exact refzero_fn)) | (with_reducible refine wguard_split_t (fun h => ?_) (fun h => ?_)) | (with_reducible refine wguard_split_f (fun h => ?_) (fun h => ?_)) | (with_reducible refine wcond_split (fun h => ?_) (fun h => ?_)) | (with_reducible refine wdguard_split_t (fun h => ?_) (fun h => ?_)) | (with_reducible refine wdguard_split_f (fun h => ?_) (fun h => ?_)) | (with_reducible refine And.intro (fun h => ?_) (fun h => ?_)) | (with_reducible apply And.intro; focus omega))
      exact ⟨4 - (t + 1), by omega, t + 1, k4, k5, X, pv2, by omega, rfl, a4, b4, a5, b5, h45, by omega, rfl, rfl, by simp, hsn, hs4, hs5, hwr2, hg.keep (by omega) fun _ _ _ => rfl, hk⟩
  · have ht4' : ¬ (t : Int) < 4 := by omega
    obtain rfl : t = 4 := by omega
    have hpk := phase_pok hr 4
    have hce := combine_valid hvs
    generalize phase ls m0S 4 = P at hs4 hwr hg hpk hce
    have hpp : Fok P.pts := by
      rcases hpk with h | ⟨h, _⟩
      · rw [hwr] at h; cases h
      · exact h
    have hh := refhund_fn P.pts
    by_cases hb : hundS P.pts > 100000000
    · rw [hce, show finishS P = (zeroCredit, 2) from if_pos (.inr (.inr hb)), zero_val]
      repeat' (first | simp only [push_cast, Nat.reduceEqDiff, Nat.reduceAdd, Nat.reduceMul, Nat.reduceLeDiff, Nat.reduceLT, reduceIte, reduceCtorEq, Nat.reduceShiftRight, Nat.reduceAnd, Nat.reducePow, Nat.reduceOr, Nat.reduceBNe, Nat.reduceBEq, Int.reduceToNat, Int.reduceLT, Int.reduceLE, Int.reduceGT, Int.reduceGE, Int.reduceEq, Int.reduceNe, Int.reduceNeg, Int.reduceAdd, Int.reduceSub, Int.reduceMul, EE_P, h0, h2, h4, h5, h6, ht4', (key_ne hnn).1, (key_ne hnn).2.1, (key_ne hnn).2.2.1, (key_ne hnn).2.2.2, (key_ne c4).1, (key_ne c4).2.1, (key_ne c4).2.2.1, (key_ne c4).2.2.2, (key_ne c5).1, (key_ne c5).2.1, (key_ne c5).2.2.1, (key_ne c5).2.2.2, (ne_keys d4).1, (ne_keys d4).2, (ne_keys d5).1, (ne_keys d5).2, (ne_keys h45).1, (ne_keys h45).2, hsn, hs4, hs5, hb, decide_true] | simp (disch := omega) only [wrap_fits] | ((first | with_reducible apply wcall_pure | with_reducible apply wdcall_pure); focus (first | assumption | exact validLines_fn (by assumption) | exact refhund_fn ⟨_, _⟩ | exact refsub_fn ⟨_, _⟩ ⟨_, _⟩ | exact refzero_fn)) | (with_reducible refine wguard_split_t (fun h => ?_) (fun h => ?_)) | (with_reducible refine wguard_split_f (fun h => ?_) (fun h => ?_)) | (with_reducible refine wcond_split (fun h => ?_) (fun h => ?_)) | (with_reducible refine wdguard_split_t (fun h => ?_) (fun h => ?_)) | (with_reducible refine wdguard_split_f (fun h => ?_) (fun h => ?_)) | (with_reducible refine And.intro (fun h => ?_) (fun h => ?_)) | (with_reducible apply And.intro; focus omega))
      ((refine ends_ret (by simp only [resultsOf, resOf, push_cast, Nat.reduceEqDiff, Nat.reduceAdd, Nat.reduceMul, Nat.reduceLeDiff, Nat.reduceLT, reduceIte, reduceCtorEq, Nat.reduceShiftRight, Nat.reduceAnd, Nat.reducePow, Nat.reduceOr, Nat.reduceBNe, Nat.reduceBEq, Int.reduceToNat, Int.reduceLT, Int.reduceLE, Int.reduceGT, Int.reduceGE, Int.reduceEq, Int.reduceNe, Int.reduceNeg, Int.reduceAdd, Int.reduceSub, Int.reduceMul, EE_P, h2]; rfl) (by simp only [push_cast, Nat.reduceEqDiff, Nat.reduceAdd, Nat.reduceMul, Nat.reduceLeDiff, Nat.reduceLT, reduceIte, reduceCtorEq, Nat.reduceShiftRight, Nat.reduceAnd, Nat.reducePow, Nat.reduceOr, Nat.reduceBNe, Nat.reduceBEq, Int.reduceToNat, Int.reduceLT, Int.reduceLE, Int.reduceGT, Int.reduceGE, Int.reduceEq, Int.reduceNe, Int.reduceNeg, Int.reduceAdd, Int.reduceSub, Int.reduceMul, EE_P, h2]) ?_ (by repeat' (first | exact Keeps.refl _ | assumption | exact (hwf.keep1 _) | refine Keeps.new hwf ?_ (by omega) _)) (by simp only [lt_int, lt_bool, lt_str, lt_nil, lt_empty, lt_agg, lt_tup, lt_list, lt_cells, lt_fn, lt_nilp, lt_nilfn, lt_nili, List.mem_cons, List.not_mem_nil, or_false, forall_eq_or_imp, forall_eq, and_true, true_and, and_self, implies_true, *]; try omega)); (try simp only [tupOf, push_cast, Nat.reduceEqDiff, Nat.reduceAdd, Nat.reduceMul, Nat.reduceLeDiff, Nat.reduceLT, reduceIte, reduceCtorEq, Nat.reduceShiftRight, Nat.reduceAnd, Nat.reducePow, Nat.reduceOr, Nat.reduceBNe, Nat.reduceBEq, Int.reduceToNat, Int.reduceLT, Int.reduceLE, Int.reduceGT, Int.reduceGE, Int.reduceEq, Int.reduceNe, Int.reduceNeg, Int.reduceAdd, Int.reduceSub, Int.reduceMul, EE_P, h2]))
    · rw [hce, finish_of hwr hpp (by omega)]
      simp only [Credit.val, Credit.pv]
      generalize hec : P.parts.map Part.cs = ec at hg
      cases hg with
      | nil =>
        have hp : P.parts = [] := by simpa using hec
        rw [show partsV P.parts = .nil from if_pos hp]
        repeat' (first | simp only [push_cast, Nat.reduceEqDiff, Nat.reduceAdd, Nat.reduceMul, Nat.reduceLeDiff, Nat.reduceLT, reduceIte, reduceCtorEq, Nat.reduceShiftRight, Nat.reduceAnd, Nat.reducePow, Nat.reduceOr, Nat.reduceBNe, Nat.reduceBEq, Int.reduceToNat, Int.reduceLT, Int.reduceLE, Int.reduceGT, Int.reduceGE, Int.reduceEq, Int.reduceNe, Int.reduceNeg, Int.reduceAdd, Int.reduceSub, Int.reduceMul, EE_P, h0, h2, h4, h5, h6, ht4', (key_ne hnn).1, (key_ne hnn).2.1, (key_ne hnn).2.2.1, (key_ne hnn).2.2.2, (key_ne c4).1, (key_ne c4).2.1, (key_ne c4).2.2.1, (key_ne c4).2.2.2, (key_ne c5).1, (key_ne c5).2.1, (key_ne c5).2.2.1, (key_ne c5).2.2.2, (ne_keys d4).1, (ne_keys d4).2, (ne_keys d5).1, (ne_keys d5).2, (ne_keys h45).1, (ne_keys h45).2, hsn, hs4, hs5, hb, decide_false] | simp (disch := omega) only [wrap_fits] | ((first | with_reducible apply wcall_pure | with_reducible apply wdcall_pure); focus (first | assumption | exact validLines_fn (by assumption) | exact refhund_fn ⟨_, _⟩ | exact refsub_fn ⟨_, _⟩ ⟨_, _⟩ | exact refzero_fn)) | (with_reducible refine wguard_split_t (fun h => ?_) (fun h => ?_)) | (with_reducible refine wguard_split_f (fun h => ?_) (fun h => ?_)) | (with_reducible refine wcond_split (fun h => ?_) (fun h => ?_)) | (with_reducible refine wdguard_split_t (fun h => ?_) (fun h => ?_)) | (with_reducible refine wdguard_split_f (fun h => ?_) (fun h => ?_)) | (with_reducible refine And.intro (fun h => ?_) (fun h => ?_)) | (with_reducible apply And.intro; focus omega))
        ((refine ends_ret (by simp only [resultsOf, resOf, push_cast, Nat.reduceEqDiff, Nat.reduceAdd, Nat.reduceMul, Nat.reduceLeDiff, Nat.reduceLT, reduceIte, reduceCtorEq, Nat.reduceShiftRight, Nat.reduceAnd, Nat.reducePow, Nat.reduceOr, Nat.reduceBNe, Nat.reduceBEq, Int.reduceToNat, Int.reduceLT, Int.reduceLE, Int.reduceGT, Int.reduceGE, Int.reduceEq, Int.reduceNe, Int.reduceNeg, Int.reduceAdd, Int.reduceSub, Int.reduceMul, EE_P, h2]; rfl) (by simp only [push_cast, Nat.reduceEqDiff, Nat.reduceAdd, Nat.reduceMul, Nat.reduceLeDiff, Nat.reduceLT, reduceIte, reduceCtorEq, Nat.reduceShiftRight, Nat.reduceAnd, Nat.reducePow, Nat.reduceOr, Nat.reduceBNe, Nat.reduceBEq, Int.reduceToNat, Int.reduceLT, Int.reduceLE, Int.reduceGT, Int.reduceGE, Int.reduceEq, Int.reduceNe, Int.reduceNeg, Int.reduceAdd, Int.reduceSub, Int.reduceMul, EE_P, h2]) ?_ (by repeat' (first | exact Keeps.refl _ | assumption | exact (hwf.keep1 _) | refine Keeps.new hwf ?_ (by omega) _)) (by simp only [lt_int, lt_bool, lt_str, lt_nil, lt_empty, lt_agg, lt_tup, lt_list, lt_cells, lt_fn, lt_nilp, lt_nilfn, lt_nili, List.mem_cons, List.not_mem_nil, or_false, forall_eq_or_imp, forall_eq, and_true, true_and, and_self, implies_true, *]; try omega)); (try simp only [tupOf, push_cast, Nat.reduceEqDiff, Nat.reduceAdd, Nat.reduceMul, Nat.reduceLeDiff, Nat.reduceLT, reduceIte, reduceCtorEq, Nat.reduceShiftRight, Nat.reduceAnd, Nat.reducePow, Nat.reduceOr, Nat.reduceBNe, Nat.reduceBEq, Int.reduceToNat, Int.reduceLT, Int.reduceLE, Int.reduceGT, Int.reduceGE, Int.reduceEq, Int.reduceNe, Int.reduceNeg, Int.reduceAdd, Int.reduceSub, Int.reduceMul, EE_P, h2]))
      | row kp _ g1 g2 g3 g4 =>
        have hp : ¬ P.parts = [] := fun e => g4 (by rw [← hec, e]; rfl)
        have gd4 : k4 ≠ kp := by omega
        have gdn : nx ≠ kp := by omega
        rw [show partsV P.parts = .list ec from by rw [partsV, if_neg hp, hec]]
        repeat' (first | simp only [push_cast, Nat.reduceEqDiff, Nat.reduceAdd, Nat.reduceMul, Nat.reduceLeDiff, Nat.reduceLT, reduceIte, reduceCtorEq, Nat.reduceShiftRight, Nat.reduceAnd, Nat.reducePow, Nat.reduceOr, Nat.reduceBNe, Nat.reduceBEq, Int.reduceToNat, Int.reduceLT, Int.reduceLE, Int.reduceGT, Int.reduceGE, Int.reduceEq, Int.reduceNe, Int.reduceNeg, Int.reduceAdd, Int.reduceSub, Int.reduceMul, EE_P, h0, h2, h4, h5, h6, ht4', (key_ne hnn).1, (key_ne hnn).2.1, (key_ne hnn).2.2.1, (key_ne hnn).2.2.2, (key_ne c4).1, (key_ne c4).2.1, (key_ne c4).2.2.1, (key_ne c4).2.2.2, (key_ne c5).1, (key_ne c5).2.1, (key_ne c5).2.2.1, (key_ne c5).2.2.2, (ne_keys d4).1, (ne_keys d4).2, (ne_keys d5).1, (ne_keys d5).2, (ne_keys h45).1, (ne_keys h45).2, hsn, hs4, hs5, hb, decide_false, (key_ne g2).1, (key_ne g2).2.1, (key_ne g2).2.2.1, (key_ne g2).2.2.2, (ne_keys gd4).1, (ne_keys gd4).2, (ne_keys gdn).1, (ne_keys gdn).2, g3] | simp (disch := omega) only [wrap_fits] | ((first | with_reducible apply wcall_pure | with_reducible apply wdcall_pure); focus (first | assumption | exact validLines_fn (by assumption) | exact refhund_fn ⟨_, _⟩ | exact refsub_fn ⟨_, _⟩ ⟨_, _⟩ | exact refzero_fn)) | (with_reducible refine wguard_split_t (fun h => ?_) (fun h => ?_)) | (with_reducible refine wguard_split_f (fun h => ?_) (fun h => ?_)) | (with_reducible refine wcond_split (fun h => ?_) (fun h => ?_)) | (with_reducible refine wdguard_split_t (fun h => ?_) (fun h => ?_)) | (with_reducible refine wdguard_split_f (fun h => ?_) (fun h => ?_)) | (with_reducible refine And.intro (fun h => ?_) (fun h => ?_)) | (with_reducible apply And.intro; focus omega))
        have hlc := credit_lt nx ⟨P.parts, P.pts, hundS P.pts⟩
        have hlv : (Credit.mk P.parts P.pts (hundS P.pts)).val = .agg [.list ec, .int .i64 P.pts.n, .int .i64 P.pts.d, .int .i64 (hundS P.pts)] := by
          show PV.agg [partsV P.parts, _, _, _] = _
          rw [partsV, if_neg hp, hec]
        rw [hlv] at hlc
        refine ends_fz (by simp only [resultsOf, resOf, push_cast, Nat.reduceEqDiff, Nat.reduceAdd, Nat.reduceMul, Nat.reduceLeDiff, Nat.reduceLT, reduceIte, reduceCtorEq, Nat.reduceShiftRight, Nat.reduceAnd, Nat.reducePow, Nat.reduceOr, Nat.reduceBNe, Nat.reduceBEq, Int.reduceToNat, Int.reduceLT, Int.reduceLE, Int.reduceGT, Int.reduceGE, Int.reduceEq, Int.reduceNe, Int.reduceNeg, Int.reduceAdd, Int.reduceSub, Int.reduceMul, EE_P, h2]; rfl) (by simp only [push_cast, Nat.reduceEqDiff, Nat.reduceAdd, Nat.reduceMul, Nat.reduceLeDiff, Nat.reduceLT, reduceIte, reduceCtorEq, Nat.reduceShiftRight, Nat.reduceAnd, Nat.reducePow, Nat.reduceOr, Nat.reduceBNe, Nat.reduceBEq, Int.reduceToNat, Int.reduceLT, Int.reduceLE, Int.reduceGT, Int.reduceGE, Int.reduceEq, Int.reduceNe, Int.reduceNeg, Int.reduceAdd, Int.reduceSub, Int.reduceMul, EE_P, h2]) ?_ (by repeat' (first | exact Keeps.refl _ | assumption | exact (hwf.keep1 _) | refine Keeps.new hwf ?_ (by omega) _)) (.tup _ fun c hc => ?_)
        · show Fz _ _ (.tup [.agg [.row kp 0 ec.length, _, _, _], _]) (.tup [.agg [.list ec, _, _, _], _])
          refine fz_tup (And.intro (fz_agg (And.intro (fz_row ?_ ?_ rfl) ⟨.refl _, .refl _, .refl _, trivial⟩)) ⟨.refl _, trivial⟩)
          · simp only [upd_at, push_cast, Nat.reduceEqDiff, Nat.reduceAdd, Nat.reduceMul, Nat.reduceLeDiff, Nat.reduceLT, reduceIte, reduceCtorEq, Nat.reduceShiftRight, Nat.reduceAnd, Nat.reducePow, Nat.reduceOr, Nat.reduceBNe, Nat.reduceBEq, Int.reduceToNat, Int.reduceLT, Int.reduceLE, Int.reduceGT, Int.reduceGE, Int.reduceEq, Int.reduceNe, Int.reduceNeg, Int.reduceAdd, Int.reduceSub, Int.reduceMul, (ne_keys gd4).1, (ne_keys gd4).2, (ne_keys gdn).1, (ne_keys gdn).2, g3]
          · exact hwf.none (by omega)
        · simp only [List.mem_cons, List.not_mem_nil, or_false] at hc
          rcases hc with rfl | rfl
          · exact hlc
          · exact .int _ _
end Go.Proofs.YtdajoilaakiinaaGreatDoor.Awp

/- Same; CreditCombines. -/
namespace Go.Proofs.YtdajoilaakiinaaGreatDoor.Awp
open Go Go.Proofs
set_option linter.unusedSimpArgs false
set_option linter.unusedVariables false
set_option maxRecDepth 10000
set_option maxHeartbeats 4000000

/-- Same finds a credit the same as itself. -/
theorem same_fn (c : Credit) (hl : c.parts.length ≤ 1000000) : Pure EE 15 [c.val, c.val] (.bool true) := by
  have hv := partsV_slice c.parts
  have hvl := hv.len
  simp only [List.length_map] at hvl
  have hone := hv.one
  have hcel := hv.cells
  have hstr := hv.str
  have hval : c.val = c.pv (partsV c.parts) := rfl
  rw [hval]
  generalize partsV c.parts = v at *
  intro σ nx
  refine fn_of_body goodEE (by rw [EE_P]; exact Tryz.func15) rfl rfl (by kernel_rfl) (Nat.le_of_ble_eq_true rfl) (Nat.le_refl _) fun hwf hlt => ?_
  rw [show Tryz.f15.results.toList = [.tmp 4] from rfl]
  refine awp_begin _ _ _ _ _ (cc := _) (by conv => lhs; simp only [push_cast, Nat.reduceEqDiff, Nat.reduceAdd, Nat.reduceMul, Nat.reduceLeDiff, Nat.reduceLT, reduceIte, reduceCtorEq, Nat.reduceShiftRight, Nat.reduceAnd, Nat.reducePow, Nat.reduceOr, Nat.reduceBNe, Nat.reduceBEq, Int.reduceToNat, Int.reduceLT, Int.reduceLE, Int.reduceGT, Int.reduceGE, Int.reduceEq, Int.reduceNe, Int.reduceNeg, Int.reduceAdd, Int.reduceSub, Int.reduceMul, Tryz.f15]) ?_
  simp only [push_cast, Nat.reduceEqDiff, Nat.reduceAdd, Nat.reduceMul, Nat.reduceLeDiff, Nat.reduceLT, reduceIte, reduceCtorEq, Nat.reduceShiftRight, Nat.reduceAnd, Nat.reducePow, Nat.reduceOr, Nat.reduceBNe, Nat.reduceBEq, Int.reduceToNat, Int.reduceLT, Int.reduceLE, Int.reduceGT, Int.reduceGE, Int.reduceEq, Int.reduceNe, Int.reduceNeg, Int.reduceAdd, Int.reduceSub, Int.reduceMul, EE_P]
  repeat' (first | simp only [push_cast, Nat.reduceEqDiff, Nat.reduceAdd, Nat.reduceMul, Nat.reduceLeDiff, Nat.reduceLT, reduceIte, reduceCtorEq, Nat.reduceShiftRight, Nat.reduceAnd, Nat.reducePow, Nat.reduceOr, Nat.reduceBNe, Nat.reduceBEq, Int.reduceToNat, Int.reduceLT, Int.reduceLE, Int.reduceGT, Int.reduceGE, Int.reduceEq, Int.reduceNe, Int.reduceNeg, Int.reduceAdd, Int.reduceSub, Int.reduceMul, EE_P, hvl, hone, hcel, hstr] | simp (disch := omega) only [wrap_fits] | ((first | with_reducible apply wcall_pure | with_reducible apply wdcall_pure); focus (first | assumption | fail)) | (with_reducible refine wguard_split_t (fun h => ?_) (fun h => ?_)) | (with_reducible refine wguard_split_f (fun h => ?_) (fun h => ?_)) | (with_reducible refine wcond_split (fun h => ?_) (fun h => ?_)) | (with_reducible refine wdguard_split_t (fun h => ?_) (fun h => ?_)) | (with_reducible refine wdguard_split_f (fun h => ?_) (fun h => ?_)) | (with_reducible refine And.intro (fun h => ?_) (fun h => ?_)) | (with_reducible apply And.intro; focus omega))
  refine wloop_by (fun m sl σ' nx' => ∃ i : Nat, i ≤ c.parts.length ∧ m = c.parts.length - i ∧ nx + 1 < nx' ∧ sl 2 = .ptr nx 0 0 ∧ sl 3 = .ptr (nx + 1) 0 0 ∧ sl 5 = .int .i64 i ∧ σ' nx = some (.row [[v, .int .i64 c.pts.n, .int .i64 c.pts.d, .int .i64 c.hund]]) ∧ σ' (nx + 1) = some (.row [[v, .int .i64 c.pts.n, .int .i64 c.pts.d, .int .i64 c.hund]]) ∧ Keeps σ σ') c.parts.length
    ⟨0, by omega, rfl, by omega, rfl, rfl, rfl, ?_, ?_, (by repeat' (first | exact Keeps.refl _ | assumption | exact (hwf.keep1 _) | refine Keeps.new hwf ?_ (by omega) _))⟩ ?_
  · simp only [upd_at, push_cast, Nat.reduceEqDiff, Nat.reduceAdd, Nat.reduceMul, Nat.reduceLeDiff, Nat.reduceLT, reduceIte, reduceCtorEq, Nat.reduceShiftRight, Nat.reduceAnd, Nat.reducePow, Nat.reduceOr, Nat.reduceBNe, Nat.reduceBEq, Int.reduceToNat, Int.reduceLT, Int.reduceLE, Int.reduceGT, Int.reduceGE, Int.reduceEq, Int.reduceNe, Int.reduceNeg, Int.reduceAdd, Int.reduceSub, Int.reduceMul]
  · simp only [upd_at, push_cast, Nat.reduceEqDiff, Nat.reduceAdd, Nat.reduceMul, Nat.reduceLeDiff, Nat.reduceLT, reduceIte, reduceCtorEq, Nat.reduceShiftRight, Nat.reduceAnd, Nat.reducePow, Nat.reduceOr, Nat.reduceBNe, Nat.reduceBEq, Int.reduceToNat, Int.reduceLT, Int.reduceLE, Int.reduceGT, Int.reduceGE, Int.reduceEq, Int.reduceNe, Int.reduceNeg, Int.reduceAdd, Int.reduceSub, Int.reduceMul]
  rintro m sl σ' nx' ⟨i, hi, hm, hnx, h2, h3, h5, hs1, hs2, hk⟩
  have hn1 : nx < nx' := by omega
  have hi0 : (0 : Int) ≤ i := by omega
  by_cases hil : i < c.parts.length
  · have hil' : (i : Int) < c.parts.length := by omega
    have hw : IntKind.i64.wrap ((i : Int) + 1) = (i : Int) + 1 := wrap_small (by omega) (by omega)
    have hget : (c.parts.map Part.cs)[i]? = some c.parts[i].cs := by rw [List.getElem?_map, List.getElem?_eq_getElem hil]; rfl
    obtain rfl := hv.lt (i := i) (by simpa using hil)
    generalize c.parts[i] = x at hget
    repeat' (first | simp only [push_cast, Nat.reduceEqDiff, Nat.reduceAdd, Nat.reduceMul, Nat.reduceLeDiff, Nat.reduceLT, reduceIte, reduceCtorEq, Nat.reduceShiftRight, Nat.reduceAnd, Nat.reducePow, Nat.reduceOr, Nat.reduceBNe, Nat.reduceBEq, Int.reduceToNat, Int.reduceLT, Int.reduceLE, Int.reduceGT, Int.reduceGE, Int.reduceEq, Int.reduceNe, Int.reduceNeg, Int.reduceAdd, Int.reduceSub, Int.reduceMul, EE_P, h2, h3, h5, hvl, hi0, hil', hget, hw, (key_ne hn1).1, (key_ne hn1).2.1, (key_ne hn1).2.2.1, (key_ne hn1).2.2.2, (key_ne hnx).1, (key_ne hnx).2.1, (key_ne hnx).2.2.1, (key_ne hnx).2.2.2, hs1, hs2, List.length_map, Int.toNat_natCast] | simp (disch := omega) only [wrap_fits] | ((first | with_reducible apply wcall_pure | with_reducible apply wdcall_pure); focus (first | assumption | fail)) | (with_reducible refine wguard_split_t (fun h => ?_) (fun h => ?_)) | (with_reducible refine wguard_split_f (fun h => ?_) (fun h => ?_)) | (with_reducible refine wcond_split (fun h => ?_) (fun h => ?_)) | (with_reducible refine wdguard_split_t (fun h => ?_) (fun h => ?_)) | (with_reducible refine wdguard_split_f (fun h => ?_) (fun h => ?_)) | (with_reducible refine And.intro (fun h => ?_) (fun h => ?_)) | (with_reducible apply And.intro; focus omega))
    exact ⟨c.parts.length - (i + 1), by omega, i + 1, by omega, rfl, by omega, by simp, hk⟩
  · have hil' : ¬ (i : Int) < c.parts.length := by omega
    repeat' (first | simp only [push_cast, Nat.reduceEqDiff, Nat.reduceAdd, Nat.reduceMul, Nat.reduceLeDiff, Nat.reduceLT, reduceIte, reduceCtorEq, Nat.reduceShiftRight, Nat.reduceAnd, Nat.reducePow, Nat.reduceOr, Nat.reduceBNe, Nat.reduceBEq, Int.reduceToNat, Int.reduceLT, Int.reduceLE, Int.reduceGT, Int.reduceGE, Int.reduceEq, Int.reduceNe, Int.reduceNeg, Int.reduceAdd, Int.reduceSub, Int.reduceMul, EE_P, h2, h3, h5, hvl, hstr, hil', (key_ne hn1).1, (key_ne hn1).2.1, (key_ne hn1).2.2.1, (key_ne hn1).2.2.2, (key_ne hnx).1, (key_ne hnx).2.1, (key_ne hnx).2.2.1, (key_ne hnx).2.2.2, hs1, hs2] | simp (disch := omega) only [wrap_fits] | ((first | with_reducible apply wcall_pure | with_reducible apply wdcall_pure); focus (first | assumption | fail)) | (with_reducible refine wguard_split_t (fun h => ?_) (fun h => ?_)) | (with_reducible refine wguard_split_f (fun h => ?_) (fun h => ?_)) | (with_reducible refine wcond_split (fun h => ?_) (fun h => ?_)) | (with_reducible refine wdguard_split_t (fun h => ?_) (fun h => ?_)) | (with_reducible refine wdguard_split_f (fun h => ?_) (fun h => ?_)) | (with_reducible refine And.intro (fun h => ?_) (fun h => ?_)) | (with_reducible apply And.intro; focus omega))
    ((refine ends_ret (by simp only [resultsOf, resOf, push_cast, Nat.reduceEqDiff, Nat.reduceAdd, Nat.reduceMul, Nat.reduceLeDiff, Nat.reduceLT, reduceIte, reduceCtorEq, Nat.reduceShiftRight, Nat.reduceAnd, Nat.reducePow, Nat.reduceOr, Nat.reduceBNe, Nat.reduceBEq, Int.reduceToNat, Int.reduceLT, Int.reduceLE, Int.reduceGT, Int.reduceGE, Int.reduceEq, Int.reduceNe, Int.reduceNeg, Int.reduceAdd, Int.reduceSub, Int.reduceMul, EE_P]; rfl) (by simp only [push_cast, Nat.reduceEqDiff, Nat.reduceAdd, Nat.reduceMul, Nat.reduceLeDiff, Nat.reduceLT, reduceIte, reduceCtorEq, Nat.reduceShiftRight, Nat.reduceAnd, Nat.reducePow, Nat.reduceOr, Nat.reduceBNe, Nat.reduceBEq, Int.reduceToNat, Int.reduceLT, Int.reduceLE, Int.reduceGT, Int.reduceGE, Int.reduceEq, Int.reduceNe, Int.reduceNeg, Int.reduceAdd, Int.reduceSub, Int.reduceMul, EE_P]) ?_ (by repeat' (first | exact Keeps.refl _ | assumption | exact (hwf.keep1 _) | refine Keeps.new hwf ?_ (by omega) _)) (by simp only [lt_int, lt_bool, lt_str, lt_nil, lt_empty, lt_agg, lt_tup, lt_list, lt_cells, lt_fn, lt_nilp, lt_nilfn, lt_nili, List.mem_cons, List.not_mem_nil, or_false, forall_eq_or_imp, forall_eq, and_true, true_and, and_self, implies_true, *]; try omega)); (try simp only [tupOf, push_cast, Nat.reduceEqDiff, Nat.reduceAdd, Nat.reduceMul, Nat.reduceLeDiff, Nat.reduceLT, reduceIte, reduceCtorEq, Nat.reduceShiftRight, Nat.reduceAnd, Nat.reducePow, Nat.reduceOr, Nat.reduceBNe, Nat.reduceBEq, Int.reduceToNat, Int.reduceLT, Int.reduceLE, Int.reduceGT, Int.reduceGE, Int.reduceEq, Int.reduceNe, Int.reduceNeg, Int.reduceAdd, Int.reduceSub, Int.reduceMul, EE_P]))
theorem combines_fn {ls : List Line} {v : PV} (hv : SliceP (ls.map Line.cs) v) (hl : ls.length ≤ maxLen) : Pure EE 4 [v] (.bool true) := by
  have hl' : ls.length ≤ 9223372036854775807 := hl
  have hfew := few_fn hv hl'
  have hcom := combine_fn hv
  have href := refcombine_fn hv
  cases hfs : fewS ls
  · rw [hfs] at hfew
    intro σ nx
    refine fn_of_body goodEE (by rw [EE_P]; exact Tryz.func4) rfl rfl (by kernel_rfl) (Nat.le_of_ble_eq_true rfl) (Nat.le_refl _) fun hwf hlt => ?_
    rw [show Tryz.f4.results.toList = [.tmp 2] from rfl]
    refine awp_begin _ _ _ _ _ (cc := _) (by conv => lhs; simp only [push_cast, Nat.reduceEqDiff, Nat.reduceAdd, Nat.reduceMul, Nat.reduceLeDiff, Nat.reduceLT, reduceIte, reduceCtorEq, Nat.reduceShiftRight, Nat.reduceAnd, Nat.reducePow, Nat.reduceOr, Nat.reduceBNe, Nat.reduceBEq, Int.reduceToNat, Int.reduceLT, Int.reduceLE, Int.reduceGT, Int.reduceGE, Int.reduceEq, Int.reduceNe, Int.reduceNeg, Int.reduceAdd, Int.reduceSub, Int.reduceMul, Tryz.f4]) ?_
    simp only [push_cast, Nat.reduceEqDiff, Nat.reduceAdd, Nat.reduceMul, Nat.reduceLeDiff, Nat.reduceLT, reduceIte, reduceCtorEq, Nat.reduceShiftRight, Nat.reduceAnd, Nat.reducePow, Nat.reduceOr, Nat.reduceBNe, Nat.reduceBEq, Int.reduceToNat, Int.reduceLT, Int.reduceLE, Int.reduceGT, Int.reduceGE, Int.reduceEq, Int.reduceNe, Int.reduceNeg, Int.reduceAdd, Int.reduceSub, Int.reduceMul, EE_P]
    repeat' (first | simp only [push_cast, Nat.reduceEqDiff, Nat.reduceAdd, Nat.reduceMul, Nat.reduceLeDiff, Nat.reduceLT, reduceIte, reduceCtorEq, Nat.reduceShiftRight, Nat.reduceAnd, Nat.reducePow, Nat.reduceOr, Nat.reduceBNe, Nat.reduceBEq, Int.reduceToNat, Int.reduceLT, Int.reduceLE, Int.reduceGT, Int.reduceGE, Int.reduceEq, Int.reduceNe, Int.reduceNeg, Int.reduceAdd, Int.reduceSub, Int.reduceMul, EE_P] | simp (disch := omega) only [wrap_fits] | ((first | with_reducible apply wcall_pure | with_reducible apply wdcall_pure); focus (first | assumption | exact awake_fn | exact few_fn (by assumption) (by omega))) | (with_reducible refine wguard_split_t (fun h => ?_) (fun h => ?_)) | (with_reducible refine wguard_split_f (fun h => ?_) (fun h => ?_)) | (with_reducible refine wcond_split (fun h => ?_) (fun h => ?_)) | (with_reducible refine wdguard_split_t (fun h => ?_) (fun h => ?_)) | (with_reducible refine wdguard_split_f (fun h => ?_) (fun h => ?_)) | (with_reducible refine And.intro (fun h => ?_) (fun h => ?_)) | (with_reducible apply And.intro; focus omega))
    ((refine ends_ret (by simp only [resultsOf, resOf, push_cast, Nat.reduceEqDiff, Nat.reduceAdd, Nat.reduceMul, Nat.reduceLeDiff, Nat.reduceLT, reduceIte, reduceCtorEq, Nat.reduceShiftRight, Nat.reduceAnd, Nat.reducePow, Nat.reduceOr, Nat.reduceBNe, Nat.reduceBEq, Int.reduceToNat, Int.reduceLT, Int.reduceLE, Int.reduceGT, Int.reduceGE, Int.reduceEq, Int.reduceNe, Int.reduceNeg, Int.reduceAdd, Int.reduceSub, Int.reduceMul, EE_P]; rfl) (by simp only [push_cast, Nat.reduceEqDiff, Nat.reduceAdd, Nat.reduceMul, Nat.reduceLeDiff, Nat.reduceLT, reduceIte, reduceCtorEq, Nat.reduceShiftRight, Nat.reduceAnd, Nat.reducePow, Nat.reduceOr, Nat.reduceBNe, Nat.reduceBEq, Int.reduceToNat, Int.reduceLT, Int.reduceLE, Int.reduceGT, Int.reduceGE, Int.reduceEq, Int.reduceNe, Int.reduceNeg, Int.reduceAdd, Int.reduceSub, Int.reduceMul, EE_P]) ?_ (by repeat' (first | exact Keeps.refl _ | assumption | exact (hwf.keep1 _) | refine Keeps.new hwf ?_ (by omega) _)) (by simp only [lt_int, lt_bool, lt_str, lt_nil, lt_empty, lt_agg, lt_tup, lt_list, lt_cells, lt_fn, lt_nilp, lt_nilfn, lt_nili, List.mem_cons, List.not_mem_nil, or_false, forall_eq_or_imp, forall_eq, and_true, true_and, and_self, implies_true, *]; try omega)); (try simp only [tupOf, push_cast, Nat.reduceEqDiff, Nat.reduceAdd, Nat.reduceMul, Nat.reduceLeDiff, Nat.reduceLT, reduceIte, reduceCtorEq, Nat.reduceShiftRight, Nat.reduceAnd, Nat.reducePow, Nat.reduceOr, Nat.reduceBNe, Nat.reduceBEq, Int.reduceToNat, Int.reduceLT, Int.reduceLE, Int.reduceGT, Int.reduceGE, Int.reduceEq, Int.reduceNe, Int.reduceNeg, Int.reduceAdd, Int.reduceSub, Int.reduceMul, EE_P]))
  rw [hfs] at hfew
  have hlen := fewS_len hfs
  have hf1 := failed_fn hv (by omega)
  have hf2 := reffailed_fn hv (by omega)
  have hst := strings_fn (failedV_slice ls) (strsP_slice (failS ls)) (by have := failS_len ls; omega)
  rw [decide_eq_true rfl] at hst
  have hpl : (combineS ls).1.parts.length ≤ 1000000 := by
    by_cases he : (combineS ls).2 = 0
    · have := (combine_credit he).2; omega
    · rw [combine_err he]; exact Nat.zero_le _
  have hsame := same_fn _ hpl
  generalize combineS ls = c at *
  obtain ⟨⟨parts, pts, hund⟩, e⟩ := c
  have o1 := (partsV_slice parts).one
  have ce1 := (partsV_slice parts).cells
  simp only [Credit.val, Credit.pv] at hcom href hsame
  intro σ nx
  refine fn_of_body goodEE (by rw [EE_P]; exact Tryz.func4) rfl rfl (by kernel_rfl) (Nat.le_of_ble_eq_true rfl) (Nat.le_refl _) fun hwf hlt => ?_
  rw [show Tryz.f4.results.toList = [.tmp 2] from rfl]
  refine awp_begin _ _ _ _ _ (cc := _) (by conv => lhs; simp only [push_cast, Nat.reduceEqDiff, Nat.reduceAdd, Nat.reduceMul, Nat.reduceLeDiff, Nat.reduceLT, reduceIte, reduceCtorEq, Nat.reduceShiftRight, Nat.reduceAnd, Nat.reducePow, Nat.reduceOr, Nat.reduceBNe, Nat.reduceBEq, Int.reduceToNat, Int.reduceLT, Int.reduceLE, Int.reduceGT, Int.reduceGE, Int.reduceEq, Int.reduceNe, Int.reduceNeg, Int.reduceAdd, Int.reduceSub, Int.reduceMul, Tryz.f4]) ?_
  simp only [push_cast, Nat.reduceEqDiff, Nat.reduceAdd, Nat.reduceMul, Nat.reduceLeDiff, Nat.reduceLT, reduceIte, reduceCtorEq, Nat.reduceShiftRight, Nat.reduceAnd, Nat.reducePow, Nat.reduceOr, Nat.reduceBNe, Nat.reduceBEq, Int.reduceToNat, Int.reduceLT, Int.reduceLE, Int.reduceGT, Int.reduceGE, Int.reduceEq, Int.reduceNe, Int.reduceNeg, Int.reduceAdd, Int.reduceSub, Int.reduceMul, EE_P]
  repeat' (first | simp only [push_cast, Nat.reduceEqDiff, Nat.reduceAdd, Nat.reduceMul, Nat.reduceLeDiff, Nat.reduceLT, reduceIte, reduceCtorEq, Nat.reduceShiftRight, Nat.reduceAnd, Nat.reducePow, Nat.reduceOr, Nat.reduceBNe, Nat.reduceBEq, Int.reduceToNat, Int.reduceLT, Int.reduceLE, Int.reduceGT, Int.reduceGE, Int.reduceEq, Int.reduceNe, Int.reduceNeg, Int.reduceAdd, Int.reduceSub, Int.reduceMul, EE_P, o1, ce1] | simp (disch := omega) only [wrap_fits] | ((first | with_reducible apply wcall_pure | with_reducible apply wdcall_pure); focus (first | assumption | exact awake_fn | exact few_fn (by assumption) (by omega))) | (with_reducible refine wguard_split_t (fun h => ?_) (fun h => ?_)) | (with_reducible refine wguard_split_f (fun h => ?_) (fun h => ?_)) | (with_reducible refine wcond_split (fun h => ?_) (fun h => ?_)) | (with_reducible refine wdguard_split_t (fun h => ?_) (fun h => ?_)) | (with_reducible refine wdguard_split_f (fun h => ?_) (fun h => ?_)) | (with_reducible refine And.intro (fun h => ?_) (fun h => ?_)) | (with_reducible apply And.intro; focus omega))
  ((refine ends_ret (by simp only [resultsOf, resOf, push_cast, Nat.reduceEqDiff, Nat.reduceAdd, Nat.reduceMul, Nat.reduceLeDiff, Nat.reduceLT, reduceIte, reduceCtorEq, Nat.reduceShiftRight, Nat.reduceAnd, Nat.reducePow, Nat.reduceOr, Nat.reduceBNe, Nat.reduceBEq, Int.reduceToNat, Int.reduceLT, Int.reduceLE, Int.reduceGT, Int.reduceGE, Int.reduceEq, Int.reduceNe, Int.reduceNeg, Int.reduceAdd, Int.reduceSub, Int.reduceMul, EE_P]; rfl) (by simp only [push_cast, Nat.reduceEqDiff, Nat.reduceAdd, Nat.reduceMul, Nat.reduceLeDiff, Nat.reduceLT, reduceIte, reduceCtorEq, Nat.reduceShiftRight, Nat.reduceAnd, Nat.reducePow, Nat.reduceOr, Nat.reduceBNe, Nat.reduceBEq, Int.reduceToNat, Int.reduceLT, Int.reduceLE, Int.reduceGT, Int.reduceGE, Int.reduceEq, Int.reduceNe, Int.reduceNeg, Int.reduceAdd, Int.reduceSub, Int.reduceMul, EE_P]) ?_ (by repeat' (first | exact Keeps.refl _ | assumption | exact (hwf.keep1 _) | refine Keeps.new hwf ?_ (by omega) _)) (by simp only [lt_int, lt_bool, lt_str, lt_nil, lt_empty, lt_agg, lt_tup, lt_list, lt_cells, lt_fn, lt_nilp, lt_nilfn, lt_nili, List.mem_cons, List.not_mem_nil, or_false, forall_eq_or_imp, forall_eq, and_true, true_and, and_self, implies_true, *]; try omega)); (try simp only [tupOf, push_cast, Nat.reduceEqDiff, Nat.reduceAdd, Nat.reduceMul, Nat.reduceLeDiff, Nat.reduceLT, reduceIte, reduceCtorEq, Nat.reduceShiftRight, Nat.reduceAnd, Nat.reducePow, Nat.reduceOr, Nat.reduceBNe, Nat.reduceBEq, Int.reduceToNat, Int.reduceLT, Int.reduceLE, Int.reduceGT, Int.reduceGE, Int.reduceEq, Int.reduceNe, Int.reduceNeg, Int.reduceAdd, Int.reduceSub, Int.reduceMul, EE_P]))
theorem combines_proved : ∀ pvs, Args EE.P Tryz.f4.params.toList pvs → Pure EE 4 pvs (.bool true) := by
  intro pvs h
  obtain ⟨ls, v, rest, rfl, hv, hl, h⟩ := args_lines h
  match rest, h with
  | [], _ => exact combines_fn hv hl
end Go.Proofs.YtdajoilaakiinaaGreatDoor.Awp
