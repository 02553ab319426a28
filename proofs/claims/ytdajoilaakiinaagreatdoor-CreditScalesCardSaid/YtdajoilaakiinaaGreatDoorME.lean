/- The reference's names. -/
import Derived.Test.YtdajoilaakiinaaGreatDoorMD
set_option linter.unusedSimpArgs false
set_option linter.unusedVariables false
namespace Go.Proofs.YtdajoilaakiinaaGreatDoor.Awp
open Go Go.Proofs
set_option linter.unusedSimpArgs false
set_option linter.unusedVariables false
set_option maxRecDepth 10000
set_option maxHeartbeats 4000000

theorem letter47_fn (c : Int) : Pure EE 133 [.int .u8 c] (.bool (letterS c)) := by
  intro σ nx
  refine fn_of_body goodEE (by rw [EE_P]; exact Tryz.func133) rfl rfl (by kernel_rfl) (Nat.le_of_ble_eq_true rfl) (Nat.le_refl _) fun hwf hlt => ?_
  rw [show Tryz.f133.results.toList = [.tmp 2] from rfl]
  refine awp_begin _ _ _ _ _ (cc := _) (by conv => lhs; simp only [push_cast, seval, Tryz.f133]) ?_
  simp only [push_cast, seval, EE_P]
  repeat' (first | simp only [push_cast, seval, EE_P] | simp (disch := omega) only [wrap_fits] | ((first | with_reducible apply wcall_pure | with_reducible apply wdcall_pure); focus (first | assumption | fail)) | (with_reducible refine wguard_split_t (fun h => ?_) (fun h => ?_)) | (with_reducible refine wguard_split_f (fun h => ?_) (fun h => ?_)) | (with_reducible refine wcond_split (fun h => ?_) (fun h => ?_)) | (with_reducible refine wdguard_split_t (fun h => ?_) (fun h => ?_)) | (with_reducible refine wdguard_split_f (fun h => ?_) (fun h => ?_)) | (with_reducible refine And.intro (fun h => ?_) (fun h => ?_)) | (with_reducible apply And.intro; focus omega))
  all_goals ((refine ends_ret (by simp only [resultsOf, resOf, push_cast, seval, EE_P]; rfl) (by simp only [push_cast, seval, EE_P]) ?_ (by repeat' (first | exact Keeps.refl _ | assumption | exact (hwf.keep1 _) | refine Keeps.new hwf ?_ (by omega) _)) (by simp only [lt_int, lt_bool, lt_str, lt_nil, lt_empty, lt_agg, lt_tup, lt_list, lt_cells, lt_fn, lt_nilp, lt_nilfn, lt_nili, List.mem_cons, List.not_mem_nil, or_false, forall_eq_or_imp, forall_eq, and_true, true_and, and_self, implies_true, *]; try omega)); (try simp only [tupOf, push_cast, seval, EE_P]))
  all_goals simp [letterS, *]
theorem digit47_fn (c : Int) : Pure EE 147 [.int .u8 c] (.bool (digitS c)) := by
  intro σ nx
  refine fn_of_body goodEE (by rw [EE_P]; exact Tryz.func147) rfl rfl (by kernel_rfl) (Nat.le_of_ble_eq_true rfl) (Nat.le_refl _) fun hwf hlt => ?_
  rw [show Tryz.f147.results.toList = [.tmp 2] from rfl]
  refine awp_begin _ _ _ _ _ (cc := _) (by conv => lhs; simp only [push_cast, seval, Tryz.f147]) ?_
  simp only [push_cast, seval, EE_P]
  repeat' (first | simp only [push_cast, seval, EE_P] | simp (disch := omega) only [wrap_fits] | ((first | with_reducible apply wcall_pure | with_reducible apply wdcall_pure); focus (first | assumption | fail)) | (with_reducible refine wguard_split_t (fun h => ?_) (fun h => ?_)) | (with_reducible refine wguard_split_f (fun h => ?_) (fun h => ?_)) | (with_reducible refine wcond_split (fun h => ?_) (fun h => ?_)) | (with_reducible refine wdguard_split_t (fun h => ?_) (fun h => ?_)) | (with_reducible refine wdguard_split_f (fun h => ?_) (fun h => ?_)) | (with_reducible refine And.intro (fun h => ?_) (fun h => ?_)) | (with_reducible apply And.intro; focus omega))
  all_goals ((refine ends_ret (by simp only [resultsOf, resOf, push_cast, seval, EE_P]; rfl) (by simp only [push_cast, seval, EE_P]) ?_ (by repeat' (first | exact Keeps.refl _ | assumption | exact (hwf.keep1 _) | refine Keeps.new hwf ?_ (by omega) _)) (by simp only [lt_int, lt_bool, lt_str, lt_nil, lt_empty, lt_agg, lt_tup, lt_list, lt_cells, lt_fn, lt_nilp, lt_nilfn, lt_nili, List.mem_cons, List.not_mem_nil, or_false, forall_eq_or_imp, forall_eq, and_true, true_and, and_self, implies_true, *]; try omega)); (try simp only [tupOf, push_cast, seval, EE_P]))
  all_goals simp [digitS, *]
theorem inside47_fn (c : Int) : Pure EE 136 [.int .u8 c] (.bool (inNameS c)) := by
  intro σ nx
  refine fn_of_body goodEE (by rw [EE_P]; exact Tryz.func136) rfl rfl (by kernel_rfl) (Nat.le_of_ble_eq_true rfl) (Nat.le_refl _) fun hwf hlt => ?_
  rw [show Tryz.f136.results.toList = [.tmp 2] from rfl]
  refine awp_begin _ _ _ _ _ (cc := _) (by conv => lhs; simp only [push_cast, seval, Tryz.f136]) ?_
  simp only [push_cast, seval, EE_P]
  repeat' (first | simp only [push_cast, seval, EE_P] | simp (disch := omega) only [wrap_fits] | ((first | with_reducible apply wcall_pure | with_reducible apply wdcall_pure); focus (first | assumption | exact digit47_fn _ | exact letter47_fn _)) | (with_reducible refine wguard_split_t (fun h => ?_) (fun h => ?_)) | (with_reducible refine wguard_split_f (fun h => ?_) (fun h => ?_)) | (with_reducible refine wcond_split (fun h => ?_) (fun h => ?_)) | (with_reducible refine wdguard_split_t (fun h => ?_) (fun h => ?_)) | (with_reducible refine wdguard_split_f (fun h => ?_) (fun h => ?_)) | (with_reducible refine And.intro (fun h => ?_) (fun h => ?_)) | (with_reducible apply And.intro; focus omega))
  all_goals ((refine ends_ret (by simp only [resultsOf, resOf, push_cast, seval, EE_P]; rfl) (by simp only [push_cast, seval, EE_P]) ?_ (by repeat' (first | exact Keeps.refl _ | assumption | exact (hwf.keep1 _) | refine Keeps.new hwf ?_ (by omega) _)) (by simp only [lt_int, lt_bool, lt_str, lt_nil, lt_empty, lt_agg, lt_tup, lt_list, lt_cells, lt_fn, lt_nilp, lt_nilfn, lt_nili, List.mem_cons, List.not_mem_nil, or_false, forall_eq_or_imp, forall_eq, and_true, true_and, and_self, implies_true, *]; try omega)); (try simp only [tupOf, push_cast, seval, EE_P]))
  all_goals simp [inNameS, *]
theorem keywords47_fn : Pure EE 135 [] (strsP kwS) := by
  intro σ nx
  refine fn_of_body goodEE (by rw [EE_P]; exact Tryz.func135) rfl rfl (by kernel_rfl) (Nat.le_of_ble_eq_true rfl) (Nat.le_refl _) fun hwf hlt => ?_
  rw [show Tryz.f135.results.toList = [.tmp 0] from rfl]
  refine awp_begin _ _ _ _ _ (cc := _) (by conv => lhs; simp only [push_cast, seval, Tryz.f135]) ?_
  simp only [push_cast, seval, EE_P]
  repeat' (first | simp only [push_cast, seval, EE_P] | simp (disch := omega) only [wrap_fits] | ((first | with_reducible apply wcall_pure | with_reducible apply wdcall_pure); focus (first | assumption | fail)) | (with_reducible refine wguard_split_t (fun h => ?_) (fun h => ?_)) | (with_reducible refine wguard_split_f (fun h => ?_) (fun h => ?_)) | (with_reducible refine wcond_split (fun h => ?_) (fun h => ?_)) | (with_reducible refine wdguard_split_t (fun h => ?_) (fun h => ?_)) | (with_reducible refine wdguard_split_f (fun h => ?_) (fun h => ?_)) | (with_reducible refine And.intro (fun h => ?_) (fun h => ?_)) | (with_reducible apply And.intro; focus omega))
  exact ends_fz (by simp only [resultsOf, resOf, push_cast, seval, EE_P]; rfl) (by simp only [push_cast, seval, and_self]) (fz_row (k := nx + 1) (upd_same ..) (hwf.none (by omega)) rfl) (by repeat' (first | exact Keeps.refl _ | assumption | exact (hwf.keep1 _) | refine Keeps.new hwf ?_ (by omega) _)) (lt_strs _)
theorem has_no {l : List ByteArray} {s : ByteArray} (hb : ∀ j (hj : j < l.length), l[j] ≠ s) : hasS l s = false := by
  unfold hasS
  rw [List.any_eq_false]
  intro x hx
  obtain ⟨j, hj, rfl⟩ := List.getElem_of_mem hx
  have := hb j hj
  simp only [decide_eq_true_eq]
  exact fun e => this e.symm
theorem has_yes {l : List ByteArray} {s : ByteArray} {i : Nat} (hi : i < l.length) (h : l[i] = s) : hasS l s = true := by
  rw [hasS_iff, ← h]
  exact List.getElem_mem hi
theorem has47_fn (l : List ByteArray) (hl : l.length ≤ 4611686018427387904) (s : ByteArray) : Pure EE 134 [strsP l, .str s] (.bool (hasS l s)) := by
  intro σ nx
  refine fn_of_body goodEE (by rw [EE_P]; exact Tryz.func134) rfl rfl (by kernel_rfl) (Nat.le_of_ble_eq_true rfl) (Nat.le_refl _) fun hwf hlt => ?_
  rw [show Tryz.f134.results.toList = [.tmp 4] from rfl]
  refine awp_begin _ _ _ _ _ (cc := _) (by conv => lhs; simp only [push_cast, seval, Tryz.f134]) ?_
  simp only [push_cast, seval, EE_P]
  repeat' (first | simp only [push_cast, seval, EE_P] | simp (disch := omega) only [wrap_fits] | ((first | with_reducible apply wcall_pure | with_reducible apply wdcall_pure); focus (first | assumption | fail)) | (with_reducible refine wguard_split_t (fun h => ?_) (fun h => ?_)) | (with_reducible refine wguard_split_f (fun h => ?_) (fun h => ?_)) | (with_reducible refine wcond_split (fun h => ?_) (fun h => ?_)) | (with_reducible refine wdguard_split_t (fun h => ?_) (fun h => ?_)) | (with_reducible refine wdguard_split_f (fun h => ?_) (fun h => ?_)) | (with_reducible refine And.intro (fun h => ?_) (fun h => ?_)) | (with_reducible apply And.intro; focus omega))
  refine wloop_by (fun m sl σ' nx' => ∃ i : Nat, i ≤ l.length ∧ m = l.length - i ∧ (∀ j (h : j < l.length), j < i → l[j] ≠ s) ∧ sl 0 = strsP l ∧ sl 1 = .str s ∧ sl 5 = .int .i64 i ∧ Keeps σ σ') l.length
    ⟨0, by omega, rfl, fun j _ h => by omega, rfl, rfl, rfl, .refl _⟩ ?_
  rintro m sl σ' nx' ⟨i, hi, hm, hb, h0, h1, h5, hk⟩
  have hi0 : (0 : Int) ≤ i := by omega
  have hln : lenP (strsP l) = some (l.length : Int) := strs_len l
  by_cases hil : i < l.length
  · have hil' : (i : Int) < l.length := by omega
    have hw : IntKind.i64.wrap ((i : Int) + 1) = (i : Int) + 1 := wrap_small (by omega) (by omega)
    have g1 := strsP_get hil
    have hy := has_yes (l := l) (s := s) hil
    have h0' : sl 0 = .list (l.map fun s => [PV.str s]) := h0
    generalize ha : l[i] = x at g1 hy
    repeat' (first | simp only [push_cast, seval, EE_P, h0', h1, h5, hi0, hil', g1, hw, List.length_map, Int.toNat_natCast] | simp (disch := omega) only [wrap_fits] | ((first | with_reducible apply wcall_pure | with_reducible apply wdcall_pure); focus (first | assumption | fail)) | (with_reducible refine wguard_split_t (fun h => ?_) (fun h => ?_)) | (with_reducible refine wguard_split_f (fun h => ?_) (fun h => ?_)) | (with_reducible refine wcond_split (fun h => ?_) (fun h => ?_)) | (with_reducible refine wdguard_split_t (fun h => ?_) (fun h => ?_)) | (with_reducible refine wdguard_split_f (fun h => ?_) (fun h => ?_)) | (with_reducible refine And.intro (fun h => ?_) (fun h => ?_)) | (with_reducible apply And.intro; focus omega))
    · ((refine ends_ret (by simp only [resultsOf, resOf, push_cast, seval, EE_P]; rfl) (by simp only [push_cast, seval, EE_P]) ?_ (by repeat' (first | exact Keeps.refl _ | assumption | exact (hwf.keep1 _) | refine Keeps.new hwf ?_ (by omega) _)) (by simp only [lt_int, lt_bool, lt_str, lt_nil, lt_empty, lt_agg, lt_tup, lt_list, lt_cells, lt_fn, lt_nilp, lt_nilfn, lt_nili, List.mem_cons, List.not_mem_nil, or_false, forall_eq_or_imp, forall_eq, and_true, true_and, and_self, implies_true, *]; try omega)); (try simp only [tupOf, push_cast, seval, EE_P]))
      rw [hy (by assumption)]
    · refine ⟨l.length - (i + 1), by omega, i + 1, by omega, rfl, fun j h1 hji => ?_, rfl, by simp, (by repeat' (first | exact Keeps.refl _ | assumption | exact (hwf.keep1 _) | refine Keeps.new hwf ?_ (by omega) _))⟩
      by_cases hjj : j = i
      · subst hjj; rw [ha]; assumption
      · exact hb j h1 (by omega)
  · have hil' : ¬ (i : Int) < l.length := by omega
    repeat' (first | simp only [push_cast, seval, EE_P, h0, h1, h5, hln, strs_str, hil'] | simp (disch := omega) only [wrap_fits] | ((first | with_reducible apply wcall_pure | with_reducible apply wdcall_pure); focus (first | assumption | fail)) | (with_reducible refine wguard_split_t (fun h => ?_) (fun h => ?_)) | (with_reducible refine wguard_split_f (fun h => ?_) (fun h => ?_)) | (with_reducible refine wcond_split (fun h => ?_) (fun h => ?_)) | (with_reducible refine wdguard_split_t (fun h => ?_) (fun h => ?_)) | (with_reducible refine wdguard_split_f (fun h => ?_) (fun h => ?_)) | (with_reducible refine And.intro (fun h => ?_) (fun h => ?_)) | (with_reducible apply And.intro; focus omega))
    ((refine ends_ret (by simp only [resultsOf, resOf, push_cast, seval, EE_P]; rfl) (by simp only [push_cast, seval, EE_P]) ?_ (by repeat' (first | exact Keeps.refl _ | assumption | exact (hwf.keep1 _) | refine Keeps.new hwf ?_ (by omega) _)) (by simp only [lt_int, lt_bool, lt_str, lt_nil, lt_empty, lt_agg, lt_tup, lt_list, lt_cells, lt_fn, lt_nilp, lt_nilfn, lt_nili, List.mem_cons, List.not_mem_nil, or_false, forall_eq_or_imp, forall_eq, and_true, true_and, and_self, implies_true, *]; try omega)); (try simp only [tupOf, push_cast, seval, EE_P]))
    rw [has_no fun j hj => hb j hj (by omega)]
theorem nameS_of {s : ByteArray} (h1 : s.size ≠ 0) (h2 : (s.size : Int) ≤ 16) (h3 : letterS (bAt s 0) = true) (h4 : hasS kwS s = false) : nameS s = decide ((runS inNameS s : Int) = s.size) := by
  unfold nameS
  simp [h1, h2, h3, h4]
theorem isName47_fn (s : ByteArray) : Pure EE 113 [.str s] (.bool (nameS s)) := by
  intro σ nx
  refine fn_of_body goodEE (by rw [EE_P]; exact Tryz.func113) rfl rfl (by kernel_rfl) (Nat.le_of_ble_eq_true rfl) (Nat.le_refl _) fun hwf hlt => ?_
  rw [show Tryz.f113.results.toList = [.tmp 2] from rfl]
  refine awp_begin _ _ _ _ _ (cc := _) (by conv => lhs; simp only [push_cast, seval, Tryz.f113]) ?_
  simp only [push_cast, seval, EE_P]
  repeat' (first | simp only [push_cast, seval, EE_P] | simp (disch := omega) only [wrap_fits] | ((first | with_reducible apply wcall_pure | with_reducible apply wdcall_pure); focus (first | assumption | exact has47_fn kwS (by decide) _ | exact keywords47_fn | exact inside47_fn _ | exact letter47_fn _)) | (with_reducible refine wguard_split_t (fun h => ?_) (fun h => ?_)) | (with_reducible refine wguard_split_f (fun h => ?_) (fun h => ?_)) | (with_reducible refine wcond_split (fun h => ?_) (fun h => ?_)) | (with_reducible refine wdguard_split_t (fun h => ?_) (fun h => ?_)) | (with_reducible refine wdguard_split_f (fun h => ?_) (fun h => ?_)) | (with_reducible refine And.intro (fun h => ?_) (fun h => ?_)) | (with_reducible apply And.intro; focus omega))
  rotate_left
  · skip
    refine wloop_by (fun m sl σ' nx' => ∃ i : Nat, i ≤ s.size ∧ m = s.size - i ∧ (∀ j, j < i → inNameS (bAt s j) = true) ∧ sl 0 = .str s ∧ sl 3 = .int .i64 i ∧ Keeps σ σ') s.size
      ⟨0, by omega, rfl, fun j h => by omega, rfl, rfl, .refl _⟩ ?_
    rintro m sl σ' nx' ⟨i, hi, hm, hb, h0, h3, hk⟩
    have hi0 : (0 : Int) ≤ i := by omega
    have hnm := nameS_of (s := s) (by assumption) (by omega) (by simpa [bAt] using ‹(!letterS ↑(s[0]?.getD 0).toNat) = false›) (by assumption)
    by_cases hil : i < s.size
    · have hil' : (i : Int) < s.size := by omega
      have hw : IntKind.i64.wrap ((i : Int) + 1) = (i : Int) + 1 := wrap_small (by omega) (by omega)
      repeat' (first | simp only [push_cast, seval, EE_P, h0, h3, hi0, hil', hw, Int.toNat_natCast] | simp (disch := omega) only [wrap_fits] | ((first | with_reducible apply wcall_pure | with_reducible apply wdcall_pure); focus (first | assumption | exact has47_fn kwS (by decide) _ | exact keywords47_fn | exact inside47_fn _ | exact letter47_fn _)) | (with_reducible refine wguard_split_t (fun h => ?_) (fun h => ?_)) | (with_reducible refine wguard_split_f (fun h => ?_) (fun h => ?_)) | (with_reducible refine wcond_split (fun h => ?_) (fun h => ?_)) | (with_reducible refine wdguard_split_t (fun h => ?_) (fun h => ?_)) | (with_reducible refine wdguard_split_f (fun h => ?_) (fun h => ?_)) | (with_reducible refine And.intro (fun h => ?_) (fun h => ?_)) | (with_reducible apply And.intro; focus omega))
      · ((refine ends_ret (by simp only [resultsOf, resOf, push_cast, seval, EE_P]; rfl) (by simp only [push_cast, seval, EE_P]) ?_ (by repeat' (first | exact Keeps.refl _ | assumption | exact (hwf.keep1 _) | refine Keeps.new hwf ?_ (by omega) _)) (by simp only [lt_int, lt_bool, lt_str, lt_nil, lt_empty, lt_agg, lt_tup, lt_list, lt_cells, lt_fn, lt_nilp, lt_nilfn, lt_nili, List.mem_cons, List.not_mem_nil, or_false, forall_eq_or_imp, forall_eq, and_true, true_and, and_self, implies_true, *]; try omega)); (try simp only [tupOf, push_cast, seval, EE_P]))
        have hf : inNameS (bAt s i) = false := by
          have : (!inNameS ↑(s[i]?.getD 0).toNat) = true := by assumption
          simpa [bAt] using this
        rw [hnm, runS_eq (p := inNameS) (n := i) hi hb (fun h => hf)]
        congr 1
        symm
        rw [decide_eq_false_iff_not]
        omega
      · refine ⟨s.size - (i + 1), by omega, i + 1, by omega, rfl, fun j hj => ?_, by simp, (by repeat' (first | exact Keeps.refl _ | assumption | exact (hwf.keep1 _) | refine Keeps.new hwf ?_ (by omega) _))⟩
        by_cases hjj : j = i
        · subst hjj
          have : (!inNameS ↑(s[j]?.getD 0).toNat) = false := by assumption
          simpa using this
        · have := hb j (by omega)
          simpa [bAt] using this
    · have hil' : ¬ (i : Int) < s.size := by omega
      repeat' (first | simp only [push_cast, seval, EE_P, h0, h3, hil'] | simp (disch := omega) only [wrap_fits] | ((first | with_reducible apply wcall_pure | with_reducible apply wdcall_pure); focus (first | assumption | exact has47_fn kwS (by decide) _ | exact keywords47_fn | exact inside47_fn _ | exact letter47_fn _)) | (with_reducible refine wguard_split_t (fun h => ?_) (fun h => ?_)) | (with_reducible refine wguard_split_f (fun h => ?_) (fun h => ?_)) | (with_reducible refine wcond_split (fun h => ?_) (fun h => ?_)) | (with_reducible refine wdguard_split_t (fun h => ?_) (fun h => ?_)) | (with_reducible refine wdguard_split_f (fun h => ?_) (fun h => ?_)) | (with_reducible refine And.intro (fun h => ?_) (fun h => ?_)) | (with_reducible apply And.intro; focus omega))
      ((refine ends_ret (by simp only [resultsOf, resOf, push_cast, seval, EE_P]; rfl) (by simp only [push_cast, seval, EE_P]) ?_ (by repeat' (first | exact Keeps.refl _ | assumption | exact (hwf.keep1 _) | refine Keeps.new hwf ?_ (by omega) _)) (by simp only [lt_int, lt_bool, lt_str, lt_nil, lt_empty, lt_agg, lt_tup, lt_list, lt_cells, lt_fn, lt_nilp, lt_nilfn, lt_nili, List.mem_cons, List.not_mem_nil, or_false, forall_eq_or_imp, forall_eq, and_true, true_and, and_self, implies_true, *]; try omega)); (try simp only [tupOf, push_cast, seval, EE_P]))
      rw [hnm, runS_eq (p := inNameS) (n := i) hi hb (fun h => by omega)]
      congr 1
      symm
      rw [decide_eq_true_eq]
      omega
  all_goals ((refine ends_ret (by simp only [resultsOf, resOf, push_cast, seval, EE_P]; rfl) (by simp only [push_cast, seval, EE_P]) ?_ (by repeat' (first | exact Keeps.refl _ | assumption | exact (hwf.keep1 _) | refine Keeps.new hwf ?_ (by omega) _)) (by simp only [lt_int, lt_bool, lt_str, lt_nil, lt_empty, lt_agg, lt_tup, lt_list, lt_cells, lt_fn, lt_nilp, lt_nilfn, lt_nili, List.mem_cons, List.not_mem_nil, or_false, forall_eq_or_imp, forall_eq, and_true, true_and, and_self, implies_true, *]; try omega)); (try simp only [tupOf, push_cast, seval, EE_P]))
  all_goals (first | (simp [nameS, bAt, *]; done) | (simp_all [nameS, bAt]; done) | (simp [nameS, bAt, *]; intro a; omega) | (simp [nameS, bAt, *]; intro a b; simp_all; done))
end Go.Proofs.YtdajoilaakiinaaGreatDoor.Awp

/- The reference's check of a name, by way of its expressions. -/
namespace Go.Proofs.YtdajoilaakiinaaGreatDoor.Awp
open Go Go.Proofs
set_option linter.unusedSimpArgs false
set_option linter.unusedVariables false
set_option maxRecDepth 10000
set_option maxHeartbeats 4000000

theorem operators1_fn : Pure EE 116 [.int .i64 1] (.tup [.list [[.str ((⟨#[111, 114]⟩ : ByteArray))]], .list [[.int .i64 20]]]) := by
  intro σ nx
  refine fn_of_body goodEE (by rw [EE_P]; exact Tryz.func116) rfl rfl (by kernel_rfl) (Nat.le_of_ble_eq_true rfl) (Nat.le_refl _) fun hwf hlt => ?_
  rw [show Tryz.f116.results.toList = [.tmp 2, .tmp 3] from rfl]
  refine awp_begin _ _ _ _ _ (cc := _) (by conv => lhs; simp only [push_cast, seval, Tryz.f116]) ?_
  simp only [push_cast, seval, EE_P]
  repeat' (first | simp only [push_cast, seval, EE_P] | simp (disch := omega) only [wrap_fits] | ((first | with_reducible apply wcall_pure | with_reducible apply wdcall_pure); focus (first | assumption | fail)) | (with_reducible refine wguard_split_t (fun h => ?_) (fun h => ?_)) | (with_reducible refine wguard_split_f (fun h => ?_) (fun h => ?_)) | (with_reducible refine wcond_split (fun h => ?_) (fun h => ?_)) | (with_reducible refine wdguard_split_t (fun h => ?_) (fun h => ?_)) | (with_reducible refine wdguard_split_f (fun h => ?_) (fun h => ?_)) | (with_reducible refine And.intro (fun h => ?_) (fun h => ?_)) | (with_reducible apply And.intro; focus omega))
  refine ends_fz (by simp only [resultsOf, resOf, push_cast, seval, EE_P]; rfl) (by simp only [push_cast, seval, and_self]) ?_ (by repeat' (first | exact Keeps.refl _ | assumption | exact (hwf.keep1 _) | refine Keeps.new hwf ?_ (by omega) _)) (.tup _ fun c hc => ?_)
  · exact fz_tup (And.intro (fz_row (by simp only [upd_at, push_cast, seval]) (hwf.none (by omega)) rfl) ⟨fz_row (by simp only [upd_at, push_cast, seval]) (hwf.none (by omega)) rfl, trivial⟩)
  · simp only [List.mem_cons, List.not_mem_nil, or_false] at hc
    rcases hc with rfl | rfl
    · refine .list _ fun cs hcs c hc => ?_
      simp only [List.mem_cons, List.not_mem_nil, or_false] at hcs
      rcases hcs with rfl <;> (simp only [List.mem_cons, List.not_mem_nil, or_false] at hc; subst hc; exact .str _)
    · refine .list _ fun cs hcs c hc => ?_
      simp only [List.mem_cons, List.not_mem_nil, or_false] at hcs
      rcases hcs with rfl <;> (simp only [List.mem_cons, List.not_mem_nil, or_false] at hc; subst hc; exact .int _ _)
theorem operators2_fn : Pure EE 116 [.int .i64 2] (.tup [.list [[.str ((⟨#[97, 110, 100]⟩ : ByteArray))]], .list [[.int .i64 19]]]) := by
  intro σ nx
  refine fn_of_body goodEE (by rw [EE_P]; exact Tryz.func116) rfl rfl (by kernel_rfl) (Nat.le_of_ble_eq_true rfl) (Nat.le_refl _) fun hwf hlt => ?_
  rw [show Tryz.f116.results.toList = [.tmp 2, .tmp 3] from rfl]
  refine awp_begin _ _ _ _ _ (cc := _) (by conv => lhs; simp only [push_cast, seval, Tryz.f116]) ?_
  simp only [push_cast, seval, EE_P]
  repeat' (first | simp only [push_cast, seval, EE_P] | simp (disch := omega) only [wrap_fits] | ((first | with_reducible apply wcall_pure | with_reducible apply wdcall_pure); focus (first | assumption | fail)) | (with_reducible refine wguard_split_t (fun h => ?_) (fun h => ?_)) | (with_reducible refine wguard_split_f (fun h => ?_) (fun h => ?_)) | (with_reducible refine wcond_split (fun h => ?_) (fun h => ?_)) | (with_reducible refine wdguard_split_t (fun h => ?_) (fun h => ?_)) | (with_reducible refine wdguard_split_f (fun h => ?_) (fun h => ?_)) | (with_reducible refine And.intro (fun h => ?_) (fun h => ?_)) | (with_reducible apply And.intro; focus omega))
  refine ends_fz (by simp only [resultsOf, resOf, push_cast, seval, EE_P]; rfl) (by simp only [push_cast, seval, and_self]) ?_ (by repeat' (first | exact Keeps.refl _ | assumption | exact (hwf.keep1 _) | refine Keeps.new hwf ?_ (by omega) _)) (.tup _ fun c hc => ?_)
  · exact fz_tup (And.intro (fz_row (by simp only [upd_at, push_cast, seval]) (hwf.none (by omega)) rfl) ⟨fz_row (by simp only [upd_at, push_cast, seval]) (hwf.none (by omega)) rfl, trivial⟩)
  · simp only [List.mem_cons, List.not_mem_nil, or_false] at hc
    rcases hc with rfl | rfl
    · refine .list _ fun cs hcs c hc => ?_
      simp only [List.mem_cons, List.not_mem_nil, or_false] at hcs
      rcases hcs with rfl <;> (simp only [List.mem_cons, List.not_mem_nil, or_false] at hc; subst hc; exact .str _)
    · refine .list _ fun cs hcs c hc => ?_
      simp only [List.mem_cons, List.not_mem_nil, or_false] at hcs
      rcases hcs with rfl <;> (simp only [List.mem_cons, List.not_mem_nil, or_false] at hc; subst hc; exact .int _ _)
theorem operators3_fn : Pure EE 116 [.int .i64 3] (.tup [.nil, .nil]) := by
  intro σ nx
  refine fn_of_body goodEE (by rw [EE_P]; exact Tryz.func116) rfl rfl (by kernel_rfl) (Nat.le_of_ble_eq_true rfl) (Nat.le_refl _) fun hwf hlt => ?_
  rw [show Tryz.f116.results.toList = [.tmp 2, .tmp 3] from rfl]
  refine awp_begin _ _ _ _ _ (cc := _) (by conv => lhs; simp only [push_cast, seval, Tryz.f116]) ?_
  simp only [push_cast, seval, EE_P]
  repeat' (first | simp only [push_cast, seval, EE_P] | simp (disch := omega) only [wrap_fits] | ((first | with_reducible apply wcall_pure | with_reducible apply wdcall_pure); focus (first | assumption | fail)) | (with_reducible refine wguard_split_t (fun h => ?_) (fun h => ?_)) | (with_reducible refine wguard_split_f (fun h => ?_) (fun h => ?_)) | (with_reducible refine wcond_split (fun h => ?_) (fun h => ?_)) | (with_reducible refine wdguard_split_t (fun h => ?_) (fun h => ?_)) | (with_reducible refine wdguard_split_f (fun h => ?_) (fun h => ?_)) | (with_reducible refine And.intro (fun h => ?_) (fun h => ?_)) | (with_reducible apply And.intro; focus omega))
  all_goals ((refine ends_ret (by simp only [resultsOf, resOf, push_cast, seval, EE_P]; rfl) (by simp only [push_cast, seval, EE_P]) ?_ (by repeat' (first | exact Keeps.refl _ | assumption | exact (hwf.keep1 _) | refine Keeps.new hwf ?_ (by omega) _)) (by simp only [lt_int, lt_bool, lt_str, lt_nil, lt_empty, lt_agg, lt_tup, lt_list, lt_cells, lt_fn, lt_nilp, lt_nilfn, lt_nili, List.mem_cons, List.not_mem_nil, or_false, forall_eq_or_imp, forall_eq, and_true, true_and, and_self, implies_true, *]; try omega)); (try simp only [tupOf, push_cast, seval, EE_P]))
theorem operators4_fn : Pure EE 116 [.int .i64 4] (.tup [.list [[.str ((⟨#[61, 61]⟩ : ByteArray))], [.str ((⟨#[33, 61]⟩ : ByteArray))], [.str ((⟨#[60]⟩ : ByteArray))], [.str ((⟨#[60, 61]⟩ : ByteArray))], [.str ((⟨#[62]⟩ : ByteArray))], [.str ((⟨#[62, 61]⟩ : ByteArray))]], .list [[.int .i64 12], [.int .i64 13], [.int .i64 14], [.int .i64 15], [.int .i64 16], [.int .i64 17]]]) := by
  intro σ nx
  refine fn_of_body goodEE (by rw [EE_P]; exact Tryz.func116) rfl rfl (by kernel_rfl) (Nat.le_of_ble_eq_true rfl) (Nat.le_refl _) fun hwf hlt => ?_
  rw [show Tryz.f116.results.toList = [.tmp 2, .tmp 3] from rfl]
  refine awp_begin _ _ _ _ _ (cc := _) (by conv => lhs; simp only [push_cast, seval, Tryz.f116]) ?_
  simp only [push_cast, seval, EE_P]
  repeat' (first | simp only [push_cast, seval, EE_P] | simp (disch := omega) only [wrap_fits] | ((first | with_reducible apply wcall_pure | with_reducible apply wdcall_pure); focus (first | assumption | fail)) | (with_reducible refine wguard_split_t (fun h => ?_) (fun h => ?_)) | (with_reducible refine wguard_split_f (fun h => ?_) (fun h => ?_)) | (with_reducible refine wcond_split (fun h => ?_) (fun h => ?_)) | (with_reducible refine wdguard_split_t (fun h => ?_) (fun h => ?_)) | (with_reducible refine wdguard_split_f (fun h => ?_) (fun h => ?_)) | (with_reducible refine And.intro (fun h => ?_) (fun h => ?_)) | (with_reducible apply And.intro; focus omega))
  refine ends_fz (by simp only [resultsOf, resOf, push_cast, seval, EE_P]; rfl) (by simp only [push_cast, seval, and_self]) ?_ (by repeat' (first | exact Keeps.refl _ | assumption | exact (hwf.keep1 _) | refine Keeps.new hwf ?_ (by omega) _)) (.tup _ fun c hc => ?_)
  · exact fz_tup (And.intro (fz_row (by simp only [upd_at, push_cast, seval]) (hwf.none (by omega)) rfl) ⟨fz_row (by simp only [upd_at, push_cast, seval]) (hwf.none (by omega)) rfl, trivial⟩)
  · simp only [List.mem_cons, List.not_mem_nil, or_false] at hc
    rcases hc with rfl | rfl
    · refine .list _ fun cs hcs c hc => ?_
      simp only [List.mem_cons, List.not_mem_nil, or_false] at hcs
      rcases hcs with rfl | rfl | rfl | rfl | rfl | rfl <;> (simp only [List.mem_cons, List.not_mem_nil, or_false] at hc; subst hc; exact .str _)
    · refine .list _ fun cs hcs c hc => ?_
      simp only [List.mem_cons, List.not_mem_nil, or_false] at hcs
      rcases hcs with rfl | rfl | rfl | rfl | rfl | rfl <;> (simp only [List.mem_cons, List.not_mem_nil, or_false] at hc; subst hc; exact .int _ _)
theorem operators5_fn : Pure EE 116 [.int .i64 5] (.tup [.list [[.str ((⟨#[43]⟩ : ByteArray))], [.str ((⟨#[45]⟩ : ByteArray))]], .list [[.int .i64 6], [.int .i64 7]]]) := by
  intro σ nx
  refine fn_of_body goodEE (by rw [EE_P]; exact Tryz.func116) rfl rfl (by kernel_rfl) (Nat.le_of_ble_eq_true rfl) (Nat.le_refl _) fun hwf hlt => ?_
  rw [show Tryz.f116.results.toList = [.tmp 2, .tmp 3] from rfl]
  refine awp_begin _ _ _ _ _ (cc := _) (by conv => lhs; simp only [push_cast, seval, Tryz.f116]) ?_
  simp only [push_cast, seval, EE_P]
  repeat' (first | simp only [push_cast, seval, EE_P] | simp (disch := omega) only [wrap_fits] | ((first | with_reducible apply wcall_pure | with_reducible apply wdcall_pure); focus (first | assumption | fail)) | (with_reducible refine wguard_split_t (fun h => ?_) (fun h => ?_)) | (with_reducible refine wguard_split_f (fun h => ?_) (fun h => ?_)) | (with_reducible refine wcond_split (fun h => ?_) (fun h => ?_)) | (with_reducible refine wdguard_split_t (fun h => ?_) (fun h => ?_)) | (with_reducible refine wdguard_split_f (fun h => ?_) (fun h => ?_)) | (with_reducible refine And.intro (fun h => ?_) (fun h => ?_)) | (with_reducible apply And.intro; focus omega))
  refine ends_fz (by simp only [resultsOf, resOf, push_cast, seval, EE_P]; rfl) (by simp only [push_cast, seval, and_self]) ?_ (by repeat' (first | exact Keeps.refl _ | assumption | exact (hwf.keep1 _) | refine Keeps.new hwf ?_ (by omega) _)) (.tup _ fun c hc => ?_)
  · exact fz_tup (And.intro (fz_row (by simp only [upd_at, push_cast, seval]) (hwf.none (by omega)) rfl) ⟨fz_row (by simp only [upd_at, push_cast, seval]) (hwf.none (by omega)) rfl, trivial⟩)
  · simp only [List.mem_cons, List.not_mem_nil, or_false] at hc
    rcases hc with rfl | rfl
    · refine .list _ fun cs hcs c hc => ?_
      simp only [List.mem_cons, List.not_mem_nil, or_false] at hcs
      rcases hcs with rfl | rfl <;> (simp only [List.mem_cons, List.not_mem_nil, or_false] at hc; subst hc; exact .str _)
    · refine .list _ fun cs hcs c hc => ?_
      simp only [List.mem_cons, List.not_mem_nil, or_false] at hcs
      rcases hcs with rfl | rfl <;> (simp only [List.mem_cons, List.not_mem_nil, or_false] at hc; subst hc; exact .int _ _)
theorem operators6_fn : Pure EE 116 [.int .i64 6] (.tup [.list [[.str ((⟨#[42]⟩ : ByteArray))], [.str ((⟨#[47]⟩ : ByteArray))]], .list [[.int .i64 8], [.int .i64 9]]]) := by
  intro σ nx
  refine fn_of_body goodEE (by rw [EE_P]; exact Tryz.func116) rfl rfl (by kernel_rfl) (Nat.le_of_ble_eq_true rfl) (Nat.le_refl _) fun hwf hlt => ?_
  rw [show Tryz.f116.results.toList = [.tmp 2, .tmp 3] from rfl]
  refine awp_begin _ _ _ _ _ (cc := _) (by conv => lhs; simp only [push_cast, seval, Tryz.f116]) ?_
  simp only [push_cast, seval, EE_P]
  repeat' (first | simp only [push_cast, seval, EE_P] | simp (disch := omega) only [wrap_fits] | ((first | with_reducible apply wcall_pure | with_reducible apply wdcall_pure); focus (first | assumption | fail)) | (with_reducible refine wguard_split_t (fun h => ?_) (fun h => ?_)) | (with_reducible refine wguard_split_f (fun h => ?_) (fun h => ?_)) | (with_reducible refine wcond_split (fun h => ?_) (fun h => ?_)) | (with_reducible refine wdguard_split_t (fun h => ?_) (fun h => ?_)) | (with_reducible refine wdguard_split_f (fun h => ?_) (fun h => ?_)) | (with_reducible refine And.intro (fun h => ?_) (fun h => ?_)) | (with_reducible apply And.intro; focus omega))
  refine ends_fz (by simp only [resultsOf, resOf, push_cast, seval, EE_P]; rfl) (by simp only [push_cast, seval, and_self]) ?_ (by repeat' (first | exact Keeps.refl _ | assumption | exact (hwf.keep1 _) | refine Keeps.new hwf ?_ (by omega) _)) (.tup _ fun c hc => ?_)
  · exact fz_tup (And.intro (fz_row (by simp only [upd_at, push_cast, seval]) (hwf.none (by omega)) rfl) ⟨fz_row (by simp only [upd_at, push_cast, seval]) (hwf.none (by omega)) rfl, trivial⟩)
  · simp only [List.mem_cons, List.not_mem_nil, or_false] at hc
    rcases hc with rfl | rfl
    · refine .list _ fun cs hcs c hc => ?_
      simp only [List.mem_cons, List.not_mem_nil, or_false] at hcs
      rcases hcs with rfl | rfl <;> (simp only [List.mem_cons, List.not_mem_nil, or_false] at hc; subst hc; exact .str _)
    · refine .list _ fun cs hcs c hc => ?_
      simp only [List.mem_cons, List.not_mem_nil, or_false] at hcs
      rcases hcs with rfl | rfl <;> (simp only [List.mem_cons, List.not_mem_nil, or_false] at hc; subst hc; exact .int _ _)
def opL : Nat → List Int
  | 1 => [20]
  | 2 => [19]
  | 4 => [12, 13, 14, 15, 16, 17]
  | 5 => [6, 7]
  | 6 => [8, 9]
  | _ => []
def intC (k : Int) : List PV := [.int .i64 k]
theorem operators_ex {i : Nat} (h1 : 1 ≤ i) (h2 : i ≤ 6) : ∃ a b, Pure EE 116 [.int .i64 i] (.tup [a, b]) ∧ SliceP ((opL i).map intC) b ∧ (opL i).length ≤ 6 ∧ ∀ k ∈ opL i, ¬ k = 2 := by
  obtain rfl | rfl | rfl | rfl | rfl | rfl : i = 1 ∨ i = 2 ∨ i = 3 ∨ i = 4 ∨ i = 5 ∨ i = 6 := by omega
  · exact ⟨_, _, operators1_fn, .list, by decide, by decide⟩
  · exact ⟨_, _, operators2_fn, .list, by decide, by decide⟩
  · exact ⟨_, _, operators3_fn, .nil rfl, by decide, by decide⟩
  · exact ⟨_, _, operators4_fn, .list, by decide, by decide⟩
  · exact ⟨_, _, operators5_fn, .list, by decide, by decide⟩
  · exact ⟨_, _, operators6_fn, .list, by decide, by decide⟩
theorem rank_name (s : ByteArray) : Pure EE 112 [nameP s] (.int .i64 8) := by
  intro σ nx
  refine fn_of_body goodEE (by rw [EE_P]; exact Tryz.func112) rfl rfl (by kernel_rfl) (Nat.le_of_ble_eq_true rfl) (Nat.le_refl _) fun hwf hlt => ?_
  rw [show Tryz.f112.results.toList = [.tmp 2] from rfl]
  refine awp_begin _ _ _ _ _ (cc := _) (by conv => lhs; simp only [push_cast, seval, Tryz.f112]) ?_
  simp only [push_cast, seval, EE_P]
  repeat' (first | simp only [push_cast, seval, EE_P] | simp (disch := omega) only [wrap_fits] | ((first | with_reducible apply wcall_pure | with_reducible apply wdcall_pure); focus (first | assumption | exact operators6_fn | exact operators5_fn | exact operators4_fn | exact operators3_fn | exact operators2_fn | exact operators1_fn)) | (with_reducible refine wguard_split_t (fun h => ?_) (fun h => ?_)) | (with_reducible refine wguard_split_f (fun h => ?_) (fun h => ?_)) | (with_reducible refine wcond_split (fun h => ?_) (fun h => ?_)) | (with_reducible refine wdguard_split_t (fun h => ?_) (fun h => ?_)) | (with_reducible refine wdguard_split_f (fun h => ?_) (fun h => ?_)) | (with_reducible refine And.intro (fun h => ?_) (fun h => ?_)) | (with_reducible apply And.intro; focus omega))
  refine wloop_by (fun m sl σ' nx' => ∃ i : Nat, 1 ≤ i ∧ i ≤ 7 ∧ m = 7 - i ∧ nx < nx' ∧ sl 1 = .ptr nx 0 0 ∧ sl 3 = .int .i64 i ∧ σ' nx = some (.row [[.int .i64 2, .str s, .int .i64 0, .int .i64 0, .int .i64 0, .nil]]) ∧ Keeps σ σ') 6
    ⟨1, by omega, by omega, rfl, by omega, rfl, rfl, upd_same .., (by repeat' (first | exact Keeps.refl _ | assumption | exact (hwf.keep1 _) | refine Keeps.new hwf ?_ (by omega) _))⟩ ?_
  rintro m sl σ' nx' ⟨i, hi1, hi7, hm, hnx, h1, h3, hs, hk⟩
  by_cases hil : i ≤ 6
  · have hil' : (i : Int) ≤ 6 := by omega
    have hw : IntKind.i64.wrap ((i : Int) + 1) = (i : Int) + 1 := wrap_small (by omega) (by omega)
    obtain ⟨a, b, hop, hb, hbl, hb2⟩ := operators_ex hi1 hil
    have hblen := hb.len
    simp only [List.length_map] at hblen
    repeat' (first | simp only [push_cast, seval, EE_P, h1, h3, hil', hs, (key_ne hnx).1, (key_ne hnx).2.1, (key_ne hnx).2.2.1, (key_ne hnx).2.2.2] | simp (disch := omega) only [wrap_fits] | ((first | with_reducible apply wcall_pure | with_reducible apply wdcall_pure); focus (first | assumption | exact operators6_fn | exact operators5_fn | exact operators4_fn | exact operators3_fn | exact operators2_fn | exact operators1_fn)) | (with_reducible refine wguard_split_t (fun h => ?_) (fun h => ?_)) | (with_reducible refine wguard_split_f (fun h => ?_) (fun h => ?_)) | (with_reducible refine wcond_split (fun h => ?_) (fun h => ?_)) | (with_reducible refine wdguard_split_t (fun h => ?_) (fun h => ?_)) | (with_reducible refine wdguard_split_f (fun h => ?_) (fun h => ?_)) | (with_reducible refine And.intro (fun h => ?_) (fun h => ?_)) | (with_reducible apply And.intro; focus omega))
    refine wloop_by (fun m2 sl2 σ2 nx2 => ∃ j : Nat, j ≤ (opL i).length ∧ m2 = (opL i).length - j ∧ nx < nx2 ∧ sl2 1 = .ptr nx 0 0 ∧ sl2 3 = .int .i64 i ∧ sl2 5 = b ∧ sl2 6 = .int .i64 j ∧ σ2 nx = some (.row [[.int .i64 2, .str s, .int .i64 0, .int .i64 0, .int .i64 0, .nil]]) ∧ Keeps σ σ2) (opL i).length
      ⟨0, by omega, rfl, by omega, ?_, ?_, rfl, rfl, ?_, (by repeat' (first | exact Keeps.refl _ | assumption | exact (hwf.keep1 _) | refine Keeps.new hwf ?_ (by omega) _))⟩ ?_
    · simp only [upd_at, push_cast, seval, h1]
    · simp only [upd_at, push_cast, seval, h3]
    · simp only [upd_at, push_cast, seval, (key_ne hnx).1, (key_ne hnx).2.1, (key_ne hnx).2.2.1, (key_ne hnx).2.2.2, hs]
    clear hs hk h1 h3
    rintro m2 sl2 σ2 nx2 ⟨j, hj, hm2, hnx2, h1, h3, h5, h6, hs, hk⟩
    have hj0 : (0 : Int) ≤ j := by omega
    by_cases hjl : j < (opL i).length
    · have hjl' : (j : Int) < (opL i).length := by omega
      have hwj : IntKind.i64.wrap ((j : Int) + 1) = (j : Int) + 1 := wrap_small (by omega) (by omega)
      have hget : ((opL i).map intC)[j]? = some [.int .i64 (opL i)[j]] := by rw [List.getElem?_map, List.getElem?_eq_getElem hjl]; rfl
      have hne : ¬ (opL i)[j] = 2 := hb2 _ (List.getElem_mem hjl)
      obtain rfl := hb.lt (i := j) (by simpa using hjl)
      generalize (opL i)[j] = x at hget hne
      repeat' (first | simp only [push_cast, seval, EE_P, h1, h3, h5, h6, hs, (key_ne hnx2).1, (key_ne hnx2).2.1, (key_ne hnx2).2.2.1, (key_ne hnx2).2.2.2, hblen, hj0, hjl', hwj, hget, hne, List.length_map, Int.toNat_natCast] | simp (disch := omega) only [wrap_fits] | ((first | with_reducible apply wcall_pure | with_reducible apply wdcall_pure); focus (first | assumption | exact operators6_fn | exact operators5_fn | exact operators4_fn | exact operators3_fn | exact operators2_fn | exact operators1_fn)) | (with_reducible refine wguard_split_t (fun h => ?_) (fun h => ?_)) | (with_reducible refine wguard_split_f (fun h => ?_) (fun h => ?_)) | (with_reducible refine wcond_split (fun h => ?_) (fun h => ?_)) | (with_reducible refine wdguard_split_t (fun h => ?_) (fun h => ?_)) | (with_reducible refine wdguard_split_f (fun h => ?_) (fun h => ?_)) | (with_reducible refine And.intro (fun h => ?_) (fun h => ?_)) | (with_reducible apply And.intro; focus omega))
      exact ⟨(opL i).length - (j + 1), by omega, j + 1, by omega, rfl, by omega, by simp, hk⟩
    · have hjl' : ¬ (j : Int) < (opL i).length := by omega
      repeat' (first | simp only [push_cast, seval, EE_P, h1, h3, h5, h6, hs, (key_ne hnx2).1, (key_ne hnx2).2.1, (key_ne hnx2).2.2.1, (key_ne hnx2).2.2.2, hblen, hjl', hb.str, hw] | simp (disch := omega) only [wrap_fits] | ((first | with_reducible apply wcall_pure | with_reducible apply wdcall_pure); focus (first | assumption | exact operators6_fn | exact operators5_fn | exact operators4_fn | exact operators3_fn | exact operators2_fn | exact operators1_fn)) | (with_reducible refine wguard_split_t (fun h => ?_) (fun h => ?_)) | (with_reducible refine wguard_split_f (fun h => ?_) (fun h => ?_)) | (with_reducible refine wcond_split (fun h => ?_) (fun h => ?_)) | (with_reducible refine wdguard_split_t (fun h => ?_) (fun h => ?_)) | (with_reducible refine wdguard_split_f (fun h => ?_) (fun h => ?_)) | (with_reducible refine And.intro (fun h => ?_) (fun h => ?_)) | (with_reducible apply And.intro; focus omega))
      exact ⟨7 - (i + 1), by omega, i + 1, by omega, by omega, rfl, by omega, by simp, hk⟩
  · have hil' : ¬ (i : Int) ≤ 6 := by omega
    repeat' (first | simp only [push_cast, seval, EE_P, h1, h3, hil', hs, (key_ne hnx).1, (key_ne hnx).2.1, (key_ne hnx).2.2.1, (key_ne hnx).2.2.2] | simp (disch := omega) only [wrap_fits] | ((first | with_reducible apply wcall_pure | with_reducible apply wdcall_pure); focus (first | assumption | exact operators6_fn | exact operators5_fn | exact operators4_fn | exact operators3_fn | exact operators2_fn | exact operators1_fn)) | (with_reducible refine wguard_split_t (fun h => ?_) (fun h => ?_)) | (with_reducible refine wguard_split_f (fun h => ?_) (fun h => ?_)) | (with_reducible refine wcond_split (fun h => ?_) (fun h => ?_)) | (with_reducible refine wdguard_split_t (fun h => ?_) (fun h => ?_)) | (with_reducible refine wdguard_split_f (fun h => ?_) (fun h => ?_)) | (with_reducible refine And.intro (fun h => ?_) (fun h => ?_)) | (with_reducible apply And.intro; focus omega))
    ((refine ends_ret (by simp only [resultsOf, resOf, push_cast, seval, EE_P]; rfl) (by simp only [push_cast, seval, EE_P]) ?_ (by repeat' (first | exact Keeps.refl _ | assumption | exact (hwf.keep1 _) | refine Keeps.new hwf ?_ (by omega) _)) (by simp only [lt_int, lt_bool, lt_str, lt_nil, lt_empty, lt_agg, lt_tup, lt_list, lt_cells, lt_fn, lt_nilp, lt_nilfn, lt_nili, List.mem_cons, List.not_mem_nil, or_false, forall_eq_or_imp, forall_eq, and_true, true_and, and_self, implies_true, *]; try omega)); (try simp only [tupOf, push_cast, seval, EE_P]))
theorem sound_name (s : ByteArray) : Pure EE 98 [nameP s] (.bool (nameS s)) := by
  have hr := rank_name s
  intro σ nx
  refine fn_of_body goodEE (by rw [EE_P]; exact Tryz.func98) rfl rfl (by kernel_rfl) (Nat.le_of_ble_eq_true rfl) (Nat.le_refl _) fun hwf hlt => ?_
  rw [show Tryz.f98.results.toList = [.tmp 2] from rfl]
  refine awp_begin _ _ _ _ _ (cc := _) (by conv => lhs; simp only [push_cast, seval, Tryz.f98]) ?_
  simp only [push_cast, seval, EE_P]
  repeat' (first | simp only [push_cast, seval, EE_P] | simp (disch := omega) only [wrap_fits] | ((first | with_reducible apply wcall_pure | with_reducible apply wdcall_pure); focus (first | assumption | exact isName47_fn _)) | (with_reducible refine wguard_split_t (fun h => ?_) (fun h => ?_)) | (with_reducible refine wguard_split_f (fun h => ?_) (fun h => ?_)) | (with_reducible refine wcond_split (fun h => ?_) (fun h => ?_)) | (with_reducible refine wdguard_split_t (fun h => ?_) (fun h => ?_)) | (with_reducible refine wdguard_split_f (fun h => ?_) (fun h => ?_)) | (with_reducible refine And.intro (fun h => ?_) (fun h => ?_)) | (with_reducible apply And.intro; focus omega))
  · apply wloop_once
    repeat' (first | simp only [push_cast, seval, EE_P] | simp (disch := omega) only [wrap_fits] | ((first | with_reducible apply wcall_pure | with_reducible apply wdcall_pure); focus (first | assumption | exact isName47_fn _)) | (with_reducible refine wguard_split_t (fun h => ?_) (fun h => ?_)) | (with_reducible refine wguard_split_f (fun h => ?_) (fun h => ?_)) | (with_reducible refine wcond_split (fun h => ?_) (fun h => ?_)) | (with_reducible refine wdguard_split_t (fun h => ?_) (fun h => ?_)) | (with_reducible refine wdguard_split_f (fun h => ?_) (fun h => ?_)) | (with_reducible refine And.intro (fun h => ?_) (fun h => ?_)) | (with_reducible apply And.intro; focus omega))
    ((refine ends_ret (by simp only [resultsOf, resOf, push_cast, seval, EE_P]; rfl) (by simp only [push_cast, seval, EE_P]) ?_ (by repeat' (first | exact Keeps.refl _ | assumption | exact (hwf.keep1 _) | refine Keeps.new hwf ?_ (by omega) _)) (by simp only [lt_int, lt_bool, lt_str, lt_nil, lt_empty, lt_agg, lt_tup, lt_list, lt_cells, lt_fn, lt_nilp, lt_nilfn, lt_nili, List.mem_cons, List.not_mem_nil, or_false, forall_eq_or_imp, forall_eq, and_true, true_and, and_self, implies_true, *]; try omega)); (try simp only [tupOf, push_cast, seval, EE_P]))
    have : (!nameS s) = false := by assumption
    simp at this
    rw [this]
  · ((refine ends_ret (by simp only [resultsOf, resOf, push_cast, seval, EE_P]; rfl) (by simp only [push_cast, seval, EE_P]) ?_ (by repeat' (first | exact Keeps.refl _ | assumption | exact (hwf.keep1 _) | refine Keeps.new hwf ?_ (by omega) _)) (by simp only [lt_int, lt_bool, lt_str, lt_nil, lt_empty, lt_agg, lt_tup, lt_list, lt_cells, lt_fn, lt_nilp, lt_nilfn, lt_nili, List.mem_cons, List.not_mem_nil, or_false, forall_eq_or_imp, forall_eq, and_true, true_and, and_self, implies_true, *]; try omega)); (try simp only [tupOf, push_cast, seval, EE_P]))
    have : (!nameS s) = true := by assumption
    simp at this
    rw [this]
theorem levels_name (s : ByteArray) : Pure EE 99 [nameP s] (.int .i64 1) := by
  intro σ nx
  refine fn_of_body goodEE (by rw [EE_P]; exact Tryz.func99) rfl rfl (by kernel_rfl) (Nat.le_of_ble_eq_true rfl) (Nat.le_refl _) fun hwf hlt => ?_
  rw [show Tryz.f99.results.toList = [.tmp 2] from rfl]
  refine awp_begin _ _ _ _ _ (cc := _) (by conv => lhs; simp only [push_cast, seval, Tryz.f99]) ?_
  simp only [push_cast, seval, EE_P]
  repeat' (first | simp only [push_cast, seval, EE_P] | simp (disch := omega) only [wrap_fits] | ((first | with_reducible apply wcall_pure | with_reducible apply wdcall_pure); focus (first | assumption | fail)) | (with_reducible refine wguard_split_t (fun h => ?_) (fun h => ?_)) | (with_reducible refine wguard_split_f (fun h => ?_) (fun h => ?_)) | (with_reducible refine wcond_split (fun h => ?_) (fun h => ?_)) | (with_reducible refine wdguard_split_t (fun h => ?_) (fun h => ?_)) | (with_reducible refine wdguard_split_f (fun h => ?_) (fun h => ?_)) | (with_reducible refine And.intro (fun h => ?_) (fun h => ?_)) | (with_reducible apply And.intro; focus omega))
  apply wloop_once
  repeat' (first | simp only [push_cast, seval, EE_P] | simp (disch := omega) only [wrap_fits] | ((first | with_reducible apply wcall_pure | with_reducible apply wdcall_pure); focus (first | assumption | fail)) | (with_reducible refine wguard_split_t (fun h => ?_) (fun h => ?_)) | (with_reducible refine wguard_split_f (fun h => ?_) (fun h => ?_)) | (with_reducible refine wcond_split (fun h => ?_) (fun h => ?_)) | (with_reducible refine wdguard_split_t (fun h => ?_) (fun h => ?_)) | (with_reducible refine wdguard_split_f (fun h => ?_) (fun h => ?_)) | (with_reducible refine And.intro (fun h => ?_) (fun h => ?_)) | (with_reducible apply And.intro; focus omega))
  ((refine ends_ret (by simp only [resultsOf, resOf, push_cast, seval, EE_P]; rfl) (by simp only [push_cast, seval, EE_P]) ?_ (by repeat' (first | exact Keeps.refl _ | assumption | exact (hwf.keep1 _) | refine Keeps.new hwf ?_ (by omega) _)) (by simp only [lt_int, lt_bool, lt_str, lt_nil, lt_empty, lt_agg, lt_tup, lt_list, lt_cells, lt_fn, lt_nilp, lt_nilfn, lt_nili, List.mem_cons, List.not_mem_nil, or_false, forall_eq_or_imp, forall_eq, and_true, true_and, and_self, implies_true, *]; try omega)); (try simp only [tupOf, push_cast, seval, EE_P]))
theorem text_name (s : ByteArray) : Pure EE 100 [nameP s] (.str s) := by
  intro σ nx
  refine fn_of_body goodEE (by rw [EE_P]; exact Tryz.func100) rfl rfl (by kernel_rfl) (Nat.le_of_ble_eq_true rfl) (Nat.le_refl _) fun hwf hlt => ?_
  rw [show Tryz.f100.results.toList = [.tmp 2] from rfl]
  refine awp_begin _ _ _ _ _ (cc := _) (by conv => lhs; simp only [push_cast, seval, Tryz.f100]) ?_
  simp only [push_cast, seval, EE_P]
  repeat' (first | simp only [push_cast, seval, EE_P] | simp (disch := omega) only [wrap_fits] | ((first | with_reducible apply wcall_pure | with_reducible apply wdcall_pure); focus (first | assumption | exact operators6_fn | exact operators5_fn | exact operators4_fn | exact operators3_fn | exact operators2_fn | exact operators1_fn)) | (with_reducible refine wguard_split_t (fun h => ?_) (fun h => ?_)) | (with_reducible refine wguard_split_f (fun h => ?_) (fun h => ?_)) | (with_reducible refine wcond_split (fun h => ?_) (fun h => ?_)) | (with_reducible refine wdguard_split_t (fun h => ?_) (fun h => ?_)) | (with_reducible refine wdguard_split_f (fun h => ?_) (fun h => ?_)) | (with_reducible refine And.intro (fun h => ?_) (fun h => ?_)) | (with_reducible apply And.intro; focus omega))
  ((refine ends_ret (by simp only [resultsOf, resOf, push_cast, seval, EE_P]; rfl) (by simp only [push_cast, seval, EE_P]) ?_ (by repeat' (first | exact Keeps.refl _ | assumption | exact (hwf.keep1 _) | refine Keeps.new hwf ?_ (by omega) _)) (by simp only [lt_int, lt_bool, lt_str, lt_nil, lt_empty, lt_agg, lt_tup, lt_list, lt_cells, lt_fn, lt_nilp, lt_nilfn, lt_nili, List.mem_cons, List.not_mem_nil, or_false, forall_eq_or_imp, forall_eq, and_true, true_and, and_self, implies_true, *]; try omega)); (try simp only [tupOf, push_cast, seval, EE_P]))
theorem validExpr_name (s : ByteArray) : Pure EE 80 [nameP s] (.bool (nameS s)) := by
  have h1 := sound_name s
  have h2 := levels_name s
  have h3 := text_name s
  have h4 : nameS s = true → ¬ (s.size : Int) > 16384 := fun h => by have := nameS_size h; omega
  intro σ nx
  refine fn_of_body goodEE (by rw [EE_P]; exact Tryz.func80) rfl rfl (by kernel_rfl) (Nat.le_of_ble_eq_true rfl) (Nat.le_refl _) fun hwf hlt => ?_
  rw [show Tryz.f80.results.toList = [.tmp 2] from rfl]
  refine awp_begin _ _ _ _ _ (cc := _) (by conv => lhs; simp only [push_cast, seval, Tryz.f80]) ?_
  simp only [push_cast, seval, EE_P]
  repeat' (first | simp only [push_cast, seval, EE_P] | simp (disch := omega) only [wrap_fits] | ((first | with_reducible apply wcall_pure | with_reducible apply wdcall_pure); focus (first | assumption | fail)) | (with_reducible refine wguard_split_t (fun h => ?_) (fun h => ?_)) | (with_reducible refine wguard_split_f (fun h => ?_) (fun h => ?_)) | (with_reducible refine wcond_split (fun h => ?_) (fun h => ?_)) | (with_reducible refine wdguard_split_t (fun h => ?_) (fun h => ?_)) | (with_reducible refine wdguard_split_f (fun h => ?_) (fun h => ?_)) | (with_reducible refine And.intro (fun h => ?_) (fun h => ?_)) | (with_reducible apply And.intro; focus omega))
  all_goals ((refine ends_ret (by simp only [resultsOf, resOf, push_cast, seval, EE_P]; rfl) (by simp only [push_cast, seval, EE_P]) ?_ (by repeat' (first | exact Keeps.refl _ | assumption | exact (hwf.keep1 _) | refine Keeps.new hwf ?_ (by omega) _)) (by simp only [lt_int, lt_bool, lt_str, lt_nil, lt_empty, lt_agg, lt_tup, lt_list, lt_cells, lt_fn, lt_nilp, lt_nilfn, lt_nili, List.mem_cons, List.not_mem_nil, or_false, forall_eq_or_imp, forall_eq, and_true, true_and, and_self, implies_true, *]; try omega)); (try simp only [tupOf, push_cast, seval, EE_P]))
  · have hn : nameS s = true := by assumption
    have := h4 hn
    rw [hn, decide_eq_true (by omega)]
  · have hn : nameS s = false := by assumption
    rw [hn]
theorem isName50_fn (s : ByteArray) : Pure EE 48 [.str s] (.bool (nameS s)) := by
  have h1 := validExpr_name s
  intro σ nx
  refine fn_of_body goodEE (by rw [EE_P]; exact Tryz.func48) rfl rfl (by kernel_rfl) (Nat.le_of_ble_eq_true rfl) (Nat.le_refl _) fun hwf hlt => ?_
  rw [show Tryz.f48.results.toList = [.tmp 2] from rfl]
  refine awp_begin _ _ _ _ _ (cc := _) (by conv => lhs; simp only [push_cast, seval, Tryz.f48]) ?_
  simp only [push_cast, seval, EE_P]
  repeat' (first | simp only [push_cast, seval, EE_P] | simp (disch := omega) only [wrap_fits] | ((first | with_reducible apply wcall_pure | with_reducible apply wdcall_pure); focus (first | assumption | fail)) | (with_reducible refine wguard_split_t (fun h => ?_) (fun h => ?_)) | (with_reducible refine wguard_split_f (fun h => ?_) (fun h => ?_)) | (with_reducible refine wcond_split (fun h => ?_) (fun h => ?_)) | (with_reducible refine wdguard_split_t (fun h => ?_) (fun h => ?_)) | (with_reducible refine wdguard_split_f (fun h => ?_) (fun h => ?_)) | (with_reducible refine And.intro (fun h => ?_) (fun h => ?_)) | (with_reducible apply And.intro; focus omega))
  all_goals ((refine ends_ret (by simp only [resultsOf, resOf, push_cast, seval, EE_P]; rfl) (by simp only [push_cast, seval, EE_P]) ?_ (by repeat' (first | exact Keeps.refl _ | assumption | exact (hwf.keep1 _) | refine Keeps.new hwf ?_ (by omega) _)) (by simp only [lt_int, lt_bool, lt_str, lt_nil, lt_empty, lt_agg, lt_tup, lt_list, lt_cells, lt_fn, lt_nilp, lt_nilfn, lt_nili, List.mem_cons, List.not_mem_nil, or_false, forall_eq_or_imp, forall_eq, and_true, true_and, and_self, implies_true, *]; try omega)); (try simp only [tupOf, push_cast, seval, EE_P]))
end Go.Proofs.YtdajoilaakiinaaGreatDoor.Awp

/- The reference's fractions; weights, first and best of a group. -/
namespace Go.Proofs.YtdajoilaakiinaaGreatDoor.Awp
open Go Go.Proofs
set_option linter.unusedSimpArgs false
set_option linter.unusedVariables false
set_option maxRecDepth 10000
set_option maxHeartbeats 4000000

theorem floor46_fn {a b : Int} (ha : -1000000000000000000 ≤ a) (ha' : a ≤ 1000000000000000000) (hb : 0 < b) : Pure EE 73 [.int .i64 a, .int .i64 b] (.int .i64 (a / b)) := by
  have h1 := Int.natAbs_tdiv_le_natAbs a b
  have hb0 : ¬ b = 0 := by omega
  have hq : IntKind.i64.wrap (a.tdiv b) = a.tdiv b := wrap_small (by omega) (by omega)
  have hq' : IntKind.i64.wrap (a.tdiv b - 1) = a.tdiv b - 1 := wrap_small (by omega) (by omega)
  have e1 := Int.mul_tdiv_add_tmod a b
  have e2 := Int.tmod_lt_of_pos a hb
  have e3 := Int.lt_tmod_of_pos a hb
  intro σ nx
  refine fn_of_body goodEE (by rw [EE_P]; exact Tryz.func73) rfl rfl (by kernel_rfl) (Nat.le_of_ble_eq_true rfl) (Nat.le_refl _) fun hwf hlt => ?_
  rw [show Tryz.f73.results.toList = [.tmp 4] from rfl]
  refine awp_begin _ _ _ _ _ (cc := _) (by conv => lhs; simp only [push_cast, seval, Tryz.f73]) ?_
  simp only [push_cast, seval, EE_P]
  repeat' (first | simp only [push_cast, seval, EE_P, hq, hq', hb0] | simp (disch := omega) only [wrap_fits] | ((first | with_reducible apply wcall_pure | with_reducible apply wdcall_pure); focus (first | assumption | fail)) | (with_reducible refine wguard_split_t (fun h => ?_) (fun h => ?_)) | (with_reducible refine wguard_split_f (fun h => ?_) (fun h => ?_)) | (with_reducible refine wcond_split (fun h => ?_) (fun h => ?_)) | (with_reducible refine wdguard_split_t (fun h => ?_) (fun h => ?_)) | (with_reducible refine wdguard_split_f (fun h => ?_) (fun h => ?_)) | (with_reducible refine And.intro (fun h => ?_) (fun h => ?_)) | (with_reducible apply And.intro; focus omega))
  all_goals ((refine ends_ret (by simp only [resultsOf, resOf, push_cast, seval, EE_P]; rfl) (by simp only [push_cast, seval, EE_P]) ?_ (by repeat' (first | exact Keeps.refl _ | assumption | exact (hwf.keep1 _) | refine Keeps.new hwf ?_ (by omega) _)) (by simp only [lt_int, lt_bool, lt_str, lt_nil, lt_empty, lt_agg, lt_tup, lt_list, lt_cells, lt_fn, lt_nilp, lt_nilfn, lt_nili, List.mem_cons, List.not_mem_nil, or_false, forall_eq_or_imp, forall_eq, and_true, true_and, and_self, implies_true, *]; try omega)); (try simp only [tupOf, push_cast, seval, EE_P]))
  · congr 1
    symm
    refine ((Int.ediv_emod_unique (r := a.tmod b + b) hb).2 ⟨?_, by omega, by omega⟩).1
    rw [Int.mul_sub]; omega
  · congr 1
    symm
    refine ((Int.ediv_emod_unique (r := a.tmod b) hb).2 ⟨?_, by omega, by omega⟩).1
    omega
theorem refzero_fn : Pure EE 38 [] ((Frac.mk 0 1).pv) := by
  intro σ nx
  refine fn_of_body goodEE (by rw [EE_P]; exact Tryz.func38) rfl rfl (by kernel_rfl) (Nat.le_of_ble_eq_true rfl) (Nat.le_refl _) fun hwf hlt => ?_
  rw [show Tryz.f38.results.toList = [.cell 0 27] from rfl]
  refine awp_begin _ _ _ _ _ (cc := _) (by conv => lhs; simp only [push_cast, seval, Tryz.f38]) ?_
  simp only [push_cast, seval, EE_P]
  repeat' (first | simp only [push_cast, seval, EE_P] | simp (disch := omega) only [wrap_fits] | ((first | with_reducible apply wcall_pure | with_reducible apply wdcall_pure); focus (first | assumption | fail)) | (with_reducible refine wguard_split_t (fun h => ?_) (fun h => ?_)) | (with_reducible refine wguard_split_f (fun h => ?_) (fun h => ?_)) | (with_reducible refine wcond_split (fun h => ?_) (fun h => ?_)) | (with_reducible refine wdguard_split_t (fun h => ?_) (fun h => ?_)) | (with_reducible refine wdguard_split_f (fun h => ?_) (fun h => ?_)) | (with_reducible refine And.intro (fun h => ?_) (fun h => ?_)) | (with_reducible apply And.intro; focus omega))
  ((refine ends_ret (by simp only [resultsOf, resOf, push_cast, seval, EE_P]; rfl) (by simp only [push_cast, seval, EE_P]) ?_ (by repeat' (first | exact Keeps.refl _ | assumption | exact (hwf.keep1 _) | refine Keeps.new hwf ?_ (by omega) _)) (by simp only [lt_int, lt_bool, lt_str, lt_nil, lt_empty, lt_agg, lt_tup, lt_list, lt_cells, lt_fn, lt_nilp, lt_nilfn, lt_nili, List.mem_cons, List.not_mem_nil, or_false, forall_eq_or_imp, forall_eq, and_true, true_and, and_self, implies_true, *]; try omega)); (try simp only [tupOf, push_cast, seval, EE_P]))
def negS (f : Frac) : Frac := if FV f.n f.d then ⟨-f.n, f.d⟩ else f
theorem fv_neg {n d : Int} : FV (-n) d ↔ FV n d := by
  unfold FV Int.gcd
  rw [Int.natAbs_neg]
  constructor <;> rintro ⟨a, b, c, d, e⟩ <;> exact ⟨a, b, by omega, by omega, e⟩
theorem negate_fn (f : Frac) : Pure EE 72 [f.pv] ((negS f).pv) := by
  by_cases hf : FV f.n f.d
  · obtain ⟨a, b, c, d, e⟩ := id hf
    have w1 : IntKind.i64.wrap (0 - f.n) = -f.n := by rw [wrap_small (by omega) (by omega)]; omega
    have w2 : IntKind.i64.wrap (-f.n) = -f.n := wrap_small (by omega) (by omega)
    rw [show negS f = ⟨-f.n, f.d⟩ from if_pos hf]
    intro σ nx
    refine fn_of_body goodEE (by rw [EE_P]; exact Tryz.func72) rfl rfl (by kernel_rfl) (Nat.le_of_ble_eq_true rfl) (Nat.le_refl _) fun hwf hlt => ?_
    rw [show Tryz.f72.results.toList = [.cell 2 27] from rfl]
    refine awp_begin _ _ _ _ _ (cc := _) (by conv => lhs; simp only [push_cast, seval, Tryz.f72]) ?_
    simp only [push_cast, seval, EE_P]
    repeat' (first | simp only [push_cast, seval, EE_P, hf, w1, w2] | simp (disch := omega) only [wrap_fits] | ((first | with_reducible apply wcall_pure | with_reducible apply wdcall_pure); focus (first | assumption | exact refvalid_fn ⟨_, _⟩)) | (with_reducible refine wguard_split_t (fun h => ?_) (fun h => ?_)) | (with_reducible refine wguard_split_f (fun h => ?_) (fun h => ?_)) | (with_reducible refine wcond_split (fun h => ?_) (fun h => ?_)) | (with_reducible refine wdguard_split_t (fun h => ?_) (fun h => ?_)) | (with_reducible refine wdguard_split_f (fun h => ?_) (fun h => ?_)) | (with_reducible refine And.intro (fun h => ?_) (fun h => ?_)) | (with_reducible apply And.intro; focus omega))
    all_goals ((refine ends_ret (by simp only [resultsOf, resOf, push_cast, seval, EE_P]; rfl) (by simp only [push_cast, seval, EE_P]) ?_ (by repeat' (first | exact Keeps.refl _ | assumption | exact (hwf.keep1 _) | refine Keeps.new hwf ?_ (by omega) _)) (by simp only [lt_int, lt_bool, lt_str, lt_nil, lt_empty, lt_agg, lt_tup, lt_list, lt_cells, lt_fn, lt_nilp, lt_nilfn, lt_nili, List.mem_cons, List.not_mem_nil, or_false, forall_eq_or_imp, forall_eq, and_true, true_and, and_self, implies_true, *]; try omega)); (try simp only [tupOf, push_cast, seval, EE_P]))
  · rw [show negS f = f from if_neg hf]
    intro σ nx
    refine fn_of_body goodEE (by rw [EE_P]; exact Tryz.func72) rfl rfl (by kernel_rfl) (Nat.le_of_ble_eq_true rfl) (Nat.le_refl _) fun hwf hlt => ?_
    rw [show Tryz.f72.results.toList = [.cell 2 27] from rfl]
    refine awp_begin _ _ _ _ _ (cc := _) (by conv => lhs; simp only [push_cast, seval, Tryz.f72]) ?_
    simp only [push_cast, seval, EE_P]
    repeat' (first | simp only [push_cast, seval, EE_P, hf] | simp (disch := omega) only [wrap_fits] | ((first | with_reducible apply wcall_pure | with_reducible apply wdcall_pure); focus (first | assumption | exact refvalid_fn ⟨_, _⟩)) | (with_reducible refine wguard_split_t (fun h => ?_) (fun h => ?_)) | (with_reducible refine wguard_split_f (fun h => ?_) (fun h => ?_)) | (with_reducible refine wcond_split (fun h => ?_) (fun h => ?_)) | (with_reducible refine wdguard_split_t (fun h => ?_) (fun h => ?_)) | (with_reducible refine wdguard_split_f (fun h => ?_) (fun h => ?_)) | (with_reducible refine And.intro (fun h => ?_) (fun h => ?_)) | (with_reducible apply And.intro; focus omega))
    all_goals ((refine ends_ret (by simp only [resultsOf, resOf, push_cast, seval, EE_P]; rfl) (by simp only [push_cast, seval, EE_P]) ?_ (by repeat' (first | exact Keeps.refl _ | assumption | exact (hwf.keep1 _) | refine Keeps.new hwf ?_ (by omega) _)) (by simp only [lt_int, lt_bool, lt_str, lt_nil, lt_empty, lt_agg, lt_tup, lt_list, lt_cells, lt_fn, lt_nilp, lt_nilfn, lt_nili, List.mem_cons, List.not_mem_nil, or_false, forall_eq_or_imp, forall_eq, and_true, true_and, and_self, implies_true, *]; try omega)); (try simp only [tupOf, push_cast, seval, EE_P]))
theorem fadd_neg (a b : Frac) : fadd a (negS b) = fsub a b ∧ faddErr a (negS b) = fsubErr a b := by
  unfold negS
  by_cases hb : FV b.n b.d
  · rw [if_pos hb]
    unfold fadd fsub faddErr fsubErr faddN faddD faddE fsubN fsubD fsubE
    simp only [fv_neg]
    have e : a.n * b.d + -b.n * a.d = a.n * b.d - b.n * a.d := by rw [Int.neg_mul]; omega
    rw [e]
    exact ⟨rfl, rfl⟩
  · rw [if_neg hb]
    unfold fadd fsub faddErr fsubErr faddN faddD faddE fsubN fsubD fsubE
    simp [hb]
theorem refsub_fn (a b : Frac) : Pure EE 40 [a.pv, b.pv] (.tup [(fsub a b).pv, .int .i64 (fsubErr a b)]) := by
  have hadd := refadd_fn a (negS b)
  rw [(fadd_neg a b).1, (fadd_neg a b).2] at hadd
  have hneg := negate_fn b
  generalize negS b = c at hadd hneg
  intro σ nx
  refine fn_of_body goodEE (by rw [EE_P]; exact Tryz.func40) rfl rfl (by kernel_rfl) (Nat.le_of_ble_eq_true rfl) (Nat.le_refl _) fun hwf hlt => ?_
  rw [show Tryz.f40.results.toList = [.cell 4 27, .tmp 5] from rfl]
  refine awp_begin _ _ _ _ _ (cc := _) (by conv => lhs; simp only [push_cast, seval, Tryz.f40]) ?_
  simp only [push_cast, seval, EE_P]
  repeat' (first | simp only [push_cast, seval, EE_P] | simp (disch := omega) only [wrap_fits] | ((first | with_reducible apply wcall_pure | with_reducible apply wdcall_pure); focus (first | assumption | exact negate_fn ⟨_, _⟩ | exact refadd_fn ⟨_, _⟩ ⟨_, _⟩)) | (with_reducible refine wguard_split_t (fun h => ?_) (fun h => ?_)) | (with_reducible refine wguard_split_f (fun h => ?_) (fun h => ?_)) | (with_reducible refine wcond_split (fun h => ?_) (fun h => ?_)) | (with_reducible refine wdguard_split_t (fun h => ?_) (fun h => ?_)) | (with_reducible refine wdguard_split_f (fun h => ?_) (fun h => ?_)) | (with_reducible refine And.intro (fun h => ?_) (fun h => ?_)) | (with_reducible apply And.intro; focus omega))
  all_goals ((refine ends_ret (by simp only [resultsOf, resOf, push_cast, seval, EE_P]; rfl) (by simp only [push_cast, seval, EE_P]) ?_ (by repeat' (first | exact Keeps.refl _ | assumption | exact (hwf.keep1 _) | refine Keeps.new hwf ?_ (by omega) _)) (by simp only [lt_int, lt_bool, lt_str, lt_nil, lt_empty, lt_agg, lt_tup, lt_list, lt_cells, lt_fn, lt_nilp, lt_nilfn, lt_nili, List.mem_cons, List.not_mem_nil, or_false, forall_eq_or_imp, forall_eq, and_true, true_and, and_self, implies_true, *]; try omega)); (try simp only [tupOf, push_cast, seval, EE_P]))
theorem refhund_fn (f : Frac) : Pure EE 41 [f.pv] (.tup [.int .i64 (hundS f), .bool (decide (FV f.n f.d))]) := by
  by_cases hf : FV f.n f.d
  · obtain ⟨h1, h2, h3, h4, _⟩ := id hf
    have w1 : IntKind.i64.wrap (200 * f.n) = 200 * f.n := wrap_small (by omega) (by omega)
    have w2 : IntKind.i64.wrap (2 * f.d) = 2 * f.d := wrap_small (by omega) (by omega)
    have w3 : IntKind.i64.wrap (200 * f.n + f.d) = 200 * f.n + f.d := wrap_small (by omega) (by omega)
    have hfl := floor46_fn (a := 200 * f.n + f.d) (b := 2 * f.d) (by omega) (by omega) (by omega)
    rw [show hundS f = (200 * f.n + f.d) / (2 * f.d) from if_pos hf]
    intro σ nx
    refine fn_of_body goodEE (by rw [EE_P]; exact Tryz.func41) rfl rfl (by kernel_rfl) (Nat.le_of_ble_eq_true rfl) (Nat.le_refl _) fun hwf hlt => ?_
    rw [show Tryz.f41.results.toList = [.tmp 2, .tmp 3] from rfl]
    refine awp_begin _ _ _ _ _ (cc := _) (by conv => lhs; simp only [push_cast, seval, Tryz.f41]) ?_
    simp only [push_cast, seval, EE_P]
    repeat' (first | simp only [push_cast, seval, EE_P, hf, w1, w2, w3] | simp (disch := omega) only [wrap_fits] | ((first | with_reducible apply wcall_pure | with_reducible apply wdcall_pure); focus (first | assumption | exact refvalid_fn ⟨_, _⟩)) | (with_reducible refine wguard_split_t (fun h => ?_) (fun h => ?_)) | (with_reducible refine wguard_split_f (fun h => ?_) (fun h => ?_)) | (with_reducible refine wcond_split (fun h => ?_) (fun h => ?_)) | (with_reducible refine wdguard_split_t (fun h => ?_) (fun h => ?_)) | (with_reducible refine wdguard_split_f (fun h => ?_) (fun h => ?_)) | (with_reducible refine And.intro (fun h => ?_) (fun h => ?_)) | (with_reducible apply And.intro; focus omega))
    all_goals ((refine ends_ret (by simp only [resultsOf, resOf, push_cast, seval, EE_P]; rfl) (by simp only [push_cast, seval, EE_P]) ?_ (by repeat' (first | exact Keeps.refl _ | assumption | exact (hwf.keep1 _) | refine Keeps.new hwf ?_ (by omega) _)) (by simp only [lt_int, lt_bool, lt_str, lt_nil, lt_empty, lt_agg, lt_tup, lt_list, lt_cells, lt_fn, lt_nilp, lt_nilfn, lt_nili, List.mem_cons, List.not_mem_nil, or_false, forall_eq_or_imp, forall_eq, and_true, true_and, and_self, implies_true, *]; try omega)); (try simp only [tupOf, push_cast, seval, EE_P]))
    all_goals simp [hf]
  · rw [show hundS f = 0 from if_neg hf]
    intro σ nx
    refine fn_of_body goodEE (by rw [EE_P]; exact Tryz.func41) rfl rfl (by kernel_rfl) (Nat.le_of_ble_eq_true rfl) (Nat.le_refl _) fun hwf hlt => ?_
    rw [show Tryz.f41.results.toList = [.tmp 2, .tmp 3] from rfl]
    refine awp_begin _ _ _ _ _ (cc := _) (by conv => lhs; simp only [push_cast, seval, Tryz.f41]) ?_
    simp only [push_cast, seval, EE_P]
    repeat' (first | simp only [push_cast, seval, EE_P, hf] | simp (disch := omega) only [wrap_fits] | ((first | with_reducible apply wcall_pure | with_reducible apply wdcall_pure); focus (first | assumption | exact refvalid_fn ⟨_, _⟩)) | (with_reducible refine wguard_split_t (fun h => ?_) (fun h => ?_)) | (with_reducible refine wguard_split_f (fun h => ?_) (fun h => ?_)) | (with_reducible refine wcond_split (fun h => ?_) (fun h => ?_)) | (with_reducible refine wdguard_split_t (fun h => ?_) (fun h => ?_)) | (with_reducible refine wdguard_split_f (fun h => ?_) (fun h => ?_)) | (with_reducible refine And.intro (fun h => ?_) (fun h => ?_)) | (with_reducible apply And.intro; focus omega))
    all_goals ((refine ends_ret (by simp only [resultsOf, resOf, push_cast, seval, EE_P]; rfl) (by simp only [push_cast, seval, EE_P]) ?_ (by repeat' (first | exact Keeps.refl _ | assumption | exact (hwf.keep1 _) | refine Keeps.new hwf ?_ (by omega) _)) (by simp only [lt_int, lt_bool, lt_str, lt_nil, lt_empty, lt_agg, lt_tup, lt_list, lt_cells, lt_fn, lt_nilp, lt_nilfn, lt_nili, List.mem_cons, List.not_mem_nil, or_false, forall_eq_or_imp, forall_eq, and_true, true_and, and_self, implies_true, *]; try omega)); (try simp only [tupOf, push_cast, seval, EE_P]))
    all_goals simp [hf]
def weightR (l : Line) : Frac := if l.num < 0 then ⟨0, 1⟩ else l.amt
theorem weightR_eq {l : Line} (h : Fok l.amt) : weightR l = weightS l := by
  unfold weightR
  rcases weight_cases h with ⟨h1, h2⟩ | ⟨h1, h2⟩
  · rw [if_neg (by omega), h2]
  · rw [if_pos h1, h2]
theorem refweight_fn (l : Line) : Pure EE 68 [l.pv] ((weightR l).pv) := by
  by_cases hn : l.num < 0
  · rw [show weightR l = ⟨0, 1⟩ from if_pos hn]
    intro σ nx
    refine fn_of_body goodEE (by rw [EE_P]; exact Tryz.func68) rfl rfl (by kernel_rfl) (Nat.le_of_ble_eq_true rfl) (Nat.le_refl _) fun hwf hlt => ?_
    rw [show Tryz.f68.results.toList = [.cell 2 27] from rfl]
    refine awp_begin _ _ _ _ _ (cc := _) (by conv => lhs; simp only [push_cast, seval, Tryz.f68]) ?_
    simp only [push_cast, seval, EE_P]
    repeat' (first | simp only [push_cast, seval, EE_P, hn] | simp (disch := omega) only [wrap_fits] | ((first | with_reducible apply wcall_pure | with_reducible apply wdcall_pure); focus (first | assumption | exact refzero_fn)) | (with_reducible refine wguard_split_t (fun h => ?_) (fun h => ?_)) | (with_reducible refine wguard_split_f (fun h => ?_) (fun h => ?_)) | (with_reducible refine wcond_split (fun h => ?_) (fun h => ?_)) | (with_reducible refine wdguard_split_t (fun h => ?_) (fun h => ?_)) | (with_reducible refine wdguard_split_f (fun h => ?_) (fun h => ?_)) | (with_reducible refine And.intro (fun h => ?_) (fun h => ?_)) | (with_reducible apply And.intro; focus omega))
    all_goals ((refine ends_ret (by simp only [resultsOf, resOf, push_cast, seval, EE_P]; rfl) (by simp only [push_cast, seval, EE_P]) ?_ (by repeat' (first | exact Keeps.refl _ | assumption | exact (hwf.keep1 _) | refine Keeps.new hwf ?_ (by omega) _)) (by simp only [lt_int, lt_bool, lt_str, lt_nil, lt_empty, lt_agg, lt_tup, lt_list, lt_cells, lt_fn, lt_nilp, lt_nilfn, lt_nili, List.mem_cons, List.not_mem_nil, or_false, forall_eq_or_imp, forall_eq, and_true, true_and, and_self, implies_true, *]; try omega)); (try simp only [tupOf, push_cast, seval, EE_P]))
  · rw [show weightR l = l.amt from if_neg hn]
    intro σ nx
    refine fn_of_body goodEE (by rw [EE_P]; exact Tryz.func68) rfl rfl (by kernel_rfl) (Nat.le_of_ble_eq_true rfl) (Nat.le_refl _) fun hwf hlt => ?_
    rw [show Tryz.f68.results.toList = [.cell 2 27] from rfl]
    refine awp_begin _ _ _ _ _ (cc := _) (by conv => lhs; simp only [push_cast, seval, Tryz.f68]) ?_
    simp only [push_cast, seval, EE_P]
    repeat' (first | simp only [push_cast, seval, EE_P, hn] | simp (disch := omega) only [wrap_fits] | ((first | with_reducible apply wcall_pure | with_reducible apply wdcall_pure); focus (first | assumption | exact refzero_fn)) | (with_reducible refine wguard_split_t (fun h => ?_) (fun h => ?_)) | (with_reducible refine wguard_split_f (fun h => ?_) (fun h => ?_)) | (with_reducible refine wcond_split (fun h => ?_) (fun h => ?_)) | (with_reducible refine wdguard_split_t (fun h => ?_) (fun h => ?_)) | (with_reducible refine wdguard_split_f (fun h => ?_) (fun h => ?_)) | (with_reducible refine And.intro (fun h => ?_) (fun h => ?_)) | (with_reducible apply And.intro; focus omega))
    all_goals ((refine ends_ret (by simp only [resultsOf, resOf, push_cast, seval, EE_P]; rfl) (by simp only [push_cast, seval, EE_P]) ?_ (by repeat' (first | exact Keeps.refl _ | assumption | exact (hwf.keep1 _) | refine Keeps.new hwf ?_ (by omega) _)) (by simp only [lt_int, lt_bool, lt_str, lt_nil, lt_empty, lt_agg, lt_tup, lt_list, lt_cells, lt_fn, lt_nilp, lt_nilfn, lt_nili, List.mem_cons, List.not_mem_nil, or_false, forall_eq_or_imp, forall_eq, and_true, true_and, and_self, implies_true, *]; try omega)); (try simp only [tupOf, push_cast, seval, EE_P]))
    all_goals rfl
theorem refless_fn (a b : Frac) : Pure EE 71 [a.pv, b.pv] (.bool (lessS a b)) := by
  intro σ nx
  refine fn_of_body goodEE (by rw [EE_P]; exact Tryz.func71) rfl rfl (by kernel_rfl) (Nat.le_of_ble_eq_true rfl) (Nat.le_refl _) fun hwf hlt => ?_
  rw [show Tryz.f71.results.toList = [.tmp 4] from rfl]
  refine awp_begin _ _ _ _ _ (cc := _) (by conv => lhs; simp only [push_cast, seval, Tryz.f71]) ?_
  simp only [push_cast, seval, EE_P]
  repeat' (first | simp only [push_cast, seval, EE_P] | simp (disch := omega) only [wrap_fits] | ((first | with_reducible apply wcall_pure | with_reducible apply wdcall_pure); focus (first | assumption | exact refcompare_fn ⟨_, _⟩ ⟨_, _⟩)) | (with_reducible refine wguard_split_t (fun h => ?_) (fun h => ?_)) | (with_reducible refine wguard_split_f (fun h => ?_) (fun h => ?_)) | (with_reducible refine wcond_split (fun h => ?_) (fun h => ?_)) | (with_reducible refine wdguard_split_t (fun h => ?_) (fun h => ?_)) | (with_reducible refine wdguard_split_f (fun h => ?_) (fun h => ?_)) | (with_reducible refine And.intro (fun h => ?_) (fun h => ?_)) | (with_reducible apply And.intro; focus omega))
  all_goals ((refine ends_ret (by simp only [resultsOf, resOf, push_cast, seval, EE_P]; rfl) (by simp only [push_cast, seval, EE_P]) ?_ (by repeat' (first | exact Keeps.refl _ | assumption | exact (hwf.keep1 _) | refine Keeps.new hwf ?_ (by omega) _)) (by simp only [lt_int, lt_bool, lt_str, lt_nil, lt_empty, lt_agg, lt_tup, lt_list, lt_cells, lt_fn, lt_nilp, lt_nilfn, lt_nili, List.mem_cons, List.not_mem_nil, or_false, forall_eq_or_imp, forall_eq, and_true, true_and, and_self, implies_true, *]; try omega)); (try simp only [tupOf, push_cast, seval, EE_P]))
  all_goals rfl

/-! ### first and best of a group -/
theorem memAt_no {g : ByteArray} {l : Line} (h : ¬ (l.app = true ∧ l.kind = 0 ∧ l.group = g)) : memberS g l = false := by
  cases hm : memberS g l
  · rfl
  · obtain ⟨h1, h2⟩ := member_iff.1 hm
    obtain ⟨h3, h4⟩ := isK_app h1
    exact absurd ⟨h3, h4, h2⟩ h
theorem memAt_yes {g : ByteArray} {l : Line} (h1 : l.app = true) (h2 : l.kind = 0) (h3 : l.group = g) : memberS g l = true := member_iff.2 ⟨by simp [isK, h1, h2], h3⟩
theorem any_take_no {p : Line → Bool} {ls : List Line} {i : Nat} (h : ∀ (j : Nat) (x : Line), j < i → ls[j]? = some x → p x = false) : (ls.take i).any p = false := by
  rw [List.any_eq_false]
  intro x hx
  obtain ⟨j, hj, rfl⟩ := List.getElem_of_mem hx
  have hj' := hj
  rw [List.length_take] at hj'
  rw [List.getElem_take]
  simp [h j ls[j] (by omega) (List.getElem?_eq_getElem (by omega))]
theorem any_take_yes {p : Line → Bool} {ls : List Line} {i j : Nat} {x : Line} (hj : j < i) (hx : ls[j]? = some x) (h : p x = true) : (ls.take i).any p = true := by
  rw [List.any_eq_true]
  refine ⟨x, ?_, h⟩
  obtain ⟨h1, rfl⟩ := List.getElem?_eq_some_iff.1 hx
  exact List.mem_of_getElem? (i := j) (by rw [List.getElem?_take, if_pos hj, List.getElem?_eq_getElem h1])
theorem first_fn {ls : List Line} {i : Nat} {l : Line} (hi : ls[i]? = some l) (hl : ls.length ≤ 1000000) : Pure EE 69 [.list (ls.map Line.cs), .int .i64 i] (.bool (!(ls.take i).any (memberS l.group))) := by
  have hil : i < ls.length := (List.getElem?_eq_some_iff.1 hi).1
  have hget : (ls.map Line.cs)[i]? = some l.cs := by rw [List.getElem?_map, hi]; rfl
  have hi0 : (0 : Int) ≤ i := by omega
  have hi1 : (i : Int) < ls.length := by omega
  intro σ nx
  refine fn_of_body goodEE (by rw [EE_P]; exact Tryz.func69) rfl rfl (by kernel_rfl) (Nat.le_of_ble_eq_true rfl) (Nat.le_refl _) fun hwf hlt => ?_
  rw [show Tryz.f69.results.toList = [.tmp 4] from rfl]
  refine awp_begin _ _ _ _ _ (cc := _) (by conv => lhs; simp only [push_cast, seval, Tryz.f69]) ?_
  simp only [push_cast, seval, EE_P]
  repeat' (first | simp only [push_cast, seval, EE_P] | simp (disch := omega) only [wrap_fits] | ((first | with_reducible apply wcall_pure | with_reducible apply wdcall_pure); focus (first | assumption | fail)) | (with_reducible refine wguard_split_t (fun h => ?_) (fun h => ?_)) | (with_reducible refine wguard_split_f (fun h => ?_) (fun h => ?_)) | (with_reducible refine wcond_split (fun h => ?_) (fun h => ?_)) | (with_reducible refine wdguard_split_t (fun h => ?_) (fun h => ?_)) | (with_reducible refine wdguard_split_f (fun h => ?_) (fun h => ?_)) | (with_reducible refine And.intro (fun h => ?_) (fun h => ?_)) | (with_reducible apply And.intro; focus omega))
  refine wloop_by (fun m sl σ' nx' => ∃ j : Nat, j ≤ i ∧ m = i - j ∧ (∀ (k : Nat) (x : Line), k < j → ls[k]? = some x → memberS l.group x = false) ∧ sl 0 = .list (ls.map Line.cs) ∧ sl 1 = .int .i64 i ∧ sl 5 = .int .i64 j ∧ Keeps σ σ') i
    ⟨0, by omega, rfl, fun k x h => by omega, rfl, rfl, rfl, .refl _⟩ ?_
  rintro m sl σ' nx' ⟨j, hj, hm, hb, h0, h1, h5, hk⟩
  have hj0 : (0 : Int) ≤ j := by omega
  by_cases hjl : j < i
  · have hjl' : (j : Int) < i := by omega
    have hjl2 : (j : Int) < ls.length := by omega
    have hw : IntKind.i64.wrap ((j : Int) + 1) = (j : Int) + 1 := wrap_small (by omega) (by omega)
    have hx : ls[j]? = some ls[j] := List.getElem?_eq_getElem (by omega)
    have hgx : (ls.map Line.cs)[j]? = some ls[j].cs := by rw [List.getElem?_map, hx]; rfl
    generalize ls[j] = x at hx hgx
    have hn : ∀ (k : Nat) (y : Line), memberS l.group x = false → k < j + 1 → ls[k]? = some y → memberS l.group y = false := fun k y hf hkj hy => by
      by_cases hkk : k = j
      · subst hkk; rw [hx] at hy; cases hy; exact hf
      · exact hb k y (by omega) hy
    repeat' (first | simp only [push_cast, seval, EE_P, h0, h1, h5, hj0, hjl', hjl2, hi0, hi1, hget, hgx, hw, List.length_map, Int.toNat_natCast] | simp (disch := omega) only [wrap_fits] | ((first | with_reducible apply wcall_pure | with_reducible apply wdcall_pure); focus (first | assumption | fail)) | (with_reducible refine wguard_split_t (fun h => ?_) (fun h => ?_)) | (with_reducible refine wguard_split_f (fun h => ?_) (fun h => ?_)) | (with_reducible refine wcond_split (fun h => ?_) (fun h => ?_)) | (with_reducible refine wdguard_split_t (fun h => ?_) (fun h => ?_)) | (with_reducible refine wdguard_split_f (fun h => ?_) (fun h => ?_)) | (with_reducible refine And.intro (fun h => ?_) (fun h => ?_)) | (with_reducible apply And.intro; focus omega))
    · ((refine ends_ret (by simp only [resultsOf, resOf, push_cast, seval, EE_P]; rfl) (by simp only [push_cast, seval, EE_P]) ?_ (by repeat' (first | exact Keeps.refl _ | assumption | exact (hwf.keep1 _) | refine Keeps.new hwf ?_ (by omega) _)) (by simp only [lt_int, lt_bool, lt_str, lt_nil, lt_empty, lt_agg, lt_tup, lt_list, lt_cells, lt_fn, lt_nilp, lt_nilfn, lt_nili, List.mem_cons, List.not_mem_nil, or_false, forall_eq_or_imp, forall_eq, and_true, true_and, and_self, implies_true, *]; try omega)); (try simp only [tupOf, push_cast, seval, EE_P]))
      rw [any_take_yes hjl hx (memAt_yes (by assumption) (by assumption) (by assumption))]
      rfl
    all_goals exact ⟨i - (j + 1), by omega, j + 1, by omega, rfl, fun k y hkj hy => hn k y (memAt_no fun hh => by simp_all) hkj hy, by simp, hk⟩
  · have hjl' : ¬ (j : Int) < i := by omega
    repeat' (first | simp only [push_cast, seval, EE_P, h0, h1, h5, hjl'] | simp (disch := omega) only [wrap_fits] | ((first | with_reducible apply wcall_pure | with_reducible apply wdcall_pure); focus (first | assumption | fail)) | (with_reducible refine wguard_split_t (fun h => ?_) (fun h => ?_)) | (with_reducible refine wguard_split_f (fun h => ?_) (fun h => ?_)) | (with_reducible refine wcond_split (fun h => ?_) (fun h => ?_)) | (with_reducible refine wdguard_split_t (fun h => ?_) (fun h => ?_)) | (with_reducible refine wdguard_split_f (fun h => ?_) (fun h => ?_)) | (with_reducible refine And.intro (fun h => ?_) (fun h => ?_)) | (with_reducible apply And.intro; focus omega))
    ((refine ends_ret (by simp only [resultsOf, resOf, push_cast, seval, EE_P]; rfl) (by simp only [push_cast, seval, EE_P]) ?_ (by repeat' (first | exact Keeps.refl _ | assumption | exact (hwf.keep1 _) | refine Keeps.new hwf ?_ (by omega) _)) (by simp only [lt_int, lt_bool, lt_str, lt_nil, lt_empty, lt_agg, lt_tup, lt_list, lt_cells, lt_fn, lt_nilp, lt_nilfn, lt_nili, List.mem_cons, List.not_mem_nil, or_false, forall_eq_or_imp, forall_eq, and_true, true_and, and_self, implies_true, *]; try omega)); (try simp only [tupOf, push_cast, seval, EE_P]))
    rw [any_take_no fun k x hk hx => hb k x (by omega) hx]
    rfl
def lineD (ls : List Line) (b : Int) : Line := ls[b.toNat]?.getD ⟨⟨#[]⟩, ⟨#[]⟩, 0, false, 0, 0, 0⟩
def bestI (g : ByteArray) (ls : List Line) : Nat → Int
  | 0 => -1
  | j + 1 => if memberS g (lineD ls j) = true ∧ (bestI g ls j < 0 ∨ lessS (weightS (lineD ls (bestI g ls j))) (weightS (lineD ls j)) = true) then j else bestI g ls j
theorem lineD_get {ls : List Line} {j : Nat} {x : Line} (h : ls[j]? = some x) : lineD ls j = x := by
  unfold lineD
  rw [Int.toNat_natCast, h]
  rfl
theorem bestI_prop (g : ByteArray) (ls : List Line) : ∀ j, j ≤ ls.length → bestI g ls j = -1 ∨ ∃ (b : Nat) (x : Line), bestI g ls j = b ∧ b < j ∧ ls[b]? = some x ∧ memberS g x = true
  | 0, _ => .inl rfl
  | j + 1, h => by
    have ih := bestI_prop g ls j (by omega)
    have hx : ls[j]? = some ls[j] := List.getElem?_eq_getElem (by omega)
    unfold bestI
    rw [lineD_get hx]
    split
    · rename_i hc
      exact .inr ⟨j, ls[j], rfl, by omega, hx, hc.1⟩
    · rcases ih with h1 | ⟨b, x, h1, h2, h3, h4⟩
      · exact .inl h1
      · exact .inr ⟨b, x, h1, by omega, h3, h4⟩
theorem best_fn {ls : List Line} (hr : AllR ls) (hl : ls.length ≤ 1000000) (g : ByteArray) : Pure EE 70 [.list (ls.map Line.cs), .str g] (.int .i64 (bestI g ls ls.length)) := by
  intro σ nx
  refine fn_of_body goodEE (by rw [EE_P]; exact Tryz.func70) rfl rfl (by kernel_rfl) (Nat.le_of_ble_eq_true rfl) (Nat.le_refl _) fun hwf hlt => ?_
  rw [show Tryz.f70.results.toList = [.tmp 4] from rfl]
  refine awp_begin _ _ _ _ _ (cc := _) (by conv => lhs; simp only [push_cast, seval, Tryz.f70]) ?_
  simp only [push_cast, seval, EE_P]
  repeat' (first | simp only [push_cast, seval, EE_P] | simp (disch := omega) only [wrap_fits] | ((first | with_reducible apply wcall_pure | with_reducible apply wdcall_pure); focus (first | assumption | exact refless_fn ⟨_, _⟩ ⟨_, _⟩ | exact refweight_fn ⟨_, _, _, _, _, _, _⟩)) | (with_reducible refine wguard_split_t (fun h => ?_) (fun h => ?_)) | (with_reducible refine wguard_split_f (fun h => ?_) (fun h => ?_)) | (with_reducible refine wcond_split (fun h => ?_) (fun h => ?_)) | (with_reducible refine wdguard_split_t (fun h => ?_) (fun h => ?_)) | (with_reducible refine wdguard_split_f (fun h => ?_) (fun h => ?_)) | (with_reducible refine And.intro (fun h => ?_) (fun h => ?_)) | (with_reducible apply And.intro; focus omega))
  refine wloop_by (fun m sl σ' nx' => ∃ j : Nat, j ≤ ls.length ∧ m = ls.length - j ∧ sl 0 = .list (ls.map Line.cs) ∧ sl 1 = .str g ∧ sl 5 = .int .i64 (bestI g ls j) ∧ sl 6 = .int .i64 j ∧ Keeps σ σ') ls.length
    ⟨0, by omega, rfl, rfl, rfl, rfl, rfl, .refl _⟩ ?_
  rintro m sl σ' nx' ⟨j, hj, hm, h0, h1, h5, h6, hk⟩
  have hj0 : (0 : Int) ≤ j := by omega
  by_cases hjl : j < ls.length
  · have hjl' : (j : Int) < ls.length := by omega
    have hw : IntKind.i64.wrap ((j : Int) + 1) = (j : Int) + 1 := wrap_small (by omega) (by omega)
    have hx : ls[j]? = some ls[j] := List.getElem?_eq_getElem hjl
    have hgx : (ls.map Line.cs)[j]? = some ls[j].cs := by rw [List.getElem?_map, hx]; rfl
    have hmem : ls[j] ∈ ls := List.getElem_mem hjl
    have hs : bestI g ls (j + 1) = if memberS g ls[j] = true ∧ (bestI g ls j < 0 ∨ lessS (weightS (lineD ls (bestI g ls j))) (weightS ls[j]) = true) then (j : Int) else bestI g ls j := by
      conv => lhs; unfold bestI
      rw [lineD_get hx]
    generalize ls[j] = x at hx hgx hmem hs
    have hno : memberS g x = false → bestI g ls (j + 1) = bestI g ls j := fun hf => by rw [hs, hf, if_neg (by simp)]
    cases hxa : x.app
    · have hm0 : memberS g x = false := memAt_no fun hh => by rw [hxa] at hh; cases hh.1
      repeat' (first | simp only [push_cast, seval, EE_P, h0, h1, h5, h6, hj0, hjl', hgx, hw, hxa, List.length_map, Int.toNat_natCast] | simp (disch := omega) only [wrap_fits] | ((first | with_reducible apply wcall_pure | with_reducible apply wdcall_pure); focus (first | assumption | exact refless_fn ⟨_, _⟩ ⟨_, _⟩ | exact refweight_fn ⟨_, _, _, _, _, _, _⟩)) | (with_reducible refine wguard_split_t (fun h => ?_) (fun h => ?_)) | (with_reducible refine wguard_split_f (fun h => ?_) (fun h => ?_)) | (with_reducible refine wcond_split (fun h => ?_) (fun h => ?_)) | (with_reducible refine wdguard_split_t (fun h => ?_) (fun h => ?_)) | (with_reducible refine wdguard_split_f (fun h => ?_) (fun h => ?_)) | (with_reducible refine And.intro (fun h => ?_) (fun h => ?_)) | (with_reducible apply And.intro; focus omega))
      exact ⟨ls.length - (j + 1), by omega, j + 1, by omega, rfl, by rw [hno hm0], by simp, hk⟩
    have hcx := refweight_fn x
    rw [weightR_eq (right_amt (hr x hmem) hxa)] at hcx
    simp only [Line.pv, Line.cs, hxa] at hcx
    rcases bestI_prop g ls j (by omega) with hb | ⟨b, y, hb, hbj, hy, hym⟩
    · rw [hb] at h5 hs hno
      repeat' (first | simp only [push_cast, seval, EE_P, h0, h1, h5, h6, hj0, hjl', hgx, hw, hxa, List.length_map, Int.toNat_natCast] | simp (disch := omega) only [wrap_fits] | ((first | with_reducible apply wcall_pure | with_reducible apply wdcall_pure); focus (first | assumption | exact refless_fn ⟨_, _⟩ ⟨_, _⟩ | exact refweight_fn ⟨_, _, _, _, _, _, _⟩)) | (with_reducible refine wguard_split_t (fun h => ?_) (fun h => ?_)) | (with_reducible refine wguard_split_f (fun h => ?_) (fun h => ?_)) | (with_reducible refine wcond_split (fun h => ?_) (fun h => ?_)) | (with_reducible refine wdguard_split_t (fun h => ?_) (fun h => ?_)) | (with_reducible refine wdguard_split_f (fun h => ?_) (fun h => ?_)) | (with_reducible refine And.intro (fun h => ?_) (fun h => ?_)) | (with_reducible apply And.intro; focus omega))
      · exact ⟨ls.length - (j + 1), by omega, j + 1, by omega, rfl, by rw [hs, if_pos ⟨memAt_yes hxa (by assumption) (by assumption), .inl (by omega)⟩], by simp, hk⟩
      all_goals exact ⟨ls.length - (j + 1), by omega, j + 1, by omega, rfl, by rw [hno (memAt_no fun hh => by simp_all)], by simp, hk⟩
    · have hgy : (ls.map Line.cs)[b]? = some y.cs := by rw [List.getElem?_map, hy]; rfl
      have hb0 : (0 : Int) ≤ b := by omega
      have hb1 : (b : Int) < ls.length := by omega
      have hb2 : ¬ (b : Int) < 0 := by omega
      have hcy := refweight_fn y
      rw [weightR_eq (isK_ok hr (List.mem_of_getElem? hy) (member_iff.1 hym).1)] at hcy
      have hless := refless_fn (weightS y) (weightS x)
      rw [hb, lineD_get hy] at hs
      rw [hb] at h5 hno
      repeat' (first | simp only [push_cast, seval, EE_P, h0, h1, h5, h6, hj0, hjl', hgx, hgy, hb0, hb1, hb2, hw, hxa, List.length_map, Int.toNat_natCast] | simp (disch := omega) only [wrap_fits] | ((first | with_reducible apply wcall_pure | with_reducible apply wdcall_pure); focus (first | assumption | exact refless_fn ⟨_, _⟩ ⟨_, _⟩ | exact refweight_fn ⟨_, _, _, _, _, _, _⟩)) | (with_reducible refine wguard_split_t (fun h => ?_) (fun h => ?_)) | (with_reducible refine wguard_split_f (fun h => ?_) (fun h => ?_)) | (with_reducible refine wcond_split (fun h => ?_) (fun h => ?_)) | (with_reducible refine wdguard_split_t (fun h => ?_) (fun h => ?_)) | (with_reducible refine wdguard_split_f (fun h => ?_) (fun h => ?_)) | (with_reducible refine And.intro (fun h => ?_) (fun h => ?_)) | (with_reducible apply And.intro; focus omega))
      · exact ⟨ls.length - (j + 1), by omega, j + 1, by omega, rfl, by rw [hs, if_pos ⟨memAt_yes hxa (by assumption) (by assumption), .inr (by assumption)⟩], by simp, hk⟩
      · have hf : lessS (weightS y) (weightS x) = false := by assumption
        have he : bestI g ls (j + 1) = b := by
          rw [hs, if_neg]
          rintro ⟨_, hh | hh⟩
          · omega
          · rw [hf] at hh
            cases hh
        exact ⟨ls.length - (j + 1), by omega, j + 1, by omega, rfl, by rw [he], by simp, hk⟩
      all_goals exact ⟨ls.length - (j + 1), by omega, j + 1, by omega, rfl, by rw [hno (memAt_no fun hh => by simp_all)], by simp, hk⟩
  · have hjl' : ¬ (j : Int) < ls.length := by omega
    obtain rfl : j = ls.length := by omega
    repeat' (first | simp only [push_cast, seval, EE_P, h0, h1, h5, h6, hjl', List.length_map] | simp (disch := omega) only [wrap_fits] | ((first | with_reducible apply wcall_pure | with_reducible apply wdcall_pure); focus (first | assumption | exact refless_fn ⟨_, _⟩ ⟨_, _⟩ | exact refweight_fn ⟨_, _, _, _, _, _, _⟩)) | (with_reducible refine wguard_split_t (fun h => ?_) (fun h => ?_)) | (with_reducible refine wguard_split_f (fun h => ?_) (fun h => ?_)) | (with_reducible refine wcond_split (fun h => ?_) (fun h => ?_)) | (with_reducible refine wdguard_split_t (fun h => ?_) (fun h => ?_)) | (with_reducible refine wdguard_split_f (fun h => ?_) (fun h => ?_)) | (with_reducible refine And.intro (fun h => ?_) (fun h => ?_)) | (with_reducible apply And.intro; focus omega))
    ((refine ends_ret (by simp only [resultsOf, resOf, push_cast, seval, EE_P]; rfl) (by simp only [push_cast, seval, EE_P]) ?_ (by repeat' (first | exact Keeps.refl _ | assumption | exact (hwf.keep1 _) | refine Keeps.new hwf ?_ (by omega) _)) (by simp only [lt_int, lt_bool, lt_str, lt_nil, lt_empty, lt_agg, lt_tup, lt_list, lt_cells, lt_fn, lt_nilp, lt_nilfn, lt_nili, List.mem_cons, List.not_mem_nil, or_false, forall_eq_or_imp, forall_eq, and_true, true_and, and_self, implies_true, *]; try omega)); (try simp only [tupOf, push_cast, seval, EE_P]))
end Go.Proofs.YtdajoilaakiinaaGreatDoor.Awp

/- One step of the reference. -/
namespace Go.Proofs.YtdajoilaakiinaaGreatDoor.Awp
open Go Go.Proofs
set_option linter.unusedSimpArgs false
set_option linter.unusedVariables false
set_option maxRecDepth 10000
set_option maxHeartbeats 4000000

theorem bestI_first {ls : List Line} {i : Nat} {l : Line} {g : ByteArray} (hi : ls[i]? = some l) (hm : memberS g l = true) (hf : (ls.take i).any (memberS g) = false) : ∀ k, i + 1 + k ≤ ls.length →
    ∃ (b : Nat) (x : Line), bestI g ls (i + 1 + k) = b ∧ ls[b]? = some x ∧ x = bestS g l ((ls.drop i).take (k + 1))
  | 0, h => by
    refine ⟨i, l, ?_, hi, ?_⟩
    · show bestI g ls (i + 1) = i
      unfold bestI
      rw [lineD_get hi, if_pos]
      refine ⟨hm, .inl ?_⟩
      rcases bestI_prop g ls i (by omega) with h1 | ⟨b, x, h1, h2, h3, h4⟩
      · omega
      · exfalso
        have := any_take_yes h2 h3 h4
        rw [hf] at this
        cases this
    · rw [drop_get hi, List.take_succ_cons, List.take_zero]
      unfold bestS
      simp
  | k + 1, h => by
    obtain ⟨b, x, h1, h2, h3⟩ := bestI_first hi hm hf k (by omega)
    have hj : ls[i + 1 + k]? = some ls[i + 1 + k] := List.getElem?_eq_getElem (by omega)
    have hd : (ls.drop i)[k + 1]'(by rw [List.length_drop]; omega) = ls[i + 1 + k] := by
      rw [List.getElem_drop]
      congr 1
      omega
    have hst := bestS_step g l (rest := ls.drop i) (j := k + 1) (by rw [List.length_drop]; omega)
    rw [hd, ← h3] at hst
    have hu : bestI g ls (i + 1 + (k + 1)) = if memberS g ls[i + 1 + k] = true ∧ (bestI g ls (i + 1 + k) < 0 ∨ lessS (weightS (lineD ls (bestI g ls (i + 1 + k)))) (weightS ls[i + 1 + k]) = true) then ((i + 1 + k : Nat) : Int) else bestI g ls (i + 1 + k) := by
      show bestI g ls (i + 1 + k + 1) = _
      conv => lhs; unfold bestI
      rw [lineD_get hj]
    rw [h1, lineD_get h2] at hu
    by_cases hc : memberS g ls[i + 1 + k] = true ∧ lessS (weightS x) (weightS ls[i + 1 + k]) = true
    · refine ⟨i + 1 + k, ls[i + 1 + k], ?_, hj, ?_⟩
      · rw [hu, if_pos ⟨hc.1, .inr hc.2⟩]
      · rw [hst, if_pos (by simp [hc.1, hc.2])]
    · refine ⟨b, x, ?_, h2, ?_⟩
      · rw [hu, if_neg]
        rintro ⟨c1, c2 | c2⟩
        · omega
        · exact hc ⟨c1, c2⟩
      · rw [hst, if_neg]
        simp only [Bool.and_eq_true]
        exact hc
theorem bestI_end {ls : List Line} {i : Nat} {l : Line} {g : ByteArray} (hi : ls[i]? = some l) (hm : memberS g l = true) (hf : (ls.take i).any (memberS g) = false) :
    ∃ (b : Nat) (x : Line), bestI g ls ls.length = b ∧ ls[b]? = some x ∧ x = bestS g l (ls.drop i) := by
  have hil : i < ls.length := (List.getElem?_eq_some_iff.1 hi).1
  obtain ⟨b, x, h1, h2, h3⟩ := bestI_first hi hm hf (ls.length - (i + 1)) (by omega)
  refine ⟨b, x, ?_, h2, ?_⟩
  · rw [← h1]; congr 1; omega
  · rw [h3, List.take_of_length_le]
    rw [List.length_drop]; omega
structure StepR where
  name : ByteArray
  pts : Frac
  part : Bool
  err : Int
def pickS (ls : List Line) (i : Nat) (l : Line) : Line := if l.group.size = 0 then l else bestS l.group l (ls.drop i)
def skipS (ls : List Line) (i : Nat) (l : Line) : Bool := !decide (l.group.size = 0) && (ls.take i).any (memberS l.group)
def stepR (ls : List Line) (i : Nat) (l : Line) (p : Frac) : StepR :=
  if l.kind = 0 then (if skipS ls i l = true then ⟨⟨#[]⟩, p, false, 0⟩ else ⟨(pickS ls i l).name, fadd p (weightS (pickS ls i l)), true, faddErr p (weightS (pickS ls i l))⟩)
  else if l.kind = 1 then (if lessS (weightS l) p = true then ⟨l.name, fsub p (weightS l), true, fsubErr p (weightS l)⟩ else ⟨l.name, ⟨0, 1⟩, true, 0⟩)
  else if l.kind = 3 then ⟨l.name, if lessS p (weightS l) = true then weightS l else p, true, 0⟩
  else ⟨l.name, if lessS (weightS l) p = true then weightS l else p, true, 0⟩
def StepR.pv (r : StepR) : PV := .tup [.str r.name, r.pts.pv, .bool r.part, .int .i64 r.err]
attribute [push_cast] StepR.pv
theorem refstep_fn {ls : List Line} (hr : AllR ls) (hl : ls.length ≤ 1000000) {i : Nat} {l : Line} (hi : ls[i]? = some l) (ha : l.app = true) (p : Frac) :
    Pure EE 39 [.list (ls.map Line.cs), .int .i64 i, p.pv] ((stepR ls i l p).pv) := by
  have hil : i < ls.length := (List.getElem?_eq_some_iff.1 hi).1
  have hget : (ls.map Line.cs)[i]? = some l.cs := by rw [List.getElem?_map, hi]; rfl
  have hi0 : (0 : Int) ≤ i := by omega
  have hi1 : (i : Int) < ls.length := by omega
  have hok : Fok l.amt := right_amt (hr l (List.mem_of_getElem? hi)) ha
  have hw := refweight_fn l
  rw [weightR_eq hok] at hw
  have h1 := refless_fn (weightS l) p
  have h2 := refless_fn p (weightS l)
  have h3 := refsub_fn p (weightS l)
  by_cases hk0 : l.kind = 0
  · simp only [Line.pv, Line.cs, hk0] at hw
    by_cases hg : l.group.size = 0
    · have h4 := refadd_fn p (weightS l)
      rw [show stepR ls i l p = ⟨l.name, fadd p (weightS l), true, faddErr p (weightS l)⟩ from by unfold stepR skipS pickS; simp [hk0, hg]]
      intro σ nx
      refine fn_of_body goodEE (by rw [EE_P]; exact Tryz.func39) rfl rfl (by kernel_rfl) (Nat.le_of_ble_eq_true rfl) (Nat.le_refl _) fun hwf hlt => ?_
      rw [show Tryz.f39.results.toList = [.tmp 6, .cell 7 27, .tmp 8, .tmp 9] from rfl]
      refine awp_begin _ _ _ _ _ (cc := _) (by conv => lhs; simp only [push_cast, seval, Tryz.f39]) ?_
      simp only [push_cast, seval, EE_P]
      repeat' (first | simp only [push_cast, seval, EE_P, hget, hi0, hi1, hk0, hg, List.length_map, Int.toNat_natCast] | simp (disch := omega) only [wrap_fits] | ((first | with_reducible apply wcall_pure | with_reducible apply wdcall_pure); focus (first | assumption | exact refless_fn ⟨_, _⟩ ⟨_, _⟩ | exact refweight_fn ⟨_, _, _, _, _, _, _⟩ | exact refsub_fn ⟨_, _⟩ ⟨_, _⟩ | exact refzero_fn | exact refadd_fn ⟨_, _⟩ ⟨_, _⟩)) | (with_reducible refine wguard_split_t (fun h => ?_) (fun h => ?_)) | (with_reducible refine wguard_split_f (fun h => ?_) (fun h => ?_)) | (with_reducible refine wcond_split (fun h => ?_) (fun h => ?_)) | (with_reducible refine wdguard_split_t (fun h => ?_) (fun h => ?_)) | (with_reducible refine wdguard_split_f (fun h => ?_) (fun h => ?_)) | (with_reducible refine And.intro (fun h => ?_) (fun h => ?_)) | (with_reducible apply And.intro; focus omega))
      all_goals ((refine ends_ret (by simp only [resultsOf, resOf, push_cast, seval, EE_P]; rfl) (by simp only [push_cast, seval, EE_P]) ?_ (by repeat' (first | exact Keeps.refl _ | assumption | exact (hwf.keep1 _) | refine Keeps.new hwf ?_ (by omega) _)) (by simp only [lt_int, lt_bool, lt_str, lt_nil, lt_empty, lt_agg, lt_tup, lt_list, lt_cells, lt_fn, lt_nilp, lt_nilfn, lt_nili, List.mem_cons, List.not_mem_nil, or_false, forall_eq_or_imp, forall_eq, and_true, true_and, and_self, implies_true, *]; try omega)); (try simp only [tupOf, push_cast, seval, EE_P]))
    · have hf := first_fn hi hl
      cases hs : (ls.take i).any (memberS l.group)
      · rw [hs] at hf
        have hm : memberS l.group l = true := memAt_yes ha hk0 rfl
        obtain ⟨b, x, hb, hx, hxe⟩ := bestI_end hi hm hs
        have hbest := best_fn hr hl l.group
        rw [hb] at hbest
        have hbl : b < ls.length := (List.getElem?_eq_some_iff.1 hx).1
        have hgx : (ls.map Line.cs)[b]? = some x.cs := by rw [List.getElem?_map, hx]; rfl
        have hb0 : (0 : Int) ≤ b := by omega
        have hb1 : (b : Int) < ls.length := by omega
        have hxok : Fok x.amt := by rw [hxe]; exact best_ok hok fun y hy => hr y (List.mem_of_mem_drop hy)
        have hwx := refweight_fn x
        rw [weightR_eq hxok] at hwx
        have h4 := refadd_fn p (weightS x)
        rw [show stepR ls i l p = ⟨x.name, fadd p (weightS x), true, faddErr p (weightS x)⟩ from by unfold stepR skipS pickS; simp [hk0, hg, hs, hxe]]
        intro σ nx
        refine fn_of_body goodEE (by rw [EE_P]; exact Tryz.func39) rfl rfl (by kernel_rfl) (Nat.le_of_ble_eq_true rfl) (Nat.le_refl _) fun hwf hlt => ?_
        rw [show Tryz.f39.results.toList = [.tmp 6, .cell 7 27, .tmp 8, .tmp 9] from rfl]
        refine awp_begin _ _ _ _ _ (cc := _) (by conv => lhs; simp only [push_cast, seval, Tryz.f39]) ?_
        simp only [push_cast, seval, EE_P]
        repeat' (first | simp only [push_cast, seval, EE_P, hget, hi0, hi1, hk0, hg, hgx, hb0, hb1, List.length_map, Int.toNat_natCast] | simp (disch := omega) only [wrap_fits] | ((first | with_reducible apply wcall_pure | with_reducible apply wdcall_pure); focus (first | assumption | exact refless_fn ⟨_, _⟩ ⟨_, _⟩ | exact refweight_fn ⟨_, _, _, _, _, _, _⟩ | exact refsub_fn ⟨_, _⟩ ⟨_, _⟩ | exact refzero_fn | exact refadd_fn ⟨_, _⟩ ⟨_, _⟩)) | (with_reducible refine wguard_split_t (fun h => ?_) (fun h => ?_)) | (with_reducible refine wguard_split_f (fun h => ?_) (fun h => ?_)) | (with_reducible refine wcond_split (fun h => ?_) (fun h => ?_)) | (with_reducible refine wdguard_split_t (fun h => ?_) (fun h => ?_)) | (with_reducible refine wdguard_split_f (fun h => ?_) (fun h => ?_)) | (with_reducible refine And.intro (fun h => ?_) (fun h => ?_)) | (with_reducible apply And.intro; focus omega))
        all_goals ((refine ends_ret (by simp only [resultsOf, resOf, push_cast, seval, EE_P]; rfl) (by simp only [push_cast, seval, EE_P]) ?_ (by repeat' (first | exact Keeps.refl _ | assumption | exact (hwf.keep1 _) | refine Keeps.new hwf ?_ (by omega) _)) (by simp only [lt_int, lt_bool, lt_str, lt_nil, lt_empty, lt_agg, lt_tup, lt_list, lt_cells, lt_fn, lt_nilp, lt_nilfn, lt_nili, List.mem_cons, List.not_mem_nil, or_false, forall_eq_or_imp, forall_eq, and_true, true_and, and_self, implies_true, *]; try omega)); (try simp only [tupOf, push_cast, seval, EE_P]))
      · rw [hs] at hf
        rw [show stepR ls i l p = ⟨⟨#[]⟩, p, false, 0⟩ from by unfold stepR skipS; simp [hk0, hg, hs]]
        intro σ nx
        refine fn_of_body goodEE (by rw [EE_P]; exact Tryz.func39) rfl rfl (by kernel_rfl) (Nat.le_of_ble_eq_true rfl) (Nat.le_refl _) fun hwf hlt => ?_
        rw [show Tryz.f39.results.toList = [.tmp 6, .cell 7 27, .tmp 8, .tmp 9] from rfl]
        refine awp_begin _ _ _ _ _ (cc := _) (by conv => lhs; simp only [push_cast, seval, Tryz.f39]) ?_
        simp only [push_cast, seval, EE_P]
        repeat' (first | simp only [push_cast, seval, EE_P, hget, hi0, hi1, hk0, hg, List.length_map, Int.toNat_natCast] | simp (disch := omega) only [wrap_fits] | ((first | with_reducible apply wcall_pure | with_reducible apply wdcall_pure); focus (first | assumption | exact refless_fn ⟨_, _⟩ ⟨_, _⟩ | exact refweight_fn ⟨_, _, _, _, _, _, _⟩ | exact refsub_fn ⟨_, _⟩ ⟨_, _⟩ | exact refzero_fn | exact refadd_fn ⟨_, _⟩ ⟨_, _⟩)) | (with_reducible refine wguard_split_t (fun h => ?_) (fun h => ?_)) | (with_reducible refine wguard_split_f (fun h => ?_) (fun h => ?_)) | (with_reducible refine wcond_split (fun h => ?_) (fun h => ?_)) | (with_reducible refine wdguard_split_t (fun h => ?_) (fun h => ?_)) | (with_reducible refine wdguard_split_f (fun h => ?_) (fun h => ?_)) | (with_reducible refine And.intro (fun h => ?_) (fun h => ?_)) | (with_reducible apply And.intro; focus omega))
        all_goals ((refine ends_ret (by simp only [resultsOf, resOf, push_cast, seval, EE_P]; rfl) (by simp only [push_cast, seval, EE_P]) ?_ (by repeat' (first | exact Keeps.refl _ | assumption | exact (hwf.keep1 _) | refine Keeps.new hwf ?_ (by omega) _)) (by simp only [lt_int, lt_bool, lt_str, lt_nil, lt_empty, lt_agg, lt_tup, lt_list, lt_cells, lt_fn, lt_nilp, lt_nilfn, lt_nili, List.mem_cons, List.not_mem_nil, or_false, forall_eq_or_imp, forall_eq, and_true, true_and, and_self, implies_true, *]; try omega)); (try simp only [tupOf, push_cast, seval, EE_P]))
  · intro σ nx
    refine fn_of_body goodEE (by rw [EE_P]; exact Tryz.func39) rfl rfl (by kernel_rfl) (Nat.le_of_ble_eq_true rfl) (Nat.le_refl _) fun hwf hlt => ?_
    rw [show Tryz.f39.results.toList = [.tmp 6, .cell 7 27, .tmp 8, .tmp 9] from rfl]
    refine awp_begin _ _ _ _ _ (cc := _) (by conv => lhs; simp only [push_cast, seval, Tryz.f39]) ?_
    simp only [push_cast, seval, EE_P]
    repeat' (first | simp only [push_cast, seval, EE_P, hget, hi0, hi1, hk0, List.length_map, Int.toNat_natCast] | simp (disch := omega) only [wrap_fits] | ((first | with_reducible apply wcall_pure | with_reducible apply wdcall_pure); focus (first | assumption | exact refless_fn ⟨_, _⟩ ⟨_, _⟩ | exact refweight_fn ⟨_, _, _, _, _, _, _⟩ | exact refsub_fn ⟨_, _⟩ ⟨_, _⟩ | exact refzero_fn | exact refadd_fn ⟨_, _⟩ ⟨_, _⟩)) | (with_reducible refine wguard_split_t (fun h => ?_) (fun h => ?_)) | (with_reducible refine wguard_split_f (fun h => ?_) (fun h => ?_)) | (with_reducible refine wcond_split (fun h => ?_) (fun h => ?_)) | (with_reducible refine wdguard_split_t (fun h => ?_) (fun h => ?_)) | (with_reducible refine wdguard_split_f (fun h => ?_) (fun h => ?_)) | (with_reducible refine And.intro (fun h => ?_) (fun h => ?_)) | (with_reducible apply And.intro; focus omega))
    all_goals ((refine ends_ret (by simp only [resultsOf, resOf, push_cast, seval, EE_P]; rfl) (by simp only [push_cast, seval, EE_P]) ?_ (by repeat' (first | exact Keeps.refl _ | assumption | exact (hwf.keep1 _) | refine Keeps.new hwf ?_ (by omega) _)) (by simp only [lt_int, lt_bool, lt_str, lt_nil, lt_empty, lt_agg, lt_tup, lt_list, lt_cells, lt_fn, lt_nilp, lt_nilfn, lt_nili, List.mem_cons, List.not_mem_nil, or_false, forall_eq_or_imp, forall_eq, and_true, true_and, and_self, implies_true, *]; try omega)); (try simp only [tupOf, push_cast, seval, EE_P]))
    all_goals (unfold stepR; first | (simp [*]; done) | (simp_all; done))
end Go.Proofs.YtdajoilaakiinaaGreatDoor.Awp

/- The reference's Combine: what it has in common with the program's. -/
namespace Go.Proofs.YtdajoilaakiinaaGreatDoor.Awp
open Go Go.Proofs
set_option linter.unusedSimpArgs false
set_option linter.unusedVariables false
set_option maxRecDepth 10000
set_option maxHeartbeats 4000000

theorem become_sticky {m : MK} (h : m.wrong = true) (name : ByteArray) (p : Frac) (e : Int) : (becomeS m name p e).wrong = true := by
  unfold becomeS
  rw [if_pos (.inl h)]
theorem funAt_sticky {m : MK} (h : m.wrong = true) (ls : List Line) (t i : Nat) (l : Line) : (funAt ls t i l m).wrong = true := by
  unfold funAt
  split
  · unfold pointsS
    split
    · exact become_sticky h _ _ _
    · split
      · exact h
      · exact become_sticky h _ _ _
  · exact become_sticky h _ _ _
  · exact become_sticky h _ _ _
  · exact become_sticky h _ _ _
theorem stepsTo_sticky {ls : List Line} {t : Nat} {m : MK} : ∀ {i j : Nat}, i ≤ j → (stepsTo (kindAt t) (funAt ls t) ls m i).wrong = true → (stepsTo (kindAt t) (funAt ls t) ls m j).wrong = true := by
  intro i j hij h
  induction hij with
  | refl => exact h
  | @step j _ ih =>
    conv => lhs; unfold stepsTo
    split
    · split
      · exact funAt_sticky ih _ _ _ _
      · exact ih
    · exact ih
theorem phase_sticky {ls : List Line} : ∀ {t u : Nat}, t ≤ u → (phase ls m0S t).wrong = true → (phase ls m0S u).wrong = true := by
  intro t u htu h
  induction htu with
  | refl => exact h
  | @step u _ ih =>
    unfold phase
    exact stepsTo_sticky (i := 0) (Nat.zero_le _) ih
/-- A step of the reference and one of the program. -/
theorem step_same {ls : List Line} (hr : AllR ls) {t i : Nat} {l : Line} (hi : ls[i]? = some l) (ha : l.app = true) (hk : l.kind = kindAt t) {m : MK} (hm : m.wrong = false) (hp : Fok m.pts) :
    (stepR ls i l m.pts).err = 0 ∧ (stepR ls i l m.pts).part = false ∧ funAt ls t i l m = m ∨
    (stepR ls i l m.pts).part = true ∧ funAt ls t i l m = becomeS m (stepR ls i l m.pts).name (stepR ls i l m.pts).pts (stepR ls i l m.pts).err := by
  have hok : Fok l.amt := right_amt (hr l (List.mem_of_getElem? hi)) ha
  have hwo := weight_ok hok
  unfold stepR
  obtain h0 | h0 | h0 | h0 : t = 0 ∨ t = 1 ∨ t = 2 ∨ 3 ≤ t := by omega
  · subst h0
    rw [if_pos (show l.kind = 0 from hk)]
    show _ ∧ _ ∧ pointsS ls i l m = m ∨ _ ∧ pointsS ls i l m = _
    unfold pointsS skipS pickS
    by_cases hg : l.group.size = 0
    · simp only [hg, decide_true, Bool.not_true, Bool.false_and, Bool.false_eq_true, if_false, if_true]
      exact .inr ⟨trivial, rfl⟩
    · cases hs : (ls.take i).any (memberS l.group)
      · simp only [hg, hs, decide_false, Bool.not_false, Bool.true_and, Bool.false_eq_true, if_false]
        exact .inr ⟨trivial, rfl⟩
      · simp only [hg, hs, decide_false, Bool.not_false, Bool.true_and, if_true, if_false]
        exact .inl ⟨trivial, trivial, trivial⟩
  · subst h0
    have hk1 : l.kind = 1 := hk
    rw [if_neg (by omega), if_pos hk1]
    show _ ∧ _ ∧ penaltyS l m = m ∨ _ ∧ penaltyS l m = _
    unfold penaltyS
    right
    cases hc : lessS (weightS l) m.pts
    · rw [if_neg (by simp)]
      have hle := less_no hwo.1 hp hc
      refine ⟨rfl, ?_⟩
      have hz := fsub_of (a := m.pts) (b := m.pts) hp hp zero_ok (by rw [val_zero]; grind)
      cases hc2 : lessS m.pts (weightS l)
      · have hle2 := less_no hp hwo.1 hc2
        have he : weightS l = m.pts := val_inj hwo.1 hp (by
          have h1 := (val_le hp hwo.1).1 hle
          have h2 := (val_le hwo.1 hp).1 hle2
          grind)
        simp only [he, ite_self, hz.1, hz.2]
      · simp only [if_true, hz.1, hz.2]
    · rw [if_pos rfl]
      refine ⟨rfl, ?_⟩
      have : lessS m.pts (weightS l) = false := by
        cases hc2 : lessS m.pts (weightS l)
        · rfl
        · have h1 := (val_lt hp hwo.1).1 hc2
          have h2 := (val_lt hwo.1 hp).1 hc
          grind
      simp only [this, Bool.false_eq_true, if_false]
  · subst h0
    have hk3 : l.kind = 3 := hk
    rw [if_neg (by omega), if_neg (by omega), if_pos hk3]
    exact .inr ⟨rfl, rfl⟩
  · have hk2 : l.kind = 2 := by
      rw [hk]
      match t, h0 with
      | t + 3, _ => rfl
    rw [if_neg (by omega), if_neg (by omega), if_neg (by omega)]
    refine .inr ⟨rfl, ?_⟩
    match t, h0 with
    | t + 3, _ => rfl
/-! ### ValidLines -/
def validLinesS (ls : List Line) : Bool := decide (ls.length ≤ 32) && ls.all rightS
theorem validLines_no {ls : List Line} {i : Nat} {l : Line} (h : ls[i]? = some l) (hn : rightS l = false) : validLinesS ls = false := by
  unfold validLinesS
  rw [show ls.all rightS = false from ?_, Bool.and_false]
  rw [List.all_eq_false]
  exact ⟨l, List.mem_of_getElem? h, by simp [hn]⟩
theorem validLines_yes {ls : List Line} (h : ls.length ≤ 32) (ha : ∀ (j : Nat) (l : Line), ls[j]? = some l → rightS l = true) : validLinesS ls = true := by
  unfold validLinesS
  rw [decide_eq_true h, Bool.true_and, List.all_eq_true]
  intro l hl
  obtain ⟨j, hj, rfl⟩ := List.getElem_of_mem hl
  exact ha j _ (List.getElem?_eq_getElem hj)
theorem validLines_fn {ls : List Line} {v : PV} (hv : SliceP (ls.map Line.cs) v) : Pure EE 37 [v] (.bool (validLinesS ls)) := by
  have hvl := hv.len
  simp only [List.length_map] at hvl
  by_cases hbig : (ls.length : Int) > 32
  · rw [show validLinesS ls = false from by unfold validLinesS; rw [decide_eq_false (by omega), Bool.false_and]]
    intro σ nx
    refine fn_of_body goodEE (by rw [EE_P]; exact Tryz.func37) rfl rfl (by kernel_rfl) (Nat.le_of_ble_eq_true rfl) (Nat.le_refl _) fun hwf hlt => ?_
    rw [show Tryz.f37.results.toList = [.tmp 2] from rfl]
    refine awp_begin _ _ _ _ _ (cc := _) (by conv => lhs; simp only [push_cast, seval, Tryz.f37]) ?_
    simp only [push_cast, seval, EE_P]
    repeat' (first | simp only [push_cast, seval, EE_P, hvl, hv.str, hbig, decide_true] | simp (disch := omega) only [wrap_fits] | ((first | with_reducible apply wcall_pure | with_reducible apply wdcall_pure); focus (first | assumption | exact isName50_fn _ | exact refvalid_fn ⟨_, _⟩)) | (with_reducible refine wguard_split_t (fun h => ?_) (fun h => ?_)) | (with_reducible refine wguard_split_f (fun h => ?_) (fun h => ?_)) | (with_reducible refine wcond_split (fun h => ?_) (fun h => ?_)) | (with_reducible refine wdguard_split_t (fun h => ?_) (fun h => ?_)) | (with_reducible refine wdguard_split_f (fun h => ?_) (fun h => ?_)) | (with_reducible refine And.intro (fun h => ?_) (fun h => ?_)) | (with_reducible apply And.intro; focus omega))
    ((refine ends_ret (by simp only [resultsOf, resOf, push_cast, seval, EE_P]; rfl) (by simp only [push_cast, seval, EE_P]) ?_ (by repeat' (first | exact Keeps.refl _ | assumption | exact (hwf.keep1 _) | refine Keeps.new hwf ?_ (by omega) _)) (by simp only [lt_int, lt_bool, lt_str, lt_nil, lt_empty, lt_agg, lt_tup, lt_list, lt_cells, lt_fn, lt_nilp, lt_nilfn, lt_nili, List.mem_cons, List.not_mem_nil, or_false, forall_eq_or_imp, forall_eq, and_true, true_and, and_self, implies_true, *]; try omega)); (try simp only [tupOf, push_cast, seval, EE_P]))
  intro σ nx
  refine fn_of_body goodEE (by rw [EE_P]; exact Tryz.func37) rfl rfl (by kernel_rfl) (Nat.le_of_ble_eq_true rfl) (Nat.le_refl _) fun hwf hlt => ?_
  rw [show Tryz.f37.results.toList = [.tmp 2] from rfl]
  refine awp_begin _ _ _ _ _ (cc := _) (by conv => lhs; simp only [push_cast, seval, Tryz.f37]) ?_
  simp only [push_cast, seval, EE_P]
  repeat' (first | simp only [push_cast, seval, EE_P, hvl, hv.str, hbig, decide_false] | simp (disch := omega) only [wrap_fits] | ((first | with_reducible apply wcall_pure | with_reducible apply wdcall_pure); focus (first | assumption | exact isName50_fn _ | exact refvalid_fn ⟨_, _⟩)) | (with_reducible refine wguard_split_t (fun h => ?_) (fun h => ?_)) | (with_reducible refine wguard_split_f (fun h => ?_) (fun h => ?_)) | (with_reducible refine wcond_split (fun h => ?_) (fun h => ?_)) | (with_reducible refine wdguard_split_t (fun h => ?_) (fun h => ?_)) | (with_reducible refine wdguard_split_f (fun h => ?_) (fun h => ?_)) | (with_reducible refine And.intro (fun h => ?_) (fun h => ?_)) | (with_reducible apply And.intro; focus omega))
  refine wloop_by (fun m sl σ' nx' => ∃ i : Nat, i ≤ ls.length ∧ m = ls.length - i ∧ (∀ (j : Nat) (l : Line), j < i → ls[j]? = some l → rightS l = true) ∧ sl 0 = v ∧ sl 3 = .int .i64 i ∧ Keeps σ σ' ∧ nx ≤ nx') ls.length
    ⟨0, by omega, rfl, fun j _ h => by omega, rfl, rfl, .refl _, by omega⟩ ?_
  rintro m sl σ' nx' ⟨i, hi, hm, hb, h0, h3, hk, hnx⟩
  have hi0 : (0 : Int) ≤ i := by omega
  by_cases hil : i < ls.length
  · have hil' : (i : Int) < ls.length := by omega
    obtain rfl : v = .list (ls.map Line.cs) := hv.lt (i := i) (by simpa using hil)
    have hw : IntKind.i64.wrap ((i : Int) + 1) = (i : Int) + 1 := wrap_small (by omega) (by omega)
    have hget : (ls.map Line.cs)[i]? = some ls[i].cs := by rw [List.getElem?_map, List.getElem?_eq_getElem hil]; rfl
    have hget' : ls[i]? = some ls[i] := List.getElem?_eq_getElem hil
    generalize hf : ls[i] = f at hget hget'
    have hn : rightS f = true → ∀ (j : Nat) (l : Line), j < i + 1 → ls[j]? = some l → rightS l = true := fun hr j l hji hl => by
      by_cases hjj : j = i
      · subst hjj; rw [hget'] at hl; cases hl; exact hr
      · exact hb j l (by omega) hl
    have hno := validLines_no hget'
    cases hrf : rightS f
    · have hno := hno hrf
      rw [hno]
      unfold rightS at hrf
      repeat' (first | simp only [push_cast, seval, EE_P, h0, h3, hvl, hi0, hil', hget, hw, List.length_map, Int.toNat_natCast] | simp (disch := omega) only [wrap_fits] | ((first | with_reducible apply wcall_pure | with_reducible apply wdcall_pure); focus (first | assumption | exact isName50_fn _ | exact refvalid_fn ⟨_, _⟩)) | (with_reducible refine wguard_split_t (fun h => ?_) (fun h => ?_)) | (with_reducible refine wguard_split_f (fun h => ?_) (fun h => ?_)) | (with_reducible refine wcond_split (fun h => ?_) (fun h => ?_)) | (with_reducible refine wdguard_split_t (fun h => ?_) (fun h => ?_)) | (with_reducible refine wdguard_split_f (fun h => ?_) (fun h => ?_)) | (with_reducible refine And.intro (fun h => ?_) (fun h => ?_)) | (with_reducible apply And.intro; focus omega))
      all_goals (try ((refine ends_ret (by simp only [resultsOf, resOf, push_cast, seval, EE_P]; rfl) (by simp only [push_cast, seval, EE_P]) ?_ (by repeat' (first | exact Keeps.refl _ | assumption | exact (hwf.keep1 _) | refine Keeps.new hwf ?_ (by omega) _)) (by simp only [lt_int, lt_bool, lt_str, lt_nil, lt_empty, lt_agg, lt_tup, lt_list, lt_cells, lt_fn, lt_nilp, lt_nilfn, lt_nili, List.mem_cons, List.not_mem_nil, or_false, forall_eq_or_imp, forall_eq, and_true, true_and, and_self, implies_true, *]; try omega)); (try simp only [tupOf, push_cast, seval, EE_P])))
      all_goals (exfalso; simp_all; done)
    · have hn := hn hrf
      unfold rightS at hrf
      simp only [Bool.and_eq_true, Bool.or_eq_true, decide_eq_true_eq, Bool.not_eq_true'] at hrf
      obtain ⟨⟨⟨⟨a1, a2⟩, a3⟩, a4⟩, a5⟩ := hrf
      have a4' : ¬ f.group.size = 0 → f.kind = 0 ∧ nameS f.group = true := fun h => a4.resolve_left h
      have a5' : f.app = true → FV f.num f.den ∧ f.err = 0 := fun h => a5.resolve_left (by rw [h]; simp)
      have b3 : ¬ (!nameS f.name) = true := by rw [a3]; simp
      have b4 : ¬ f.group.size = 0 → ¬ (!nameS f.group) = true := fun h => by rw [(a4' h).2]; simp
      repeat' (first | simp only [push_cast, seval, EE_P, h0, h3, hvl, hi0, hil', hget, hw, List.length_map, Int.toNat_natCast] | simp (disch := omega) only [wrap_fits] | ((first | with_reducible apply wcall_pure | with_reducible apply wdcall_pure); focus (first | assumption | exact isName50_fn _ | exact refvalid_fn ⟨_, _⟩)) | (with_reducible refine wguard_split_t (fun h => ?_) (fun h => ?_)) | (with_reducible refine wguard_split_f (fun h => ?_) (fun h => ?_)) | (with_reducible refine wcond_split (fun h => ?_) (fun h => ?_)) | (with_reducible refine wdguard_split_t (fun h => ?_) (fun h => ?_)) | (with_reducible refine wdguard_split_f (fun h => ?_) (fun h => ?_)) | (with_reducible refine And.intro (fun h => ?_) (fun h => ?_)) | (with_reducible apply And.intro; focus omega))
      all_goals (try (refine ⟨ls.length - (i + 1), by omega, i + 1, by omega, rfl, hn, by simp, (by repeat' (first | exact Keeps.refl _ | assumption | exact (hwf.keep1 _) | refine Keeps.new hwf ?_ (by omega) _)), by omega⟩))
      all_goals (exfalso; first | omega | exact absurd (a5' (by assumption)).1 (by assumption) | exact absurd (a5' (by assumption)).2 (by assumption) | exact absurd (a4' (by assumption)).1 (by assumption) | exact b4 (by assumption) (by assumption) | exact b3 (by assumption))
  · have hil' : ¬ (i : Int) < ls.length := by omega
    repeat' (first | simp only [push_cast, seval, EE_P, h0, h3, hvl, hv.str, hil'] | simp (disch := omega) only [wrap_fits] | ((first | with_reducible apply wcall_pure | with_reducible apply wdcall_pure); focus (first | assumption | exact isName50_fn _ | exact refvalid_fn ⟨_, _⟩)) | (with_reducible refine wguard_split_t (fun h => ?_) (fun h => ?_)) | (with_reducible refine wguard_split_f (fun h => ?_) (fun h => ?_)) | (with_reducible refine wcond_split (fun h => ?_) (fun h => ?_)) | (with_reducible refine wdguard_split_t (fun h => ?_) (fun h => ?_)) | (with_reducible refine wdguard_split_f (fun h => ?_) (fun h => ?_)) | (with_reducible refine And.intro (fun h => ?_) (fun h => ?_)) | (with_reducible apply And.intro; focus omega))
    ((refine ends_ret (by simp only [resultsOf, resOf, push_cast, seval, EE_P]; rfl) (by simp only [push_cast, seval, EE_P]) ?_ (by repeat' (first | exact Keeps.refl _ | assumption | exact (hwf.keep1 _) | refine Keeps.new hwf ?_ (by omega) _)) (by simp only [lt_int, lt_bool, lt_str, lt_nil, lt_empty, lt_agg, lt_tup, lt_list, lt_cells, lt_fn, lt_nilp, lt_nilfn, lt_nili, List.mem_cons, List.not_mem_nil, or_false, forall_eq_or_imp, forall_eq, and_true, true_and, and_self, implies_true, *]; try omega)); (try simp only [tupOf, push_cast, seval, EE_P]))
    rw [validLines_yes (by omega) fun j l hl => hb j l (by have := (List.getElem?_eq_some_iff.1 hl).1; omega) hl]
end Go.Proofs.YtdajoilaakiinaaGreatDoor.Awp

/- The reference's Combine. -/
namespace Go.Proofs.YtdajoilaakiinaaGreatDoor.Awp
open Go Go.Proofs
set_option linter.unusedSimpArgs false
set_option linter.unusedVariables false
set_option maxRecDepth 10000
set_option maxHeartbeats 4000000

theorem steps_pok {ls : List Line} (hr : AllR ls) (t j : Nat) (hj : j ≤ ls.length) : Pok (stepsTo (kindAt t) (funAt ls t) ls (phase ls m0S t) j) := by
  refine stepsTo_ind (P := fun _ m => Pok m) (phase_pok hr t) (fun j l m hj hm => ⟨fun ha hk => ?_, fun _ => hm⟩) j hj
  have hok := right_amt (hr l (List.mem_of_getElem? hj)) ha
  unfold funAt
  split
  · exact points_pok hr hj ha hm
  · exact penalty_pok hok hm
  · exact choose_pok hok hm
  · exact choose_pok hok hm
theorem valid_iff {ls : List Line} : validLinesS ls = true ↔ ls.length ≤ 32 ∧ AllR ls := by
  unfold validLinesS AllR
  simp
theorem combine_invalid {ls : List Line} (h : validLinesS ls = false) : combineS ls = (zeroCredit, 1) := by
  unfold combineS
  rw [if_pos]
  unfold validLinesS at h
  rw [Bool.and_eq_false_iff] at h
  rcases h with h | h
  · left; simp at h; exact h
  · right
    rw [List.all_eq_false] at h
    obtain ⟨l, hl, hn⟩ := h
    rw [List.any_eq_true]
    exact ⟨l, hl, by simpa using hn⟩
theorem combine_valid {ls : List Line} (h : validLinesS ls = true) : combineS ls = finishS (phase ls m0S 4) := by
  obtain ⟨h1, h2⟩ := valid_iff.1 h
  unfold combineS
  rw [if_neg]
  rintro (h | h)
  · omega
  · rw [List.any_eq_true] at h
    obtain ⟨l, hl, hn⟩ := h
    rw [h2 l hl] at hn
    cases hn
theorem combine_wrong_end {ls : List Line} (h : validLinesS ls = true) {t j : Nat} (ht : t < 4) (hj : j ≤ ls.length) (hw : (stepsTo (kindAt t) (funAt ls t) ls (phase ls m0S t) j).wrong = true) : combineS ls = (zeroCredit, 2) := by
  rw [combine_valid h]
  have h1 : (phase ls m0S (t + 1)).wrong = true := stepsTo_sticky hj hw
  have h2 := phase_sticky (show t + 1 ≤ 4 by omega) h1
  unfold finishS
  rw [if_pos (.inl h2)]
theorem ordL_ex : ∃ L : List (List PV), L = [[.int .i64 0], [.int .i64 1], [.int .i64 3], [.int .i64 2]] ∧ L.length = 4 ∧ ∀ t, t < 4 → L[t]? = some [.int .i64 (kindAt t)] := by
  refine ⟨_, rfl, rfl, fun t ht => ?_⟩
  obtain rfl | rfl | rfl | rfl : t = 0 ∨ t = 1 ∨ t = 2 ∨ t = 3 := by omega
  all_goals rfl
theorem Grown.keep {σ σ' : Store} {X hi hi' : Nat} {v : PV} {es : List (List PV)} (h : Grown σ X hi v es) (hh : hi ≤ hi') (hs : ∀ k, X ≤ k → k < hi → σ' k = σ k) : Grown σ' X hi' v es := by
  cases h with
  | nil => exact .nil
  | row k _ hk hk' h hn => exact .row k _ hk (by omega) (by rw [hs k hk hk']; exact h) hn
theorem zero_val : zeroCredit.val = .agg [.nil, .int .i64 0, .int .i64 0, .int .i64 0] := rfl
theorem refcombine_fn {ls : List Line} {v : PV} (hv : SliceP (ls.map Line.cs) v) : Pure EE 14 [v] (.tup [(combineS ls).1.val, .int .i64 (combineS ls).2]) := by
  have hvl := hv.len
  simp only [List.length_map] at hvl
  have hval := validLines_fn hv
  cases hvs : validLinesS ls
  · rw [hvs] at hval
    rw [combine_invalid hvs, zero_val]
    intro σ nx
    refine fn_of_body goodEE (by rw [EE_P]; exact Tryz.func14) rfl rfl (by kernel_rfl) (Nat.le_of_ble_eq_true rfl) (Nat.le_refl _) fun hwf hlt => ?_
    rw [show Tryz.f14.results.toList = [.cell 2 29, .tmp 3] from rfl]
    refine awp_begin _ _ _ _ _ (cc := _) (by conv => lhs; simp only [push_cast, seval, Tryz.f14]) ?_
    simp only [push_cast, seval, EE_P]
    repeat' (first | simp only [push_cast, seval, EE_P] | simp (disch := omega) only [wrap_fits] | ((first | with_reducible apply wcall_pure | with_reducible apply wdcall_pure); focus (first | assumption | exact validLines_fn (by assumption) | exact refhund_fn ⟨_, _⟩ | exact refsub_fn ⟨_, _⟩ ⟨_, _⟩ | exact refzero_fn)) | (with_reducible refine wguard_split_t (fun h => ?_) (fun h => ?_)) | (with_reducible refine wguard_split_f (fun h => ?_) (fun h => ?_)) | (with_reducible refine wcond_split (fun h => ?_) (fun h => ?_)) | (with_reducible refine wdguard_split_t (fun h => ?_) (fun h => ?_)) | (with_reducible refine wdguard_split_f (fun h => ?_) (fun h => ?_)) | (with_reducible refine And.intro (fun h => ?_) (fun h => ?_)) | (with_reducible apply And.intro; focus omega))
    ((refine ends_ret (by simp only [resultsOf, resOf, push_cast, seval, EE_P]; rfl) (by simp only [push_cast, seval, EE_P]) ?_ (by repeat' (first | exact Keeps.refl _ | assumption | exact (hwf.keep1 _) | refine Keeps.new hwf ?_ (by omega) _)) (by simp only [lt_int, lt_bool, lt_str, lt_nil, lt_empty, lt_agg, lt_tup, lt_list, lt_cells, lt_fn, lt_nilp, lt_nilfn, lt_nili, List.mem_cons, List.not_mem_nil, or_false, forall_eq_or_imp, forall_eq, and_true, true_and, and_self, implies_true, *]; try omega)); (try simp only [tupOf, push_cast, seval, EE_P]))
  obtain ⟨hlen, hr⟩ := valid_iff.1 hvs
  rw [hvs] at hval
  obtain ⟨L, hL, hL4, hLg⟩ := ordL_ex
  intro σ nx
  refine fn_of_body goodEE (by rw [EE_P]; exact Tryz.func14) rfl rfl (by kernel_rfl) (Nat.le_of_ble_eq_true rfl) (Nat.le_refl _) fun hwf hlt => ?_
  rw [show Tryz.f14.results.toList = [.cell 2 29, .tmp 3] from rfl]
  refine awp_begin _ _ _ _ _ (cc := _) (by conv => lhs; simp only [push_cast, seval, Tryz.f14]) ?_
  simp only [push_cast, seval, EE_P]
  repeat' (first | simp only [push_cast, seval, EE_P] | simp (disch := omega) only [wrap_fits] | ((first | with_reducible apply wcall_pure | with_reducible apply wdcall_pure); focus (first | assumption | exact validLines_fn (by assumption) | exact refhund_fn ⟨_, _⟩ | exact refsub_fn ⟨_, _⟩ ⟨_, _⟩ | exact refzero_fn)) | (with_reducible refine wguard_split_t (fun h => ?_) (fun h => ?_)) | (with_reducible refine wguard_split_f (fun h => ?_) (fun h => ?_)) | (with_reducible refine wcond_split (fun h => ?_) (fun h => ?_)) | (with_reducible refine wdguard_split_t (fun h => ?_) (fun h => ?_)) | (with_reducible refine wdguard_split_f (fun h => ?_) (fun h => ?_)) | (with_reducible refine And.intro (fun h => ?_) (fun h => ?_)) | (with_reducible apply And.intro; focus omega))
  rw [← hL]
  refine wloop_by (fun m sl σ' nx' => ∃ (t k4 k5 X : Nat) (pv : PV), t ≤ 4 ∧ m = 4 - t ∧ nx < k4 ∧ k4 < X ∧ nx < k5 ∧ k5 < X ∧ k4 ≠ k5 ∧ X ≤ nx' ∧ sl 0 = v ∧ sl 2 = .ptr nx 0 0 ∧ sl 4 = .ptr k4 0 0 ∧ sl 5 = .row k5 0 4 ∧ sl 6 = .int .i64 t ∧
    σ' nx = some (.row [[.nil, .int .i64 0, .int .i64 0, .int .i64 0]]) ∧ σ' k4 = some (.row [[pv, .int .i64 (phase ls m0S t).pts.n, .int .i64 (phase ls m0S t).pts.d, .int .i64 0]]) ∧ σ' k5 = some (.row L) ∧ (phase ls m0S t).wrong = false ∧ Grown σ' X nx' pv ((phase ls m0S t).parts.map Part.cs) ∧ Keeps σ σ') 4
    ⟨0, nx + 7, nx + 9, nx + 10, .nil, by omega, rfl, by omega, by omega, by omega, by omega, by omega, by omega, rfl, rfl, rfl, rfl, rfl, ?_, ?_, ?_, rfl, .nil, (by repeat' (first | exact Keeps.refl _ | assumption | exact (hwf.keep1 _) | refine Keeps.new hwf ?_ (by omega) _))⟩ ?_
  · simp only [upd_at, push_cast, seval]
  · simp only [upd_at, push_cast, seval]
    rfl
  · simp only [upd_at, push_cast, seval]
  rintro m sl σ' nx' ⟨t, k4, k5, X, pv, ht, hm, a4, b4, a5, b5, h45, hX, h0, h2, h4, h5, h6, hsn, hs4, hs5, hwr, hg, hk⟩
  have hnn : nx < nx' := by omega
  have c4 : k4 < nx' := by omega
  have c5 : k5 < nx' := by omega
  have d4 : k4 ≠ nx := by omega
  have d5 : k5 ≠ nx := by omega
  by_cases ht4 : t < 4
  · have ht4' : (t : Int) < 4 := by omega
    have ht0 : (0 : Int) ≤ t := by omega
    have hw : IntKind.i64.wrap ((t : Int) + 1) = (t : Int) + 1 := wrap_small (by omega) (by omega)
    have hLt := hLg t ht4
    repeat' (first | simp only [push_cast, seval, EE_P, h0, h2, h4, h5, h6, ht4', ht0, hw, Int.toNat_natCast] | simp (disch := omega) only [wrap_fits] | ((first | with_reducible apply wcall_pure | with_reducible apply wdcall_pure); focus (first | assumption | exact validLines_fn (by assumption) | exact refhund_fn ⟨_, _⟩ | exact refsub_fn ⟨_, _⟩ ⟨_, _⟩ | exact refzero_fn)) | (with_reducible refine wguard_split_t (fun h => ?_) (fun h => ?_)) | (with_reducible refine wguard_split_f (fun h => ?_) (fun h => ?_)) | (with_reducible refine wcond_split (fun h => ?_) (fun h => ?_)) | (with_reducible refine wdguard_split_t (fun h => ?_) (fun h => ?_)) | (with_reducible refine wdguard_split_f (fun h => ?_) (fun h => ?_)) | (with_reducible refine And.intro (fun h => ?_) (fun h => ?_)) | (with_reducible apply And.intro; focus omega))
    refine wloop_by (fun m2 sl2 σ2 nx2 => ∃ (j : Nat) (pv2 : PV), j ≤ ls.length ∧ m2 = ls.length - j ∧ nx' ≤ nx2 ∧ sl2 0 = v ∧ sl2 2 = .ptr nx 0 0 ∧ sl2 4 = .ptr k4 0 0 ∧ sl2 5 = .row k5 0 4 ∧ sl2 6 = .int .i64 t ∧ sl2 7 = .int .i64 j ∧
      σ2 nx = some (.row [[.nil, .int .i64 0, .int .i64 0, .int .i64 0]]) ∧ σ2 k4 = some (.row [[pv2, .int .i64 (stepsTo (kindAt t) (funAt ls t) ls (phase ls m0S t) j).pts.n, .int .i64 (stepsTo (kindAt t) (funAt ls t) ls (phase ls m0S t) j).pts.d, .int .i64 0]]) ∧ σ2 k5 = some (.row L) ∧
      (stepsTo (kindAt t) (funAt ls t) ls (phase ls m0S t) j).wrong = false ∧ Grown σ2 X nx2 pv2 ((stepsTo (kindAt t) (funAt ls t) ls (phase ls m0S t) j).parts.map Part.cs) ∧ Keeps σ σ2) ls.length
      ⟨0, pv, by omega, rfl, by omega, ?_, ?_, ?_, ?_, ?_, rfl, hsn, hs4, hs5, hwr, ?_, hk⟩ ?_
    · simp only [upd_at, push_cast, seval, h0]
    · simp only [upd_at, push_cast, seval, h2]
    · simp only [upd_at, push_cast, seval, h4]
    · simp only [upd_at, push_cast, seval, h5]
    · simp only [upd_at, push_cast, seval, h6]
    · exact hg.keep (by omega) fun _ _ _ => rfl
    clear h0 h2 h4 h5 h6 hsn hs4 hs5 hg hk
    rintro m2 sl2 σ2 nx2 ⟨j, pv2, hj, hm2, hnx2, h0, h2, h4, h5, h6, h7, hsn, hs4, hs5, hwr2, hg, hk⟩
    have hnn2 : nx < nx2 := by omega
    have c42 : k4 < nx2 := by omega
    have c52 : k5 < nx2 := by omega
    have hj0 : (0 : Int) ≤ j := by omega
    by_cases hjl : j < ls.length
    · have hjl' : (j : Int) < ls.length := by omega
      have hwj : IntKind.i64.wrap ((j : Int) + 1) = (j : Int) + 1 := wrap_small (by omega) (by omega)
      obtain rfl : v = .list (ls.map Line.cs) := hv.lt (i := j) (by simpa using hjl)
      have hx : ls[j]? = some ls[j] := List.getElem?_eq_getElem hjl
      have hget : (ls.map Line.cs)[j]? = some ls[j].cs := by rw [List.getElem?_map, hx]; rfl
      have hst := stepsTo_succ (kind := kindAt t) (f := funAt ls t) (m := phase ls m0S t) hjl
      have hbad : ∀ i, i ≤ ls.length → (stepsTo (kindAt t) (funAt ls t) ls (phase ls m0S t) i).wrong = true → combineS ls = (zeroCredit, 2) := fun i hi hw => combine_wrong_end hvs ht4 hi hw
      have hbad := hbad (j + 1) (by omega)
      have hpk := steps_pok hr t j hj
      have hML : (stepsTo (kindAt t) (funAt ls t) ls (phase ls m0S t) j).parts.length ≤ 1000 := by
        have q1 := stepsTo_len (kind := kindAt t) (funAt_len ls t) ls (phase ls m0S t) j
        have q2 := phase_len ls m0S t
        have q3 : t * ls.length ≤ 3 * 32 := Nat.mul_le_mul (by omega) (by omega)
        have q4 : m0S.parts.length = 0 := rfl
        rw [q4] at q2
        omega
      generalize ls[j] = l at hx hget hst
      generalize stepsTo (kindAt t) (funAt ls t) ls (phase ls m0S t) j = M at hst hpk hs4 hwr2 hg hML
      generalize hM' : stepsTo (kindAt t) (funAt ls t) ls (phase ls m0S t) (j + 1) = M' at hst hbad
      by_cases hc : l.app = true ∧ l.kind = kindAt t
      · obtain ⟨ha, hkd⟩ := hc
        rw [if_pos (by simp [ha, hkd])] at hst
        have hpp : Fok M.pts := by
          rcases hpk with h | ⟨h, _⟩
          · rw [hwr2] at h; cases h
          · exact h
        have hsame := step_same hr hx ha hkd hwr2 hpp
        have hstep := refstep_fn hr (by omega) hx ha M.pts
        generalize stepR ls j l M.pts = r at hsame hstep
        rw [← hst] at hsame
        rcases hsame with ⟨s1, s2, s3⟩ | ⟨s1, s2⟩
        · repeat' (first | simp only [push_cast, seval, EE_P, h0, h2, h4, h5, h6, h7, hvl, hj0, hjl', hwj, hget, hLt, hL4, ht4', ht0, ha, hkd, s1, s2, (key_ne hnn2).1, (key_ne hnn2).2.1, (key_ne hnn2).2.2.1, (key_ne hnn2).2.2.2, (key_ne c42).1, (key_ne c42).2.1, (key_ne c42).2.2.1, (key_ne c42).2.2.2, (key_ne c52).1, (key_ne c52).2.1, (key_ne c52).2.2.1, (key_ne c52).2.2.2, (ne_keys d4).1, (ne_keys d4).2, (ne_keys d5).1, (ne_keys d5).2, (ne_keys h45).1, (ne_keys h45).2, hsn, hs4, hs5, List.length_map, Int.toNat_natCast] | simp (disch := omega) only [wrap_fits] | ((first | with_reducible apply wcall_pure | with_reducible apply wdcall_pure); focus (first | assumption | exact validLines_fn (by assumption) | exact refhund_fn ⟨_, _⟩ | exact refsub_fn ⟨_, _⟩ ⟨_, _⟩ | exact refzero_fn)) | (with_reducible refine wguard_split_t (fun h => ?_) (fun h => ?_)) | (with_reducible refine wguard_split_f (fun h => ?_) (fun h => ?_)) | (with_reducible refine wcond_split (fun h => ?_) (fun h => ?_)) | (with_reducible refine wdguard_split_t (fun h => ?_) (fun h => ?_)) | (with_reducible refine wdguard_split_f (fun h => ?_) (fun h => ?_)) | (with_reducible refine And.intro (fun h => ?_) (fun h => ?_)) | (with_reducible apply And.intro; focus omega))
          refine ⟨ls.length - (j + 1), by omega, j + 1, pv2, by omega, rfl, by omega, by simp, by rw [hM', s3], by rw [hM', s3]; exact hwr2, ?_, (by repeat' (first | exact Keeps.refl _ | assumption | exact (hwf.keep1 _) | refine Keeps.new hwf ?_ (by omega) _))⟩
          rw [hM', s3]
          exact hg.keep (by omega) fun k h1 h2 => by rw [upd_other _ _ (by omega), upd_other _ _ (by omega)]
        · by_cases he : r.err = 0
          · by_cases hs : fsubErr r.pts M.pts = 0
            · have hM2 : M' = { M with parts := M.parts ++ [Part.mk r.name (fsub r.pts M.pts)], pts := r.pts } := by
                rw [s2]
                unfold becomeS
                rw [if_neg]
                rintro (h | h | h)
                · rw [hwr2] at h; cases h
                · exact h he
                · exact h hs
              generalize hec : M.parts.map Part.cs = ec at hg
              cases hg with
              | nil =>
                repeat' (first | simp only [push_cast, seval, EE_P, h0, h2, h4, h5, h6, h7, hvl, hj0, hjl', hwj, hget, hLt, hL4, ht4', ht0, ha, hkd, s1, he, hs, (key_ne hnn2).1, (key_ne hnn2).2.1, (key_ne hnn2).2.2.1, (key_ne hnn2).2.2.2, (key_ne c42).1, (key_ne c42).2.1, (key_ne c42).2.2.1, (key_ne c42).2.2.2, (key_ne c52).1, (key_ne c52).2.1, (key_ne c52).2.2.1, (key_ne c52).2.2.2, (ne_keys d4).1, (ne_keys d4).2, (ne_keys d5).1, (ne_keys d5).2, (ne_keys h45).1, (ne_keys h45).2, hsn, hs4, hs5, List.length_map, Int.toNat_natCast] | simp (disch := omega) only [wrap_fits] | ((first | with_reducible apply wcall_pure | with_reducible apply wdcall_pure); focus (first | assumption | exact validLines_fn (by assumption) | exact refhund_fn ⟨_, _⟩ | exact refsub_fn ⟨_, _⟩ ⟨_, _⟩ | exact refzero_fn)) | (with_reducible refine wguard_split_t (fun h => ?_) (fun h => ?_)) | (with_reducible refine wguard_split_f (fun h => ?_) (fun h => ?_)) | (with_reducible refine wcond_split (fun h => ?_) (fun h => ?_)) | (with_reducible refine wdguard_split_t (fun h => ?_) (fun h => ?_)) | (with_reducible refine wdguard_split_f (fun h => ?_) (fun h => ?_)) | (with_reducible refine And.intro (fun h => ?_) (fun h => ?_)) | (with_reducible apply And.intro; focus omega))
                refine ⟨by simp only [roomFor, push_cast, seval]; try decide, ls.length - (j + 1), by omega, j + 1, .row (nx2 + 59) 0 (1), by omega, rfl, by omega, by simp, by rw [hM', hM2], by rw [hM', hM2]; exact hwr2, ?_, (by repeat' (first | exact Keeps.refl _ | assumption | exact (hwf.keep1 _) | refine Keeps.new hwf ?_ (by omega) _))⟩
                rw [hM', hM2]
                show Grown _ _ _ _ ((M.parts ++ [_]).map Part.cs)
                rw [List.map_append, hec]
                exact .mk (by omega) (by omega) (by simp only [upd_at, push_cast, seval, Part.cs, (key_ne c42).1, (key_ne c42).2.1, (key_ne c42).2.2.1, (key_ne c42).2.2.2]; try rfl) (by simp) (by omega)
              | row kp _ g1 g2 g3 g4 =>
                have gl : ec.length = M.parts.length := by rw [← hec, List.length_map]
                have gl0 : ¬ ec.length = 0 := fun e => g4 (List.length_eq_zero_iff.1 e)
                have gd4 : k4 ≠ kp := by omega
                have gd5 : k5 ≠ kp := by omega
                have gdn : nx ≠ kp := by omega
                repeat' (first | simp only [push_cast, seval, EE_P, h0, h2, h4, h5, h6, h7, hvl, hj0, hjl', hwj, hget, hLt, hL4, ht4', ht0, ha, hkd, s1, he, hs, (key_ne hnn2).1, (key_ne hnn2).2.1, (key_ne hnn2).2.2.1, (key_ne hnn2).2.2.2, (key_ne c42).1, (key_ne c42).2.1, (key_ne c42).2.2.1, (key_ne c42).2.2.2, (key_ne c52).1, (key_ne c52).2.1, (key_ne c52).2.2.1, (key_ne c52).2.2.2, (ne_keys d4).1, (ne_keys d4).2, (ne_keys d5).1, (ne_keys d5).2, (ne_keys h45).1, (ne_keys h45).2, hsn, hs4, hs5, List.length_map, Int.toNat_natCast, (key_ne g2).1, (key_ne g2).2.1, (key_ne g2).2.2.1, (key_ne g2).2.2.2, g3, gl0, (ne_keys gd4).1, (ne_keys gd4).2, (ne_keys gd5).1, (ne_keys gd5).2, (ne_keys gdn).1, (ne_keys gdn).2] | simp (disch := omega) only [wrap_fits] | ((first | with_reducible apply wcall_pure | with_reducible apply wdcall_pure); focus (first | assumption | exact validLines_fn (by assumption) | exact refhund_fn ⟨_, _⟩ | exact refsub_fn ⟨_, _⟩ ⟨_, _⟩ | exact refzero_fn)) | (with_reducible refine wguard_split_t (fun h => ?_) (fun h => ?_)) | (with_reducible refine wguard_split_f (fun h => ?_) (fun h => ?_)) | (with_reducible refine wcond_split (fun h => ?_) (fun h => ?_)) | (with_reducible refine wdguard_split_t (fun h => ?_) (fun h => ?_)) | (with_reducible refine wdguard_split_f (fun h => ?_) (fun h => ?_)) | (with_reducible refine And.intro (fun h => ?_) (fun h => ?_)) | (with_reducible apply And.intro; focus omega))
                refine ⟨⟨.inl trivial, by simp only [roomFor, push_cast, seval]; omega, fun c hc => by rw [← hec] at hc; exact (parts3' _ c hc).1⟩, ls.length - (j + 1), by omega, j + 1, .row (nx2 + 59) 0 (ec.length + 1), by omega, rfl, by omega, by simp, by rw [hM', hM2], by rw [hM', hM2]; exact hwr2, ?_, (by repeat' (first | exact Keeps.refl _ | assumption | exact (hwf.keep1 _) | refine Keeps.new hwf ?_ (by omega) _))⟩
                rw [hM', hM2]
                show Grown _ _ _ _ ((M.parts ++ [_]).map Part.cs)
                rw [List.map_append, hec]
                exact .mk (by omega) (by omega) (by simp only [upd_at, push_cast, seval, Part.cs, (key_ne c42).1, (key_ne c42).2.1, (key_ne c42).2.2.1, (key_ne c42).2.2.2]; try rfl) (by simp) (by omega)
            · rw [hbad (by rw [s2]; unfold becomeS; rw [if_pos (.inr (.inr hs))]), zero_val]
              repeat' (first | simp only [push_cast, seval, EE_P, h0, h2, h4, h5, h6, h7, hvl, hj0, hjl', hwj, hget, hLt, hL4, ht4', ht0, ha, hkd, s1, he, hs, (key_ne hnn2).1, (key_ne hnn2).2.1, (key_ne hnn2).2.2.1, (key_ne hnn2).2.2.2, (key_ne c42).1, (key_ne c42).2.1, (key_ne c42).2.2.1, (key_ne c42).2.2.2, (key_ne c52).1, (key_ne c52).2.1, (key_ne c52).2.2.1, (key_ne c52).2.2.2, (ne_keys d4).1, (ne_keys d4).2, (ne_keys d5).1, (ne_keys d5).2, (ne_keys h45).1, (ne_keys h45).2, hsn, hs4, hs5, List.length_map, Int.toNat_natCast] | simp (disch := omega) only [wrap_fits] | ((first | with_reducible apply wcall_pure | with_reducible apply wdcall_pure); focus (first | assumption | exact validLines_fn (by assumption) | exact refhund_fn ⟨_, _⟩ | exact refsub_fn ⟨_, _⟩ ⟨_, _⟩ | exact refzero_fn)) | (with_reducible refine wguard_split_t (fun h => ?_) (fun h => ?_)) | (with_reducible refine wguard_split_f (fun h => ?_) (fun h => ?_)) | (with_reducible refine wcond_split (fun h => ?_) (fun h => ?_)) | (with_reducible refine wdguard_split_t (fun h => ?_) (fun h => ?_)) | (with_reducible refine wdguard_split_f (fun h => ?_) (fun h => ?_)) | (with_reducible refine And.intro (fun h => ?_) (fun h => ?_)) | (with_reducible apply And.intro; focus omega))
              ((refine ends_ret (by simp only [resultsOf, resOf, push_cast, seval, EE_P, h2]; rfl) (by simp only [push_cast, seval, EE_P, h2]) ?_ (by repeat' (first | exact Keeps.refl _ | assumption | exact (hwf.keep1 _) | refine Keeps.new hwf ?_ (by omega) _)) (by simp only [lt_int, lt_bool, lt_str, lt_nil, lt_empty, lt_agg, lt_tup, lt_list, lt_cells, lt_fn, lt_nilp, lt_nilfn, lt_nili, List.mem_cons, List.not_mem_nil, or_false, forall_eq_or_imp, forall_eq, and_true, true_and, and_self, implies_true, *]; try omega)); (try simp only [tupOf, push_cast, seval, EE_P, h2]))
          · rw [hbad (by rw [s2]; unfold becomeS; rw [if_pos (.inr (.inl he))]), zero_val]
            repeat' (first | simp only [push_cast, seval, EE_P, h0, h2, h4, h5, h6, h7, hvl, hj0, hjl', hwj, hget, hLt, hL4, ht4', ht0, ha, hkd, s1, he, (key_ne hnn2).1, (key_ne hnn2).2.1, (key_ne hnn2).2.2.1, (key_ne hnn2).2.2.2, (key_ne c42).1, (key_ne c42).2.1, (key_ne c42).2.2.1, (key_ne c42).2.2.2, (key_ne c52).1, (key_ne c52).2.1, (key_ne c52).2.2.1, (key_ne c52).2.2.2, (ne_keys d4).1, (ne_keys d4).2, (ne_keys d5).1, (ne_keys d5).2, (ne_keys h45).1, (ne_keys h45).2, hsn, hs4, hs5, List.length_map, Int.toNat_natCast] | simp (disch := omega) only [wrap_fits] | ((first | with_reducible apply wcall_pure | with_reducible apply wdcall_pure); focus (first | assumption | exact validLines_fn (by assumption) | exact refhund_fn ⟨_, _⟩ | exact refsub_fn ⟨_, _⟩ ⟨_, _⟩ | exact refzero_fn)) | (with_reducible refine wguard_split_t (fun h => ?_) (fun h => ?_)) | (with_reducible refine wguard_split_f (fun h => ?_) (fun h => ?_)) | (with_reducible refine wcond_split (fun h => ?_) (fun h => ?_)) | (with_reducible refine wdguard_split_t (fun h => ?_) (fun h => ?_)) | (with_reducible refine wdguard_split_f (fun h => ?_) (fun h => ?_)) | (with_reducible refine And.intro (fun h => ?_) (fun h => ?_)) | (with_reducible apply And.intro; focus omega))
            ((refine ends_ret (by simp only [resultsOf, resOf, push_cast, seval, EE_P, h2]; rfl) (by simp only [push_cast, seval, EE_P, h2]) ?_ (by repeat' (first | exact Keeps.refl _ | assumption | exact (hwf.keep1 _) | refine Keeps.new hwf ?_ (by omega) _)) (by simp only [lt_int, lt_bool, lt_str, lt_nil, lt_empty, lt_agg, lt_tup, lt_list, lt_cells, lt_fn, lt_nilp, lt_nilfn, lt_nili, List.mem_cons, List.not_mem_nil, or_false, forall_eq_or_imp, forall_eq, and_true, true_and, and_self, implies_true, *]; try omega)); (try simp only [tupOf, push_cast, seval, EE_P, h2]))
      · rw [if_neg (by simpa using hc)] at hst
        repeat' (first | simp only [push_cast, seval, EE_P, h0, h2, h4, h5, h6, h7, hvl, hj0, hjl', hwj, hget, hLt, hL4, ht4', ht0, (key_ne hnn2).1, (key_ne hnn2).2.1, (key_ne hnn2).2.2.1, (key_ne hnn2).2.2.2, (key_ne c42).1, (key_ne c42).2.1, (key_ne c42).2.2.1, (key_ne c42).2.2.2, (key_ne c52).1, (key_ne c52).2.1, (key_ne c52).2.2.1, (key_ne c52).2.2.2, (ne_keys d4).1, (ne_keys d4).2, (ne_keys d5).1, (ne_keys d5).2, (ne_keys h45).1, (ne_keys h45).2, hsn, hs4, hs5, List.length_map, Int.toNat_natCast] | simp (disch := omega) only [wrap_fits] | ((first | with_reducible apply wcall_pure | with_reducible apply wdcall_pure); focus (first | assumption | exact validLines_fn (by assumption) | exact refhund_fn ⟨_, _⟩ | exact refsub_fn ⟨_, _⟩ ⟨_, _⟩ | exact refzero_fn)) | (with_reducible refine wguard_split_t (fun h => ?_) (fun h => ?_)) | (with_reducible refine wguard_split_f (fun h => ?_) (fun h => ?_)) | (with_reducible refine wcond_split (fun h => ?_) (fun h => ?_)) | (with_reducible refine wdguard_split_t (fun h => ?_) (fun h => ?_)) | (with_reducible refine wdguard_split_f (fun h => ?_) (fun h => ?_)) | (with_reducible refine And.intro (fun h => ?_) (fun h => ?_)) | (with_reducible apply And.intro; focus omega))
        all_goals (try (exfalso; simp_all; done))
        all_goals
          refine ⟨ls.length - (j + 1), by omega, j + 1, pv2, by omega, rfl, by omega, by simp, by rw [hM', hst], by rw [hM', hst]; exact hwr2, ?_, (by repeat' (first | exact Keeps.refl _ | assumption | exact (hwf.keep1 _) | refine Keeps.new hwf ?_ (by omega) _))⟩
          rw [hM', hst]
          exact hg.keep (by omega) fun _ _ _ => rfl
    · have hjl' : ¬ (j : Int) < ls.length := by omega
      obtain rfl : j = ls.length := by omega
      repeat' (first | simp only [push_cast, seval, EE_P, h0, h2, h4, h5, h6, h7, hvl, hv.str, hjl', hw] | simp (disch := omega) only [wrap_fits] | ((first | with_reducible apply wcall_pure | with_reducible apply wdcall_pure); focus (first | assumption | exact validLines_fn (by assumption) | exact refhund_fn ⟨_, _⟩ | exact refsub_fn ⟨_, _⟩ ⟨_, _⟩ | exact refzero_fn)) | (with_reducible refine wguard_split_t (fun h => ?_) (fun h => ?_)) | (with_reducible refine wguard_split_f (fun h => ?_) (fun h => ?_)) | (with_reducible refine wcond_split (fun h => ?_) (fun h => ?_)) | (with_reducible refine wdguard_split_t (fun h => ?_) (fun h => ?_)) | (with_reducible refine wdguard_split_f (fun h => ?_) (fun h => ?_)) | (with_reducible refine And.intro (fun h => ?_) (fun h => ?_)) | (with_reducible apply And.intro; focus omega))
      exact ⟨4 - (t + 1), by omega, t + 1, k4, k5, X, pv2, by omega, rfl, a4, b4, a5, b5, h45, by omega, rfl, rfl, by simp, hsn, hs4, hs5, hwr2, hg.keep (by omega) fun _ _ _ => rfl, hk⟩
  · have ht4' : ¬ (t : Int) < 4 := by omega
    obtain rfl : t = 4 := by omega
    have hpk := phase_pok hr 4
    have hce := combine_valid hvs
    generalize phase ls m0S 4 = P at hs4 hwr hg hpk hce
    have hpp : Fok P.pts := by
      rcases hpk with h | ⟨h, _⟩
      · rw [hwr] at h; cases h
      · exact h
    have hh := refhund_fn P.pts
    by_cases hb : hundS P.pts > 100000000
    · rw [hce, show finishS P = (zeroCredit, 2) from if_pos (.inr (.inr hb)), zero_val]
      repeat' (first | simp only [push_cast, seval, EE_P, h0, h2, h4, h5, h6, ht4', (key_ne hnn).1, (key_ne hnn).2.1, (key_ne hnn).2.2.1, (key_ne hnn).2.2.2, (key_ne c4).1, (key_ne c4).2.1, (key_ne c4).2.2.1, (key_ne c4).2.2.2, (key_ne c5).1, (key_ne c5).2.1, (key_ne c5).2.2.1, (key_ne c5).2.2.2, (ne_keys d4).1, (ne_keys d4).2, (ne_keys d5).1, (ne_keys d5).2, (ne_keys h45).1, (ne_keys h45).2, hsn, hs4, hs5, hb, decide_true] | simp (disch := omega) only [wrap_fits] | ((first | with_reducible apply wcall_pure | with_reducible apply wdcall_pure); focus (first | assumption | exact validLines_fn (by assumption) | exact refhund_fn ⟨_, _⟩ | exact refsub_fn ⟨_, _⟩ ⟨_, _⟩ | exact refzero_fn)) | (with_reducible refine wguard_split_t (fun h => ?_) (fun h => ?_)) | (with_reducible refine wguard_split_f (fun h => ?_) (fun h => ?_)) | (with_reducible refine wcond_split (fun h => ?_) (fun h => ?_)) | (with_reducible refine wdguard_split_t (fun h => ?_) (fun h => ?_)) | (with_reducible refine wdguard_split_f (fun h => ?_) (fun h => ?_)) | (with_reducible refine And.intro (fun h => ?_) (fun h => ?_)) | (with_reducible apply And.intro; focus omega))
      ((refine ends_ret (by simp only [resultsOf, resOf, push_cast, seval, EE_P, h2]; rfl) (by simp only [push_cast, seval, EE_P, h2]) ?_ (by repeat' (first | exact Keeps.refl _ | assumption | exact (hwf.keep1 _) | refine Keeps.new hwf ?_ (by omega) _)) (by simp only [lt_int, lt_bool, lt_str, lt_nil, lt_empty, lt_agg, lt_tup, lt_list, lt_cells, lt_fn, lt_nilp, lt_nilfn, lt_nili, List.mem_cons, List.not_mem_nil, or_false, forall_eq_or_imp, forall_eq, and_true, true_and, and_self, implies_true, *]; try omega)); (try simp only [tupOf, push_cast, seval, EE_P, h2]))
    · rw [hce, finish_of hwr hpp (by omega)]
      simp only [Credit.val, Credit.pv]
      generalize hec : P.parts.map Part.cs = ec at hg
      cases hg with
      | nil =>
        have hp : P.parts = [] := by simpa using hec
        rw [show partsV P.parts = .nil from if_pos hp]
        repeat' (first | simp only [push_cast, seval, EE_P, h0, h2, h4, h5, h6, ht4', (key_ne hnn).1, (key_ne hnn).2.1, (key_ne hnn).2.2.1, (key_ne hnn).2.2.2, (key_ne c4).1, (key_ne c4).2.1, (key_ne c4).2.2.1, (key_ne c4).2.2.2, (key_ne c5).1, (key_ne c5).2.1, (key_ne c5).2.2.1, (key_ne c5).2.2.2, (ne_keys d4).1, (ne_keys d4).2, (ne_keys d5).1, (ne_keys d5).2, (ne_keys h45).1, (ne_keys h45).2, hsn, hs4, hs5, hb, decide_false] | simp (disch := omega) only [wrap_fits] | ((first | with_reducible apply wcall_pure | with_reducible apply wdcall_pure); focus (first | assumption | exact validLines_fn (by assumption) | exact refhund_fn ⟨_, _⟩ | exact refsub_fn ⟨_, _⟩ ⟨_, _⟩ | exact refzero_fn)) | (with_reducible refine wguard_split_t (fun h => ?_) (fun h => ?_)) | (with_reducible refine wguard_split_f (fun h => ?_) (fun h => ?_)) | (with_reducible refine wcond_split (fun h => ?_) (fun h => ?_)) | (with_reducible refine wdguard_split_t (fun h => ?_) (fun h => ?_)) | (with_reducible refine wdguard_split_f (fun h => ?_) (fun h => ?_)) | (with_reducible refine And.intro (fun h => ?_) (fun h => ?_)) | (with_reducible apply And.intro; focus omega))
        ((refine ends_ret (by simp only [resultsOf, resOf, push_cast, seval, EE_P, h2]; rfl) (by simp only [push_cast, seval, EE_P, h2]) ?_ (by repeat' (first | exact Keeps.refl _ | assumption | exact (hwf.keep1 _) | refine Keeps.new hwf ?_ (by omega) _)) (by simp only [lt_int, lt_bool, lt_str, lt_nil, lt_empty, lt_agg, lt_tup, lt_list, lt_cells, lt_fn, lt_nilp, lt_nilfn, lt_nili, List.mem_cons, List.not_mem_nil, or_false, forall_eq_or_imp, forall_eq, and_true, true_and, and_self, implies_true, *]; try omega)); (try simp only [tupOf, push_cast, seval, EE_P, h2]))
      | row kp _ g1 g2 g3 g4 =>
        have hp : ¬ P.parts = [] := fun e => g4 (by rw [← hec, e]; rfl)
        have gd4 : k4 ≠ kp := by omega
        have gdn : nx ≠ kp := by omega
        rw [show partsV P.parts = .list ec from by rw [partsV, if_neg hp, hec]]
        repeat' (first | simp only [push_cast, seval, EE_P, h0, h2, h4, h5, h6, ht4', (key_ne hnn).1, (key_ne hnn).2.1, (key_ne hnn).2.2.1, (key_ne hnn).2.2.2, (key_ne c4).1, (key_ne c4).2.1, (key_ne c4).2.2.1, (key_ne c4).2.2.2, (key_ne c5).1, (key_ne c5).2.1, (key_ne c5).2.2.1, (key_ne c5).2.2.2, (ne_keys d4).1, (ne_keys d4).2, (ne_keys d5).1, (ne_keys d5).2, (ne_keys h45).1, (ne_keys h45).2, hsn, hs4, hs5, hb, decide_false, (key_ne g2).1, (key_ne g2).2.1, (key_ne g2).2.2.1, (key_ne g2).2.2.2, (ne_keys gd4).1, (ne_keys gd4).2, (ne_keys gdn).1, (ne_keys gdn).2, g3] | simp (disch := omega) only [wrap_fits] | ((first | with_reducible apply wcall_pure | with_reducible apply wdcall_pure); focus (first | assumption | exact validLines_fn (by assumption) | exact refhund_fn ⟨_, _⟩ | exact refsub_fn ⟨_, _⟩ ⟨_, _⟩ | exact refzero_fn)) | (with_reducible refine wguard_split_t (fun h => ?_) (fun h => ?_)) | (with_reducible refine wguard_split_f (fun h => ?_) (fun h => ?_)) | (with_reducible refine wcond_split (fun h => ?_) (fun h => ?_)) | (with_reducible refine wdguard_split_t (fun h => ?_) (fun h => ?_)) | (with_reducible refine wdguard_split_f (fun h => ?_) (fun h => ?_)) | (with_reducible refine And.intro (fun h => ?_) (fun h => ?_)) | (with_reducible apply And.intro; focus omega))
        have hlc := credit_lt nx ⟨P.parts, P.pts, hundS P.pts⟩
        have hlv : (Credit.mk P.parts P.pts (hundS P.pts)).val = .agg [.list ec, .int .i64 P.pts.n, .int .i64 P.pts.d, .int .i64 (hundS P.pts)] := by
          show PV.agg [partsV P.parts, _, _, _] = _
          rw [partsV, if_neg hp, hec]
        rw [hlv] at hlc
        refine ends_fz (by simp only [resultsOf, resOf, push_cast, seval, EE_P, h2]; rfl) (by simp only [push_cast, seval, EE_P, h2]) ?_ (by repeat' (first | exact Keeps.refl _ | assumption | exact (hwf.keep1 _) | refine Keeps.new hwf ?_ (by omega) _)) (.tup _ fun c hc => ?_)
        · show Fz _ _ (.tup [.agg [.row kp 0 ec.length, _, _, _], _]) (.tup [.agg [.list ec, _, _, _], _])
          refine fz_tup (And.intro (fz_agg (And.intro (fz_row ?_ ?_ rfl) ⟨.refl _, .refl _, .refl _, trivial⟩)) ⟨.refl _, trivial⟩)
          · simp only [upd_at, push_cast, seval, (ne_keys gd4).1, (ne_keys gd4).2, (ne_keys gdn).1, (ne_keys gdn).2, g3]
          · exact hwf.none (by omega)
        · simp only [List.mem_cons, List.not_mem_nil, or_false] at hc
          rcases hc with rfl | rfl
          · exact hlc
          · exact .int _ _
end Go.Proofs.YtdajoilaakiinaaGreatDoor.Awp

/- Same; CreditCombines. -/
namespace Go.Proofs.YtdajoilaakiinaaGreatDoor.Awp
open Go Go.Proofs
set_option linter.unusedSimpArgs false
set_option linter.unusedVariables false
set_option maxRecDepth 10000
set_option maxHeartbeats 4000000

/-- Same finds a credit the same as itself. -/
theorem same_fn (c : Credit) (hl : c.parts.length ≤ 1000000) : Pure EE 15 [c.val, c.val] (.bool true) := by
  have hv := partsV_slice c.parts
  have hvl := hv.len
  simp only [List.length_map] at hvl
  have hone := hv.one
  have hcel := hv.cells
  have hstr := hv.str
  have hval : c.val = c.pv (partsV c.parts) := rfl
  rw [hval]
  generalize partsV c.parts = v at *
  intro σ nx
  refine fn_of_body goodEE (by rw [EE_P]; exact Tryz.func15) rfl rfl (by kernel_rfl) (Nat.le_of_ble_eq_true rfl) (Nat.le_refl _) fun hwf hlt => ?_
  rw [show Tryz.f15.results.toList = [.tmp 4] from rfl]
  refine awp_begin _ _ _ _ _ (cc := _) (by conv => lhs; simp only [push_cast, seval, Tryz.f15]) ?_
  simp only [push_cast, seval, EE_P]
  repeat' (first | simp only [push_cast, seval, EE_P, hvl, hone, hcel, hstr] | simp (disch := omega) only [wrap_fits] | ((first | with_reducible apply wcall_pure | with_reducible apply wdcall_pure); focus (first | assumption | fail)) | (with_reducible refine wguard_split_t (fun h => ?_) (fun h => ?_)) | (with_reducible refine wguard_split_f (fun h => ?_) (fun h => ?_)) | (with_reducible refine wcond_split (fun h => ?_) (fun h => ?_)) | (with_reducible refine wdguard_split_t (fun h => ?_) (fun h => ?_)) | (with_reducible refine wdguard_split_f (fun h => ?_) (fun h => ?_)) | (with_reducible refine And.intro (fun h => ?_) (fun h => ?_)) | (with_reducible apply And.intro; focus omega))
  refine wloop_by (fun m sl σ' nx' => ∃ i : Nat, i ≤ c.parts.length ∧ m = c.parts.length - i ∧ nx + 1 < nx' ∧ sl 2 = .ptr nx 0 0 ∧ sl 3 = .ptr (nx + 1) 0 0 ∧ sl 5 = .int .i64 i ∧ σ' nx = some (.row [[v, .int .i64 c.pts.n, .int .i64 c.pts.d, .int .i64 c.hund]]) ∧ σ' (nx + 1) = some (.row [[v, .int .i64 c.pts.n, .int .i64 c.pts.d, .int .i64 c.hund]]) ∧ Keeps σ σ') c.parts.length
    ⟨0, by omega, rfl, by omega, rfl, rfl, rfl, ?_, ?_, (by repeat' (first | exact Keeps.refl _ | assumption | exact (hwf.keep1 _) | refine Keeps.new hwf ?_ (by omega) _))⟩ ?_
  · simp only [upd_at, push_cast, seval]
  · simp only [upd_at, push_cast, seval]
  rintro m sl σ' nx' ⟨i, hi, hm, hnx, h2, h3, h5, hs1, hs2, hk⟩
  have hn1 : nx < nx' := by omega
  have hi0 : (0 : Int) ≤ i := by omega
  by_cases hil : i < c.parts.length
  · have hil' : (i : Int) < c.parts.length := by omega
    have hw : IntKind.i64.wrap ((i : Int) + 1) = (i : Int) + 1 := wrap_small (by omega) (by omega)
    have hget : (c.parts.map Part.cs)[i]? = some c.parts[i].cs := by rw [List.getElem?_map, List.getElem?_eq_getElem hil]; rfl
    obtain rfl := hv.lt (i := i) (by simpa using hil)
    generalize c.parts[i] = x at hget
    repeat' (first | simp only [push_cast, seval, EE_P, h2, h3, h5, hvl, hi0, hil', hget, hw, (key_ne hn1).1, (key_ne hn1).2.1, (key_ne hn1).2.2.1, (key_ne hn1).2.2.2, (key_ne hnx).1, (key_ne hnx).2.1, (key_ne hnx).2.2.1, (key_ne hnx).2.2.2, hs1, hs2, List.length_map, Int.toNat_natCast] | simp (disch := omega) only [wrap_fits] | ((first | with_reducible apply wcall_pure | with_reducible apply wdcall_pure); focus (first | assumption | fail)) | (with_reducible refine wguard_split_t (fun h => ?_) (fun h => ?_)) | (with_reducible refine wguard_split_f (fun h => ?_) (fun h => ?_)) | (with_reducible refine wcond_split (fun h => ?_) (fun h => ?_)) | (with_reducible refine wdguard_split_t (fun h => ?_) (fun h => ?_)) | (with_reducible refine wdguard_split_f (fun h => ?_) (fun h => ?_)) | (with_reducible refine And.intro (fun h => ?_) (fun h => ?_)) | (with_reducible apply And.intro; focus omega))
    exact ⟨c.parts.length - (i + 1), by omega, i + 1, by omega, rfl, by omega, by simp, hk⟩
  · have hil' : ¬ (i : Int) < c.parts.length := by omega
    repeat' (first | simp only [push_cast, seval, EE_P, h2, h3, h5, hvl, hstr, hil', (key_ne hn1).1, (key_ne hn1).2.1, (key_ne hn1).2.2.1, (key_ne hn1).2.2.2, (key_ne hnx).1, (key_ne hnx).2.1, (key_ne hnx).2.2.1, (key_ne hnx).2.2.2, hs1, hs2] | simp (disch := omega) only [wrap_fits] | ((first | with_reducible apply wcall_pure | with_reducible apply wdcall_pure); focus (first | assumption | fail)) | (with_reducible refine wguard_split_t (fun h => ?_) (fun h => ?_)) | (with_reducible refine wguard_split_f (fun h => ?_) (fun h => ?_)) | (with_reducible refine wcond_split (fun h => ?_) (fun h => ?_)) | (with_reducible refine wdguard_split_t (fun h => ?_) (fun h => ?_)) | (with_reducible refine wdguard_split_f (fun h => ?_) (fun h => ?_)) | (with_reducible refine And.intro (fun h => ?_) (fun h => ?_)) | (with_reducible apply And.intro; focus omega))
    ((refine ends_ret (by simp only [resultsOf, resOf, push_cast, seval, EE_P]; rfl) (by simp only [push_cast, seval, EE_P]) ?_ (by repeat' (first | exact Keeps.refl _ | assumption | exact (hwf.keep1 _) | refine Keeps.new hwf ?_ (by omega) _)) (by simp only [lt_int, lt_bool, lt_str, lt_nil, lt_empty, lt_agg, lt_tup, lt_list, lt_cells, lt_fn, lt_nilp, lt_nilfn, lt_nili, List.mem_cons, List.not_mem_nil, or_false, forall_eq_or_imp, forall_eq, and_true, true_and, and_self, implies_true, *]; try omega)); (try simp only [tupOf, push_cast, seval, EE_P]))
theorem combines_fn {ls : List Line} {v : PV} (hv : SliceP (ls.map Line.cs) v) (hl : ls.length ≤ maxLen) : Pure EE 4 [v] (.bool true) := by
  have hl' : ls.length ≤ 9223372036854775807 := hl
  have hfew := few_fn hv hl'
  have hcom := combine_fn hv
  have href := refcombine_fn hv
  cases hfs : fewS ls
  · rw [hfs] at hfew
    intro σ nx
    refine fn_of_body goodEE (by rw [EE_P]; exact Tryz.func4) rfl rfl (by kernel_rfl) (Nat.le_of_ble_eq_true rfl) (Nat.le_refl _) fun hwf hlt => ?_
    rw [show Tryz.f4.results.toList = [.tmp 2] from rfl]
    refine awp_begin _ _ _ _ _ (cc := _) (by conv => lhs; simp only [push_cast, seval, Tryz.f4]) ?_
    simp only [push_cast, seval, EE_P]
    repeat' (first | simp only [push_cast, seval, EE_P] | simp (disch := omega) only [wrap_fits] | ((first | with_reducible apply wcall_pure | with_reducible apply wdcall_pure); focus (first | assumption | exact awake_fn | exact few_fn (by assumption) (by omega))) | (with_reducible refine wguard_split_t (fun h => ?_) (fun h => ?_)) | (with_reducible refine wguard_split_f (fun h => ?_) (fun h => ?_)) | (with_reducible refine wcond_split (fun h => ?_) (fun h => ?_)) | (with_reducible refine wdguard_split_t (fun h => ?_) (fun h => ?_)) | (with_reducible refine wdguard_split_f (fun h => ?_) (fun h => ?_)) | (with_reducible refine And.intro (fun h => ?_) (fun h => ?_)) | (with_reducible apply And.intro; focus omega))
    ((refine ends_ret (by simp only [resultsOf, resOf, push_cast, seval, EE_P]; rfl) (by simp only [push_cast, seval, EE_P]) ?_ (by repeat' (first | exact Keeps.refl _ | assumption | exact (hwf.keep1 _) | refine Keeps.new hwf ?_ (by omega) _)) (by simp only [lt_int, lt_bool, lt_str, lt_nil, lt_empty, lt_agg, lt_tup, lt_list, lt_cells, lt_fn, lt_nilp, lt_nilfn, lt_nili, List.mem_cons, List.not_mem_nil, or_false, forall_eq_or_imp, forall_eq, and_true, true_and, and_self, implies_true, *]; try omega)); (try simp only [tupOf, push_cast, seval, EE_P]))
  rw [hfs] at hfew
  have hlen := fewS_len hfs
  have hf1 := failed_fn hv (by omega)
  have hf2 := reffailed_fn hv (by omega)
  have hst := strings_fn (failedV_slice ls) (strsP_slice (failS ls)) (by have := failS_len ls; omega)
  rw [decide_eq_true rfl] at hst
  have hpl : (combineS ls).1.parts.length ≤ 1000000 := by
    by_cases he : (combineS ls).2 = 0
    · have := (combine_credit he).2; omega
    · rw [combine_err he]; exact Nat.zero_le _
  have hsame := same_fn _ hpl
  generalize combineS ls = c at *
  obtain ⟨⟨parts, pts, hund⟩, e⟩ := c
  have o1 := (partsV_slice parts).one
  have ce1 := (partsV_slice parts).cells
  simp only [Credit.val, Credit.pv] at hcom href hsame
  intro σ nx
  refine fn_of_body goodEE (by rw [EE_P]; exact Tryz.func4) rfl rfl (by kernel_rfl) (Nat.le_of_ble_eq_true rfl) (Nat.le_refl _) fun hwf hlt => ?_
  rw [show Tryz.f4.results.toList = [.tmp 2] from rfl]
  refine awp_begin _ _ _ _ _ (cc := _) (by conv => lhs; simp only [push_cast, seval, Tryz.f4]) ?_
  simp only [push_cast, seval, EE_P]
  repeat' (first | simp only [push_cast, seval, EE_P, o1, ce1] | simp (disch := omega) only [wrap_fits] | ((first | with_reducible apply wcall_pure | with_reducible apply wdcall_pure); focus (first | assumption | exact awake_fn | exact few_fn (by assumption) (by omega))) | (with_reducible refine wguard_split_t (fun h => ?_) (fun h => ?_)) | (with_reducible refine wguard_split_f (fun h => ?_) (fun h => ?_)) | (with_reducible refine wcond_split (fun h => ?_) (fun h => ?_)) | (with_reducible refine wdguard_split_t (fun h => ?_) (fun h => ?_)) | (with_reducible refine wdguard_split_f (fun h => ?_) (fun h => ?_)) | (with_reducible refine And.intro (fun h => ?_) (fun h => ?_)) | (with_reducible apply And.intro; focus omega))
  ((refine ends_ret (by simp only [resultsOf, resOf, push_cast, seval, EE_P]; rfl) (by simp only [push_cast, seval, EE_P]) ?_ (by repeat' (first | exact Keeps.refl _ | assumption | exact (hwf.keep1 _) | refine Keeps.new hwf ?_ (by omega) _)) (by simp only [lt_int, lt_bool, lt_str, lt_nil, lt_empty, lt_agg, lt_tup, lt_list, lt_cells, lt_fn, lt_nilp, lt_nilfn, lt_nili, List.mem_cons, List.not_mem_nil, or_false, forall_eq_or_imp, forall_eq, and_true, true_and, and_self, implies_true, *]; try omega)); (try simp only [tupOf, push_cast, seval, EE_P]))
theorem combines_proved : ∀ pvs, Args EE.P Tryz.f4.params.toList pvs → Pure EE 4 pvs (.bool true) := by
  intro pvs h
  obtain ⟨ls, v, rest, rfl, hv, hl, h⟩ := args_lines h
  match rest, h with
  | [], _ => exact combines_fn hv hl
end Go.Proofs.YtdajoilaakiinaaGreatDoor.Awp

/- The reference's products and sums, Valid, Scale. -/
namespace Go.Proofs.YtdajoilaakiinaaGreatDoor.Awp
open Go Go.Proofs
set_option linter.unusedSimpArgs false
set_option linter.unusedVariables false
set_option maxRecDepth 10000
set_option maxHeartbeats 4000000

theorem mul_bound {a b : Int} (h1 : -1000000000 ≤ a) (h2 : a ≤ 1000000000) (h3 : -1000000000 ≤ b) (h4 : b ≤ 1000000000) : -1000000000000000000 ≤ a * b ∧ a * b ≤ 1000000000000000000 := by
  have h : (a * b).natAbs ≤ 1000000000 * 1000000000 := by
    rw [Int.natAbs_mul]
    exact Nat.mul_le_mul (by omega) (by omega)
  omega
theorem refmul_fn (f g : Frac) : Pure EE 49 [f.pv, g.pv] (.tup [(fmulS f g).pv, .int .i64 (fmulErr f g)]) := by
  by_cases hr : FV f.n f.d ∧ FV g.n g.d
  · obtain ⟨hr1, hr2⟩ := id hr
    obtain ⟨p1, p2, p3, p4, _⟩ := id hr1
    obtain ⟨q1, q2, q3, q4, _⟩ := id hr2
    have m1 := mul_bound p3 p4 q3 q4
    have m2 := mul_bound (a := f.d) (b := g.d) (by omega) (by omega) (by omega) (by omega)
    have b6 := Int.mul_pos (show 0 < f.d by omega) (show 0 < g.d by omega)
    have w1 : IntKind.i64.wrap (f.n * g.n) = f.n * g.n := wrap_small (by omega) (by omega)
    have w4 : IntKind.i64.wrap (f.d * g.d) = f.d * g.d := wrap_small (by omega) (by omega)
    have hred := refreduce_fn (a := f.n * g.n) (b := f.d * g.d) (by omega) (by omega) b6 (by omega)
    unfold fracP at hred
    intro σ nx
    refine fn_of_body goodEE (by rw [EE_P]; exact Tryz.func49) rfl rfl (by kernel_rfl) (Nat.le_of_ble_eq_true rfl) (Nat.le_refl _) fun hwf hlt => ?_
    rw [show Tryz.f49.results.toList = [.cell 4 27, .tmp 5] from rfl]
    refine awp_begin _ _ _ _ _ (cc := _) (by conv => lhs; simp only [push_cast, seval, Tryz.f49]) ?_
    simp only [push_cast, seval, EE_P]
    repeat' (first | simp only [push_cast, seval, EE_P, hr1, hr2, w1, w4] | simp (disch := omega) only [wrap_fits] | ((first | with_reducible apply wcall_pure | with_reducible apply wdcall_pure); focus (first | assumption | exact refvalid_fn ⟨_, _⟩)) | (with_reducible refine wguard_split_t (fun h => ?_) (fun h => ?_)) | (with_reducible refine wguard_split_f (fun h => ?_) (fun h => ?_)) | (with_reducible refine wcond_split (fun h => ?_) (fun h => ?_)) | (with_reducible refine wdguard_split_t (fun h => ?_) (fun h => ?_)) | (with_reducible refine wdguard_split_f (fun h => ?_) (fun h => ?_)) | (with_reducible refine And.intro (fun h => ?_) (fun h => ?_)) | (with_reducible apply And.intro; focus omega))
    all_goals ((refine ends_ret (by simp only [resultsOf, resOf, push_cast, seval, EE_P]; rfl) (by simp only [push_cast, seval, EE_P]) ?_ (by repeat' (first | exact Keeps.refl _ | assumption | exact (hwf.keep1 _) | refine Keeps.new hwf ?_ (by omega) _)) (by simp only [lt_int, lt_bool, lt_str, lt_nil, lt_empty, lt_agg, lt_tup, lt_list, lt_cells, lt_fn, lt_nilp, lt_nilfn, lt_nili, List.mem_cons, List.not_mem_nil, or_false, forall_eq_or_imp, forall_eq, and_true, true_and, and_self, implies_true, *]; try omega)); (try simp only [tupOf, push_cast, seval, EE_P]))
    all_goals (unfold fmulS fmulErr fmulN fmulD fmulE; rw [if_pos hr, if_pos hr, if_pos hr])
  · intro σ nx
    refine fn_of_body goodEE (by rw [EE_P]; exact Tryz.func49) rfl rfl (by kernel_rfl) (Nat.le_of_ble_eq_true rfl) (Nat.le_refl _) fun hwf hlt => ?_
    rw [show Tryz.f49.results.toList = [.cell 4 27, .tmp 5] from rfl]
    refine awp_begin _ _ _ _ _ (cc := _) (by conv => lhs; simp only [push_cast, seval, Tryz.f49]) ?_
    simp only [push_cast, seval, EE_P]
    repeat' (first | simp only [push_cast, seval, EE_P] | simp (disch := omega) only [wrap_fits] | ((first | with_reducible apply wcall_pure | with_reducible apply wdcall_pure); focus (first | assumption | exact refvalid_fn ⟨_, _⟩)) | (with_reducible refine wguard_split_t (fun h => ?_) (fun h => ?_)) | (with_reducible refine wguard_split_f (fun h => ?_) (fun h => ?_)) | (with_reducible refine wcond_split (fun h => ?_) (fun h => ?_)) | (with_reducible refine wdguard_split_t (fun h => ?_) (fun h => ?_)) | (with_reducible refine wdguard_split_f (fun h => ?_) (fun h => ?_)) | (with_reducible refine And.intro (fun h => ?_) (fun h => ?_)) | (with_reducible apply And.intro; focus omega))
    all_goals (try (exfalso; exact hr ⟨by assumption, by assumption⟩))
    all_goals ((refine ends_ret (by simp only [resultsOf, resOf, push_cast, seval, EE_P]; rfl) (by simp only [push_cast, seval, EE_P]) ?_ (by repeat' (first | exact Keeps.refl _ | assumption | exact (hwf.keep1 _) | refine Keeps.new hwf ?_ (by omega) _)) (by simp only [lt_int, lt_bool, lt_str, lt_nil, lt_empty, lt_agg, lt_tup, lt_list, lt_cells, lt_fn, lt_nilp, lt_nilfn, lt_nili, List.mem_cons, List.not_mem_nil, or_false, forall_eq_or_imp, forall_eq, and_true, true_and, and_self, implies_true, *]; try omega)); (try simp only [tupOf, push_cast, seval, EE_P]))
    all_goals (unfold fmulS fmulErr fmulN fmulD fmulE; simp_all)
theorem refsum_fn {l : List Frac} {v : PV} (hv : SliceP (l.map Frac.cs) v) (hl : l.length ≤ 4611686018427387904) : Pure EE 52 [v] (.tup [(sumS l).1.pv, .int .i64 (sumS l).2]) := by
  have hvl := hv.len
  simp only [List.length_map] at hvl
  by_cases hbig : (l.length : Int) > 1024
  · have e : sumS l = (⟨0, 0⟩, 1) := if_pos (.inl (by omega))
    rw [e]
    intro σ nx
    refine fn_of_body goodEE (by rw [EE_P]; exact Tryz.func52) rfl rfl (by kernel_rfl) (Nat.le_of_ble_eq_true rfl) (Nat.le_refl _) fun hwf hlt => ?_
    rw [show Tryz.f52.results.toList = [.cell 2 27, .tmp 3] from rfl]
    refine awp_begin _ _ _ _ _ (cc := _) (by conv => lhs; simp only [push_cast, seval, Tryz.f52]) ?_
    simp only [push_cast, seval, EE_P]
    repeat' (first | simp only [push_cast, seval, EE_P, hvl, hv.str, hbig, decide_true] | simp (disch := omega) only [wrap_fits] | ((first | with_reducible apply wcall_pure | with_reducible apply wdcall_pure); focus (first | assumption | exact refadd_fn ⟨_, _⟩ ⟨_, _⟩ | exact refvalid_fn ⟨_, _⟩)) | (with_reducible refine wguard_split_t (fun h => ?_) (fun h => ?_)) | (with_reducible refine wguard_split_f (fun h => ?_) (fun h => ?_)) | (with_reducible refine wcond_split (fun h => ?_) (fun h => ?_)) | (with_reducible refine wdguard_split_t (fun h => ?_) (fun h => ?_)) | (with_reducible refine wdguard_split_f (fun h => ?_) (fun h => ?_)) | (with_reducible refine And.intro (fun h => ?_) (fun h => ?_)) | (with_reducible apply And.intro; focus omega))
    ((refine ends_ret (by simp only [resultsOf, resOf, push_cast, seval, EE_P]; rfl) (by simp only [push_cast, seval, EE_P]) ?_ (by repeat' (first | exact Keeps.refl _ | assumption | exact (hwf.keep1 _) | refine Keeps.new hwf ?_ (by omega) _)) (by simp only [lt_int, lt_bool, lt_str, lt_nil, lt_empty, lt_agg, lt_tup, lt_list, lt_cells, lt_fn, lt_nilp, lt_nilfn, lt_nili, List.mem_cons, List.not_mem_nil, or_false, forall_eq_or_imp, forall_eq, and_true, true_and, and_self, implies_true, *]; try omega)); (try simp only [tupOf, push_cast, seval, EE_P]))
  intro σ nx
  refine fn_of_body goodEE (by rw [EE_P]; exact Tryz.func52) rfl rfl (by kernel_rfl) (Nat.le_of_ble_eq_true rfl) (Nat.le_refl _) fun hwf hlt => ?_
  rw [show Tryz.f52.results.toList = [.cell 2 27, .tmp 3] from rfl]
  refine awp_begin _ _ _ _ _ (cc := _) (by conv => lhs; simp only [push_cast, seval, Tryz.f52]) ?_
  simp only [push_cast, seval, EE_P]
  repeat' (first | simp only [push_cast, seval, EE_P, hvl, hv.str, hbig, decide_false] | simp (disch := omega) only [wrap_fits] | ((first | with_reducible apply wcall_pure | with_reducible apply wdcall_pure); focus (first | assumption | exact refadd_fn ⟨_, _⟩ ⟨_, _⟩ | exact refvalid_fn ⟨_, _⟩)) | (with_reducible refine wguard_split_t (fun h => ?_) (fun h => ?_)) | (with_reducible refine wguard_split_f (fun h => ?_) (fun h => ?_)) | (with_reducible refine wcond_split (fun h => ?_) (fun h => ?_)) | (with_reducible refine wdguard_split_t (fun h => ?_) (fun h => ?_)) | (with_reducible refine wdguard_split_f (fun h => ?_) (fun h => ?_)) | (with_reducible refine And.intro (fun h => ?_) (fun h => ?_)) | (with_reducible apply And.intro; focus omega))
  refine wloop_by (fun m sl σ' nx' => ∃ i : Nat, i ≤ l.length ∧ m = l.length - i ∧ nx < nx' ∧ (∀ j (hj : j < l.length), j < i → FV l[j].n l[j].d) ∧ sl 0 = v ∧ sl 2 = .ptr nx 0 0 ∧ sl 4 = .int .i64 i ∧ σ' nx = some (.row [[.int .i64 0, .int .i64 0]]) ∧ Keeps σ σ') l.length
    ⟨0, by omega, rfl, by omega, fun j _ h => by omega, rfl, rfl, rfl, ?_, (by repeat' (first | exact Keeps.refl _ | assumption | exact (hwf.keep1 _) | refine Keeps.new hwf ?_ (by omega) _))⟩ ?_
  · simp only [upd_at, push_cast, seval]
  rintro m sl σ' nx' ⟨i, hi, hm, hnx, hb, h0, h2, h4, hs, hk⟩
  have hi0 : (0 : Int) ≤ i := by omega
  by_cases hil : i < l.length
  · have hil' : (i : Int) < l.length := by omega
    obtain rfl := hv.lt (i := i) (by simpa using hil)
    have hw : IntKind.i64.wrap ((i : Int) + 1) = (i : Int) + 1 := wrap_small (by omega) (by omega)
    have hget : (l.map Frac.cs)[i]? = some l[i].cs := by rw [List.getElem?_map, List.getElem?_eq_getElem hil]; rfl
    have hno := allS_no hil
    generalize hf : l[i] = f at hget hno
    repeat' (first | simp only [push_cast, seval, EE_P, h0, h2, h4, hvl, hi0, hil', hget, hw, (key_ne hnx).1, (key_ne hnx).2.1, (key_ne hnx).2.2.1, (key_ne hnx).2.2.2, hs, List.length_map, Int.toNat_natCast] | simp (disch := omega) only [wrap_fits] | ((first | with_reducible apply wcall_pure | with_reducible apply wdcall_pure); focus (first | assumption | exact refadd_fn ⟨_, _⟩ ⟨_, _⟩ | exact refvalid_fn ⟨_, _⟩)) | (with_reducible refine wguard_split_t (fun h => ?_) (fun h => ?_)) | (with_reducible refine wguard_split_f (fun h => ?_) (fun h => ?_)) | (with_reducible refine wcond_split (fun h => ?_) (fun h => ?_)) | (with_reducible refine wdguard_split_t (fun h => ?_) (fun h => ?_)) | (with_reducible refine wdguard_split_f (fun h => ?_) (fun h => ?_)) | (with_reducible refine And.intro (fun h => ?_) (fun h => ?_)) | (with_reducible apply And.intro; focus omega))
    · have e : sumS l = (⟨0, 0⟩, 1) := if_pos (.inr (hno (by assumption)))
      simp only [e]
      ((refine ends_ret (by simp only [resultsOf, resOf, push_cast, seval, EE_P, h2]; rfl) (by simp only [push_cast, seval, EE_P, h2]) ?_ (by repeat' (first | exact Keeps.refl _ | assumption | exact (hwf.keep1 _) | refine Keeps.new hwf ?_ (by omega) _)) (by simp only [lt_int, lt_bool, lt_str, lt_nil, lt_empty, lt_agg, lt_tup, lt_list, lt_cells, lt_fn, lt_nilp, lt_nilfn, lt_nili, List.mem_cons, List.not_mem_nil, or_false, forall_eq_or_imp, forall_eq, and_true, true_and, and_self, implies_true, *]; try omega)); (try simp only [tupOf, push_cast, seval, EE_P, h2]))
    · refine ⟨l.length - (i + 1), by omega, i + 1, by omega, rfl, by omega, fun j hj hji => ?_, by simp, (by repeat' (first | exact Keeps.refl _ | assumption | exact (hwf.keep1 _) | refine Keeps.new hwf ?_ (by omega) _))⟩
      by_cases hjj : j = i
      · subst hjj; rw [hf]; assumption
      · exact hb j hj (by omega)
  · have hil' : ¬ (i : Int) < l.length := by omega
    have hA : allS l = true := allS_yes fun j hj => hb j hj (by omega)
    have e : sumS l = if (sumTo l l.length).2 = 0 then sumTo l l.length else (⟨0, 0⟩, (sumTo l l.length).2) := if_neg (by rw [hA]; simp; omega)
    rw [e]
    repeat' (first | simp only [push_cast, seval, EE_P, h0, h2, h4, hvl, hv.str, hil'] | simp (disch := omega) only [wrap_fits] | ((first | with_reducible apply wcall_pure | with_reducible apply wdcall_pure); focus (first | assumption | exact refadd_fn ⟨_, _⟩ ⟨_, _⟩ | exact refvalid_fn ⟨_, _⟩)) | (with_reducible refine wguard_split_t (fun h => ?_) (fun h => ?_)) | (with_reducible refine wguard_split_f (fun h => ?_) (fun h => ?_)) | (with_reducible refine wcond_split (fun h => ?_) (fun h => ?_)) | (with_reducible refine wdguard_split_t (fun h => ?_) (fun h => ?_)) | (with_reducible refine wdguard_split_f (fun h => ?_) (fun h => ?_)) | (with_reducible refine And.intro (fun h => ?_) (fun h => ?_)) | (with_reducible apply And.intro; focus omega))
    refine wloop_by (fun m2 sl2 σ2 nx2 => ∃ j k5 : Nat, j ≤ l.length ∧ m2 = l.length - j ∧ nx < k5 ∧ k5 < nx2 ∧ (sumTo l j).2 = 0 ∧ sl2 0 = v ∧ sl2 2 = .ptr nx 0 0 ∧ sl2 5 = .ptr k5 0 0 ∧ sl2 6 = .int .i64 j ∧ σ2 nx = some (.row [[.int .i64 0, .int .i64 0]]) ∧ σ2 k5 = some (.row [(sumTo l j).1.cs]) ∧ Keeps σ σ2) l.length
      ⟨0, nx' + 5, by omega, rfl, by omega, by omega, rfl, ?_, ?_, rfl, rfl, ?_, ?_, (by repeat' (first | exact Keeps.refl _ | assumption | exact (hwf.keep1 _) | refine Keeps.new hwf ?_ (by omega) _))⟩ ?_
    · simp only [upd_at, push_cast, seval, h0]
    · simp only [upd_at, push_cast, seval, h2]
    · simp only [upd_at, push_cast, seval, (key_ne hnx).1, (key_ne hnx).2.1, (key_ne hnx).2.2.1, (key_ne hnx).2.2.2, hs]
    · simp only [upd_at, push_cast, seval, sumTo]
    clear hs hk h0 h2 h4
    rintro m2 sl2 σ2 nx2 ⟨j, k5, hj, hm2, g5, g5', hz, h0, h2, h5, h6, hs, hs5, hk⟩
    have hnx2 : nx < nx2 := by omega
    have g5n : k5 ≠ nx := by omega
    have hj0 : (0 : Int) ≤ j := by omega
    by_cases hjl : j < l.length
    · have hjl' : (j : Int) < l.length := by omega
      obtain rfl := hv.lt (i := j) (by simpa using hjl)
      have hw : IntKind.i64.wrap ((j : Int) + 1) = (j : Int) + 1 := wrap_small (by omega) (by omega)
      have hget : (l.map Frac.cs)[j]? = some l[j].cs := by rw [List.getElem?_map, List.getElem?_eq_getElem hjl]; rfl
      have hst := sumTo_succ hjl
      rw [if_pos hz] at hst
      generalize hf : l[j] = f at hget hst
      generalize hg : (sumTo l j).1 = g at hst hs5
      have hadd := refadd_fn g f
      by_cases he : faddErr g f = 0
      · repeat' (first | simp only [push_cast, seval, EE_P, h0, h2, h5, h6, hvl, hj0, hjl', hget, hw, he, (key_ne hnx2).1, (key_ne hnx2).2.1, (key_ne hnx2).2.2.1, (key_ne hnx2).2.2.2, (key_ne g5').1, (key_ne g5').2.1, (key_ne g5').2.2.1, (key_ne g5').2.2.2, (ne_keys g5n).1, (ne_keys g5n).2, hs, hs5, List.length_map, Int.toNat_natCast] | simp (disch := omega) only [wrap_fits] | ((first | with_reducible apply wcall_pure | with_reducible apply wdcall_pure); focus (first | assumption | exact refadd_fn ⟨_, _⟩ ⟨_, _⟩ | exact refvalid_fn ⟨_, _⟩)) | (with_reducible refine wguard_split_t (fun h => ?_) (fun h => ?_)) | (with_reducible refine wguard_split_f (fun h => ?_) (fun h => ?_)) | (with_reducible refine wcond_split (fun h => ?_) (fun h => ?_)) | (with_reducible refine wdguard_split_t (fun h => ?_) (fun h => ?_)) | (with_reducible refine wdguard_split_f (fun h => ?_) (fun h => ?_)) | (with_reducible refine And.intro (fun h => ?_) (fun h => ?_)) | (with_reducible apply And.intro; focus omega))
        exact ⟨l.length - (j + 1), by omega, j + 1, k5, by omega, rfl, by omega, by omega, by rw [hst]; exact he, rfl, by simp, by rw [if_pos rfl, hst], (by repeat' (first | exact Keeps.refl _ | assumption | exact (hwf.keep1 _) | refine Keeps.new hwf ?_ (by omega) _))⟩
      · repeat' (first | simp only [push_cast, seval, EE_P, h0, h2, h5, h6, hvl, hj0, hjl', hget, hw, he, (key_ne hnx2).1, (key_ne hnx2).2.1, (key_ne hnx2).2.2.1, (key_ne hnx2).2.2.2, (key_ne g5').1, (key_ne g5').2.1, (key_ne g5').2.2.1, (key_ne g5').2.2.2, (ne_keys g5n).1, (ne_keys g5n).2, hs, hs5, List.length_map, Int.toNat_natCast] | simp (disch := omega) only [wrap_fits] | ((first | with_reducible apply wcall_pure | with_reducible apply wdcall_pure); focus (first | assumption | exact refadd_fn ⟨_, _⟩ ⟨_, _⟩ | exact refvalid_fn ⟨_, _⟩)) | (with_reducible refine wguard_split_t (fun h => ?_) (fun h => ?_)) | (with_reducible refine wguard_split_f (fun h => ?_) (fun h => ?_)) | (with_reducible refine wcond_split (fun h => ?_) (fun h => ?_)) | (with_reducible refine wdguard_split_t (fun h => ?_) (fun h => ?_)) | (with_reducible refine wdguard_split_f (fun h => ?_) (fun h => ?_)) | (with_reducible refine And.intro (fun h => ?_) (fun h => ?_)) | (with_reducible apply And.intro; focus omega))
        have hl2 : sumTo l l.length = (fadd g f, faddErr g f) := by rw [sumTo_err (i := j + 1) hjl (by rw [hst]; exact he), hst]
        ((refine ends_ret (by simp only [resultsOf, resOf, push_cast, seval, EE_P, h2, (key_ne hnx2).1, (key_ne hnx2).2.1, (key_ne hnx2).2.2.1, (key_ne hnx2).2.2.2, (key_ne g5').1, (key_ne g5').2.1, (key_ne g5').2.2.1, (key_ne g5').2.2.2, (ne_keys g5n).1, (ne_keys g5n).2]; rfl) (by simp only [push_cast, seval, EE_P, h2, (key_ne hnx2).1, (key_ne hnx2).2.1, (key_ne hnx2).2.2.1, (key_ne hnx2).2.2.2, (key_ne g5').1, (key_ne g5').2.1, (key_ne g5').2.2.1, (key_ne g5').2.2.2, (ne_keys g5n).1, (ne_keys g5n).2]) ?_ (by repeat' (first | exact Keeps.refl _ | assumption | exact (hwf.keep1 _) | refine Keeps.new hwf ?_ (by omega) _)) (by simp only [lt_int, lt_bool, lt_str, lt_nil, lt_empty, lt_agg, lt_tup, lt_list, lt_cells, lt_fn, lt_nilp, lt_nilfn, lt_nili, List.mem_cons, List.not_mem_nil, or_false, forall_eq_or_imp, forall_eq, and_true, true_and, and_self, implies_true, *]; try omega)); (try simp only [tupOf, push_cast, seval, EE_P, h2, (key_ne hnx2).1, (key_ne hnx2).2.1, (key_ne hnx2).2.2.1, (key_ne hnx2).2.2.2, (key_ne g5').1, (key_ne g5').2.1, (key_ne g5').2.2.1, (key_ne g5').2.2.2, (ne_keys g5n).1, (ne_keys g5n).2]))
        rw [hl2, if_neg he]
    · have hjl' : ¬ (j : Int) < l.length := by omega
      obtain rfl : j = l.length := by omega
      rw [if_pos hz]
      generalize hg : sumTo l l.length = g at hs5 hz ⊢
      repeat' (first | simp only [push_cast, seval, EE_P, h0, h2, h5, h6, hvl, hv.str, hjl', (key_ne hnx2).1, (key_ne hnx2).2.1, (key_ne hnx2).2.2.1, (key_ne hnx2).2.2.2, (key_ne g5').1, (key_ne g5').2.1, (key_ne g5').2.2.1, (key_ne g5').2.2.2, (ne_keys g5n).1, (ne_keys g5n).2, hs, hs5] | simp (disch := omega) only [wrap_fits] | ((first | with_reducible apply wcall_pure | with_reducible apply wdcall_pure); focus (first | assumption | exact refadd_fn ⟨_, _⟩ ⟨_, _⟩ | exact refvalid_fn ⟨_, _⟩)) | (with_reducible refine wguard_split_t (fun h => ?_) (fun h => ?_)) | (with_reducible refine wguard_split_f (fun h => ?_) (fun h => ?_)) | (with_reducible refine wcond_split (fun h => ?_) (fun h => ?_)) | (with_reducible refine wdguard_split_t (fun h => ?_) (fun h => ?_)) | (with_reducible refine wdguard_split_f (fun h => ?_) (fun h => ?_)) | (with_reducible refine And.intro (fun h => ?_) (fun h => ?_)) | (with_reducible apply And.intro; focus omega))
      ((refine ends_ret (by simp only [resultsOf, resOf, push_cast, seval, EE_P, h2, (key_ne hnx2).1, (key_ne hnx2).2.1, (key_ne hnx2).2.2.1, (key_ne hnx2).2.2.2, (key_ne g5').1, (key_ne g5').2.1, (key_ne g5').2.2.1, (key_ne g5').2.2.2, (ne_keys g5n).1, (ne_keys g5n).2]; rfl) (by simp only [push_cast, seval, EE_P, h2, (key_ne hnx2).1, (key_ne hnx2).2.1, (key_ne hnx2).2.2.1, (key_ne hnx2).2.2.2, (key_ne g5').1, (key_ne g5').2.1, (key_ne g5').2.2.1, (key_ne g5').2.2.2, (ne_keys g5n).1, (ne_keys g5n).2]) ?_ (by repeat' (first | exact Keeps.refl _ | assumption | exact (hwf.keep1 _) | refine Keeps.new hwf ?_ (by omega) _)) (by simp only [lt_int, lt_bool, lt_str, lt_nil, lt_empty, lt_agg, lt_tup, lt_list, lt_cells, lt_fn, lt_nilp, lt_nilfn, lt_nili, List.mem_cons, List.not_mem_nil, or_false, forall_eq_or_imp, forall_eq, and_true, true_and, and_self, implies_true, *]; try omega)); (try simp only [tupOf, push_cast, seval, EE_P, h2, (key_ne hnx2).1, (key_ne hnx2).2.1, (key_ne hnx2).2.2.1, (key_ne hnx2).2.2.2, (key_ne g5').1, (key_ne g5').2.1, (key_ne g5').2.2.1, (key_ne g5').2.2.2, (ne_keys g5n).1, (ne_keys g5n).2]))
      rw [hz]
def fewP (c : Credit) : Bool := (c.parts.all fun p => decide (p.name.size ≤ 40)) && decide (c.parts.length ≤ 20)
theorem fewP_no {c : Credit} {i : Nat} {p : Part} (h : c.parts[i]? = some p) (hn : (p.name.size : Int) > 40) : fewP c = false := by
  unfold fewP
  rw [show (c.parts.all fun p => decide (p.name.size ≤ 40)) = false from ?_, Bool.false_and]
  rw [List.all_eq_false]
  exact ⟨p, List.mem_of_getElem? h, by simp; omega⟩
theorem fewP_yes {c : Credit} (h : ∀ (j : Nat) (p : Part), c.parts[j]? = some p → p.name.size ≤ 40) : fewP c = decide (c.parts.length ≤ 20) := by
  unfold fewP
  rw [show (c.parts.all fun p => decide (p.name.size ≤ 40)) = true from ?_, Bool.true_and]
  rw [List.all_eq_true]
  intro l hl
  obtain ⟨j, hj, rfl⟩ := List.getElem_of_mem hl
  simpa using h j _ (List.getElem?_eq_getElem hj)
theorem fewP_fn (c : Credit) {v : PV} (hv : SliceP (c.parts.map Part.cs) v) (hl : c.parts.length ≤ 9223372036854775807) : Pure EE 21 [c.pv v] (.bool (fewP c)) := by
  have hvl := hv.len
  simp only [List.length_map] at hvl
  intro σ nx
  refine fn_of_body goodEE (by rw [EE_P]; exact Tryz.func21) rfl rfl (by kernel_rfl) (Nat.le_of_ble_eq_true rfl) (Nat.le_refl _) fun hwf hlt => ?_
  rw [show Tryz.f21.results.toList = [.tmp 2] from rfl]
  refine awp_begin _ _ _ _ _ (cc := _) (by conv => lhs; simp only [push_cast, seval, Tryz.f21]) ?_
  simp only [push_cast, seval, EE_P]
  repeat' (first | simp only [push_cast, seval, EE_P, hvl, hv.str, hv.one, hv.cells] | simp (disch := omega) only [wrap_fits] | ((first | with_reducible apply wcall_pure | with_reducible apply wdcall_pure); focus (first | assumption | fail)) | (with_reducible refine wguard_split_t (fun h => ?_) (fun h => ?_)) | (with_reducible refine wguard_split_f (fun h => ?_) (fun h => ?_)) | (with_reducible refine wcond_split (fun h => ?_) (fun h => ?_)) | (with_reducible refine wdguard_split_t (fun h => ?_) (fun h => ?_)) | (with_reducible refine wdguard_split_f (fun h => ?_) (fun h => ?_)) | (with_reducible refine And.intro (fun h => ?_) (fun h => ?_)) | (with_reducible apply And.intro; focus omega))
  refine wloop_by (fun m sl σ' nx' => ∃ i : Nat, i ≤ c.parts.length ∧ m = c.parts.length - i ∧ nx < nx' ∧ (∀ (j : Nat) (p : Part), j < i → c.parts[j]? = some p → p.name.size ≤ 40) ∧ sl 1 = .ptr nx 0 0 ∧ sl 3 = .int .i64 i ∧ σ' nx = some (.row [[v, .int .i64 c.pts.n, .int .i64 c.pts.d, .int .i64 c.hund]]) ∧ Keeps σ σ') c.parts.length
    ⟨0, by omega, rfl, by omega, fun j _ h => by omega, rfl, rfl, ?_, (by repeat' (first | exact Keeps.refl _ | assumption | exact (hwf.keep1 _) | refine Keeps.new hwf ?_ (by omega) _))⟩ ?_
  · simp only [upd_at, push_cast, seval]
  rintro m sl σ' nx' ⟨i, hi, hm, hnx, hb, h1, h3, hs, hk⟩
  have hi0 : (0 : Int) ≤ i := by omega
  by_cases hil : i < c.parts.length
  · have hil' : (i : Int) < c.parts.length := by omega
    obtain rfl := hv.lt (i := i) (by simpa using hil)
    have hw : IntKind.i64.wrap ((i : Int) + 1) = (i : Int) + 1 := wrap_small (by omega) (by omega)
    have hx : c.parts[i]? = some c.parts[i] := List.getElem?_eq_getElem hil
    have hget : (c.parts.map Part.cs)[i]? = some c.parts[i].cs := by rw [List.getElem?_map, hx]; rfl
    generalize c.parts[i] = x at hx hget
    repeat' (first | simp only [push_cast, seval, EE_P, h1, h3, hvl, hi0, hil', hget, hw, (key_ne hnx).1, (key_ne hnx).2.1, (key_ne hnx).2.2.1, (key_ne hnx).2.2.2, hs, List.length_map, Int.toNat_natCast] | simp (disch := omega) only [wrap_fits] | ((first | with_reducible apply wcall_pure | with_reducible apply wdcall_pure); focus (first | assumption | fail)) | (with_reducible refine wguard_split_t (fun h => ?_) (fun h => ?_)) | (with_reducible refine wguard_split_f (fun h => ?_) (fun h => ?_)) | (with_reducible refine wcond_split (fun h => ?_) (fun h => ?_)) | (with_reducible refine wdguard_split_t (fun h => ?_) (fun h => ?_)) | (with_reducible refine wdguard_split_f (fun h => ?_) (fun h => ?_)) | (with_reducible refine And.intro (fun h => ?_) (fun h => ?_)) | (with_reducible apply And.intro; focus omega))
    · ((refine ends_ret (by simp only [resultsOf, resOf, push_cast, seval, EE_P]; rfl) (by simp only [push_cast, seval, EE_P]) ?_ (by repeat' (first | exact Keeps.refl _ | assumption | exact (hwf.keep1 _) | refine Keeps.new hwf ?_ (by omega) _)) (by simp only [lt_int, lt_bool, lt_str, lt_nil, lt_empty, lt_agg, lt_tup, lt_list, lt_cells, lt_fn, lt_nilp, lt_nilfn, lt_nili, List.mem_cons, List.not_mem_nil, or_false, forall_eq_or_imp, forall_eq, and_true, true_and, and_self, implies_true, *]; try omega)); (try simp only [tupOf, push_cast, seval, EE_P]))
      rw [fewP_no hx (by assumption)]
    · refine ⟨c.parts.length - (i + 1), by omega, i + 1, by omega, rfl, by omega, fun j p hj hp => ?_, by simp, (by repeat' (first | exact Keeps.refl _ | assumption | exact (hwf.keep1 _) | refine Keeps.new hwf ?_ (by omega) _))⟩
      by_cases hjj : j = i
      · subst hjj
        rw [hx] at hp
        cases hp
        omega
      · exact hb j p (by omega) hp
  · have hil' : ¬ (i : Int) < c.parts.length := by omega
    repeat' (first | simp only [push_cast, seval, EE_P, h1, h3, hvl, hv.str, hv.one, hil', (key_ne hnx).1, (key_ne hnx).2.1, (key_ne hnx).2.2.1, (key_ne hnx).2.2.2, hs] | simp (disch := omega) only [wrap_fits] | ((first | with_reducible apply wcall_pure | with_reducible apply wdcall_pure); focus (first | assumption | fail)) | (with_reducible refine wguard_split_t (fun h => ?_) (fun h => ?_)) | (with_reducible refine wguard_split_f (fun h => ?_) (fun h => ?_)) | (with_reducible refine wcond_split (fun h => ?_) (fun h => ?_)) | (with_reducible refine wdguard_split_t (fun h => ?_) (fun h => ?_)) | (with_reducible refine wdguard_split_f (fun h => ?_) (fun h => ?_)) | (with_reducible refine And.intro (fun h => ?_) (fun h => ?_)) | (with_reducible apply And.intro; focus omega))
    ((refine ends_ret (by simp only [resultsOf, resOf, push_cast, seval, EE_P]; rfl) (by simp only [push_cast, seval, EE_P]) ?_ (by repeat' (first | exact Keeps.refl _ | assumption | exact (hwf.keep1 _) | refine Keeps.new hwf ?_ (by omega) _)) (by simp only [lt_int, lt_bool, lt_str, lt_nil, lt_empty, lt_agg, lt_tup, lt_list, lt_cells, lt_fn, lt_nilp, lt_nilfn, lt_nili, List.mem_cons, List.not_mem_nil, or_false, forall_eq_or_imp, forall_eq, and_true, true_and, and_self, implies_true, *]; try omega)); (try simp only [tupOf, push_cast, seval, EE_P]))
    rw [fewP_yes fun j p hp => hb j p (by have := (List.getElem?_eq_some_iff.1 hp).1; omega) hp]
    congr 1
    simp
    omega
theorem refvalid_credit_fn (c : Credit) {v : PV} (hv : SliceP (c.parts.map Part.cs) v) (hl : c.parts.length ≤ 1000000) : Pure EE 25 [c.pv v] (.bool (validS c)) := by
  have hvl := hv.len
  simp only [List.length_map] at hvl
  by_cases hbig : (c.parts.length : Int) > 1024
  · have hf : validS c = false := by
      unfold validS sumS
      rw [if_pos (.inl (by rw [effs_length]; omega))]
      simp
    rw [hf]
    intro σ nx
    refine fn_of_body goodEE (by rw [EE_P]; exact Tryz.func25) rfl rfl (by kernel_rfl) (Nat.le_of_ble_eq_true rfl) (Nat.le_refl _) fun hwf hlt => ?_
    rw [show Tryz.f25.results.toList = [.tmp 2] from rfl]
    refine awp_begin _ _ _ _ _ (cc := _) (by conv => lhs; simp only [push_cast, seval, Tryz.f25]) ?_
    simp only [push_cast, seval, EE_P]
    repeat' (first | simp only [push_cast, seval, EE_P, hvl, hv.str, hv.one, hv.cells, hbig, decide_true] | simp (disch := omega) only [wrap_fits] | ((first | with_reducible apply wcall_pure | with_reducible apply wdcall_pure); focus (first | assumption | exact refsum_fn (by assumption) (by omega) | exact refhund_fn ⟨_, _⟩ | exact isName50_fn _)) | (with_reducible refine wguard_split_t (fun h => ?_) (fun h => ?_)) | (with_reducible refine wguard_split_f (fun h => ?_) (fun h => ?_)) | (with_reducible refine wcond_split (fun h => ?_) (fun h => ?_)) | (with_reducible refine wdguard_split_t (fun h => ?_) (fun h => ?_)) | (with_reducible refine wdguard_split_f (fun h => ?_) (fun h => ?_)) | (with_reducible refine And.intro (fun h => ?_) (fun h => ?_)) | (with_reducible apply And.intro; focus omega))
    ((refine ends_ret (by simp only [resultsOf, resOf, push_cast, seval, EE_P]; rfl) (by simp only [push_cast, seval, EE_P]) ?_ (by repeat' (first | exact Keeps.refl _ | assumption | exact (hwf.keep1 _) | refine Keeps.new hwf ?_ (by omega) _)) (by simp only [lt_int, lt_bool, lt_str, lt_nil, lt_empty, lt_agg, lt_tup, lt_list, lt_cells, lt_fn, lt_nilp, lt_nilfn, lt_nili, List.mem_cons, List.not_mem_nil, or_false, forall_eq_or_imp, forall_eq, and_true, true_and, and_self, implies_true, *]; try omega)); (try simp only [tupOf, push_cast, seval, EE_P]))
  intro σ nx
  refine fn_of_body goodEE (by rw [EE_P]; exact Tryz.func25) rfl rfl (by kernel_rfl) (Nat.le_of_ble_eq_true rfl) (Nat.le_refl _) fun hwf hlt => ?_
  rw [show Tryz.f25.results.toList = [.tmp 2] from rfl]
  refine awp_begin _ _ _ _ _ (cc := _) (by conv => lhs; simp only [push_cast, seval, Tryz.f25]) ?_
  simp only [push_cast, seval, EE_P]
  repeat' (first | simp only [push_cast, seval, EE_P, hvl, hv.str, hv.one, hv.cells, hbig, decide_false] | simp (disch := omega) only [wrap_fits] | ((first | with_reducible apply wcall_pure | with_reducible apply wdcall_pure); focus (first | assumption | exact refsum_fn (by assumption) (by omega) | exact refhund_fn ⟨_, _⟩ | exact isName50_fn _)) | (with_reducible refine wguard_split_t (fun h => ?_) (fun h => ?_)) | (with_reducible refine wguard_split_f (fun h => ?_) (fun h => ?_)) | (with_reducible refine wcond_split (fun h => ?_) (fun h => ?_)) | (with_reducible refine wdguard_split_t (fun h => ?_) (fun h => ?_)) | (with_reducible refine wdguard_split_f (fun h => ?_) (fun h => ?_)) | (with_reducible refine And.intro (fun h => ?_) (fun h => ?_)) | (with_reducible apply And.intro; focus omega))
  refine wloop_by (fun m sl σ' nx' => ∃ i k3 : Nat, i ≤ c.parts.length ∧ m = c.parts.length - i ∧ nx < k3 ∧ k3 < nx' ∧ (∀ j (hj : j < c.parts.length), j < i → nameS c.parts[j].name = true) ∧ sl 3 = .row k3 0 i ∧ sl 1 = .ptr nx 0 0 ∧ sl 4 = .int .i64 i ∧ σ' nx = some (.row [[v, .int .i64 c.pts.n, .int .i64 c.pts.d, .int .i64 c.hund]]) ∧ σ' k3 = some (.row ((effs (c.parts.take i)).map Frac.cs)) ∧ Keeps σ σ') c.parts.length
    ⟨0, nx + 6, by omega, rfl, by omega, by omega, fun j _ h => by omega, rfl, rfl, rfl, ?_, ?_, (by repeat' (first | exact Keeps.refl _ | assumption | exact (hwf.keep1 _) | refine Keeps.new hwf ?_ (by omega) _))⟩ ?_
  · simp only [upd_at, push_cast, seval]
  · simp only [upd_at, push_cast, seval]
    rfl
  rintro m sl σ' nx' ⟨i, k3, hi, hm, a3, b3, hb, h3, h1, h4, hs, hs3, hk⟩
  have hnx : nx < nx' := by omega
  have hkk : k3 ≠ nx := by omega
  have hi0 : (0 : Int) ≤ i := by omega
  have hen := effs_len hi
  by_cases hil : i < c.parts.length
  · have hil' : (i : Int) < c.parts.length := by omega
    obtain rfl := hv.lt (i := i) (by simpa using hil)
    have hw : IntKind.i64.wrap ((i : Int) + 1) = (i : Int) + 1 := wrap_small (by omega) (by omega)
    have hget : (c.parts.map Part.cs)[i]? = some c.parts[i].cs := by rw [List.getElem?_map, List.getElem?_eq_getElem hil]; rfl
    have hget' : c.parts[i]? = some c.parts[i] := List.getElem?_eq_getElem hil
    have hno := partNames_no hil
    have hj : ∀ j (hj : j < c.parts.length), j < i + 1 → nameS c.parts[i].name = true → nameS c.parts[j].name = true := fun j hj hji hn => by
      by_cases hjj : j = i
      · subst hjj; exact hn
      · exact hb j hj (by omega)
    generalize hf : c.parts[i] = f at hget hget' hno hj
    have he := effs_succ hget'
    generalize ht : effs (c.parts.take i) = es at hs3 he hen
    repeat' (first | simp only [push_cast, seval, EE_P, h1, h3, h4, hvl, hi0, hil', hget, hw, hen, List.length_map, Int.toNat_natCast, (key_ne hnx).1, (key_ne hnx).2.1, (key_ne hnx).2.2.1, (key_ne hnx).2.2.2, (key_ne b3).1, (key_ne b3).2.1, (key_ne b3).2.2.1, (key_ne b3).2.2.2, (ne_keys hkk).1, (ne_keys hkk).2, hs, hs3] | simp (disch := omega) only [wrap_fits] | ((first | with_reducible apply wcall_pure | with_reducible apply wdcall_pure); focus (first | assumption | exact refsum_fn (by assumption) (by omega) | exact refhund_fn ⟨_, _⟩ | exact isName50_fn _)) | (with_reducible refine wguard_split_t (fun h => ?_) (fun h => ?_)) | (with_reducible refine wguard_split_f (fun h => ?_) (fun h => ?_)) | (with_reducible refine wcond_split (fun h => ?_) (fun h => ?_)) | (with_reducible refine wdguard_split_t (fun h => ?_) (fun h => ?_)) | (with_reducible refine wdguard_split_f (fun h => ?_) (fun h => ?_)) | (with_reducible refine And.intro (fun h => ?_) (fun h => ?_)) | (with_reducible apply And.intro; focus omega))
    · ((refine ends_ret (by simp only [resultsOf, resOf, push_cast, seval, EE_P]; rfl) (by simp only [push_cast, seval, EE_P]) ?_ (by repeat' (first | exact Keeps.refl _ | assumption | exact (hwf.keep1 _) | refine Keeps.new hwf ?_ (by omega) _)) (by simp only [lt_int, lt_bool, lt_str, lt_nil, lt_empty, lt_agg, lt_tup, lt_list, lt_cells, lt_fn, lt_nilp, lt_nilfn, lt_nili, List.mem_cons, List.not_mem_nil, or_false, forall_eq_or_imp, forall_eq, and_true, true_and, and_self, implies_true, *]; try omega)); (try simp only [tupOf, push_cast, seval, EE_P]))
      simp [validS, hno (by simpa using ‹(!nameS f.name) = true›)]
    · refine ⟨⟨by
        by_cases h0 : i = 0
        · right
          have : es = [] := List.length_eq_zero_iff.1 (by omega)
          rw [this]; rfl
        · exact .inl h0, by simp only [roomFor, push_cast, seval]; omega, frac2' _⟩, c.parts.length - (i + 1), by omega, i + 1, nx' + 21, by omega, rfl, by omega, by omega, fun j hj' hji => hj j hj' hji (by simpa using ‹(!nameS f.name) = false›), rfl, by simp, ?_, (by repeat' (first | exact Keeps.refl _ | assumption | exact (hwf.keep1 _) | refine Keeps.new hwf ?_ (by omega) _))⟩
      rw [if_pos rfl, he, List.map_append]
      rfl
  · have hil' : ¬ (i : Int) < c.parts.length := by omega
    obtain rfl : i = c.parts.length := by omega
    rw [List.take_length] at hs3
    have hcl : (effs c.parts).length ≤ 4611686018427387904 := by rw [effs_length]; omega
    have hnm : partNames c.parts = true := partNames_yes fun j hj => hb j hj hj
    repeat' (first | simp only [push_cast, seval, EE_P, h1, h3, h4, hvl, hv.str, hv.one, hil', (key_ne hnx).1, (key_ne hnx).2.1, (key_ne hnx).2.2.1, (key_ne hnx).2.2.2, (key_ne b3).1, (key_ne b3).2.1, (key_ne b3).2.2.1, (key_ne b3).2.2.2, (ne_keys hkk).1, (ne_keys hkk).2, hs] | simp (disch := omega) only [wrap_fits] | ((first | with_reducible apply wcall_pure | with_reducible apply wdcall_pure); focus (first | assumption | exact refsum_fn (by assumption) (by omega) | exact refhund_fn ⟨_, _⟩ | exact isName50_fn _)) | (with_reducible refine wguard_split_t (fun h => ?_) (fun h => ?_)) | (with_reducible refine wguard_split_f (fun h => ?_) (fun h => ?_)) | (with_reducible refine wcond_split (fun h => ?_) (fun h => ?_)) | (with_reducible refine wdguard_split_t (fun h => ?_) (fun h => ?_)) | (with_reducible refine wdguard_split_f (fun h => ?_) (fun h => ?_)) | (with_reducible refine And.intro (fun h => ?_) (fun h => ?_)) | (with_reducible apply And.intro; focus omega))
    refine wcall_lend goodEE (refsum_fn .list hcl) ⟨fza_row hs3 (by rw [List.length_map, effs_length]), trivial⟩ (flat_fracerr _ _) ?_
    have hz : FV c.pts.n c.pts.d → lessS c.pts ⟨0, 1⟩ = !decide (0 ≤ c.pts.n) := fun hf => by
      by_cases h0 : 0 ≤ c.pts.n
      · rw [(zero_le_iff hf).2 h0, decide_eq_true h0]; rfl
      · cases hl : lessS c.pts ⟨0, 1⟩
        · exact absurd ((zero_le_iff hf).1 hl) h0
        · rw [decide_eq_false h0]; rfl
    generalize hsm : sumS (effs c.parts) = sm
    have hrh := refhund_fn c.pts
    repeat' (first | simp only [push_cast, seval, EE_P, h1, (key_ne hnx).1, (key_ne hnx).2.1, (key_ne hnx).2.2.1, (key_ne hnx).2.2.2, (key_ne b3).1, (key_ne b3).2.1, (key_ne b3).2.2.1, (key_ne b3).2.2.2, (ne_keys hkk).1, (ne_keys hkk).2, hs] | simp (disch := omega) only [wrap_fits] | ((first | with_reducible apply wcall_pure | with_reducible apply wdcall_pure); focus (first | assumption | exact refsum_fn (by assumption) (by omega) | exact refhund_fn ⟨_, _⟩ | exact isName50_fn _)) | (with_reducible refine wguard_split_t (fun h => ?_) (fun h => ?_)) | (with_reducible refine wguard_split_f (fun h => ?_) (fun h => ?_)) | (with_reducible refine wcond_split (fun h => ?_) (fun h => ?_)) | (with_reducible refine wdguard_split_t (fun h => ?_) (fun h => ?_)) | (with_reducible refine wdguard_split_f (fun h => ?_) (fun h => ?_)) | (with_reducible refine And.intro (fun h => ?_) (fun h => ?_)) | (with_reducible apply And.intro; focus omega))
    all_goals ((refine ends_ret (by simp only [resultsOf, resOf, push_cast, seval, EE_P]; rfl) (by simp only [push_cast, seval, EE_P]) ?_ (by repeat' (first | exact Keeps.refl _ | assumption | exact (hwf.keep1 _) | refine Keeps.new hwf ?_ (by omega) _)) (by simp only [lt_int, lt_bool, lt_str, lt_nil, lt_empty, lt_agg, lt_tup, lt_list, lt_cells, lt_fn, lt_nilp, lt_nilfn, lt_nili, List.mem_cons, List.not_mem_nil, or_false, forall_eq_or_imp, forall_eq, and_true, true_and, and_self, implies_true, *]; try omega)); (try simp only [tupOf, push_cast, seval, EE_P]))
    all_goals (unfold validS; rw [hsm, hnm]; simp only [frac_iff])
    all_goals (clear hrh hs hs3 hk h1 h3 h4 hv hvl hen hb hsm)
    all_goals (by_cases hF : FV c.pts.n c.pts.d)
    all_goals (first | rw [hz hF] | skip)
    all_goals (by_cases h0 : 0 ≤ c.pts.n)
    all_goals (first | rw [decide_eq_false h0] | rw [decide_eq_true h0] | skip)
    all_goals (first | (exfalso; omega) | (simp; done) | (simp [*]; done) | (simp_all; done) | (simp_all; omega))
end Go.Proofs.YtdajoilaakiinaaGreatDoor.Awp

/- The reference's texts of numbers and fractions. -/
namespace Go.Proofs.YtdajoilaakiinaaGreatDoor.Awp
open Go Go.Proofs
set_option linter.unusedSimpArgs false
set_option linter.unusedVariables false
set_option maxRecDepth 10000
set_option maxHeartbeats 4000000

def numS (n : Nat) : ByteArray := ⟨(Lib.decDigits n).toArray⟩
def digS (m : Nat) : ByteArray := ⟨#[UInt8.ofNat (48 + m % 10)]⟩
theorem numS_small {m : Nat} (h : m < 10) : numS m = digS m := by
  unfold numS digS
  rw [Lib.decDigits, dif_pos h, Nat.mod_eq_of_lt h]
theorem numS_big {m : Nat} (h : ¬ m < 10) : numS m = numS (m / 10) ++ digS m := by
  unfold numS digS
  conv => lhs; rw [Lib.decDigits, dif_neg h]
  rw [ByteArray.ext_iff]
  simp
theorem numS_size (m : Nat) : 1 ≤ (numS m).size := by
  have := (decDigits_len m).1
  show 1 ≤ (Lib.decDigits m).toArray.size
  simpa using this
theorem number_fn (n : Nat) (hn : n ≤ 1000000000000) : Pure EE 88 [.int .i64 n] (.str (numS n)) := by
  intro σ nx
  refine fn_of_body goodEE (by rw [EE_P]; exact Tryz.func88) rfl rfl (by kernel_rfl) (Nat.le_of_ble_eq_true rfl) (Nat.le_refl _) fun hwf hlt => ?_
  rw [show Tryz.f88.results.toList = [.tmp 2] from rfl]
  refine awp_begin _ _ _ _ _ (cc := _) (by conv => lhs; simp only [push_cast, seval, Tryz.f88]) ?_
  simp only [push_cast, seval, EE_P]
  repeat' (first | simp only [push_cast, seval, EE_P] | simp (disch := omega) only [wrap_fits] | ((first | with_reducible apply wcall_pure | with_reducible apply wdcall_pure); focus (first | assumption | fail)) | (with_reducible refine wguard_split_t (fun h => ?_) (fun h => ?_)) | (with_reducible refine wguard_split_f (fun h => ?_) (fun h => ?_)) | (with_reducible refine wcond_split (fun h => ?_) (fun h => ?_)) | (with_reducible refine wdguard_split_t (fun h => ?_) (fun h => ?_)) | (with_reducible refine wdguard_split_f (fun h => ?_) (fun h => ?_)) | (with_reducible refine And.intro (fun h => ?_) (fun h => ?_)) | (with_reducible apply And.intro; focus omega))
  refine wloop_by (fun mm sl σ' nx' => ∃ (m : Nat) (s : ByteArray), mm = m + (if s.size = 0 then 1 else 0) ∧ s.size + m ≤ n + 1 ∧ (s.size = 0 → m = n) ∧ (s.size ≠ 0 → if m = 0 then s = numS n else numS m ++ s = numS n) ∧ sl 0 = .int .i64 m ∧ sl 3 = .str s ∧ Keeps σ σ' ∧ nx ≤ nx') (n + 1)
    ⟨n, ⟨#[]⟩, rfl, by show 0 + n ≤ n + 1; omega, fun _ => rfl, fun h => absurd rfl h, rfl, rfl, (by repeat' (first | exact Keeps.refl _ | assumption | exact (hwf.keep1 _) | refine Keeps.new hwf ?_ (by omega) _)), by omega⟩ ?_
  rintro mm sl σ' nx' ⟨m, s, hmm, hsz, he, hne, h0, h3, hk, hnx⟩
  have hm0 : (0 : Int) ≤ m := by omega
  have w3 : (IntKind.u8.wrap (48 + (m : Int) % 10)).toNat = 48 + m % 10 := by
    rw [IntKind.wrap_u8]; omega
  have v0 : (m : Int).tmod 10 = (m : Int) % 10 := Int.tmod_eq_emod_of_nonneg hm0
  have v1 : (m : Int).tdiv 10 = (m : Int) / 10 := Int.tdiv_eq_ediv_of_nonneg hm0
  have v2 : IntKind.i64.wrap ((m : Int) % 10) = (m : Int) % 10 := wrap_small (by omega) (by omega)
  have v3 : IntKind.i64.wrap (48 + (m : Int) % 10) = 48 + (m : Int) % 10 := wrap_small (by omega) (by omega)
  have v4 : IntKind.i64.wrap ((m : Int) / 10) = (m : Int) / 10 := wrap_small (by omega) (by omega)
  have w4 : (m : Int) / 10 = ((m / 10 : Nat) : Int) := by omega
  have again : (s.size = 0 ∨ 0 < m) → m / 10 + (if (digS m ++ s).size = 0 then 1 else 0) < mm ∧ (digS m ++ s).size + m / 10 ≤ n + 1 ∧ ((digS m ++ s).size ≠ 0 → if m / 10 = 0 then digS m ++ s = numS n else numS (m / 10) ++ (digS m ++ s) = numS n) := by
    intro h
    have hd : (digS m ++ s).size = 1 + s.size := by rw [ByteArray.size_append]; rfl
    refine ⟨?_, ?_, ?_⟩
    · rw [if_neg (by omega)]
      split at hmm <;> omega
    · omega
    · intro _
      have hs : numS m ++ s = numS n := by
        by_cases h0 : s.size = 0
        · have e : s = ⟨#[]⟩ := by
            rw [ByteArray.ext_iff]
            exact Array.eq_empty_of_size_eq_zero h0
          rw [e, he h0]
          exact ByteArray.append_empty
        · have := hne h0
          rw [if_neg (by omega)] at this
          exact this
      split
      · rename_i h10
        rw [← hs, numS_small (by omega)]
      · rename_i h10
        rw [← hs, numS_big (m := m) (by omega), ByteArray.append_assoc]
  have hcat : (⟨#[UInt8.ofNat (48 + m % 10)]⟩ : ByteArray) = digS m := rfl
  have fin : (s.size = 0 ∨ 0 < m) → ∃ j, j < mm ∧ ∃ (m_1 : Nat) (s_1 : ByteArray), (j = m_1 + if s_1.size = 0 then 1 else 0) ∧ s_1.size + m_1 ≤ n + 1 ∧ (s_1.size = 0 → m_1 = n) ∧ (¬s_1.size = 0 → if m_1 = 0 then s_1 = numS n else numS m_1 ++ s_1 = numS n) ∧
      PV.int IntKind.i64 ((m : Int) / 10) = PV.int IntKind.i64 m_1 ∧ PV.str (⟨#[UInt8.ofNat (IntKind.u8.wrap (48 + (m : Int) % 10)).toNat]⟩ ++ s) = PV.str s_1 := by
    intro h
    obtain ⟨a1, a2, a3⟩ := again h
    have hd : (digS m ++ s).size = 1 + s.size := by rw [ByteArray.size_append]; rfl
    exact ⟨_, a1, m / 10, digS m ++ s, rfl, a2, fun h => by omega, a3, by rw [w4], by rw [w3, hcat]⟩
  by_cases hs0 : s = ⟨#[]⟩
  · subst hs0
    obtain ⟨j, b1, m1, s1, b2, b3, b4, b5, b6, b7⟩ := fin (.inl rfl)
    repeat' (first | simp only [push_cast, seval, EE_P, h0, h3, v0, v1, v2, v3, v4] | simp (disch := omega) only [wrap_fits] | ((first | with_reducible apply wcall_pure | with_reducible apply wdcall_pure); focus (first | assumption | fail)) | (with_reducible refine wguard_split_t (fun h => ?_) (fun h => ?_)) | (with_reducible refine wguard_split_f (fun h => ?_) (fun h => ?_)) | (with_reducible refine wcond_split (fun h => ?_) (fun h => ?_)) | (with_reducible refine wdguard_split_t (fun h => ?_) (fun h => ?_)) | (with_reducible refine wdguard_split_f (fun h => ?_) (fun h => ?_)) | (with_reducible refine And.intro (fun h => ?_) (fun h => ?_)) | (with_reducible apply And.intro; focus omega))
    exact ⟨j, b1, m1, s1, b2, b3, b4, b5, b6, b7, (by repeat' (first | exact Keeps.refl _ | assumption | exact (hwf.keep1 _) | refine Keeps.new hwf ?_ (by omega) _)), by omega⟩
  · have hz : s.size ≠ 0 := fun e => hs0 (by rw [ByteArray.ext_iff]; exact Array.eq_empty_of_size_eq_zero e)
    by_cases hm : (m : Int) > 0
    · obtain ⟨j, b1, m1, s1, b2, b3, b4, b5, b6, b7⟩ := fin (.inr (by omega))
      repeat' (first | simp only [push_cast, seval, EE_P, h0, h3, v0, v1, v2, v3, v4, hs0, hm] | simp (disch := omega) only [wrap_fits] | ((first | with_reducible apply wcall_pure | with_reducible apply wdcall_pure); focus (first | assumption | fail)) | (with_reducible refine wguard_split_t (fun h => ?_) (fun h => ?_)) | (with_reducible refine wguard_split_f (fun h => ?_) (fun h => ?_)) | (with_reducible refine wcond_split (fun h => ?_) (fun h => ?_)) | (with_reducible refine wdguard_split_t (fun h => ?_) (fun h => ?_)) | (with_reducible refine wdguard_split_f (fun h => ?_) (fun h => ?_)) | (with_reducible refine And.intro (fun h => ?_) (fun h => ?_)) | (with_reducible apply And.intro; focus omega))
      exact ⟨j, b1, m1, s1, b2, b3, b4, b5, b6, b7, (by repeat' (first | exact Keeps.refl _ | assumption | exact (hwf.keep1 _) | refine Keeps.new hwf ?_ (by omega) _)), by omega⟩
    · have := hne hz
      rw [if_pos (by omega)] at this
      repeat' (first | simp only [push_cast, seval, EE_P, h0, h3, v0, v1, v2, v3, v4, hs0, hm] | simp (disch := omega) only [wrap_fits] | ((first | with_reducible apply wcall_pure | with_reducible apply wdcall_pure); focus (first | assumption | fail)) | (with_reducible refine wguard_split_t (fun h => ?_) (fun h => ?_)) | (with_reducible refine wguard_split_f (fun h => ?_) (fun h => ?_)) | (with_reducible refine wcond_split (fun h => ?_) (fun h => ?_)) | (with_reducible refine wdguard_split_t (fun h => ?_) (fun h => ?_)) | (with_reducible refine wdguard_split_f (fun h => ?_) (fun h => ?_)) | (with_reducible refine And.intro (fun h => ?_) (fun h => ?_)) | (with_reducible apply And.intro; focus omega))
      ((refine ends_ret (by simp only [resultsOf, resOf, push_cast, seval, EE_P]; rfl) (by simp only [push_cast, seval, EE_P]) ?_ (by repeat' (first | exact Keeps.refl _ | assumption | exact (hwf.keep1 _) | refine Keeps.new hwf ?_ (by omega) _)) (by simp only [lt_int, lt_bool, lt_str, lt_nil, lt_empty, lt_agg, lt_tup, lt_list, lt_cells, lt_fn, lt_nilp, lt_nilfn, lt_nili, List.mem_cons, List.not_mem_nil, or_false, forall_eq_or_imp, forall_eq, and_true, true_and, and_self, implies_true, *]; try omega)); (try simp only [tupOf, push_cast, seval, EE_P]))
      rw [this]
theorem bytes_append (a b : Array UInt8) : (⟨a⟩ ++ ⟨b⟩ : ByteArray) = ⟨a ++ b⟩ := by
  rw [ByteArray.ext_iff]
  simp
theorem itoaS_sign (n : Int) : itoaS n = signS n ++ numS n.natAbs := by
  unfold itoaS Lib.itoa signS numS
  split
  · rw [bytes_append]
    simp
  · rw [show n.natAbs = n.toNat by omega]
    exact (ByteArray.empty_append).symm
theorem signed_fn (n : Int) (h0 : -1000000000000 ≤ n) (h1 : n ≤ 1000000000000) : Pure EE 87 [.int .i64 n] (.tup [.str (signS n), .int .i64 (n.natAbs : Nat)]) := by
  by_cases h : n < 0
  · intro σ nx
    refine fn_of_body goodEE (by rw [EE_P]; exact Tryz.func87) rfl rfl (by kernel_rfl) (Nat.le_of_ble_eq_true rfl) (Nat.le_refl _) fun hwf hlt => ?_
    rw [show Tryz.f87.results.toList = [.tmp 2, .tmp 3] from rfl]
    refine awp_begin _ _ _ _ _ (cc := _) (by conv => lhs; simp only [push_cast, seval, Tryz.f87]) ?_
    simp only [push_cast, seval, EE_P]
    repeat' (first | simp only [push_cast, seval, EE_P, h] | simp (disch := omega) only [wrap_fits] | ((first | with_reducible apply wcall_pure | with_reducible apply wdcall_pure); focus (first | assumption | fail)) | (with_reducible refine wguard_split_t (fun h => ?_) (fun h => ?_)) | (with_reducible refine wguard_split_f (fun h => ?_) (fun h => ?_)) | (with_reducible refine wcond_split (fun h => ?_) (fun h => ?_)) | (with_reducible refine wdguard_split_t (fun h => ?_) (fun h => ?_)) | (with_reducible refine wdguard_split_f (fun h => ?_) (fun h => ?_)) | (with_reducible refine And.intro (fun h => ?_) (fun h => ?_)) | (with_reducible apply And.intro; focus omega))
    ((refine ends_ret (by simp only [resultsOf, resOf, push_cast, seval, EE_P]; rfl) (by simp only [push_cast, seval, EE_P]) ?_ (by repeat' (first | exact Keeps.refl _ | assumption | exact (hwf.keep1 _) | refine Keeps.new hwf ?_ (by omega) _)) (by simp only [lt_int, lt_bool, lt_str, lt_nil, lt_empty, lt_agg, lt_tup, lt_list, lt_cells, lt_fn, lt_nilp, lt_nilfn, lt_nili, List.mem_cons, List.not_mem_nil, or_false, forall_eq_or_imp, forall_eq, and_true, true_and, and_self, implies_true, *]; try omega)); (try simp only [tupOf, push_cast, seval, EE_P]))
    simp [signS, h]
    omega
  · intro σ nx
    refine fn_of_body goodEE (by rw [EE_P]; exact Tryz.func87) rfl rfl (by kernel_rfl) (Nat.le_of_ble_eq_true rfl) (Nat.le_refl _) fun hwf hlt => ?_
    rw [show Tryz.f87.results.toList = [.tmp 2, .tmp 3] from rfl]
    refine awp_begin _ _ _ _ _ (cc := _) (by conv => lhs; simp only [push_cast, seval, Tryz.f87]) ?_
    simp only [push_cast, seval, EE_P]
    repeat' (first | simp only [push_cast, seval, EE_P, h] | simp (disch := omega) only [wrap_fits] | ((first | with_reducible apply wcall_pure | with_reducible apply wdcall_pure); focus (first | assumption | fail)) | (with_reducible refine wguard_split_t (fun h => ?_) (fun h => ?_)) | (with_reducible refine wguard_split_f (fun h => ?_) (fun h => ?_)) | (with_reducible refine wcond_split (fun h => ?_) (fun h => ?_)) | (with_reducible refine wdguard_split_t (fun h => ?_) (fun h => ?_)) | (with_reducible refine wdguard_split_f (fun h => ?_) (fun h => ?_)) | (with_reducible refine And.intro (fun h => ?_) (fun h => ?_)) | (with_reducible apply And.intro; focus omega))
    ((refine ends_ret (by simp only [resultsOf, resOf, push_cast, seval, EE_P]; rfl) (by simp only [push_cast, seval, EE_P]) ?_ (by repeat' (first | exact Keeps.refl _ | assumption | exact (hwf.keep1 _) | refine Keeps.new hwf ?_ (by omega) _)) (by simp only [lt_int, lt_bool, lt_str, lt_nil, lt_empty, lt_agg, lt_tup, lt_list, lt_cells, lt_fn, lt_nilp, lt_nilfn, lt_nili, List.mem_cons, List.not_mem_nil, or_false, forall_eq_or_imp, forall_eq, and_true, true_and, and_self, implies_true, *]; try omega)); (try simp only [tupOf, push_cast, seval, EE_P]))
    simp [signS, h]
    omega
theorem numS_le (n : Nat) : (numS n).size ≤ n + 1 := by
  have := (decDigits_len n).2
  show (Lib.decDigits n).toArray.size ≤ n + 1
  simpa using this
theorem signS_le (n : Int) : (signS n).size ≤ 1 := by
  unfold signS
  split
  · exact Nat.le_refl _
  · exact Nat.zero_le _
theorem refformat_fn (f : Frac) : Pure EE 56 [f.pv] (.str (formatS f)) := by
  by_cases hv : FV f.n f.d
  · obtain ⟨h1, h2, h3, h4, _⟩ := id hv
    have e1 := itoaS_sign f.n
    have e2 : itoaS f.d = numS f.d.toNat := by
      rw [itoaS_sign, signS, if_neg (by omega), show f.d.natAbs = f.d.toNat by omega]
      exact ByteArray.empty_append
    have hd : f.d = ((f.d.toNat : Nat) : Int) := by omega
    have z1 := numS_le f.n.natAbs
    have z2 := numS_le f.d.toNat
    have z3 := signS_le f.n
    have hnum := number_fn f.d.toNat (by omega)
    rw [← hd] at hnum
    have hsz : (numS f.n.natAbs).size ≤ 1000000001 := by omega
    have hsz2 : (numS f.d.toNat).size ≤ 1000000001 := by omega
    by_cases hd1 : f.d = 1
    · obtain ⟨a, d⟩ := f
      simp only at hd1
      subst hd1
      have hv' : FV a 1 := hv
      have e1' : itoaS a = signS a ++ numS a.natAbs := e1
      have hsz' : (numS a.natAbs).size ≤ 1000000001 := hsz
      have z3' : (signS a).size ≤ 1 := z3
      have h3' : -1000000000 ≤ a := h3
      have h4' : a ≤ 1000000000 := h4
      clear hv e1 hsz z3 h3 h4 h1 h2 e2 hd z1 z2 hnum hsz2
      intro σ nx
      refine fn_of_body goodEE (by rw [EE_P]; exact Tryz.func56) rfl rfl (by kernel_rfl) (Nat.le_of_ble_eq_true rfl) (Nat.le_refl _) fun hwf hlt => ?_
      rw [show Tryz.f56.results.toList = [.tmp 2] from rfl]
      refine awp_begin _ _ _ _ _ (cc := _) (by conv => lhs; simp only [push_cast, seval, Tryz.f56]) ?_
      simp only [push_cast, seval, EE_P]
      repeat' (first | simp only [push_cast, seval, EE_P, hv'] | simp (disch := omega) only [wrap_fits] | ((first | with_reducible apply wcall_pure | with_reducible apply wdcall_pure); focus (first | assumption | exact signed_fn _ (by omega) (by omega) | exact number_fn _ (by omega) | exact refvalid_fn ⟨_, _⟩)) | (with_reducible refine wguard_split_t (fun h => ?_) (fun h => ?_)) | (with_reducible refine wguard_split_f (fun h => ?_) (fun h => ?_)) | (with_reducible refine wcond_split (fun h => ?_) (fun h => ?_)) | (with_reducible refine wdguard_split_t (fun h => ?_) (fun h => ?_)) | (with_reducible refine wdguard_split_f (fun h => ?_) (fun h => ?_)) | (with_reducible refine And.intro (fun h => ?_) (fun h => ?_)) | (with_reducible apply And.intro; focus omega))
      all_goals ((refine ends_ret (by simp only [resultsOf, resOf, push_cast, seval, EE_P]; rfl) (by simp only [push_cast, seval, EE_P]) ?_ (by repeat' (first | exact Keeps.refl _ | assumption | exact (hwf.keep1 _) | refine Keeps.new hwf ?_ (by omega) _)) (by simp only [lt_int, lt_bool, lt_str, lt_nil, lt_empty, lt_agg, lt_tup, lt_list, lt_cells, lt_fn, lt_nilp, lt_nilfn, lt_nili, List.mem_cons, List.not_mem_nil, or_false, forall_eq_or_imp, forall_eq, and_true, true_and, and_self, implies_true, *]; try omega)); (try simp only [tupOf, push_cast, seval, EE_P]))
      all_goals (rw [formatS, if_pos hv', if_pos rfl, e1'])
    · intro σ nx
      refine fn_of_body goodEE (by rw [EE_P]; exact Tryz.func56) rfl rfl (by kernel_rfl) (Nat.le_of_ble_eq_true rfl) (Nat.le_refl _) fun hwf hlt => ?_
      rw [show Tryz.f56.results.toList = [.tmp 2] from rfl]
      refine awp_begin _ _ _ _ _ (cc := _) (by conv => lhs; simp only [push_cast, seval, Tryz.f56]) ?_
      simp only [push_cast, seval, EE_P]
      repeat' (first | simp only [push_cast, seval, EE_P, hv, hd1] | simp (disch := omega) only [wrap_fits] | ((first | with_reducible apply wcall_pure | with_reducible apply wdcall_pure); focus (first | assumption | exact signed_fn _ (by omega) (by omega) | exact number_fn _ (by omega) | exact refvalid_fn ⟨_, _⟩)) | (with_reducible refine wguard_split_t (fun h => ?_) (fun h => ?_)) | (with_reducible refine wguard_split_f (fun h => ?_) (fun h => ?_)) | (with_reducible refine wcond_split (fun h => ?_) (fun h => ?_)) | (with_reducible refine wdguard_split_t (fun h => ?_) (fun h => ?_)) | (with_reducible refine wdguard_split_f (fun h => ?_) (fun h => ?_)) | (with_reducible refine And.intro (fun h => ?_) (fun h => ?_)) | (with_reducible apply And.intro; focus omega))
      all_goals ((refine ends_ret (by simp only [resultsOf, resOf, push_cast, seval, EE_P]; rfl) (by simp only [push_cast, seval, EE_P]) ?_ (by repeat' (first | exact Keeps.refl _ | assumption | exact (hwf.keep1 _) | refine Keeps.new hwf ?_ (by omega) _)) (by simp only [lt_int, lt_bool, lt_str, lt_nil, lt_empty, lt_agg, lt_tup, lt_list, lt_cells, lt_fn, lt_nilp, lt_nilfn, lt_nili, List.mem_cons, List.not_mem_nil, or_false, forall_eq_or_imp, forall_eq, and_true, true_and, and_self, implies_true, *]; try omega)); (try simp only [tupOf, push_cast, seval, EE_P]))
      all_goals (rw [formatS, if_pos hv, if_neg hd1, e1, e2])
  · intro σ nx
    refine fn_of_body goodEE (by rw [EE_P]; exact Tryz.func56) rfl rfl (by kernel_rfl) (Nat.le_of_ble_eq_true rfl) (Nat.le_refl _) fun hwf hlt => ?_
    rw [show Tryz.f56.results.toList = [.tmp 2] from rfl]
    refine awp_begin _ _ _ _ _ (cc := _) (by conv => lhs; simp only [push_cast, seval, Tryz.f56]) ?_
    simp only [push_cast, seval, EE_P]
    repeat' (first | simp only [push_cast, seval, EE_P, hv] | simp (disch := omega) only [wrap_fits] | ((first | with_reducible apply wcall_pure | with_reducible apply wdcall_pure); focus (first | assumption | exact signed_fn _ (by omega) (by omega) | exact number_fn _ (by omega) | exact refvalid_fn ⟨_, _⟩)) | (with_reducible refine wguard_split_t (fun h => ?_) (fun h => ?_)) | (with_reducible refine wguard_split_f (fun h => ?_) (fun h => ?_)) | (with_reducible refine wcond_split (fun h => ?_) (fun h => ?_)) | (with_reducible refine wdguard_split_t (fun h => ?_) (fun h => ?_)) | (with_reducible refine wdguard_split_f (fun h => ?_) (fun h => ?_)) | (with_reducible refine And.intro (fun h => ?_) (fun h => ?_)) | (with_reducible apply And.intro; focus omega))
    all_goals ((refine ends_ret (by simp only [resultsOf, resOf, push_cast, seval, EE_P]; rfl) (by simp only [push_cast, seval, EE_P]) ?_ (by repeat' (first | exact Keeps.refl _ | assumption | exact (hwf.keep1 _) | refine Keeps.new hwf ?_ (by omega) _)) (by simp only [lt_int, lt_bool, lt_str, lt_nil, lt_empty, lt_agg, lt_tup, lt_list, lt_cells, lt_fn, lt_nilp, lt_nilfn, lt_nili, List.mem_cons, List.not_mem_nil, or_false, forall_eq_or_imp, forall_eq, and_true, true_and, and_self, implies_true, *]; try omega)); (try simp only [tupOf, push_cast, seval, EE_P]))
    all_goals (rw [formatS, if_neg hv])
theorem restS_two {n : Int} {k r : Nat} (hk : n.natAbs = k) (hr : k % 100 = r) : restS n 100 = numS (r / 10) ++ numS (r % 10) := by
  have e : (100 : Int) + (n.natAbs : Int).tmod 100 = ((100 + r : Nat) : Int) := by
    rw [Int.tmod_eq_emod_of_nonneg (by omega)]
    omega
  unfold restS
  rw [e]
  have hr' : r < 100 := by omega
  have d1 : itoaS ((100 + r : Nat) : Int) = numS (100 + r) := by
    rw [itoaS_sign, signS, if_neg (by omega)]
    exact ByteArray.empty_append
  rw [d1, numS_big (m := 100 + r) (by omega), numS_big (m := (100 + r) / 10) (by omega), numS_small (m := (100 + r) / 10 / 10) (by omega), numS_small (m := r / 10) (by omega), numS_small (m := r % 10) (by omega)]
  have a1 : (100 + r) / 10 / 10 % 10 = 1 := by omega
  have a2 : (100 + r) / 10 % 10 = r / 10 % 10 := by omega
  have a3 : (100 + r) % 10 = r % 10 % 10 := by omega
  unfold digS
  rw [a1, a2, a3, bytes_append, bytes_append, bytes_append]
  rfl
theorem refpoints_fn (n : Int) : Pure EE 57 [.int .i64 n] (.str (pointsTextS n)) := by
  by_cases hb : n < -100000000 ∨ n > 100000000
  · intro σ nx
    refine fn_of_body goodEE (by rw [EE_P]; exact Tryz.func57) rfl rfl (by kernel_rfl) (Nat.le_of_ble_eq_true rfl) (Nat.le_refl _) fun hwf hlt => ?_
    rw [show Tryz.f57.results.toList = [.tmp 2] from rfl]
    refine awp_begin _ _ _ _ _ (cc := _) (by conv => lhs; simp only [push_cast, seval, Tryz.f57]) ?_
    simp only [push_cast, seval, EE_P]
    repeat' (first | simp only [push_cast, seval, EE_P] | simp (disch := omega) only [wrap_fits] | ((first | with_reducible apply wcall_pure | with_reducible apply wdcall_pure); focus (first | assumption | exact signed_fn _ (by omega) (by omega) | exact number_fn _ (by omega))) | (with_reducible refine wguard_split_t (fun h => ?_) (fun h => ?_)) | (with_reducible refine wguard_split_f (fun h => ?_) (fun h => ?_)) | (with_reducible refine wcond_split (fun h => ?_) (fun h => ?_)) | (with_reducible refine wdguard_split_t (fun h => ?_) (fun h => ?_)) | (with_reducible refine wdguard_split_f (fun h => ?_) (fun h => ?_)) | (with_reducible refine And.intro (fun h => ?_) (fun h => ?_)) | (with_reducible apply And.intro; focus omega))
    all_goals (try (exfalso; omega))
    all_goals ((refine ends_ret (by simp only [resultsOf, resOf, push_cast, seval, EE_P]; rfl) (by simp only [push_cast, seval, EE_P]) ?_ (by repeat' (first | exact Keeps.refl _ | assumption | exact (hwf.keep1 _) | refine Keeps.new hwf ?_ (by omega) _)) (by simp only [lt_int, lt_bool, lt_str, lt_nil, lt_empty, lt_agg, lt_tup, lt_list, lt_cells, lt_fn, lt_nilp, lt_nilfn, lt_nili, List.mem_cons, List.not_mem_nil, or_false, forall_eq_or_imp, forall_eq, and_true, true_and, and_self, implies_true, *]; try omega)); (try simp only [tupOf, push_cast, seval, EE_P]))
    all_goals (unfold pointsTextS; rw [if_pos hb])
  · have h1 : ¬ n < -100000000 := by omega
    have h2 : ¬ n > 100000000 := by omega
    obtain ⟨k, hk⟩ : ∃ k : Nat, n.natAbs = k := ⟨_, rfl⟩
    have hk0 : (0 : Int) ≤ k := by omega
    have q1 : (k : Int).tdiv 100 = ((k / 100 : Nat) : Int) := by rw [Int.tdiv_eq_ediv_of_nonneg hk0]; omega
    have m1 := numS_le (k / 100)
    have m2 := numS_le (k / 10 % 10)
    have m3 := numS_le (k % 10)
    have m4 := signS_le n
    have hs1 : (numS (k / 100)).size ≤ 100000000 := by omega
    have hs2 : (numS (k / 10 % 10)).size ≤ 10 := by omega
    have hs3 : (numS (k % 10)).size ≤ 10 := by omega
    have hsg := signed_fn n (by omega) (by omega)
    rw [hk] at hsg
    have n1 := number_fn (k / 100) (by omega)
    have n2 := number_fn (k / 10 % 10) (by omega)
    have n3 := number_fn (k % 10) (by omega)
    have r1 := wrap_small (n := ((k / 100 : Nat) : Int)) (by omega) (by omega)
    have r2 := wrap_small (n := ((k / 10 : Nat) : Int)) (by omega) (by omega)
    have r3 := wrap_small (n := ((k % 10 : Nat) : Int)) (by omega) (by omega)
    have q4 : ((k / 10 : Nat) : Int).tmod 10 = ((k / 10 % 10 : Nat) : Int) := by rw [Int.tmod_eq_emod_of_nonneg (by omega)]; omega
    have r4 := wrap_small (n := ((k / 10 % 10 : Nat) : Int)) (by omega) (by omega)
    have q2 : (k : Int).tdiv 10 = ((k / 10 : Nat) : Int) := by rw [Int.tdiv_eq_ediv_of_nonneg hk0]; omega
    have q3 : (k : Int).tmod 10 = ((k % 10 : Nat) : Int) := by rw [Int.tmod_eq_emod_of_nonneg hk0]; omega
    have hfin : pointsTextS n = signS n ++ numS (k / 100) ++ (⟨#[46]⟩ : ByteArray) ++ numS (k / 10 % 10) ++ numS (k % 10) := by
      have e : itoaS ((k / 100 : Nat) : Int) = numS (k / 100) := by
        rw [itoaS_sign, signS, if_neg (by omega), Int.natAbs_natCast]
        exact ByteArray.empty_append
      unfold pointsTextS pointS
      rw [if_neg hb, restS_two hk rfl, hk, show k % 100 / 10 = k / 10 % 10 by omega, show k % 100 % 10 = k % 10 by omega, q1, e]
      simp only [ByteArray.append_assoc]
    generalize k / 100 = ka at *
    generalize k / 10 % 10 = kb at *
    generalize k / 10 = kc at *
    generalize k % 10 = kd at *
    intro σ nx
    refine fn_of_body goodEE (by rw [EE_P]; exact Tryz.func57) rfl rfl (by kernel_rfl) (Nat.le_of_ble_eq_true rfl) (Nat.le_refl _) fun hwf hlt => ?_
    rw [show Tryz.f57.results.toList = [.tmp 2] from rfl]
    refine awp_begin _ _ _ _ _ (cc := _) (by conv => lhs; simp only [push_cast, seval, Tryz.f57]) ?_
    simp only [push_cast, seval, EE_P]
    repeat' (first | simp only [push_cast, seval, EE_P, h1, h2, q1, q2, q3, q4, r1, r2, r3, r4] | simp (disch := omega) only [wrap_fits] | ((first | with_reducible apply wcall_pure | with_reducible apply wdcall_pure); focus (first | assumption | exact signed_fn _ (by omega) (by omega) | exact number_fn _ (by omega))) | (with_reducible refine wguard_split_t (fun h => ?_) (fun h => ?_)) | (with_reducible refine wguard_split_f (fun h => ?_) (fun h => ?_)) | (with_reducible refine wcond_split (fun h => ?_) (fun h => ?_)) | (with_reducible refine wdguard_split_t (fun h => ?_) (fun h => ?_)) | (with_reducible refine wdguard_split_f (fun h => ?_) (fun h => ?_)) | (with_reducible refine And.intro (fun h => ?_) (fun h => ?_)) | (with_reducible apply And.intro; focus omega))
    all_goals ((refine ends_ret (by simp only [resultsOf, resOf, push_cast, seval, EE_P]; rfl) (by simp only [push_cast, seval, EE_P]) ?_ (by repeat' (first | exact Keeps.refl _ | assumption | exact (hwf.keep1 _) | refine Keeps.new hwf ?_ (by omega) _)) (by simp only [lt_int, lt_bool, lt_str, lt_nil, lt_empty, lt_agg, lt_tup, lt_list, lt_cells, lt_fn, lt_nilp, lt_nilfn, lt_nili, List.mem_cons, List.not_mem_nil, or_false, forall_eq_or_imp, forall_eq, and_true, true_and, and_self, implies_true, *]; try omega)); (try simp only [tupOf, push_cast, seval, EE_P]))
    all_goals (rw [hfin])
end Go.Proofs.YtdajoilaakiinaaGreatDoor.Awp

/- credit.Scale where the parts are an empty slice that is not nil; so for any credit. -/
namespace Go.Proofs.YtdajoilaakiinaaGreatDoor.Awp
open Go Go.Proofs
set_option linter.unusedSimpArgs false
set_option linter.unusedVariables false
set_option maxRecDepth 10000
set_option maxHeartbeats 4000000

def FinAt (σ : Store) (k : Nat) (lv : PV) (m : MK) : Prop := MkAt σ k lv m ∨ (m.wrong = true ∧ ∃ pv, σ k = some (.row [m.row lv pv]))
theorem become_right_e {σ : Store} {nx k kp : Nat} {lv : PV} {m : MK} (hk : σ k = some (.row [m.row lv (.row kp 0 0)])) (hkp : kp ≠ k) (hr : σ kp = some (.row [])) (hps : m.parts = []) (name : ByteArray) (p : Frac) (e : Int) (hw : ¬ (m.wrong = true ∨ e ≠ 0 ∨ fsubErr p m.pts ≠ 0)) :
    Fn EE 47 σ nx [.ptr k 0 0, .str name, p.pv, .int .i64 e] (.ret (.tup []))
      (upd (upd (upd σ kp none) (nx + 36) (some (.row ((m.parts ++ [Part.mk name (fsub p m.pts)]).map Part.cs)))) k (some (.row [{ m with parts := m.parts ++ [Part.mk name (fsub p m.pts)], pts := p }.row lv (.row (nx + 36) 0 (m.parts.length + 1))]))) (nx + 37) := by
  refine fn_of_body goodEE (by rw [EE_P]; exact Tryz.func47) rfl rfl (by kernel_rfl) (Nat.le_of_ble_eq_true rfl) ?_ fun hwf hlt => ?_
  rotate_left
  rw [show Tryz.f47.results.toList = [] from rfl]
  refine awp_begin _ _ _ _ _ (cc := _) (by conv => lhs; simp only [push_cast, seval, Tryz.f47]) ?_
  simp only [push_cast, seval, EE_P]
  · obtain ⟨hkn, l1, l2⟩ := row_lt hwf hk
    simp only [MK.row] at hk
    have hkpn : kp < nx := (hwf kp _ hr).1
    repeat' (first | simp only [push_cast, seval, EE_P, hk, (key_ne hkn).1, (key_ne hkn).2.1, (key_ne hkn).2.2.1, (key_ne hkn).2.2.2, (key_ne hkpn).1, (key_ne hkpn).2.1, (key_ne hkpn).2.2.1, (key_ne hkpn).2.2.2, (ne_keys hkp).1, (ne_keys hkp).2, hr] | simp (disch := omega) only [wrap_fits] | ((first | with_reducible apply wcall_pure | with_reducible apply wdcall_pure); focus (first | assumption | exact sub_fn goodEE EE_P _ _ _ _)) | (with_reducible refine wguard_split_t (fun h => ?_) (fun h => ?_)) | (with_reducible refine wguard_split_f (fun h => ?_) (fun h => ?_)) | (with_reducible refine wcond_split (fun h => ?_) (fun h => ?_)) | (with_reducible refine wdguard_split_t (fun h => ?_) (fun h => ?_)) | (with_reducible refine wdguard_split_f (fun h => ?_) (fun h => ?_)) | (with_reducible refine And.intro (fun h => ?_) (fun h => ?_)) | (with_reducible apply And.intro; focus omega))
    all_goals (try (exfalso; simp_all [fsubErr]; done))
    rename_i hwr he
    refine ⟨by simp only [roomFor, push_cast, seval]; try decide, ends_of trivial rfl ⟨⟩ (leaves2 hwf hkn (by omega) (objlt_row (l1.mono (by omega)) (.row _ _ _ (by omega))) (objlt_parts _) ?_ ?_ (fun j hj hjk hjp => by simp only [upd_at, push_cast, seval, (key_ne hj).1, (key_ne hj).2.1, (key_ne hj).2.2.1, (key_ne hj).2.2.2, hjk, hjp]) lt_void)⟩
    · simp only [upd_at, push_cast, seval, (key_ne hkn).1, (key_ne hkn).2.1, (key_ne hkn).2.2.1, (key_ne hkn).2.2.2, (ne_keys hkp).1, (ne_keys hkp).2, MK.row, hps, hwr]
    · simp only [upd_at, push_cast, seval, (key_ne hkn).1, (key_ne hkn).2.1, (key_ne hkn).2.2.1, (key_ne hkn).2.2.2, Part.cs, hps, fsub]
  · omega
theorem become_e {σ : Store} {nx k kp : Nat} {lv : PV} {m : MK} (hwf : Wf σ nx) (hk : σ k = some (.row [m.row lv (.row kp 0 0)])) (hkp : kp ≠ k) (hr : σ kp = some (.row [])) (hps : m.parts = []) (name : ByteArray) (p : Frac) (e : Int) :
    ∃ σ' nx', Fn EE 47 σ nx [.ptr k 0 0, .str name, p.pv, .int .i64 e] (.ret (.tup [])) σ' nx' ∧ FinAt σ' k lv (becomeS m name p e) ∧ MkStep σ nx k σ' nx' := by
  obtain ⟨hkn, l1, l2⟩ := row_lt hwf hk
  by_cases hw : m.wrong = true ∨ e ≠ 0 ∨ fsubErr p m.pts ≠ 0
  · refine ⟨_, _, become_wrong hk name p e hw, .inr ?_, Nat.le_refl _, hwf.set (Nat.le_refl _) hkn (fun o e => by cases e; exact objlt_row l1 l2), fun j _ hj => upd_other _ _ (fun e => hj (.inl e)), fun j hj _ => ?_⟩
    · unfold becomeS
      rw [if_pos hw]
      exact ⟨rfl, _, upd_same ..⟩
    · rcases hj with rfl | ⟨lv', m', off, len, hj⟩
      · exact .inl rfl
      · rw [upd_same] at hj
        simp only [MK.row, Option.some.injEq, AObj.row.injEq, List.cons.injEq, and_true] at hj
        obtain ⟨_, hj, _⟩ := hj
        cases hj
        exact .inr ⟨lv, m, 0, 0, hk⟩
  · have hf := become_right_e (nx := nx) hk hkp hr hps name p e hw
    have hkk : nx + 36 ≠ k := by omega
    have hkpn : kp < nx := (hwf kp _ hr).1
    refine ⟨_, _, hf, .inl ?_, by omega, ((hwf.set (v := none) (m := nx + 37) (by omega) (k := kp) (by omega) (fun o e => by cases e)).set (Nat.le_refl _) (by omega) (fun o e => by cases e; exact objlt_parts _)).set (Nat.le_refl _) (by omega) (fun o e => by cases e; exact objlt_row (l1.mono (by omega)) (.row _ _ _ (by omega))), fun j hjn hj => ?_, fun j hj hjn => ?_⟩
    · unfold becomeS
      rw [if_neg hw]
      refine ⟨.row (nx + 36) 0 (m.parts.length + 1), upd_same .., ?_⟩
      have := PartsAt.row (σ := Awp.upd (Awp.upd (Awp.upd σ kp none) (nx + 36) (some (.row ((m.parts ++ [Part.mk name (fsub p m.pts)]).map Part.cs)))) k (some (.row [{ m with parts := m.parts ++ [Part.mk name (fsub p m.pts)], pts := p }.row lv (.row (nx + 36) 0 (m.parts.length + 1))]))) (k := k) (ps := m.parts ++ [Part.mk name (fsub p m.pts)]) (nx + 36) hkk (by rw [upd_other _ _ hkk, upd_same]) (by simp)
      simpa using this
    · have h1 : j ≠ k := fun e => hj (.inl e)
      have h3 : j ≠ kp := fun e => hj (.inr ⟨lv, m, 0, 0, by rw [e]; exact hk⟩)
      rw [upd_other _ _ h1, upd_other _ _ (by omega), upd_other _ _ h3]
    · rcases hj with rfl | ⟨lv', m', off, len, hj⟩
      · exact .inl rfl
      · rw [upd_same] at hj
        simp only [MK.row, Option.some.injEq, AObj.row.injEq, List.cons.injEq, and_true] at hj
        obtain ⟨_, hj, _⟩ := hj
        cases hj
        omega
theorem finish_e {σ : Store} {nx k : Nat} {lv : PV} {m : MK} (h : FinAt σ k lv m) : ∃ σ', Fn EE 35 σ nx [.ptr k 0 0] (.ret (.tup [(finishS m).1.val, .int .i64 (finishS m).2])) σ' nx ∧ (∀ j, ¬ Own σ k j → σ' j = σ j) ∧ (Wf σ nx → Wf σ' nx) := by
  rcases h with h | ⟨hw, pv, hk⟩
  · exact finish_fn h
  · have hc : badS m := .inl hw
    have e : finishS m = (zeroCredit, 2) := if_pos hc
    rw [e]
    refine ⟨_, finish_bad (kp := k) hk hc, fun j hj => ?_, fun hwf => ?_⟩
    · have : j ≠ k := fun e => hj (.inl e)
      rw [upd_other _ _ this, upd_other _ _ this]
    · have hkn := (hwf k _ hk).1
      exact (hwf.set (Nat.le_refl _) hkn (fun o e => by cases e)).set (Nat.le_refl _) hkn (fun o e => by cases e)
theorem clonep_e {σ : Store} {nx : Nat} {v : PV} (hv : v = .empty ∨ v = .list []) : Fn EE 45 σ nx [v] (.ret (.row (nx + 5) 0 0)) (upd σ (nx + 5) (some (.row []))) (nx + 7) := by
  rcases hv with rfl | rfl
  all_goals
    refine fn_of_body goodEE (by rw [EE_P]; exact Tryz.func45) rfl rfl (by kernel_rfl) (Nat.le_of_ble_eq_true rfl) ?_ fun hwf hlt => ?_
    rotate_left
    rw [show Tryz.f45.results.toList = [.tmp 2] from rfl]
    refine awp_begin _ _ _ _ _ (cc := _) (by conv => lhs; simp only [push_cast, seval, Tryz.f45]) ?_
    simp only [push_cast, seval, EE_P]
    · repeat' (first | simp only [push_cast, seval, EE_P] | simp (disch := omega) only [wrap_fits] | ((first | with_reducible apply wcall_pure | with_reducible apply wdcall_pure); focus (first | assumption | fail)) | (with_reducible refine wguard_split_t (fun h => ?_) (fun h => ?_)) | (with_reducible refine wguard_split_f (fun h => ?_) (fun h => ?_)) | (with_reducible refine wcond_split (fun h => ?_) (fun h => ?_)) | (with_reducible refine wdguard_split_t (fun h => ?_) (fun h => ?_)) | (with_reducible refine wdguard_split_f (fun h => ?_) (fun h => ?_)) | (with_reducible refine And.intro (fun h => ?_) (fun h => ?_)) | (with_reducible apply And.intro; focus omega))
      have hs : upd (upd (upd σ (nx + 3) (some (.row []))) (nx + 3) none) (nx + 5) (some (.row [])) = upd σ (nx + 5) (some (.row [])) := by
        funext j
        by_cases h5 : j = nx + 5
        · subst h5; rw [upd_same, upd_same]
        · rw [upd_other _ _ h5, upd_other _ _ h5]
          by_cases h3 : j = nx + 3
          · subst h3; rw [upd_same]; exact (hwf.none (by omega)).symm
          · rw [upd_other _ _ h3, upd_other _ _ h3]
      refine ⟨by simp only [roomFor, push_cast, seval]; try decide, ?_⟩
      rw [hs]
      refine ends_of trivial (by simp only [resultsOf, resOf, push_cast, seval, EE_P]; rfl) (by first | exact ⟨trivial, trivial⟩ | simp only [push_cast, seval, and_self]) ?_
      have hw2 : Wf (upd σ (nx + 5) (some (.row []))) (nx + 7) := hwf.set (by omega) (by omega) fun o e => by cases e; exact objlt_parts []
      exact leaves_all (by omega) hw2 (.row _ _ _ (by omega))
    · omega
theorem scale_good_e {c : Credit} {v : PV} (hv : SliceP (c.parts.map Part.cs) v) (name : ByteArray) (f : Frac) (hb : ¬ scaleBad c name f) (hps : c.parts = []) (hve : v = .empty ∨ v = .list []) :
    Pure EE 22 [c.pv v, .str name, f.pv] (.tup [(finishS (becomeS ⟨c.parts, c.pts, c.hund, false⟩ name (fmulS c.pts f) (fmulErr c.pts f))).1.val, .int .i64 (finishS (becomeS ⟨c.parts, c.pts, c.hund, false⟩ name (fmulS c.pts f) (fmulErr c.pts f))).2]) := by
  have hl : c.parts.length ≤ 1000000 := by rw [hps]; exact Nat.zero_le _
  have hvl := hv.len
  simp only [List.length_map] at hvl
  have hval := valid_credit_fn c hv hl
  have b1 : validS c = true := by cases h : validS c <;> simp_all [scaleBad]
  have b2 : ¬ (c.parts.length : Int) ≥ 1024 := fun h => hb (.inr (.inl (by omega)))
  have b3 : nameS name = true := by cases h : nameS name <;> simp_all [scaleBad]
  have b4 : FV f.n f.d := Decidable.byContradiction fun h => hb (.inr (.inr (.inr (.inl h))))
  have b5 : ¬ flt f.n f.d 0 1 := fun h => hb (.inr (.inr (.inr (.inr (.inl (decide_eq_true h))))))
  have b6 : ¬ flt 1 1 f.n f.d := fun h => hb (.inr (.inr (.inr (.inr (.inr (decide_eq_true h))))))
  rw [b1] at hval
  intro σ nx
  refine fn_of_body goodEE (by rw [EE_P]; exact Tryz.func22) rfl rfl (by kernel_rfl) (Nat.le_of_ble_eq_true rfl) (Nat.le_refl _) fun hwf hlt => ?_
  rw [show Tryz.f22.results.toList = [.cell 6 29, .tmp 7] from rfl]
  refine awp_begin _ _ _ _ _ (cc := _) (by conv => lhs; simp only [push_cast, seval, Tryz.f22]) ?_
  simp only [push_cast, seval, EE_P]
  repeat' (first | simp only [push_cast, seval, EE_P, hvl, hv.str, hv.one, hv.cells, EE_zero, b2, b3, b4, b5, b6, decide_true, decide_false] | simp (disch := omega) only [wrap_fits] | ((first | with_reducible apply wcall_pure | with_reducible apply wdcall_pure); focus (first | assumption | exact valid_credit_fn _ (by assumption) (by omega) | exact isName_fn _ | exact mul_fn goodEE EE_P _ _ _ _ | exact less_fn goodEE EE_P _ _ _ _ | exact valid_fn goodEE EE_P _ _)) | (with_reducible refine wguard_split_t (fun h => ?_) (fun h => ?_)) | (with_reducible refine wguard_split_f (fun h => ?_) (fun h => ?_)) | (with_reducible refine wcond_split (fun h => ?_) (fun h => ?_)) | (with_reducible refine wdguard_split_t (fun h => ?_) (fun h => ?_)) | (with_reducible refine wdguard_split_f (fun h => ?_) (fun h => ?_)) | (with_reducible refine And.intro (fun h => ?_) (fun h => ?_)) | (with_reducible apply And.intro; focus omega))
  refine wcall_of _ _ _ _ _ _ (clonep_e hve) ?_
  repeat' (first | simp only [push_cast, seval, EE_P] | simp (disch := omega) only [wrap_fits] | ((first | with_reducible apply wcall_pure | with_reducible apply wdcall_pure); focus (first | assumption | exact valid_credit_fn _ (by assumption) (by omega) | exact isName_fn _ | exact mul_fn goodEE EE_P _ _ _ _ | exact less_fn goodEE EE_P _ _ _ _ | exact valid_fn goodEE EE_P _ _)) | (with_reducible refine wguard_split_t (fun h => ?_) (fun h => ?_)) | (with_reducible refine wguard_split_f (fun h => ?_) (fun h => ?_)) | (with_reducible refine wcond_split (fun h => ?_) (fun h => ?_)) | (with_reducible refine wdguard_split_t (fun h => ?_) (fun h => ?_)) | (with_reducible refine wdguard_split_f (fun h => ?_) (fun h => ?_)) | (with_reducible refine And.intro (fun h => ?_) (fun h => ?_)) | (with_reducible apply And.intro; focus omega))
  obtain ⟨k, hkk⟩ : ∃ k, k = nx + 47 := ⟨_, rfl⟩
  generalize hσ1 : upd (upd _ (nx + 56) _) (nx + 56) _ = σ1
  rw [← hkk]
  have hvlt : ∀ n, Lt n v := fun n => by
    rcases hve with rfl | rfl
    · exact .empty
    · exact .list _ (fun cs hcs => by cases hcs)
  have hwf1 : Wf σ1 (nx + 64) := by
    rw [← hσ1]
    repeat' (first | exact hwf.mono (by omega) | refine Wf.set (n := nx + 64) ?_ (Nat.le_refl _) (by omega) (fun o e => by cases e; first | exact objlt_parts _ | exact objlt_credit .nil | exact objlt_credit .empty | exact objlt_credit (hvlt _) | exact objlt_credit (slice_lt _) | exact objlt_credit (.row _ _ _ (by omega)) | exact objlt_row (m := ⟨c.parts, c.pts, c.hund, false⟩) .nil .nil | exact objlt_row (m := ⟨c.parts, c.pts, c.hund, false⟩) .nil .empty | exact objlt_row (m := ⟨c.parts, c.pts, c.hund, false⟩) .nil (.row _ _ _ (by omega)) | (simp only [ObjLt, push_cast, seval, lt_int, lt_bool, lt_str, lt_nil, lt_empty, lt_agg, lt_tup, lt_list, lt_cells, lt_fn, lt_ptr, lt_row, lt_nilp, lt_nilfn, lt_nili, List.mem_cons, List.not_mem_nil, or_false, forall_eq_or_imp, forall_eq, and_true, true_and, and_self, implies_true, false_implies]; try omega)))
  have hrow : σ1 k = some (.row [MK.row ⟨c.parts, c.pts, c.hund, false⟩ .nil (.row (nx + 43) 0 0)]) := by
    rw [← hσ1, hkk]
    simp only [upd_at, push_cast, seval, MK.row]
  have hown : ∀ j, Own σ1 k j → nx ≤ j ∧ j ≠ nx + 2 := by
    rintro j (rfl | ⟨lv, m, off, len, e⟩)
    · omega
    · rw [hrow] at e
      simp only [MK.row, Option.some.injEq, AObj.row.injEq, List.cons.injEq, and_true] at e
      obtain ⟨_, e, _⟩ := e
      cases e
      omega
  have hr0 : σ1 (nx + 43) = some (.row []) := by
    rw [← hσ1]
    simp only [upd_at, push_cast, seval]
  have hkeep : Keeps σ σ1 := by
    rw [← hσ1]
    exact (by repeat' (first | exact Keeps.refl _ | assumption | exact (hwf.keep1 _) | refine Keeps.new hwf ?_ (by omega) _))
  have hz : σ1 (nx + 2) = some (.row [[.nil, .int .i64 0, .int .i64 0, .int .i64 0]]) := by
    rw [← hσ1]
    simp only [upd_at, push_cast, seval]
  clear hσ1
  refine wcall_ex (become_e hwf1 hrow (by omega) hr0 hps name (fmulS c.pts f) (fmulErr c.pts f)) fun σ2 nx2 ⟨hm2, hs⟩ => ?_
  repeat' (first | simp only [push_cast, seval, EE_P] | simp (disch := omega) only [wrap_fits] | ((first | with_reducible apply wcall_pure | with_reducible apply wdcall_pure); focus (first | assumption | exact valid_credit_fn _ (by assumption) (by omega) | exact isName_fn _ | exact mul_fn goodEE EE_P _ _ _ _ | exact less_fn goodEE EE_P _ _ _ _ | exact valid_fn goodEE EE_P _ _)) | (with_reducible refine wguard_split_t (fun h => ?_) (fun h => ?_)) | (with_reducible refine wguard_split_f (fun h => ?_) (fun h => ?_)) | (with_reducible refine wcond_split (fun h => ?_) (fun h => ?_)) | (with_reducible refine wdguard_split_t (fun h => ?_) (fun h => ?_)) | (with_reducible refine wdguard_split_f (fun h => ?_) (fun h => ?_)) | (with_reducible refine And.intro (fun h => ?_) (fun h => ?_)) | (with_reducible apply And.intro; focus omega))
  refine wcall_ex (P := fun σ3 _ => ∀ j, ¬ Own σ2 k j → σ3 j = σ2 j) (by obtain ⟨σ3, a, b, _⟩ := finish_e hm2; exact ⟨σ3, _, a, b⟩) fun σ3 nx3 hfr => ?_
  obtain ⟨hz3, hk3⟩ := scale_keep hwf hs hown hkeep hz (by omega) hfr
  simp only [Credit.val]
  have hlt2 := parts_lt nx (finishS (becomeS ⟨c.parts, c.pts, c.hund, false⟩ name (fmulS c.pts f) (fmulErr c.pts f))).1.parts
  have hone := (partsV_slice (finishS (becomeS ⟨c.parts, c.pts, c.hund, false⟩ name (fmulS c.pts f) (fmulErr c.pts f))).1.parts).one
  have hcel := (partsV_slice (finishS (becomeS ⟨c.parts, c.pts, c.hund, false⟩ name (fmulS c.pts f) (fmulErr c.pts f))).1.parts).cells
  generalize partsV (finishS (becomeS ⟨c.parts, c.pts, c.hund, false⟩ name (fmulS c.pts f) (fmulErr c.pts f))).1.parts = pvv at hlt2 hone hcel ⊢
  repeat' (first | simp only [push_cast, seval, EE_P, hz3, hone, hcel] | simp (disch := omega) only [wrap_fits] | ((first | with_reducible apply wcall_pure | with_reducible apply wdcall_pure); focus (first | assumption | exact valid_credit_fn _ (by assumption) (by omega) | exact isName_fn _ | exact mul_fn goodEE EE_P _ _ _ _ | exact less_fn goodEE EE_P _ _ _ _ | exact valid_fn goodEE EE_P _ _)) | (with_reducible refine wguard_split_t (fun h => ?_) (fun h => ?_)) | (with_reducible refine wguard_split_f (fun h => ?_) (fun h => ?_)) | (with_reducible refine wcond_split (fun h => ?_) (fun h => ?_)) | (with_reducible refine wdguard_split_t (fun h => ?_) (fun h => ?_)) | (with_reducible refine wdguard_split_f (fun h => ?_) (fun h => ?_)) | (with_reducible refine And.intro (fun h => ?_) (fun h => ?_)) | (with_reducible apply And.intro; focus omega))
  refine ends_ret (by simp only [resultsOf, resOf, push_cast, seval, EE_P]; rfl) (by simp only [push_cast, seval, EE_P]) rfl (Keeps.new hwf hk3 (by omega) _) ?_
  simp only [lt_tup, lt_agg, List.mem_cons, List.not_mem_nil, or_false, forall_eq_or_imp, forall_eq, lt_int, and_self, and_true]
  exact hlt2
theorem scale_any {c : Credit} {v : PV} (hv : SliceP (c.parts.map Part.cs) v) (hl : c.parts.length ≤ 1000000) (name : ByteArray) (f : Frac) : Pure EE 22 [c.pv v, .str name, f.pv] (.tup [(scaleS c name f).1.val, .int .i64 (scaleS c name f).2]) := by
  by_cases hps : c.parts = []
  · by_cases hvn : v = .nil
    · exact scale_fn hv hl name f fun _ => hvn
    · have hve : v = .empty ∨ v = .list [] := by
        cases hv with
        | list => rw [hps]; exact .inr rfl
        | nil h => exact absurd rfl hvn
        | empty h => exact .inl rfl
      unfold scaleS
      by_cases hb : scaleBad c name f
      · rw [if_pos hb]
        exact scale_bad hv hl name f hb
      · rw [if_neg hb]
        exact scale_good_e hv name f hb hps hve
  · exact scale_fn hv hl name f fun h => absurd h hps
end Go.Proofs.YtdajoilaakiinaaGreatDoor.Awp
