/- Texts of fractions; sums. -/
import Derived.Test.YtdajoilaakiinaaGreatDoorMC
import Derived.Test.YtdajoilaakiinaaGreatDoorMB
set_option linter.unusedSimpArgs false
set_option linter.unusedVariables false
namespace Go.Proofs.YtdajoilaakiinaaGreatDoor.Awp
open Go Go.Proofs
set_option linter.unusedSimpArgs false
set_option linter.unusedVariables false
set_option maxRecDepth 10000
set_option maxHeartbeats 4000000

theorem decDigits_len (u : Nat) : 1 ≤ (Lib.decDigits u).length ∧ (Lib.decDigits u).length ≤ u + 1 := by
  induction u using Nat.strongRecOn with
  | _ u ih =>
    rw [Lib.decDigits]
    split
    · simp
    · have := ih (u / 10) (by omega)
      simp
      omega
theorem itoaS_size (n : Int) : 1 ≤ (itoaS n).size ∧ (itoaS n).size ≤ n.natAbs + 2 := by
  have e : (itoaS n).size = (Lib.itoa n).length := by simp [itoaS, ByteArray.size]
  rw [e]
  unfold Lib.itoa
  split
  · have := decDigits_len n.natAbs
    simp; omega
  · have := decDigits_len n.toNat
    omega
def formatS (f : Frac) : ByteArray := if FV f.n f.d then (if f.d = 1 then itoaS f.n else itoaS f.n ++ (⟨#[47]⟩ : ByteArray) ++ itoaS f.d) else ⟨#[]⟩
theorem format_fn (f : Frac) : Pure EE 54 [f.pv] (.str (formatS f)) := by
  by_cases hv : FV f.n f.d
  · obtain ⟨h1, h2, h3, h4, _⟩ := id hv
    have z1 := itoaS_size f.n
    have z2 := itoaS_size f.d
    intro σ nx
    refine fn_of_body goodEE (by rw [EE_P]; exact Tryz.func54) rfl rfl (by kernel_rfl) (Nat.le_of_ble_eq_true rfl) (Nat.le_refl _) fun hwf hlt => ?_
    rw [show Tryz.f54.results.toList = [.tmp 2] from rfl]
    refine awp_begin _ _ _ _ _ (cc := _) (by conv => lhs; simp only [push_cast, seval, Tryz.f54]) ?_
    simp only [push_cast, seval, EE_P]
    repeat' (first | simp only [push_cast, seval, EE_P, hv] | simp (disch := omega) only [wrap_fits] | ((first | with_reducible apply wcall_pure | with_reducible apply wdcall_pure); focus (first | assumption | exact itoa_fn (by omega) (by omega) | exact valid_fn goodEE EE_P _ _)) | (with_reducible refine wguard_split_t (fun h => ?_) (fun h => ?_)) | (with_reducible refine wguard_split_f (fun h => ?_) (fun h => ?_)) | (with_reducible refine wcond_split (fun h => ?_) (fun h => ?_)) | (with_reducible refine wdguard_split_t (fun h => ?_) (fun h => ?_)) | (with_reducible refine wdguard_split_f (fun h => ?_) (fun h => ?_)) | (with_reducible refine And.intro (fun h => ?_) (fun h => ?_)) | (with_reducible apply And.intro; focus omega))
    all_goals ((refine ends_ret (by simp only [resultsOf, resOf, push_cast, seval, EE_P]; rfl) (by simp only [push_cast, seval, EE_P]) ?_ (by repeat' (first | exact Keeps.refl _ | assumption | exact (hwf.keep1 _) | refine Keeps.new hwf ?_ (by omega) _)) (by simp only [lt_int, lt_bool, lt_str, lt_nil, lt_empty, lt_agg, lt_tup, lt_list, lt_cells, lt_fn, lt_nilp, lt_nilfn, lt_nili, List.mem_cons, List.not_mem_nil, or_false, forall_eq_or_imp, forall_eq, and_true, true_and, and_self, implies_true, *]; try omega)); (try simp only [tupOf, push_cast, seval, EE_P]))
    all_goals (first | (simp_all [formatS]; done) | (simp_all [formatS]; omega) | (simp [formatS, *]; done) | (simp [formatS, *]; omega))
  · intro σ nx
    refine fn_of_body goodEE (by rw [EE_P]; exact Tryz.func54) rfl rfl (by kernel_rfl) (Nat.le_of_ble_eq_true rfl) (Nat.le_refl _) fun hwf hlt => ?_
    rw [show Tryz.f54.results.toList = [.tmp 2] from rfl]
    refine awp_begin _ _ _ _ _ (cc := _) (by conv => lhs; simp only [push_cast, seval, Tryz.f54]) ?_
    simp only [push_cast, seval, EE_P]
    repeat' (first | simp only [push_cast, seval, EE_P, hv] | simp (disch := omega) only [wrap_fits] | ((first | with_reducible apply wcall_pure | with_reducible apply wdcall_pure); focus (first | assumption | exact itoa_fn (by omega) (by omega) | exact valid_fn goodEE EE_P _ _)) | (with_reducible refine wguard_split_t (fun h => ?_) (fun h => ?_)) | (with_reducible refine wguard_split_f (fun h => ?_) (fun h => ?_)) | (with_reducible refine wcond_split (fun h => ?_) (fun h => ?_)) | (with_reducible refine wdguard_split_t (fun h => ?_) (fun h => ?_)) | (with_reducible refine wdguard_split_f (fun h => ?_) (fun h => ?_)) | (with_reducible refine And.intro (fun h => ?_) (fun h => ?_)) | (with_reducible apply And.intro; focus omega))
    all_goals ((refine ends_ret (by simp only [resultsOf, resOf, push_cast, seval, EE_P]; rfl) (by simp only [push_cast, seval, EE_P]) ?_ (by repeat' (first | exact Keeps.refl _ | assumption | exact (hwf.keep1 _) | refine Keeps.new hwf ?_ (by omega) _)) (by simp only [lt_int, lt_bool, lt_str, lt_nil, lt_empty, lt_agg, lt_tup, lt_list, lt_cells, lt_fn, lt_nilp, lt_nilfn, lt_nili, List.mem_cons, List.not_mem_nil, or_false, forall_eq_or_imp, forall_eq, and_true, true_and, and_self, implies_true, *]; try omega)); (try simp only [tupOf, push_cast, seval, EE_P]))
    all_goals (first | (simp_all [formatS]; done) | (simp_all [formatS]; omega) | (simp [formatS, *]; done) | (simp [formatS, *]; omega))
def hasPrefixS (s p : ByteArray) : Bool := decide ((s.size : Int) ≥ p.size) && decide (s.extract 0 p.size = p)
theorem hasPrefix_fn (s p : ByteArray) : Pure EE 102 [.str s, .str p] (.bool (hasPrefixS s p)) := by
  intro σ nx
  refine fn_of_body goodEE (by rw [EE_P]; exact Tryz.func102) rfl rfl (by kernel_rfl) (Nat.le_of_ble_eq_true rfl) (Nat.le_refl _) fun hwf hlt => ?_
  rw [show Tryz.f102.results.toList = [.tmp 4] from rfl]
  refine awp_begin _ _ _ _ _ (cc := _) (by conv => lhs; simp only [push_cast, seval, Tryz.f102]) ?_
  simp only [push_cast, seval, EE_P]
  repeat' (first | simp only [push_cast, seval, EE_P, Int.toNat_natCast] | simp (disch := omega) only [wrap_fits] | ((first | with_reducible apply wcall_pure | with_reducible apply wdcall_pure); focus (first | assumption | fail)) | (with_reducible refine wguard_split_t (fun h => ?_) (fun h => ?_)) | (with_reducible refine wguard_split_f (fun h => ?_) (fun h => ?_)) | (with_reducible refine wcond_split (fun h => ?_) (fun h => ?_)) | (with_reducible refine wdguard_split_t (fun h => ?_) (fun h => ?_)) | (with_reducible refine wdguard_split_f (fun h => ?_) (fun h => ?_)) | (with_reducible refine And.intro (fun h => ?_) (fun h => ?_)) | (with_reducible apply And.intro; focus omega))
  all_goals ((refine ends_ret (by simp only [resultsOf, resOf, push_cast, seval, EE_P]; rfl) (by simp only [push_cast, seval, EE_P]) ?_ (by repeat' (first | exact Keeps.refl _ | assumption | exact (hwf.keep1 _) | refine Keeps.new hwf ?_ (by omega) _)) (by simp only [lt_int, lt_bool, lt_str, lt_nil, lt_empty, lt_agg, lt_tup, lt_list, lt_cells, lt_fn, lt_nilp, lt_nilfn, lt_nili, List.mem_cons, List.not_mem_nil, or_false, forall_eq_or_imp, forall_eq, and_true, true_and, and_self, implies_true, *]; try omega)); (try simp only [tupOf, push_cast, seval, EE_P]))
  all_goals (first | (simp_all [hasPrefixS]; done) | (simp_all [hasPrefixS]; omega) | (simp [hasPrefixS, *]; done) | (simp [hasPrefixS, *]; omega))
def cutPrefixS (s p : ByteArray) : ByteArray := if hasPrefixS s p = true then s.extract p.size s.size else s
theorem cutPrefix1_fn (s p : ByteArray) : Pure EE 84 [.str s, .str p] (.tup [.str (cutPrefixS s p), .bool (hasPrefixS s p)]) := by
  have hle : hasPrefixS s p = true → (p.size : Int) ≤ s.size := fun h => by simp [hasPrefixS] at h; omega
  cases hp : hasPrefixS s p
  · intro σ nx
    refine fn_of_body goodEE (by rw [EE_P]; exact Tryz.func84) rfl rfl (by kernel_rfl) (Nat.le_of_ble_eq_true rfl) (Nat.le_refl _) fun hwf hlt => ?_
    rw [show Tryz.f84.results.toList = [.tmp 4, .tmp 5] from rfl]
    refine awp_begin _ _ _ _ _ (cc := _) (by conv => lhs; simp only [push_cast, seval, Tryz.f84]) ?_
    simp only [push_cast, seval, EE_P]
    repeat' (first | simp only [push_cast, seval, EE_P, hp] | simp (disch := omega) only [wrap_fits] | ((first | with_reducible apply wcall_pure | with_reducible apply wdcall_pure); focus (first | assumption | exact hasPrefix_fn _ _)) | (with_reducible refine wguard_split_t (fun h => ?_) (fun h => ?_)) | (with_reducible refine wguard_split_f (fun h => ?_) (fun h => ?_)) | (with_reducible refine wcond_split (fun h => ?_) (fun h => ?_)) | (with_reducible refine wdguard_split_t (fun h => ?_) (fun h => ?_)) | (with_reducible refine wdguard_split_f (fun h => ?_) (fun h => ?_)) | (with_reducible refine And.intro (fun h => ?_) (fun h => ?_)) | (with_reducible apply And.intro; focus omega))
    all_goals ((refine ends_ret (by simp only [resultsOf, resOf, push_cast, seval, EE_P]; rfl) (by simp only [push_cast, seval, EE_P]) ?_ (by repeat' (first | exact Keeps.refl _ | assumption | exact (hwf.keep1 _) | refine Keeps.new hwf ?_ (by omega) _)) (by simp only [lt_int, lt_bool, lt_str, lt_nil, lt_empty, lt_agg, lt_tup, lt_list, lt_cells, lt_fn, lt_nilp, lt_nilfn, lt_nili, List.mem_cons, List.not_mem_nil, or_false, forall_eq_or_imp, forall_eq, and_true, true_and, and_self, implies_true, *]; try omega)); (try simp only [tupOf, push_cast, seval, EE_P]))
    all_goals (first | (simp_all [cutPrefixS]; done) | (simp_all [cutPrefixS]; omega) | (simp [cutPrefixS, *]; done) | (simp [cutPrefixS, *]; omega))
  · have hle := hle hp
    intro σ nx
    refine fn_of_body goodEE (by rw [EE_P]; exact Tryz.func84) rfl rfl (by kernel_rfl) (Nat.le_of_ble_eq_true rfl) (Nat.le_refl _) fun hwf hlt => ?_
    rw [show Tryz.f84.results.toList = [.tmp 4, .tmp 5] from rfl]
    refine awp_begin _ _ _ _ _ (cc := _) (by conv => lhs; simp only [push_cast, seval, Tryz.f84]) ?_
    simp only [push_cast, seval, EE_P]
    repeat' (first | simp only [push_cast, seval, EE_P, hp, hle, Int.toNat_natCast] | simp (disch := omega) only [wrap_fits] | ((first | with_reducible apply wcall_pure | with_reducible apply wdcall_pure); focus (first | assumption | exact hasPrefix_fn _ _)) | (with_reducible refine wguard_split_t (fun h => ?_) (fun h => ?_)) | (with_reducible refine wguard_split_f (fun h => ?_) (fun h => ?_)) | (with_reducible refine wcond_split (fun h => ?_) (fun h => ?_)) | (with_reducible refine wdguard_split_t (fun h => ?_) (fun h => ?_)) | (with_reducible refine wdguard_split_f (fun h => ?_) (fun h => ?_)) | (with_reducible refine And.intro (fun h => ?_) (fun h => ?_)) | (with_reducible apply And.intro; focus omega))
    all_goals ((refine ends_ret (by simp only [resultsOf, resOf, push_cast, seval, EE_P]; rfl) (by simp only [push_cast, seval, EE_P]) ?_ (by repeat' (first | exact Keeps.refl _ | assumption | exact (hwf.keep1 _) | refine Keeps.new hwf ?_ (by omega) _)) (by simp only [lt_int, lt_bool, lt_str, lt_nil, lt_empty, lt_agg, lt_tup, lt_list, lt_cells, lt_fn, lt_nilp, lt_nilfn, lt_nili, List.mem_cons, List.not_mem_nil, or_false, forall_eq_or_imp, forall_eq, and_true, true_and, and_self, implies_true, *]; try omega)); (try simp only [tupOf, push_cast, seval, EE_P]))
    all_goals (first | (simp_all [cutPrefixS]; done) | (simp_all [cutPrefixS]; omega) | (simp [cutPrefixS, *]; done) | (simp [cutPrefixS, *]; omega))
theorem cutPrefix_fn (s p : ByteArray) : Pure EE 53 [.str s, .str p] (.tup [.str (cutPrefixS s p), .bool (hasPrefixS s p)]) := by
  intro σ nx
  refine fn_of_body goodEE (by rw [EE_P]; exact Tryz.func53) rfl rfl (by kernel_rfl) (Nat.le_of_ble_eq_true rfl) (Nat.le_refl _) fun hwf hlt => ?_
  rw [show Tryz.f53.results.toList = [.tmp 4, .tmp 5] from rfl]
  refine awp_begin _ _ _ _ _ (cc := _) (by conv => lhs; simp only [push_cast, seval, Tryz.f53]) ?_
  simp only [push_cast, seval, EE_P]
  repeat' (first | simp only [push_cast, seval, EE_P] | simp (disch := omega) only [wrap_fits] | ((first | with_reducible apply wcall_pure | with_reducible apply wdcall_pure); focus (first | assumption | exact cutPrefix1_fn _ _)) | (with_reducible refine wguard_split_t (fun h => ?_) (fun h => ?_)) | (with_reducible refine wguard_split_f (fun h => ?_) (fun h => ?_)) | (with_reducible refine wcond_split (fun h => ?_) (fun h => ?_)) | (with_reducible refine wdguard_split_t (fun h => ?_) (fun h => ?_)) | (with_reducible refine wdguard_split_f (fun h => ?_) (fun h => ?_)) | (with_reducible refine And.intro (fun h => ?_) (fun h => ?_)) | (with_reducible apply And.intro; focus omega))
  all_goals ((refine ends_ret (by simp only [resultsOf, resOf, push_cast, seval, EE_P]; rfl) (by simp only [push_cast, seval, EE_P]) ?_ (by repeat' (first | exact Keeps.refl _ | assumption | exact (hwf.keep1 _) | refine Keeps.new hwf ?_ (by omega) _)) (by simp only [lt_int, lt_bool, lt_str, lt_nil, lt_empty, lt_agg, lt_tup, lt_list, lt_cells, lt_fn, lt_nilp, lt_nilfn, lt_nili, List.mem_cons, List.not_mem_nil, or_false, forall_eq_or_imp, forall_eq, and_true, true_and, and_self, implies_true, *]; try omega)); (try simp only [tupOf, push_cast, seval, EE_P]))
def signS (n : Int) : ByteArray := if n < 0 then (⟨#[45]⟩ : ByteArray) else ⟨#[]⟩
def restS (n power : Int) : ByteArray := (itoaS (power + (n.natAbs : Int).tmod power)).extract 1 (itoaS (power + (n.natAbs : Int).tmod power)).size
def pointS (n power : Int) : ByteArray := signS n ++ itoaS ((n.natAbs : Int).tdiv power) ++ (⟨#[46]⟩ : ByteArray) ++ restS n power
theorem tmod_bd {a b : Int} (ha : 0 ≤ a) (hb : 0 < b) : 0 ≤ a.tmod b ∧ a.tmod b < b := ⟨Int.tmod_nonneg b ha, Int.tmod_lt_of_pos a hb⟩
theorem tdiv_bd {a b : Int} (ha : 0 ≤ a) (hb : 0 < b) : 0 ≤ a.tdiv b ∧ a.tdiv b ≤ a := by
  rw [Int.tdiv_eq_ediv_of_nonneg ha]
  exact ⟨Int.ediv_nonneg ha (by omega), Int.ediv_le_self b ha⟩
theorem point_fn {n power : Int} (h0 : -1000000000000000 ≤ n) (h1 : n ≤ 1000000000000000) (h2 : 0 < power) (h3 : power ≤ 1000000) : Pure EE 86 [.int .i64 n, .int .i64 power] (.str (pointS n power)) := by
  have m1 := tmod_bd (a := n.natAbs) (b := power) (by omega) h2
  have m2 := tdiv_bd (a := n.natAbs) (b := power) (by omega) h2
  have hp0 : ¬ power = 0 := by omega
  have w1 : IntKind.i64.wrap (power + (n.natAbs : Int).tmod power) = power + (n.natAbs : Int).tmod power := wrap_small (by omega) (by omega)
  have w2 : IntKind.i64.wrap ((n.natAbs : Int).tdiv power) = (n.natAbs : Int).tdiv power := wrap_small (by omega) (by omega)
  have z1 := itoaS_size (power + (n.natAbs : Int).tmod power)
  have z2 := itoaS_size ((n.natAbs : Int).tdiv power)
  have z3 : (1 : Int) ≤ (itoaS (power + (n.natAbs : Int).tmod power)).size := by omega
  have z4 : (restS n power).size = (itoaS (power + (n.natAbs : Int).tmod power)).size - 1 := by unfold restS; simp
  have hr : (itoaS (power + (n.natAbs : Int).tmod power)).extract 1 (itoaS (power + (n.natAbs : Int).tmod power)).size = restS n power := rfl
  by_cases hn : n < 0
  · intro σ nx
    refine fn_of_body goodEE (by rw [EE_P]; exact Tryz.func86) rfl rfl (by kernel_rfl) (Nat.le_of_ble_eq_true rfl) (Nat.le_refl _) fun hwf hlt => ?_
    rw [show Tryz.f86.results.toList = [.tmp 4] from rfl]
    refine awp_begin _ _ _ _ _ (cc := _) (by conv => lhs; simp only [push_cast, seval, Tryz.f86]) ?_
    simp only [push_cast, seval, EE_P]
    repeat' (first | simp only [push_cast, seval, EE_P, hn, hp0, w1, w2, z3, hr, Int.toNat_natCast] | simp (disch := omega) only [wrap_fits] | ((first | with_reducible apply wcall_pure | with_reducible apply wdcall_pure); focus (first | assumption | exact itoa_fn (by omega) (by omega) | exact abs_fn goodEE EE_P (by omega) (by omega))) | (with_reducible refine wguard_split_t (fun h => ?_) (fun h => ?_)) | (with_reducible refine wguard_split_f (fun h => ?_) (fun h => ?_)) | (with_reducible refine wcond_split (fun h => ?_) (fun h => ?_)) | (with_reducible refine wdguard_split_t (fun h => ?_) (fun h => ?_)) | (with_reducible refine wdguard_split_f (fun h => ?_) (fun h => ?_)) | (with_reducible refine And.intro (fun h => ?_) (fun h => ?_)) | (with_reducible apply And.intro; focus omega))
    all_goals ((refine ends_ret (by simp only [resultsOf, resOf, push_cast, seval, EE_P]; rfl) (by simp only [push_cast, seval, EE_P]) ?_ (by repeat' (first | exact Keeps.refl _ | assumption | exact (hwf.keep1 _) | refine Keeps.new hwf ?_ (by omega) _)) (by simp only [lt_int, lt_bool, lt_str, lt_nil, lt_empty, lt_agg, lt_tup, lt_list, lt_cells, lt_fn, lt_nilp, lt_nilfn, lt_nili, List.mem_cons, List.not_mem_nil, or_false, forall_eq_or_imp, forall_eq, and_true, true_and, and_self, implies_true, *]; try omega)); (try simp only [tupOf, push_cast, seval, EE_P]))
    simp [pointS, signS, hn]
  · intro σ nx
    refine fn_of_body goodEE (by rw [EE_P]; exact Tryz.func86) rfl rfl (by kernel_rfl) (Nat.le_of_ble_eq_true rfl) (Nat.le_refl _) fun hwf hlt => ?_
    rw [show Tryz.f86.results.toList = [.tmp 4] from rfl]
    refine awp_begin _ _ _ _ _ (cc := _) (by conv => lhs; simp only [push_cast, seval, Tryz.f86]) ?_
    simp only [push_cast, seval, EE_P]
    repeat' (first | simp only [push_cast, seval, EE_P, hn, hp0, w1, w2, z3, hr, Int.toNat_natCast] | simp (disch := omega) only [wrap_fits] | ((first | with_reducible apply wcall_pure | with_reducible apply wdcall_pure); focus (first | assumption | exact itoa_fn (by omega) (by omega) | exact abs_fn goodEE EE_P (by omega) (by omega))) | (with_reducible refine wguard_split_t (fun h => ?_) (fun h => ?_)) | (with_reducible refine wguard_split_f (fun h => ?_) (fun h => ?_)) | (with_reducible refine wcond_split (fun h => ?_) (fun h => ?_)) | (with_reducible refine wdguard_split_t (fun h => ?_) (fun h => ?_)) | (with_reducible refine wdguard_split_f (fun h => ?_) (fun h => ?_)) | (with_reducible refine And.intro (fun h => ?_) (fun h => ?_)) | (with_reducible apply And.intro; focus omega))
    all_goals ((refine ends_ret (by simp only [resultsOf, resOf, push_cast, seval, EE_P]; rfl) (by simp only [push_cast, seval, EE_P]) ?_ (by repeat' (first | exact Keeps.refl _ | assumption | exact (hwf.keep1 _) | refine Keeps.new hwf ?_ (by omega) _)) (by simp only [lt_int, lt_bool, lt_str, lt_nil, lt_empty, lt_agg, lt_tup, lt_list, lt_cells, lt_fn, lt_nilp, lt_nilfn, lt_nili, List.mem_cons, List.not_mem_nil, or_false, forall_eq_or_imp, forall_eq, and_true, true_and, and_self, implies_true, *]; try omega)); (try simp only [tupOf, push_cast, seval, EE_P]))
    simp [pointS, signS, hn]
def pointsTextS (n : Int) : ByteArray := if n < -100000000 ∨ n > 100000000 then ⟨#[]⟩ else pointS n 100
theorem pointsText_fn (n : Int) : Pure EE 55 [.int .i64 n] (.str (pointsTextS n)) := by
  by_cases hb : n < -100000000 ∨ n > 100000000
  · intro σ nx
    refine fn_of_body goodEE (by rw [EE_P]; exact Tryz.func55) rfl rfl (by kernel_rfl) (Nat.le_of_ble_eq_true rfl) (Nat.le_refl _) fun hwf hlt => ?_
    rw [show Tryz.f55.results.toList = [.tmp 2] from rfl]
    refine awp_begin _ _ _ _ _ (cc := _) (by conv => lhs; simp only [push_cast, seval, Tryz.f55]) ?_
    simp only [push_cast, seval, EE_P]
    repeat' (first | simp only [push_cast, seval, EE_P] | simp (disch := omega) only [wrap_fits] | ((first | with_reducible apply wcall_pure | with_reducible apply wdcall_pure); focus (first | assumption | fail)) | (with_reducible refine wguard_split_t (fun h => ?_) (fun h => ?_)) | (with_reducible refine wguard_split_f (fun h => ?_) (fun h => ?_)) | (with_reducible refine wcond_split (fun h => ?_) (fun h => ?_)) | (with_reducible refine wdguard_split_t (fun h => ?_) (fun h => ?_)) | (with_reducible refine wdguard_split_f (fun h => ?_) (fun h => ?_)) | (with_reducible refine And.intro (fun h => ?_) (fun h => ?_)) | (with_reducible apply And.intro; focus omega))
    all_goals (try (exfalso; omega))
    all_goals ((refine ends_ret (by simp only [resultsOf, resOf, push_cast, seval, EE_P]; rfl) (by simp only [push_cast, seval, EE_P]) ?_ (by repeat' (first | exact Keeps.refl _ | assumption | exact (hwf.keep1 _) | refine Keeps.new hwf ?_ (by omega) _)) (by simp only [lt_int, lt_bool, lt_str, lt_nil, lt_empty, lt_agg, lt_tup, lt_list, lt_cells, lt_fn, lt_nilp, lt_nilfn, lt_nili, List.mem_cons, List.not_mem_nil, or_false, forall_eq_or_imp, forall_eq, and_true, true_and, and_self, implies_true, *]; try omega)); (try simp only [tupOf, push_cast, seval, EE_P]))
    all_goals (unfold pointsTextS; rw [if_pos hb])
  · have h1 : ¬ n < -100000000 := by omega
    have h2 : ¬ n > 100000000 := by omega
    have hp := point_fn (n := n) (power := 100) (by omega) (by omega) (by omega) (by omega)
    intro σ nx
    refine fn_of_body goodEE (by rw [EE_P]; exact Tryz.func55) rfl rfl (by kernel_rfl) (Nat.le_of_ble_eq_true rfl) (Nat.le_refl _) fun hwf hlt => ?_
    rw [show Tryz.f55.results.toList = [.tmp 2] from rfl]
    refine awp_begin _ _ _ _ _ (cc := _) (by conv => lhs; simp only [push_cast, seval, Tryz.f55]) ?_
    simp only [push_cast, seval, EE_P]
    repeat' (first | simp only [push_cast, seval, EE_P, h1, h2] | simp (disch := omega) only [wrap_fits] | ((first | with_reducible apply wcall_pure | with_reducible apply wdcall_pure); focus (first | assumption | fail)) | (with_reducible refine wguard_split_t (fun h => ?_) (fun h => ?_)) | (with_reducible refine wguard_split_f (fun h => ?_) (fun h => ?_)) | (with_reducible refine wcond_split (fun h => ?_) (fun h => ?_)) | (with_reducible refine wdguard_split_t (fun h => ?_) (fun h => ?_)) | (with_reducible refine wdguard_split_f (fun h => ?_) (fun h => ?_)) | (with_reducible refine And.intro (fun h => ?_) (fun h => ?_)) | (with_reducible apply And.intro; focus omega))
    all_goals ((refine ends_ret (by simp only [resultsOf, resOf, push_cast, seval, EE_P]; rfl) (by simp only [push_cast, seval, EE_P]) ?_ (by repeat' (first | exact Keeps.refl _ | assumption | exact (hwf.keep1 _) | refine Keeps.new hwf ?_ (by omega) _)) (by simp only [lt_int, lt_bool, lt_str, lt_nil, lt_empty, lt_agg, lt_tup, lt_list, lt_cells, lt_fn, lt_nilp, lt_nilfn, lt_nili, List.mem_cons, List.not_mem_nil, or_false, forall_eq_or_imp, forall_eq, and_true, true_and, and_self, implies_true, *]; try omega)); (try simp only [tupOf, push_cast, seval, EE_P]))
    all_goals (unfold pointsTextS; rw [if_neg hb])

/-! ### sums -/
def Frac.cs (f : Frac) : List PV := [.int .i64 f.n, .int .i64 f.d]
attribute [push_cast] Frac.cs
def allS (l : List Frac) : Bool := l.all fun f => decide (FV f.n f.d)
theorem frac2 (l : List Frac) : (∀ c ∈ l.map Frac.cs, c.length = 2) = True := eq_true fun c hc => by
  obtain ⟨f, _, rfl⟩ := List.mem_map.1 hc
  rfl
theorem allS_no {l : List Frac} {i : Nat} (h : i < l.length) (hn : ¬ FV l[i].n l[i].d) : allS l = false := by
  unfold allS
  rw [List.all_eq_false]
  exact ⟨l[i], List.getElem_mem h, by simpa using hn⟩
theorem allS_yes {l : List Frac} (h : ∀ j (hj : j < l.length), FV l[j].n l[j].d) : allS l = true := by
  unfold allS
  rw [List.all_eq_true]
  intro f hf
  obtain ⟨j, hj, rfl⟩ := List.getElem_of_mem hf
  exact decide_eq_true (h j hj)
theorem all_fn {l : List Frac} {v : PV} (hv : SliceP (l.map Frac.cs) v) (hl : l.length ≤ 4611686018427387904) : Pure EE 81 [v] (.bool (allS l)) := by
  have hvl := hv.len
  simp only [List.length_map] at hvl
  intro σ nx
  refine fn_of_body goodEE (by rw [EE_P]; exact Tryz.func81) rfl rfl (by kernel_rfl) (Nat.le_of_ble_eq_true rfl) (Nat.le_refl _) fun hwf hlt => ?_
  rw [show Tryz.f81.results.toList = [.tmp 2] from rfl]
  refine awp_begin _ _ _ _ _ (cc := _) (by conv => lhs; simp only [push_cast, seval, Tryz.f81]) ?_
  simp only [push_cast, seval, EE_P]
  repeat' (first | simp only [push_cast, seval, EE_P, hvl, hv.str] | simp (disch := omega) only [wrap_fits] | ((first | with_reducible apply wcall_pure | with_reducible apply wdcall_pure); focus (first | assumption | exact valid_fn goodEE EE_P _ _)) | (with_reducible refine wguard_split_t (fun h => ?_) (fun h => ?_)) | (with_reducible refine wguard_split_f (fun h => ?_) (fun h => ?_)) | (with_reducible refine wcond_split (fun h => ?_) (fun h => ?_)) | (with_reducible refine wdguard_split_t (fun h => ?_) (fun h => ?_)) | (with_reducible refine wdguard_split_f (fun h => ?_) (fun h => ?_)) | (with_reducible refine And.intro (fun h => ?_) (fun h => ?_)) | (with_reducible apply And.intro; focus omega))
  refine wloop_by (fun m sl σ' nx' => ∃ i : Nat, i ≤ l.length ∧ m = l.length - i ∧ (∀ j (hj : j < l.length), j < i → FV l[j].n l[j].d) ∧ sl 5 = v ∧ sl 6 = .int .i64 l.length ∧ sl 7 = .int .i64 i ∧ Keeps σ σ' ∧ nx ≤ nx') l.length
    ⟨0, by omega, rfl, fun j _ h => by omega, rfl, rfl, rfl, .refl _, by omega⟩ ?_
  rintro m sl σ' nx' ⟨i, hi, hm, hb, h5, h6, h7, hk, hnx⟩
  have hi0 : (0 : Int) ≤ i := by omega
  by_cases hil : i < l.length
  · have hil' : (i : Int) < l.length := by omega
    have h5' : sl 5 = .list (l.map Frac.cs) := h5.trans (hv.lt (i := i) (by simpa using hil))
    have hw : IntKind.i64.wrap ((i : Int) + 1) = (i : Int) + 1 := wrap_small (by omega) (by omega)
    have hget : (l.map Frac.cs)[i]? = some l[i].cs := by rw [List.getElem?_map, List.getElem?_eq_getElem hil]; rfl
    have hno := allS_no hil
    generalize hf : l[i] = f at hget hno
    repeat' (first | simp only [push_cast, seval, EE_P, h5', h6, h7, hi0, hil', hget, hw, List.length_map, Int.toNat_natCast] | simp (disch := omega) only [wrap_fits] | ((first | with_reducible apply wcall_pure | with_reducible apply wdcall_pure); focus (first | assumption | exact valid_fn goodEE EE_P _ _)) | (with_reducible refine wguard_split_t (fun h => ?_) (fun h => ?_)) | (with_reducible refine wguard_split_f (fun h => ?_) (fun h => ?_)) | (with_reducible refine wcond_split (fun h => ?_) (fun h => ?_)) | (with_reducible refine wdguard_split_t (fun h => ?_) (fun h => ?_)) | (with_reducible refine wdguard_split_f (fun h => ?_) (fun h => ?_)) | (with_reducible refine And.intro (fun h => ?_) (fun h => ?_)) | (with_reducible apply And.intro; focus omega))
    · ((refine ends_ret (by simp only [resultsOf, resOf, push_cast, seval, EE_P]; rfl) (by simp only [push_cast, seval, EE_P]) ?_ (by repeat' (first | exact Keeps.refl _ | assumption | exact (hwf.keep1 _) | refine Keeps.new hwf ?_ (by omega) _)) (by simp only [lt_int, lt_bool, lt_str, lt_nil, lt_empty, lt_agg, lt_tup, lt_list, lt_cells, lt_fn, lt_nilp, lt_nilfn, lt_nili, List.mem_cons, List.not_mem_nil, or_false, forall_eq_or_imp, forall_eq, and_true, true_and, and_self, implies_true, *]; try omega)); (try simp only [tupOf, push_cast, seval, EE_P]))
      rw [hno (by assumption)]
    · refine ⟨l.length - (i + 1), by omega, i + 1, by omega, rfl, fun j hj hji => ?_, h5'.symm.trans h5, by simp, (by repeat' (first | exact Keeps.refl _ | assumption | exact (hwf.keep1 _) | refine Keeps.new hwf ?_ (by omega) _)), by omega⟩
      by_cases hjj : j = i
      · subst hjj; rw [hf]; assumption
      · exact hb j hj (by omega)
  · have hil' : ¬ (i : Int) < l.length := by omega
    repeat' (first | simp only [push_cast, seval, EE_P, h5, h6, h7, hil'] | simp (disch := omega) only [wrap_fits] | ((first | with_reducible apply wcall_pure | with_reducible apply wdcall_pure); focus (first | assumption | exact valid_fn goodEE EE_P _ _)) | (with_reducible refine wguard_split_t (fun h => ?_) (fun h => ?_)) | (with_reducible refine wguard_split_f (fun h => ?_) (fun h => ?_)) | (with_reducible refine wcond_split (fun h => ?_) (fun h => ?_)) | (with_reducible refine wdguard_split_t (fun h => ?_) (fun h => ?_)) | (with_reducible refine wdguard_split_f (fun h => ?_) (fun h => ?_)) | (with_reducible refine And.intro (fun h => ?_) (fun h => ?_)) | (with_reducible apply And.intro; focus omega))
    ((refine ends_ret (by simp only [resultsOf, resOf, push_cast, seval, EE_P]; rfl) (by simp only [push_cast, seval, EE_P]) ?_ (by repeat' (first | exact Keeps.refl _ | assumption | exact (hwf.keep1 _) | refine Keeps.new hwf ?_ (by omega) _)) (by simp only [lt_int, lt_bool, lt_str, lt_nil, lt_empty, lt_agg, lt_tup, lt_list, lt_cells, lt_fn, lt_nilp, lt_nilfn, lt_nili, List.mem_cons, List.not_mem_nil, or_false, forall_eq_or_imp, forall_eq, and_true, true_and, and_self, implies_true, *]; try omega)); (try simp only [tupOf, push_cast, seval, EE_P]))
    rw [allS_yes fun j hj => hb j hj (by omega)]
def sumTo (l : List Frac) : Nat → Frac × Int
  | 0 => (⟨0, 1⟩, 0)
  | i + 1 => match l[i]? with
    | some f => if (sumTo l i).2 = 0 then (fadd (sumTo l i).1 f, faddErr (sumTo l i).1 f) else sumTo l i
    | none => sumTo l i
def sumS (l : List Frac) : Frac × Int := if l.length > 1024 ∨ allS l = false then (⟨0, 0⟩, 1) else if (sumTo l l.length).2 = 0 then sumTo l l.length else (⟨0, 0⟩, (sumTo l l.length).2)
theorem sumTo_succ {l : List Frac} {i : Nat} (h : i < l.length) : sumTo l (i + 1) = if (sumTo l i).2 = 0 then (fadd (sumTo l i).1 l[i], faddErr (sumTo l i).1 l[i]) else sumTo l i := by
  conv => lhs; unfold sumTo
  rw [List.getElem?_eq_getElem h]
theorem sumTo_err {l : List Frac} {i j : Nat} (hij : i ≤ j) (h : (sumTo l i).2 ≠ 0) : sumTo l j = sumTo l i := by
  induction hij with
  | refl => rfl
  | step _ ih =>
    conv => lhs; unfold sumTo
    rw [ih]
    split
    · rw [if_neg h]
    · rfl
theorem sum_fn {l : List Frac} {v : PV} (hv : SliceP (l.map Frac.cs) v) (hl : l.length ≤ 4611686018427387904) : Pure EE 50 [v] (.tup [(sumS l).1.pv, .int .i64 (sumS l).2]) := by
  have hvl := hv.len
  simp only [List.length_map] at hvl
  have hall := all_fn hv hl
  by_cases hbig : (l.length : Int) > 1024
  · have e : sumS l = (⟨0, 0⟩, 1) := if_pos (.inl (by omega))
    rw [e]
    intro σ nx
    refine fn_of_body goodEE (by rw [EE_P]; exact Tryz.func50) rfl rfl (by kernel_rfl) (Nat.le_of_ble_eq_true rfl) (Nat.le_refl _) fun hwf hlt => ?_
    rw [show Tryz.f50.results.toList = [.cell 2 27, .tmp 3] from rfl]
    refine awp_begin _ _ _ _ _ (cc := _) (by conv => lhs; simp only [push_cast, seval, Tryz.f50]) ?_
    simp only [push_cast, seval, EE_P]
    repeat' (first | simp only [push_cast, seval, EE_P, hvl, hv.str, hbig, decide_true] | simp (disch := omega) only [wrap_fits] | ((first | with_reducible apply wcall_pure | with_reducible apply wdcall_pure); focus (first | assumption | exact all_fn (by assumption) (by omega) | exact add_fn goodEE EE_P _ _ _ _)) | (with_reducible refine wguard_split_t (fun h => ?_) (fun h => ?_)) | (with_reducible refine wguard_split_f (fun h => ?_) (fun h => ?_)) | (with_reducible refine wcond_split (fun h => ?_) (fun h => ?_)) | (with_reducible refine wdguard_split_t (fun h => ?_) (fun h => ?_)) | (with_reducible refine wdguard_split_f (fun h => ?_) (fun h => ?_)) | (with_reducible refine And.intro (fun h => ?_) (fun h => ?_)) | (with_reducible apply And.intro; focus omega))
    ((refine ends_ret (by simp only [resultsOf, resOf, push_cast, seval, EE_P]; rfl) (by simp only [push_cast, seval, EE_P]) ?_ (by repeat' (first | exact Keeps.refl _ | assumption | exact (hwf.keep1 _) | refine Keeps.new hwf ?_ (by omega) _)) (by simp only [lt_int, lt_bool, lt_str, lt_nil, lt_empty, lt_agg, lt_tup, lt_list, lt_cells, lt_fn, lt_nilp, lt_nilfn, lt_nili, List.mem_cons, List.not_mem_nil, or_false, forall_eq_or_imp, forall_eq, and_true, true_and, and_self, implies_true, *]; try omega)); (try simp only [tupOf, push_cast, seval, EE_P]))
  cases hA : allS l
  · have e : sumS l = (⟨0, 0⟩, 1) := if_pos (.inr hA)
    rw [e]
    rw [hA] at hall
    intro σ nx
    refine fn_of_body goodEE (by rw [EE_P]; exact Tryz.func50) rfl rfl (by kernel_rfl) (Nat.le_of_ble_eq_true rfl) (Nat.le_refl _) fun hwf hlt => ?_
    rw [show Tryz.f50.results.toList = [.cell 2 27, .tmp 3] from rfl]
    refine awp_begin _ _ _ _ _ (cc := _) (by conv => lhs; simp only [push_cast, seval, Tryz.f50]) ?_
    simp only [push_cast, seval, EE_P]
    repeat' (first | simp only [push_cast, seval, EE_P, hvl, hv.str, hbig, decide_false] | simp (disch := omega) only [wrap_fits] | ((first | with_reducible apply wcall_pure | with_reducible apply wdcall_pure); focus (first | assumption | exact all_fn (by assumption) (by omega) | exact add_fn goodEE EE_P _ _ _ _)) | (with_reducible refine wguard_split_t (fun h => ?_) (fun h => ?_)) | (with_reducible refine wguard_split_f (fun h => ?_) (fun h => ?_)) | (with_reducible refine wcond_split (fun h => ?_) (fun h => ?_)) | (with_reducible refine wdguard_split_t (fun h => ?_) (fun h => ?_)) | (with_reducible refine wdguard_split_f (fun h => ?_) (fun h => ?_)) | (with_reducible refine And.intro (fun h => ?_) (fun h => ?_)) | (with_reducible apply And.intro; focus omega))
    ((refine ends_ret (by simp only [resultsOf, resOf, push_cast, seval, EE_P]; rfl) (by simp only [push_cast, seval, EE_P]) ?_ (by repeat' (first | exact Keeps.refl _ | assumption | exact (hwf.keep1 _) | refine Keeps.new hwf ?_ (by omega) _)) (by simp only [lt_int, lt_bool, lt_str, lt_nil, lt_empty, lt_agg, lt_tup, lt_list, lt_cells, lt_fn, lt_nilp, lt_nilfn, lt_nili, List.mem_cons, List.not_mem_nil, or_false, forall_eq_or_imp, forall_eq, and_true, true_and, and_self, implies_true, *]; try omega)); (try simp only [tupOf, push_cast, seval, EE_P]))
  have e : sumS l = if (sumTo l l.length).2 = 0 then sumTo l l.length else (⟨0, 0⟩, (sumTo l l.length).2) := if_neg (by rw [hA]; simp; omega)
  rw [e]
  rw [hA] at hall
  intro σ nx
  refine fn_of_body goodEE (by rw [EE_P]; exact Tryz.func50) rfl rfl (by kernel_rfl) (Nat.le_of_ble_eq_true rfl) (Nat.le_refl _) fun hwf hlt => ?_
  rw [show Tryz.f50.results.toList = [.cell 2 27, .tmp 3] from rfl]
  refine awp_begin _ _ _ _ _ (cc := _) (by conv => lhs; simp only [push_cast, seval, Tryz.f50]) ?_
  simp only [push_cast, seval, EE_P]
  repeat' (first | simp only [push_cast, seval, EE_P, hvl, hv.str, hbig, decide_false] | simp (disch := omega) only [wrap_fits] | ((first | with_reducible apply wcall_pure | with_reducible apply wdcall_pure); focus (first | assumption | exact all_fn (by assumption) (by omega) | exact add_fn goodEE EE_P _ _ _ _)) | (with_reducible refine wguard_split_t (fun h => ?_) (fun h => ?_)) | (with_reducible refine wguard_split_f (fun h => ?_) (fun h => ?_)) | (with_reducible refine wcond_split (fun h => ?_) (fun h => ?_)) | (with_reducible refine wdguard_split_t (fun h => ?_) (fun h => ?_)) | (with_reducible refine wdguard_split_f (fun h => ?_) (fun h => ?_)) | (with_reducible refine And.intro (fun h => ?_) (fun h => ?_)) | (with_reducible apply And.intro; focus omega))
  refine wloop_by (fun m sl σ' nx' => ∃ i k4 : Nat, i ≤ l.length ∧ m = l.length - i ∧ nx ≤ k4 ∧ k4 < nx' ∧ k4 ≠ nx ∧ (sumTo l i).2 = 0 ∧ sl 2 = .ptr nx 0 0 ∧ sl 4 = .ptr k4 0 0 ∧ sl 18 = v ∧ sl 19 = .int .i64 l.length ∧ sl 20 = .int .i64 i ∧ σ' nx = some (.row [[.int .i64 0, .int .i64 0]]) ∧ σ' k4 = some (.row [(sumTo l i).1.cs]) ∧ Keeps σ σ') l.length
    ⟨0, nx + 11, by omega, rfl, by omega, by omega, by omega, rfl, rfl, rfl, rfl, rfl, rfl, ?_, ?_, (by repeat' (first | exact Keeps.refl _ | assumption | exact (hwf.keep1 _) | refine Keeps.new hwf ?_ (by omega) _))⟩ ?_
  · simp only [upd_at, push_cast, seval]
  · simp only [upd_at, push_cast, seval, sumTo]
  rintro m sl σ' nx' ⟨i, k4, hi, hm, hk1, hk2, hk3, hs0, h2, h4, h18, h19, h20, hsn, hs4, hk⟩
  have hi0 : (0 : Int) ≤ i := by omega
  have hnn : nx < nx' := by omega
  by_cases hil : i < l.length
  · have hil' : (i : Int) < l.length := by omega
    have h18' : sl 18 = .list (l.map Frac.cs) := h18.trans (hv.lt (i := i) (by simpa using hil))
    have hw : IntKind.i64.wrap ((i : Int) + 1) = (i : Int) + 1 := wrap_small (by omega) (by omega)
    have hget : (l.map Frac.cs)[i]? = some l[i].cs := by rw [List.getElem?_map, List.getElem?_eq_getElem hil]; rfl
    have hst := sumTo_succ hil
    rw [if_pos hs0] at hst
    generalize hf : l[i] = f at hget hst
    generalize hg : (sumTo l i).1 = g at hst hs4
    repeat' (first | simp only [push_cast, seval, EE_P, h2, h4, h18', h19, h20, hi0, hil', hget, hw, List.length_map, Int.toNat_natCast, (key_ne hk2).1, (key_ne hk2).2.1, (key_ne hk2).2.2.1, (key_ne hk2).2.2.2, (key_ne hnn).1, (key_ne hnn).2.1, (key_ne hnn).2.2.1, (key_ne hnn).2.2.2, (ne_keys hk3).1, (ne_keys hk3).2, hsn, hs4] | simp (disch := omega) only [wrap_fits] | ((first | with_reducible apply wcall_pure | with_reducible apply wdcall_pure); focus (first | assumption | exact all_fn (by assumption) (by omega) | exact add_fn goodEE EE_P _ _ _ _)) | (with_reducible refine wguard_split_t (fun h => ?_) (fun h => ?_)) | (with_reducible refine wguard_split_f (fun h => ?_) (fun h => ?_)) | (with_reducible refine wcond_split (fun h => ?_) (fun h => ?_)) | (with_reducible refine wdguard_split_t (fun h => ?_) (fun h => ?_)) | (with_reducible refine wdguard_split_f (fun h => ?_) (fun h => ?_)) | (with_reducible refine And.intro (fun h => ?_) (fun h => ?_)) | (with_reducible apply And.intro; focus omega))
    · have he : (sumTo l l.length) = (fadd g f, faddErr g f) := by rw [sumTo_err hil (by rw [hst]; assumption), hst]
      ((refine ends_ret (by simp only [resultsOf, resOf, push_cast, seval, EE_P, h2, h4, (key_ne hk2).1, (key_ne hk2).2.1, (key_ne hk2).2.2.1, (key_ne hk2).2.2.2, (key_ne hnn).1, (key_ne hnn).2.1, (key_ne hnn).2.2.1, (key_ne hnn).2.2.2, (ne_keys hk3).1, (ne_keys hk3).2, hsn]; rfl) (by simp only [push_cast, seval, EE_P, h2, h4, (key_ne hk2).1, (key_ne hk2).2.1, (key_ne hk2).2.2.1, (key_ne hk2).2.2.2, (key_ne hnn).1, (key_ne hnn).2.1, (key_ne hnn).2.2.1, (key_ne hnn).2.2.2, (ne_keys hk3).1, (ne_keys hk3).2, hsn]) ?_ (by repeat' (first | exact Keeps.refl _ | assumption | exact (hwf.keep1 _) | refine Keeps.new hwf ?_ (by omega) _)) (by simp only [lt_int, lt_bool, lt_str, lt_nil, lt_empty, lt_agg, lt_tup, lt_list, lt_cells, lt_fn, lt_nilp, lt_nilfn, lt_nili, List.mem_cons, List.not_mem_nil, or_false, forall_eq_or_imp, forall_eq, and_true, true_and, and_self, implies_true, *]; try omega)); (try simp only [tupOf, push_cast, seval, EE_P, h2, h4, (key_ne hk2).1, (key_ne hk2).2.1, (key_ne hk2).2.2.1, (key_ne hk2).2.2.2, (key_ne hnn).1, (key_ne hnn).2.1, (key_ne hnn).2.2.1, (key_ne hnn).2.2.2, (ne_keys hk3).1, (ne_keys hk3).2, hsn]))
      rw [he, if_neg (by assumption)]
      simp [faddErr]
    · refine ⟨l.length - (i + 1), by omega, i + 1, k4, by omega, rfl, hk1, by omega, hk3, (by rw [hst]; assumption), rfl, h18'.symm.trans h18, by simp, ?_, (by repeat' (first | exact Keeps.refl _ | assumption | exact (hwf.keep1 _) | refine Keeps.new hwf ?_ (by omega) _))⟩
      simp only [if_true, hst]
      rfl
  · have hil' : ¬ (i : Int) < l.length := by omega
    obtain rfl : i = l.length := by omega
    rw [if_pos hs0]
    generalize hg : (sumTo l l.length) = g at hs4 hs0 ⊢
    repeat' (first | simp only [push_cast, seval, EE_P, h2, h4, h18, h19, h20, hil', (key_ne hk2).1, (key_ne hk2).2.1, (key_ne hk2).2.2.1, (key_ne hk2).2.2.2, (key_ne hnn).1, (key_ne hnn).2.1, (key_ne hnn).2.2.1, (key_ne hnn).2.2.2, (ne_keys hk3).1, (ne_keys hk3).2, hsn, hs4] | simp (disch := omega) only [wrap_fits] | ((first | with_reducible apply wcall_pure | with_reducible apply wdcall_pure); focus (first | assumption | exact all_fn (by assumption) (by omega) | exact add_fn goodEE EE_P _ _ _ _)) | (with_reducible refine wguard_split_t (fun h => ?_) (fun h => ?_)) | (with_reducible refine wguard_split_f (fun h => ?_) (fun h => ?_)) | (with_reducible refine wcond_split (fun h => ?_) (fun h => ?_)) | (with_reducible refine wdguard_split_t (fun h => ?_) (fun h => ?_)) | (with_reducible refine wdguard_split_f (fun h => ?_) (fun h => ?_)) | (with_reducible refine And.intro (fun h => ?_) (fun h => ?_)) | (with_reducible apply And.intro; focus omega))
    ((refine ends_ret (by simp only [resultsOf, resOf, push_cast, seval, EE_P, h2, h4, (key_ne hk2).1, (key_ne hk2).2.1, (key_ne hk2).2.2.1, (key_ne hk2).2.2.2, (key_ne hnn).1, (key_ne hnn).2.1, (key_ne hnn).2.2.1, (key_ne hnn).2.2.2, (ne_keys hk3).1, (ne_keys hk3).2, hsn]; rfl) (by simp only [push_cast, seval, EE_P, h2, h4, (key_ne hk2).1, (key_ne hk2).2.1, (key_ne hk2).2.2.1, (key_ne hk2).2.2.2, (key_ne hnn).1, (key_ne hnn).2.1, (key_ne hnn).2.2.1, (key_ne hnn).2.2.2, (ne_keys hk3).1, (ne_keys hk3).2, hsn]) ?_ (by repeat' (first | exact Keeps.refl _ | assumption | exact (hwf.keep1 _) | refine Keeps.new hwf ?_ (by omega) _)) (by simp only [lt_int, lt_bool, lt_str, lt_nil, lt_empty, lt_agg, lt_tup, lt_list, lt_cells, lt_fn, lt_nilp, lt_nilfn, lt_nili, List.mem_cons, List.not_mem_nil, or_false, forall_eq_or_imp, forall_eq, and_true, true_and, and_self, implies_true, *]; try omega)); (try simp only [tupOf, push_cast, seval, EE_P, h2, h4, (key_ne hk2).1, (key_ne hk2).2.1, (key_ne hk2).2.2.1, (key_ne hk2).2.2.2, (key_ne hnn).1, (key_ne hnn).2.1, (key_ne hnn).2.2.1, (key_ne hnn).2.2.2, (ne_keys hk3).1, (ne_keys hk3).2, hsn]))
    rw [hs0]
end Go.Proofs.YtdajoilaakiinaaGreatDoor.Awp

/- credit.Valid and Explain. -/
namespace Go.Proofs.YtdajoilaakiinaaGreatDoor.Awp
open Go Go.Proofs
set_option linter.unusedSimpArgs false
set_option linter.unusedVariables false
set_option maxRecDepth 10000
set_option maxHeartbeats 4000000

attribute [push_cast] Part.cs
theorem flat_frac (f : Frac) : FlatV f.pv := .agg _ fun c hc => by
  simp only [List.mem_cons, List.not_mem_nil, or_false] at hc
  rcases hc with rfl | rfl <;> exact .int _ _
theorem flat_fracerr (f : Frac) (e : Int) : FlatV (.tup [f.pv, .int .i64 e]) := .tup _ fun c hc => by
  simp only [List.mem_cons, List.not_mem_nil, or_false] at hc
  rcases hc with rfl | rfl
  · exact flat_frac f
  · exact .int _ _
/-- A slice that was made by appending, from key nx on. -/
inductive Grown (σ : Store) (nx hi : Nat) : PV → List (List PV) → Prop
  | nil : Grown σ nx hi .nil []
  | row (k : Nat) (es : List (List PV)) (hk : nx ≤ k) (hk' : k < hi) (h : σ k = some (.row es)) (hn : es ≠ []) : Grown σ nx hi (.row k 0 es.length) es
theorem Grown.mk {σ : Store} {nx hi k n : Nat} {es : List (List PV)} (hk : nx ≤ k) (hk' : k < hi) (h : σ k = some (.row es)) (hn : es.length = n) (h0 : 0 < n) : Grown σ nx hi (.row k 0 n) es := by
  subst hn
  exact .row k es hk hk' h (fun e => by rw [e] at h0; cases h0)
theorem Grown.fza {σ : Store} {nx hi : Nat} {v : PV} {es : List (List PV)} (h : Grown σ nx hi v es) : ∃ q, FzA σ [v] [q] ∧ SliceP es q := by
  cases h with
  | nil => exact ⟨.nil, ⟨.refl _, trivial⟩, .nil rfl⟩
  | row k es hk hk' h hn => exact ⟨.list es, ⟨fza_row h rfl, trivial⟩, .list⟩
theorem frac_iff (a b : Frac) : a = b ↔ a.n = b.n ∧ a.d = b.d := by
  cases a; cases b; simp
def partNames (ps : List Part) : Bool := ps.all fun p => nameS p.name
def effs (ps : List Part) : List Frac := ps.map Part.eff
def validS (c : Credit) : Bool := partNames c.parts && decide ((sumS (effs c.parts)).2 = 0) && decide ((sumS (effs c.parts)).1 = c.pts) && decide (FV c.pts.n c.pts.d) && !lessS c.pts ⟨0, 1⟩ && decide (hundS c.pts = c.hund) && decide (hundS c.pts ≤ 100000000)
theorem partNames_no {ps : List Part} {i : Nat} (h : i < ps.length) (hn : nameS ps[i].name = false) : partNames ps = false := by
  unfold partNames
  rw [List.all_eq_false]
  exact ⟨ps[i], List.getElem_mem h, by simp [hn]⟩
theorem partNames_yes {ps : List Part} (h : ∀ j (hj : j < ps.length), nameS ps[j].name = true) : partNames ps = true := by
  unfold partNames
  rw [List.all_eq_true]
  intro f hf
  obtain ⟨j, hj, rfl⟩ := List.getElem_of_mem hf
  exact h j hj
theorem parts3 (l : List Part) : (∀ c ∈ l.map Part.cs, c.length = 3) = True := eq_true fun c hc => by
  obtain ⟨f, _, rfl⟩ := List.mem_map.1 hc
  rfl
theorem frac2' (l : List Frac) : (∀ c ∈ l.map Frac.cs, c.length = 2) := fun c hc => by
  obtain ⟨f, _, rfl⟩ := List.mem_map.1 hc
  rfl
theorem effs_succ {ps : List Part} {i : Nat} {p : Part} (h : ps[i]? = some p) : effs (ps.take (i + 1)) = effs (ps.take i) ++ [p.eff] := by
  unfold effs
  obtain ⟨h1, h2⟩ := List.getElem?_eq_some_iff.1 h
  rw [List.take_succ_eq_append_getElem h1, List.map_append, h2]
  rfl
theorem effs_len {ps : List Part} {i : Nat} (h : i ≤ ps.length) : (effs (ps.take i)).length = i := by
  unfold effs
  rw [List.length_map, List.length_take]
  omega
theorem valid_credit_fn (c : Credit) {v : PV} (hv : SliceP (c.parts.map Part.cs) v) (hl : c.parts.length ≤ 1000000) : Pure EE 24 [c.pv v] (.bool (validS c)) := by
  have hvl := hv.len
  simp only [List.length_map] at hvl
  intro σ nx
  refine fn_of_body goodEE (by rw [EE_P]; exact Tryz.func24) rfl rfl (by kernel_rfl) (Nat.le_of_ble_eq_true rfl) (Nat.le_refl _) fun hwf hlt => ?_
  rw [show Tryz.f24.results.toList = [.tmp 2] from rfl]
  refine awp_begin _ _ _ _ _ (cc := _) (by conv => lhs; simp only [push_cast, seval, Tryz.f24]) ?_
  simp only [push_cast, seval, EE_P]
  repeat' (first | simp only [push_cast, seval, EE_P, hvl, hv.str, hv.one, hv.cells] | simp (disch := omega) only [wrap_fits] | ((first | with_reducible apply wcall_pure | with_reducible apply wdcall_pure); focus (first | assumption | exact sum_fn (by assumption) (by omega) | exact isName_fn _ | exact hundredths_fn goodEE EE_P _ _ | exact less_fn goodEE EE_P _ _ _ _)) | (with_reducible refine wguard_split_t (fun h => ?_) (fun h => ?_)) | (with_reducible refine wguard_split_f (fun h => ?_) (fun h => ?_)) | (with_reducible refine wcond_split (fun h => ?_) (fun h => ?_)) | (with_reducible refine wdguard_split_t (fun h => ?_) (fun h => ?_)) | (with_reducible refine wdguard_split_f (fun h => ?_) (fun h => ?_)) | (with_reducible refine And.intro (fun h => ?_) (fun h => ?_)) | (with_reducible apply And.intro; focus omega))
  refine wloop_by (fun m sl σ' nx' => ∃ i : Nat, i ≤ c.parts.length ∧ m = c.parts.length - i ∧ nx < nx' ∧ (∀ j (hj : j < c.parts.length), j < i → nameS c.parts[j].name = true) ∧ Grown σ' (nx + 1) nx' (sl 3) ((effs (c.parts.take i)).map Frac.cs) ∧ sl 1 = .ptr nx 0 0 ∧ sl 11 = v ∧ sl 12 = .int .i64 c.parts.length ∧ sl 13 = .int .i64 i ∧ σ' nx = some (.row [[v, .int .i64 c.pts.n, .int .i64 c.pts.d, .int .i64 c.hund]]) ∧ Keeps σ σ') c.parts.length
    ⟨0, by omega, rfl, by omega, fun j _ h => by omega, .nil, ?_⟩ ?_
  · refine ⟨rfl, rfl, rfl, rfl, ?_, (by repeat' (first | exact Keeps.refl _ | assumption | exact (hwf.keep1 _) | refine Keeps.new hwf ?_ (by omega) _))⟩
    simp only [upd_at, push_cast, seval]
  rintro m sl σ' nx' ⟨i, hi, hm, hnx, hb, h3, h1, h11, h12, h13, hs, hk⟩
  have hi0 : (0 : Int) ≤ i := by omega
  by_cases hil : i < c.parts.length
  · have hil' : (i : Int) < c.parts.length := by omega
    have h11' : sl 11 = .list (c.parts.map Part.cs) := h11.trans (hv.lt (i := i) (by simpa using hil))
    have hw : IntKind.i64.wrap ((i : Int) + 1) = (i : Int) + 1 := wrap_small (by omega) (by omega)
    have hget : (c.parts.map Part.cs)[i]? = some c.parts[i].cs := by rw [List.getElem?_map, List.getElem?_eq_getElem hil]; rfl
    have hget' : c.parts[i]? = some c.parts[i] := List.getElem?_eq_getElem hil
    have hno := partNames_no hil
    have hj : ∀ j (hj : j < c.parts.length), j < i + 1 → nameS c.parts[i].name = true → nameS c.parts[j].name = true := fun j hj hji hn => by
      by_cases hjj : j = i
      · subst hjj; exact hn
      · exact hb j hj (by omega)
    generalize hf : c.parts[i] = f at hget hget' hno hj
    have he := effs_succ hget'
    have hen := effs_len hi
    generalize ht : effs (c.parts.take i) = es at h3 he hen
    generalize h3v : sl 3 = sv at h3
    generalize hes : es.map Frac.cs = ec at h3
    cases h3 with
    | nil =>
      repeat' (first | simp only [push_cast, seval, EE_P, h1, h11', h12, h13, h3v, hi0, hil', hget, hw, List.length_map, Int.toNat_natCast, (key_ne hnx).1, (key_ne hnx).2.1, (key_ne hnx).2.2.1, (key_ne hnx).2.2.2, hs] | simp (disch := omega) only [wrap_fits] | ((first | with_reducible apply wcall_pure | with_reducible apply wdcall_pure); focus (first | assumption | exact sum_fn (by assumption) (by omega) | exact isName_fn _ | exact hundredths_fn goodEE EE_P _ _ | exact less_fn goodEE EE_P _ _ _ _)) | (with_reducible refine wguard_split_t (fun h => ?_) (fun h => ?_)) | (with_reducible refine wguard_split_f (fun h => ?_) (fun h => ?_)) | (with_reducible refine wcond_split (fun h => ?_) (fun h => ?_)) | (with_reducible refine wdguard_split_t (fun h => ?_) (fun h => ?_)) | (with_reducible refine wdguard_split_f (fun h => ?_) (fun h => ?_)) | (with_reducible refine And.intro (fun h => ?_) (fun h => ?_)) | (with_reducible apply And.intro; focus omega))
      · ((refine ends_ret (by simp only [resultsOf, resOf, push_cast, seval, EE_P]; rfl) (by simp only [push_cast, seval, EE_P]) ?_ (by repeat' (first | exact Keeps.refl _ | assumption | exact (hwf.keep1 _) | refine Keeps.new hwf ?_ (by omega) _)) (by simp only [lt_int, lt_bool, lt_str, lt_nil, lt_empty, lt_agg, lt_tup, lt_list, lt_cells, lt_fn, lt_nilp, lt_nilfn, lt_nili, List.mem_cons, List.not_mem_nil, or_false, forall_eq_or_imp, forall_eq, and_true, true_and, and_self, implies_true, *]; try omega)); (try simp only [tupOf, push_cast, seval, EE_P]))
        simp [validS, hno (by simpa using ‹(!nameS f.name) = true›)]
      · refine ⟨by simp only [roomFor, push_cast, seval]; try decide, c.parts.length - (i + 1), by omega, i + 1, by omega, rfl, by omega, fun j hj' hji => hj j hj' hji (by simpa using ‹(!nameS f.name) = false›), ?_, h11'.symm.trans h11, by simp, (by repeat' (first | exact Keeps.refl _ | assumption | exact (hwf.keep1 _) | refine Keeps.new hwf ?_ (by omega) _))⟩
        rw [he, List.map_append, hes]
        exact .mk (by omega) (by omega) (by simp only [upd_at, push_cast, seval]) (by simp [Frac.cs]) (by omega)
    | row k3 _ hk3 hk3' hs3 hne =>
      have hkk : k3 ≠ nx := by omega
      have hec : ec.length = i := by rw [← hes, List.length_map, hen]
      have hec0 : ¬ ec.length = 0 := fun e => hne (List.length_eq_zero_iff.1 e)
      repeat' (first | simp only [push_cast, seval, EE_P, h1, h11', h12, h13, h3v, hi0, hil', hget, hw, List.length_map, Int.toNat_natCast, (key_ne hnx).1, (key_ne hnx).2.1, (key_ne hnx).2.2.1, (key_ne hnx).2.2.2, hs, (key_ne hk3').1, (key_ne hk3').2.1, (key_ne hk3').2.2.1, (key_ne hk3').2.2.2, (ne_keys hkk).1, (ne_keys hkk).2, hs3, hec0] | simp (disch := omega) only [wrap_fits] | ((first | with_reducible apply wcall_pure | with_reducible apply wdcall_pure); focus (first | assumption | exact sum_fn (by assumption) (by omega) | exact isName_fn _ | exact hundredths_fn goodEE EE_P _ _ | exact less_fn goodEE EE_P _ _ _ _)) | (with_reducible refine wguard_split_t (fun h => ?_) (fun h => ?_)) | (with_reducible refine wguard_split_f (fun h => ?_) (fun h => ?_)) | (with_reducible refine wcond_split (fun h => ?_) (fun h => ?_)) | (with_reducible refine wdguard_split_t (fun h => ?_) (fun h => ?_)) | (with_reducible refine wdguard_split_f (fun h => ?_) (fun h => ?_)) | (with_reducible refine And.intro (fun h => ?_) (fun h => ?_)) | (with_reducible apply And.intro; focus omega))
      · ((refine ends_ret (by simp only [resultsOf, resOf, push_cast, seval, EE_P]; rfl) (by simp only [push_cast, seval, EE_P]) ?_ (by repeat' (first | exact Keeps.refl _ | assumption | exact (hwf.keep1 _) | refine Keeps.new hwf ?_ (by omega) _)) (by simp only [lt_int, lt_bool, lt_str, lt_nil, lt_empty, lt_agg, lt_tup, lt_list, lt_cells, lt_fn, lt_nilp, lt_nilfn, lt_nili, List.mem_cons, List.not_mem_nil, or_false, forall_eq_or_imp, forall_eq, and_true, true_and, and_self, implies_true, *]; try omega)); (try simp only [tupOf, push_cast, seval, EE_P]))
        simp [validS, hno (by simpa using ‹(!nameS f.name) = true›)]
      · refine ⟨⟨.inl trivial, by simp only [roomFor, push_cast, seval]; omega, fun c hc => frac2' _ c (by rw [hes]; exact hc)⟩, c.parts.length - (i + 1), by omega, i + 1, by omega, rfl, by omega, fun j hj' hji => hj j hj' hji (by simpa using ‹(!nameS f.name) = false›), ?_, h11'.symm.trans h11, by simp, (by repeat' (first | exact Keeps.refl _ | assumption | exact (hwf.keep1 _) | refine Keeps.new hwf ?_ (by omega) _))⟩
        rw [he, List.map_append, hes]
        exact .mk (by omega) (by omega) (by simp only [upd_at, push_cast, seval]) (by simp [Frac.cs]) (by omega)
  · have hil' : ¬ (i : Int) < c.parts.length := by omega
    obtain rfl : i = c.parts.length := by omega
    rw [List.take_length] at h3
    obtain ⟨q, hq, hqs⟩ := h3.fza
    have hcl : (effs c.parts).length ≤ 4611686018427387904 := by unfold effs; simp; omega
    repeat' (first | simp only [push_cast, seval, EE_P, h1, h11, h12, h13, hil'] | simp (disch := omega) only [wrap_fits] | ((first | with_reducible apply wcall_pure | with_reducible apply wdcall_pure); focus (first | assumption | exact sum_fn (by assumption) (by omega) | exact isName_fn _ | exact hundredths_fn goodEE EE_P _ _ | exact less_fn goodEE EE_P _ _ _ _)) | (with_reducible refine wguard_split_t (fun h => ?_) (fun h => ?_)) | (with_reducible refine wguard_split_f (fun h => ?_) (fun h => ?_)) | (with_reducible refine wcond_split (fun h => ?_) (fun h => ?_)) | (with_reducible refine wdguard_split_t (fun h => ?_) (fun h => ?_)) | (with_reducible refine wdguard_split_f (fun h => ?_) (fun h => ?_)) | (with_reducible refine And.intro (fun h => ?_) (fun h => ?_)) | (with_reducible apply And.intro; focus omega))
    refine wcall_lend goodEE (sum_fn hqs hcl) hq (flat_fracerr _ _) ?_
    have hnm : partNames c.parts = true := partNames_yes fun j hj => hb j hj hj
    generalize hsm : sumS (effs c.parts) = sm
    repeat' (first | simp only [push_cast, seval, EE_P, h1, (key_ne hnx).1, (key_ne hnx).2.1, (key_ne hnx).2.2.1, (key_ne hnx).2.2.2, hs, EE_zero] | simp (disch := omega) only [wrap_fits] | ((first | with_reducible apply wcall_pure | with_reducible apply wdcall_pure); focus (first | assumption | exact sum_fn (by assumption) (by omega) | exact isName_fn _ | exact hundredths_fn goodEE EE_P _ _ | exact less_fn goodEE EE_P _ _ _ _)) | (with_reducible refine wguard_split_t (fun h => ?_) (fun h => ?_)) | (with_reducible refine wguard_split_f (fun h => ?_) (fun h => ?_)) | (with_reducible refine wcond_split (fun h => ?_) (fun h => ?_)) | (with_reducible refine wdguard_split_t (fun h => ?_) (fun h => ?_)) | (with_reducible refine wdguard_split_f (fun h => ?_) (fun h => ?_)) | (with_reducible refine And.intro (fun h => ?_) (fun h => ?_)) | (with_reducible apply And.intro; focus omega))
    all_goals ((refine ends_ret (by simp only [resultsOf, resOf, push_cast, seval, EE_P]; rfl) (by simp only [push_cast, seval, EE_P]) ?_ (by repeat' (first | exact Keeps.refl _ | assumption | exact (hwf.keep1 _) | refine Keeps.new hwf ?_ (by omega) _)) (by simp only [lt_int, lt_bool, lt_str, lt_nil, lt_empty, lt_agg, lt_tup, lt_list, lt_cells, lt_fn, lt_nilp, lt_nilfn, lt_nili, List.mem_cons, List.not_mem_nil, or_false, forall_eq_or_imp, forall_eq, and_true, true_and, and_self, implies_true, *]; try omega)); (try simp only [tupOf, push_cast, seval, EE_P]))
    all_goals (simp only [validS, lessS, hundS, hsm, hnm, frac_iff]; first | (simp [*]; done) | (simp_all; done) | (simp_all; omega))

/-! ### what a credit says -/
def dashS : ByteArray := (⟨#[45]⟩ : ByteArray)
def partText (p : Part) : ByteArray := p.name ++ (⟨#[32]⟩ : ByteArray) ++ (if hasPrefixS (formatS p.eff) (⟨#[45]⟩ : ByteArray) = true then (⟨#[45]⟩ : ByteArray) else (⟨#[43]⟩ : ByteArray)) ++ cutPrefixS (formatS p.eff) (⟨#[45]⟩ : ByteArray)
def explainS (c : Credit) : List ByteArray := c.parts.map partText ++ [(⟨#[116, 111, 116, 97, 108, 32]⟩ : ByteArray) ++ pointsTextS c.hund]
def explainV (c : Credit) : PV := if validS c = true then strsP (explainS c) else .nil
theorem formatS_size (f : Frac) : (formatS f).size ≤ 4000000000 := by
  unfold formatS
  split
  · rename_i hv
    obtain ⟨h1, h2, h3, h4, _⟩ := id hv
    have z1 := itoaS_size f.n
    have z2 := itoaS_size f.d
    split
    · omega
    · simp only [ByteArray.size_append, bsize_mk, List.size_toArray, List.length_cons, List.length_nil]
      omega
  · exact Nat.zero_le _
theorem cutPrefixS_size (s p : ByteArray) : (cutPrefixS s p).size ≤ s.size := by
  unfold cutPrefixS
  split
  · simp
  · omega
theorem pointsTextS_size (n : Int) : (pointsTextS n).size ≤ 1000000000 := by
  unfold pointsTextS
  split
  · exact Nat.zero_le _
  · have m1 := tmod_bd (a := n.natAbs) (b := 100) (by omega) (by omega)
    have m2 := tdiv_bd (a := n.natAbs) (b := 100) (by omega) (by omega)
    have z1 := itoaS_size (100 + (n.natAbs : Int).tmod 100)
    have z2 := itoaS_size ((n.natAbs : Int).tdiv 100)
    simp only [pointS, restS, signS, ByteArray.size_append, ByteArray.size_extract]
    split <;> simp only [bsize_mk, List.size_toArray, List.length_cons, List.length_nil] <;> omega
theorem texts_succ {ps : List Part} {i : Nat} {p : Part} (h : ps[i]? = some p) : (ps.take (i + 1)).map partText = (ps.take i).map partText ++ [partText p] := by
  obtain ⟨h1, h2⟩ := List.getElem?_eq_some_iff.1 h
  rw [List.take_succ_eq_append_getElem h1, List.map_append, h2]
  rfl
def strC (s : ByteArray) : List PV := [.str s]
theorem partNames_get {ps : List Part} (h : partNames ps = true) {i : Nat} {p : Part} (hp : ps[i]? = some p) : nameS p.name = true := by
  unfold partNames at h
  rw [List.all_eq_true] at h
  exact h p (List.mem_of_getElem? hp)
theorem explain_fn (c : Credit) {v : PV} (hv : SliceP (c.parts.map Part.cs) v) (hl : c.parts.length ≤ 1000000) : Pure EE 26 [c.pv v] (explainV c) := by
  have hvl := hv.len
  simp only [List.length_map] at hvl
  have hval := valid_credit_fn c hv hl
  cases hvs : validS c
  · rw [hvs] at hval
    rw [show explainV c = .nil from if_neg (by rw [hvs]; simp)]
    intro σ nx
    refine fn_of_body goodEE (by rw [EE_P]; exact Tryz.func26) rfl rfl (by kernel_rfl) (Nat.le_of_ble_eq_true rfl) (Nat.le_refl _) fun hwf hlt => ?_
    rw [show Tryz.f26.results.toList = [.tmp 2] from rfl]
    refine awp_begin _ _ _ _ _ (cc := _) (by conv => lhs; simp only [push_cast, seval, Tryz.f26]) ?_
    simp only [push_cast, seval, EE_P]
    repeat' (first | simp only [push_cast, seval, EE_P, hvl, hv.str, hv.one, hv.cells] | simp (disch := omega) only [wrap_fits] | ((first | with_reducible apply wcall_pure | with_reducible apply wdcall_pure); focus (first | assumption | exact pointsText_fn _ | exact cutPrefix_fn _ _ | exact format_fn ⟨_, _⟩)) | (with_reducible refine wguard_split_t (fun h => ?_) (fun h => ?_)) | (with_reducible refine wguard_split_f (fun h => ?_) (fun h => ?_)) | (with_reducible refine wcond_split (fun h => ?_) (fun h => ?_)) | (with_reducible refine wdguard_split_t (fun h => ?_) (fun h => ?_)) | (with_reducible refine wdguard_split_f (fun h => ?_) (fun h => ?_)) | (with_reducible refine And.intro (fun h => ?_) (fun h => ?_)) | (with_reducible apply And.intro; focus omega))
    all_goals ((refine ends_ret (by simp only [resultsOf, resOf, push_cast, seval, EE_P]; rfl) (by simp only [push_cast, seval, EE_P]) ?_ (by repeat' (first | exact Keeps.refl _ | assumption | exact (hwf.keep1 _) | refine Keeps.new hwf ?_ (by omega) _)) (by simp only [lt_int, lt_bool, lt_str, lt_nil, lt_empty, lt_agg, lt_tup, lt_list, lt_cells, lt_fn, lt_nilp, lt_nilfn, lt_nili, List.mem_cons, List.not_mem_nil, or_false, forall_eq_or_imp, forall_eq, and_true, true_and, and_self, implies_true, *]; try omega)); (try simp only [tupOf, push_cast, seval, EE_P]))
  have hpn : partNames c.parts = true := by simp [validS] at hvs; exact hvs.1.1.1.1.1.1
  have hev : explainV c = strsP (explainS c) := if_pos hvs
  rw [hev]
  rw [hvs] at hval
  intro σ nx
  refine fn_of_body goodEE (by rw [EE_P]; exact Tryz.func26) rfl rfl (by kernel_rfl) (Nat.le_of_ble_eq_true rfl) (Nat.le_refl _) fun hwf hlt => ?_
  rw [show Tryz.f26.results.toList = [.tmp 2] from rfl]
  refine awp_begin _ _ _ _ _ (cc := _) (by conv => lhs; simp only [push_cast, seval, Tryz.f26]) ?_
  simp only [push_cast, seval, EE_P]
  repeat' (first | simp only [push_cast, seval, EE_P, hvl, hv.str, hv.one, hv.cells] | simp (disch := omega) only [wrap_fits] | ((first | with_reducible apply wcall_pure | with_reducible apply wdcall_pure); focus (first | assumption | exact pointsText_fn _ | exact cutPrefix_fn _ _ | exact format_fn ⟨_, _⟩)) | (with_reducible refine wguard_split_t (fun h => ?_) (fun h => ?_)) | (with_reducible refine wguard_split_f (fun h => ?_) (fun h => ?_)) | (with_reducible refine wcond_split (fun h => ?_) (fun h => ?_)) | (with_reducible refine wdguard_split_t (fun h => ?_) (fun h => ?_)) | (with_reducible refine wdguard_split_f (fun h => ?_) (fun h => ?_)) | (with_reducible refine And.intro (fun h => ?_) (fun h => ?_)) | (with_reducible apply And.intro; focus omega))
  refine wloop_by (fun m sl σ' nx' => ∃ i : Nat, i ≤ c.parts.length ∧ m = c.parts.length - i ∧ nx < nx' ∧ Grown σ' (nx + 1) nx' (sl 3) (((c.parts.take i).map partText).map strC) ∧ sl 1 = .ptr nx 0 0 ∧ sl 13 = v ∧ sl 14 = .int .i64 c.parts.length ∧ sl 15 = .int .i64 i ∧ σ' nx = some (.row [[v, .int .i64 c.pts.n, .int .i64 c.pts.d, .int .i64 c.hund]]) ∧ Keeps σ σ') c.parts.length
    ⟨0, by omega, rfl, by omega, .nil, ?_⟩ ?_
  · refine ⟨rfl, rfl, rfl, rfl, ?_, (by repeat' (first | exact Keeps.refl _ | assumption | exact (hwf.keep1 _) | refine Keeps.new hwf ?_ (by omega) _))⟩
    simp only [upd_at, push_cast, seval]
  rintro m sl σ' nx' ⟨i, hi, hm, hnx, h3, h1, h11, h12, h13, hs, hk⟩
  have hi0 : (0 : Int) ≤ i := by omega
  by_cases hil : i < c.parts.length
  · have hil' : (i : Int) < c.parts.length := by omega
    have h11' : sl 13 = .list (c.parts.map Part.cs) := h11.trans (hv.lt (i := i) (by simpa using hil))
    have hw : IntKind.i64.wrap ((i : Int) + 1) = (i : Int) + 1 := wrap_small (by omega) (by omega)
    have hget : (c.parts.map Part.cs)[i]? = some c.parts[i].cs := by rw [List.getElem?_map, List.getElem?_eq_getElem hil]; rfl
    have hget' : c.parts[i]? = some c.parts[i] := List.getElem?_eq_getElem hil
    have hnz := nameS_size (partNames_get hpn hget')
    have hz1 := formatS_size c.parts[i].eff
    have hz2 := cutPrefixS_size (formatS c.parts[i].eff) (⟨#[45]⟩ : ByteArray)
    generalize hf : c.parts[i] = f at hget hget' hnz hz1 hz2
    have he := texts_succ hget'
    have hen : ((c.parts.take i).map partText).length = i := by rw [List.length_map, List.length_take]; omega
    generalize ht : (c.parts.take i).map partText = es at h3 he hen
    generalize h3v : sl 3 = sv at h3
    generalize hes : es.map strC = ec at h3
    cases h3 with
    | nil =>
      repeat' (first | simp only [push_cast, seval, EE_P, h1, h11', h12, h13, h3v, hi0, hil', hget, hw, List.length_map, Int.toNat_natCast, (key_ne hnx).1, (key_ne hnx).2.1, (key_ne hnx).2.2.1, (key_ne hnx).2.2.2, hs] | simp (disch := omega) only [wrap_fits] | ((first | with_reducible apply wcall_pure | with_reducible apply wdcall_pure); focus (first | assumption | exact pointsText_fn _ | exact cutPrefix_fn _ _ | exact format_fn ⟨_, _⟩)) | (with_reducible refine wguard_split_t (fun h => ?_) (fun h => ?_)) | (with_reducible refine wguard_split_f (fun h => ?_) (fun h => ?_)) | (with_reducible refine wcond_split (fun h => ?_) (fun h => ?_)) | (with_reducible refine wdguard_split_t (fun h => ?_) (fun h => ?_)) | (with_reducible refine wdguard_split_f (fun h => ?_) (fun h => ?_)) | (with_reducible refine And.intro (fun h => ?_) (fun h => ?_)) | (with_reducible apply And.intro; focus omega))
      · refine ⟨by rw [show Frac.mk f.2.n f.2.d = f.eff from rfl]; omega, by simp only [roomFor, push_cast, seval]; try decide, c.parts.length - (i + 1), by omega, i + 1, by omega, rfl, by omega, ?_, h11'.symm.trans h11, by simp, (by repeat' (first | exact Keeps.refl _ | assumption | exact (hwf.keep1 _) | refine Keeps.new hwf ?_ (by omega) _))⟩
        rw [he, List.map_append, hes]
        exact .mk (by omega) (by omega) (by simp only [upd_at, push_cast, seval, strC, partText]; simp [ByteArray.append_assoc, *]) (by simp [strC]; try omega) (by omega)
      · refine ⟨by rw [show Frac.mk f.2.n f.2.d = f.eff from rfl]; omega, by simp only [roomFor, push_cast, seval]; try decide, c.parts.length - (i + 1), by omega, i + 1, by omega, rfl, by omega, ?_, h11'.symm.trans h11, by simp, (by repeat' (first | exact Keeps.refl _ | assumption | exact (hwf.keep1 _) | refine Keeps.new hwf ?_ (by omega) _))⟩
        rw [he, List.map_append, hes]
        exact .mk (by omega) (by omega) (by simp only [upd_at, push_cast, seval, strC, partText]; simp [ByteArray.append_assoc, *]) (by simp [strC]; try omega) (by omega)
    | row k3 _ hk3 hk3' hs3 hne =>
      have hkk : k3 ≠ nx := by omega
      have hec : ec.length = i := by rw [← hes, List.length_map, hen]
      have hec0 : ¬ ec.length = 0 := fun e => hne (List.length_eq_zero_iff.1 e)
      repeat' (first | simp only [push_cast, seval, EE_P, h1, h11', h12, h13, h3v, hi0, hil', hget, hw, List.length_map, Int.toNat_natCast, (key_ne hnx).1, (key_ne hnx).2.1, (key_ne hnx).2.2.1, (key_ne hnx).2.2.2, hs, (key_ne hk3').1, (key_ne hk3').2.1, (key_ne hk3').2.2.1, (key_ne hk3').2.2.2, (ne_keys hkk).1, (ne_keys hkk).2, hs3, hec0] | simp (disch := omega) only [wrap_fits] | ((first | with_reducible apply wcall_pure | with_reducible apply wdcall_pure); focus (first | assumption | exact pointsText_fn _ | exact cutPrefix_fn _ _ | exact format_fn ⟨_, _⟩)) | (with_reducible refine wguard_split_t (fun h => ?_) (fun h => ?_)) | (with_reducible refine wguard_split_f (fun h => ?_) (fun h => ?_)) | (with_reducible refine wcond_split (fun h => ?_) (fun h => ?_)) | (with_reducible refine wdguard_split_t (fun h => ?_) (fun h => ?_)) | (with_reducible refine wdguard_split_f (fun h => ?_) (fun h => ?_)) | (with_reducible refine And.intro (fun h => ?_) (fun h => ?_)) | (with_reducible apply And.intro; focus omega))
      · refine ⟨by rw [show Frac.mk f.2.n f.2.d = f.eff from rfl]; omega, ⟨.inl trivial, by simp only [roomFor, push_cast, seval]; omega, fun c hc => by rw [← hes] at hc; obtain ⟨q, _, rfl⟩ := List.mem_map.1 hc; rfl⟩, c.parts.length - (i + 1), by omega, i + 1, by omega, rfl, by omega, ?_, h11'.symm.trans h11, by simp, (by repeat' (first | exact Keeps.refl _ | assumption | exact (hwf.keep1 _) | refine Keeps.new hwf ?_ (by omega) _))⟩
        rw [he, List.map_append, hes]
        exact .mk (by omega) (by omega) (by simp only [upd_at, push_cast, seval, strC, partText]; simp [ByteArray.append_assoc, *]) (by simp [strC]; try omega) (by omega)
      · refine ⟨by rw [show Frac.mk f.2.n f.2.d = f.eff from rfl]; omega, ⟨.inl trivial, by simp only [roomFor, push_cast, seval]; omega, fun c hc => by rw [← hes] at hc; obtain ⟨q, _, rfl⟩ := List.mem_map.1 hc; rfl⟩, c.parts.length - (i + 1), by omega, i + 1, by omega, rfl, by omega, ?_, h11'.symm.trans h11, by simp, (by repeat' (first | exact Keeps.refl _ | assumption | exact (hwf.keep1 _) | refine Keeps.new hwf ?_ (by omega) _))⟩
        rw [he, List.map_append, hes]
        exact .mk (by omega) (by omega) (by simp only [upd_at, push_cast, seval, strC, partText]; simp [ByteArray.append_assoc, *]) (by simp [strC]; try omega) (by omega)
  · have hil' : ¬ (i : Int) < c.parts.length := by omega
    obtain rfl : i = c.parts.length := by omega
    rw [List.take_length] at h3
    have hz1 := pointsTextS_size c.hund
    generalize h3v : sl 3 = sv at h3
    generalize hes : (c.parts.map partText).map strC = ec at h3
    cases h3 with
    | nil =>
      repeat' (first | simp only [push_cast, seval, EE_P, h1, h11, h12, h13, h3v, hil', (key_ne hnx).1, (key_ne hnx).2.1, (key_ne hnx).2.2.1, (key_ne hnx).2.2.2, hs] | simp (disch := omega) only [wrap_fits] | ((first | with_reducible apply wcall_pure | with_reducible apply wdcall_pure); focus (first | assumption | exact pointsText_fn _ | exact cutPrefix_fn _ _ | exact format_fn ⟨_, _⟩)) | (with_reducible refine wguard_split_t (fun h => ?_) (fun h => ?_)) | (with_reducible refine wguard_split_f (fun h => ?_) (fun h => ?_)) | (with_reducible refine wcond_split (fun h => ?_) (fun h => ?_)) | (with_reducible refine wdguard_split_t (fun h => ?_) (fun h => ?_)) | (with_reducible refine wdguard_split_f (fun h => ?_) (fun h => ?_)) | (with_reducible refine And.intro (fun h => ?_) (fun h => ?_)) | (with_reducible apply And.intro; focus omega))
      have e : (explainS c).map (fun s => [PV.str s]) = [] ++ [[.str ((⟨#[116, 111, 116, 97, 108, 32]⟩ : ByteArray) ++ pointsTextS c.hund)]] := by
        rw [explainS, List.map_append]
        show List.map strC _ ++ _ = _
        rw [hes]
        rfl
      rw [strsP, e]
      refine ⟨by simp only [roomFor, push_cast, seval]; try decide, ends_fz (by simp only [resultsOf, resOf, push_cast, seval, EE_P]; rfl) (by first | exact ⟨trivial, trivial⟩ | simp only [push_cast, seval, and_self]) ?_ (by repeat' (first | exact Keeps.refl _ | assumption | exact (hwf.keep1 _) | refine Keeps.new hwf ?_ (by omega) _)) (by rw [← e]; exact lt_strs _)⟩
      exact fz_row (k := nx' + 7) (upd_same ..) (hwf.none (by omega)) (by simp)
    | row k3 _ hk3 hk3' hs3 hne =>
      have hkk : k3 ≠ nx := by omega
      have hec : ec.length = c.parts.length := by rw [← hes, List.length_map, List.length_map]
      have hec0 : ¬ ec.length = 0 := fun e => hne (List.length_eq_zero_iff.1 e)
      repeat' (first | simp only [push_cast, seval, EE_P, h1, h11, h12, h13, h3v, hil', (key_ne hnx).1, (key_ne hnx).2.1, (key_ne hnx).2.2.1, (key_ne hnx).2.2.2, hs, (key_ne hk3').1, (key_ne hk3').2.1, (key_ne hk3').2.2.1, (key_ne hk3').2.2.2, (ne_keys hkk).1, (ne_keys hkk).2, hs3, hec0] | simp (disch := omega) only [wrap_fits] | ((first | with_reducible apply wcall_pure | with_reducible apply wdcall_pure); focus (first | assumption | exact pointsText_fn _ | exact cutPrefix_fn _ _ | exact format_fn ⟨_, _⟩)) | (with_reducible refine wguard_split_t (fun h => ?_) (fun h => ?_)) | (with_reducible refine wguard_split_f (fun h => ?_) (fun h => ?_)) | (with_reducible refine wcond_split (fun h => ?_) (fun h => ?_)) | (with_reducible refine wdguard_split_t (fun h => ?_) (fun h => ?_)) | (with_reducible refine wdguard_split_f (fun h => ?_) (fun h => ?_)) | (with_reducible refine And.intro (fun h => ?_) (fun h => ?_)) | (with_reducible apply And.intro; focus omega))
      have e : (explainS c).map (fun s => [PV.str s]) = ec ++ [[.str ((⟨#[116, 111, 116, 97, 108, 32]⟩ : ByteArray) ++ pointsTextS c.hund)]] := by
        rw [explainS, List.map_append]
        show List.map strC _ ++ _ = _
        rw [hes]
        rfl
      rw [strsP, e]
      refine ⟨⟨.inl trivial, by simp only [roomFor, push_cast, seval]; omega, fun c hc => by rw [← hes] at hc; obtain ⟨q, _, rfl⟩ := List.mem_map.1 hc; rfl⟩, ends_fz (by simp only [resultsOf, resOf, push_cast, seval, EE_P]; rfl) (by first | exact ⟨trivial, trivial⟩ | simp only [push_cast, seval, and_self]) ?_ (by repeat' (first | exact Keeps.refl _ | assumption | exact (hwf.keep1 _) | refine Keeps.new hwf ?_ (by omega) _)) (by rw [← e]; exact lt_strs _)⟩
      exact fz_row (k := nx' + 7) (upd_same ..) (hwf.none (by omega)) (by simp)
end Go.Proofs.YtdajoilaakiinaaGreatDoor.Awp

/- The law's own helpers: the reference's comparison, Few, slices.Equal, awake. -/
namespace Go.Proofs.YtdajoilaakiinaaGreatDoor.Awp
open Go Go.Proofs
set_option linter.unusedSimpArgs false
set_option linter.unusedVariables false
set_option maxRecDepth 10000
set_option maxHeartbeats 4000000

theorem refgcd_fn {a b : Int} (ha : -1000000000000000000 ≤ a) (ha' : a ≤ 1000000000000000000) (hb : 0 ≤ b) : Pure EE 67 [.int .i64 a, .int .i64 b] (.int .i64 (Int.gcd a b : Int)) := by
  have wneg : IntKind.i64.wrap (0 - a) = -a := by rw [wrap_small (by omega) (by omega)]; omega
  have wneg' : IntKind.i64.wrap (-a) = -a := wrap_small (by omega) (by omega)
  have g1 : Int.gcd (-a) b = Int.gcd a b := by simp [Int.gcd]
  intro σ nx
  refine fn_of_body goodEE (by rw [EE_P]; exact Tryz.func67) rfl rfl (by kernel_rfl) (Nat.le_of_ble_eq_true rfl) (Nat.le_refl _) fun hwf hlt => ?_
  rw [show Tryz.f67.results.toList = [.tmp 4] from rfl]
  refine awp_begin _ _ _ _ _ (cc := _) (by conv => lhs; simp only [push_cast, seval, Tryz.f67]) ?_
  simp only [push_cast, seval, EE_P]
  refine ⟨fun h1 => ?_, fun h1 => ?_⟩
  all_goals (repeat' (first | simp only [push_cast, seval, EE_P, wneg, wneg'] | simp (disch := omega) only [wrap_fits] | ((first | with_reducible apply wcall_pure | with_reducible apply wdcall_pure); focus (first | assumption | fail)) | (with_reducible refine wguard_split_t (fun h => ?_) (fun h => ?_)) | (with_reducible refine wguard_split_f (fun h => ?_) (fun h => ?_)) | (with_reducible refine wcond_split (fun h => ?_) (fun h => ?_)) | (with_reducible refine wdguard_split_t (fun h => ?_) (fun h => ?_)) | (with_reducible refine wdguard_split_f (fun h => ?_) (fun h => ?_)) | (with_reducible refine And.intro (fun h => ?_) (fun h => ?_)) | (with_reducible apply And.intro; focus omega)))
  all_goals refine wloop_by (fun m sl σ' nx' => ∃ x y : Int, 0 ≤ x ∧ 0 ≤ y ∧ Int.gcd x y = Int.gcd a b ∧ m = y.toNat ∧ sl 0 = .int .i64 x ∧ sl 1 = .int .i64 y ∧ σ' = σ) b.toNat ⟨_, b, ?_, hb, ?_, rfl, rfl, rfl, rfl⟩ ?_
  all_goals (try omega)
  all_goals (try assumption)
  all_goals (try rfl)
  all_goals
    rintro m sl σ' nx' ⟨x, y, hx, hy, hg, hm, h0, h1, rfl⟩
    simp only [push_cast, seval, EE_P, h0, h1]
    refine ⟨fun hc => ⟨by omega, _, ?_, y, x.tmod y, hy, ?_, ?_, rfl, rfl, rfl⟩, fun hc => ?_⟩
    · have := Int.tmod_lt_of_pos x (b := y) hc
      omega
    · exact Int.tmod_nonneg y hx
    · rw [← hg, Int.tmod_eq_emod_of_nonneg hx]
      exact (Int.gcd_comm ..).trans (gcd_step x y)
    · have : y = 0 := by omega
      subst this
      refine ends_ret rfl ⟨trivial, trivial⟩ ?_ (Keeps.refl _) (.int _ _)
      show PV.int .i64 x = _
      rw [← hg]
      simp
      omega
theorem refvalid_fn (f : Frac) : Pure EE 36 [f.pv] (.bool (decide (FV f.n f.d))) := by
  by_cases hr : 1 ≤ f.d ∧ f.d ≤ 1000000 ∧ -1000000000 ≤ f.n ∧ f.n ≤ 1000000000
  · have hg := refgcd_fn (a := f.n) (b := f.d) (by omega) (by omega) (by omega)
    intro σ nx
    refine fn_of_body goodEE (by rw [EE_P]; exact Tryz.func36) rfl rfl (by kernel_rfl) (Nat.le_of_ble_eq_true rfl) (Nat.le_refl _) fun hwf hlt => ?_
    rw [show Tryz.f36.results.toList = [.tmp 2] from rfl]
    refine awp_begin _ _ _ _ _ (cc := _) (by conv => lhs; simp only [push_cast, seval, Tryz.f36]) ?_
    simp only [push_cast, seval, EE_P]
    repeat' (first | simp only [push_cast, seval, EE_P] | simp (disch := omega) only [wrap_fits] | ((first | with_reducible apply wcall_pure | with_reducible apply wdcall_pure); focus (first | assumption | fail)) | (with_reducible refine wguard_split_t (fun h => ?_) (fun h => ?_)) | (with_reducible refine wguard_split_f (fun h => ?_) (fun h => ?_)) | (with_reducible refine wcond_split (fun h => ?_) (fun h => ?_)) | (with_reducible refine wdguard_split_t (fun h => ?_) (fun h => ?_)) | (with_reducible refine wdguard_split_f (fun h => ?_) (fun h => ?_)) | (with_reducible refine And.intro (fun h => ?_) (fun h => ?_)) | (with_reducible apply And.intro; focus omega))
    all_goals ((refine ends_ret (by simp only [resultsOf, resOf, push_cast, seval, EE_P]; rfl) (by simp only [push_cast, seval, EE_P]) ?_ (by repeat' (first | exact Keeps.refl _ | assumption | exact (hwf.keep1 _) | refine Keeps.new hwf ?_ (by omega) _)) (by simp only [lt_int, lt_bool, lt_str, lt_nil, lt_empty, lt_agg, lt_tup, lt_list, lt_cells, lt_fn, lt_nilp, lt_nilfn, lt_nili, List.mem_cons, List.not_mem_nil, or_false, forall_eq_or_imp, forall_eq, and_true, true_and, and_self, implies_true, *]; try omega)); (try simp only [tupOf, push_cast, seval, EE_P]))
    all_goals (unfold FV; simp [*] <;> omega)
  · have hn : ¬ FV f.n f.d := fun h => hr ⟨h.1, h.2.1, h.2.2.1, h.2.2.2.1⟩
    have hd : decide (FV f.n f.d) = false := decide_eq_false hn
    rw [hd]
    intro σ nx
    refine fn_of_body goodEE (by rw [EE_P]; exact Tryz.func36) rfl rfl (by kernel_rfl) (Nat.le_of_ble_eq_true rfl) (Nat.le_refl _) fun hwf hlt => ?_
    rw [show Tryz.f36.results.toList = [.tmp 2] from rfl]
    refine awp_begin _ _ _ _ _ (cc := _) (by conv => lhs; simp only [push_cast, seval, Tryz.f36]) ?_
    simp only [push_cast, seval, EE_P]
    repeat' (first | simp only [push_cast, seval, EE_P] | simp (disch := omega) only [wrap_fits] | ((first | with_reducible apply wcall_pure | with_reducible apply wdcall_pure); focus (first | assumption | fail)) | (with_reducible refine wguard_split_t (fun h => ?_) (fun h => ?_)) | (with_reducible refine wguard_split_f (fun h => ?_) (fun h => ?_)) | (with_reducible refine wcond_split (fun h => ?_) (fun h => ?_)) | (with_reducible refine wdguard_split_t (fun h => ?_) (fun h => ?_)) | (with_reducible refine wdguard_split_f (fun h => ?_) (fun h => ?_)) | (with_reducible refine And.intro (fun h => ?_) (fun h => ?_)) | (with_reducible apply And.intro; focus omega))
    all_goals (try (exfalso; exact hr ⟨by omega, by omega, by omega, by omega⟩))
    all_goals ((refine ends_ret (by simp only [resultsOf, resOf, push_cast, seval, EE_P]; rfl) (by simp only [push_cast, seval, EE_P]) ?_ (by repeat' (first | exact Keeps.refl _ | assumption | exact (hwf.keep1 _) | refine Keeps.new hwf ?_ (by omega) _)) (by simp only [lt_int, lt_bool, lt_str, lt_nil, lt_empty, lt_agg, lt_tup, lt_list, lt_cells, lt_fn, lt_nilp, lt_nilfn, lt_nili, List.mem_cons, List.not_mem_nil, or_false, forall_eq_or_imp, forall_eq, and_true, true_and, and_self, implies_true, *]; try omega)); (try simp only [tupOf, push_cast, seval, EE_P]))
    all_goals (simp [*] <;> omega)
theorem refcompare_fn (f g : Frac) : Pure EE 13 [f.pv, g.pv] (.tup [.int .i64 (fcmp f.n f.d g.n g.d), .bool (decide (FV f.n f.d ∧ FV g.n g.d))]) := by
  by_cases hr : FV f.n f.d ∧ FV g.n g.d
  · have m1 := fv_mul hr.1 hr.2
    have m2 := fv_mul hr.2 hr.1
    have w1 := wrap_small m1.1 m1.2
    have w2 := wrap_small m2.1 m2.2
    obtain ⟨hr1, hr2⟩ := id hr
    intro σ nx
    refine fn_of_body goodEE (by rw [EE_P]; exact Tryz.func13) rfl rfl (by kernel_rfl) (Nat.le_of_ble_eq_true rfl) (Nat.le_refl _) fun hwf hlt => ?_
    rw [show Tryz.f13.results.toList = [.tmp 4, .tmp 5] from rfl]
    refine awp_begin _ _ _ _ _ (cc := _) (by conv => lhs; simp only [push_cast, seval, Tryz.f13]) ?_
    simp only [push_cast, seval, EE_P]
    repeat' (first | simp only [push_cast, seval, EE_P, hr1, hr2, w1, w2] | simp (disch := omega) only [wrap_fits] | ((first | with_reducible apply wcall_pure | with_reducible apply wdcall_pure); focus (first | assumption | exact refvalid_fn ⟨_, _⟩)) | (with_reducible refine wguard_split_t (fun h => ?_) (fun h => ?_)) | (with_reducible refine wguard_split_f (fun h => ?_) (fun h => ?_)) | (with_reducible refine wcond_split (fun h => ?_) (fun h => ?_)) | (with_reducible refine wdguard_split_t (fun h => ?_) (fun h => ?_)) | (with_reducible refine wdguard_split_f (fun h => ?_) (fun h => ?_)) | (with_reducible refine And.intro (fun h => ?_) (fun h => ?_)) | (with_reducible apply And.intro; focus omega))
    all_goals ((refine ends_ret (by simp only [resultsOf, resOf, push_cast, seval, EE_P]; rfl) (by simp only [push_cast, seval, EE_P]) ?_ (by repeat' (first | exact Keeps.refl _ | assumption | exact (hwf.keep1 _) | refine Keeps.new hwf ?_ (by omega) _)) (by simp only [lt_int, lt_bool, lt_str, lt_nil, lt_empty, lt_agg, lt_tup, lt_list, lt_cells, lt_fn, lt_nilp, lt_nilfn, lt_nili, List.mem_cons, List.not_mem_nil, or_false, forall_eq_or_imp, forall_eq, and_true, true_and, and_self, implies_true, *]; try omega)); (try simp only [tupOf, push_cast, seval, EE_P]))
    all_goals (unfold fcmp cmp; rw [if_pos hr]; simp [*])
  · intro σ nx
    refine fn_of_body goodEE (by rw [EE_P]; exact Tryz.func13) rfl rfl (by kernel_rfl) (Nat.le_of_ble_eq_true rfl) (Nat.le_refl _) fun hwf hlt => ?_
    rw [show Tryz.f13.results.toList = [.tmp 4, .tmp 5] from rfl]
    refine awp_begin _ _ _ _ _ (cc := _) (by conv => lhs; simp only [push_cast, seval, Tryz.f13]) ?_
    simp only [push_cast, seval, EE_P]
    repeat' (first | simp only [push_cast, seval, EE_P] | simp (disch := omega) only [wrap_fits] | ((first | with_reducible apply wcall_pure | with_reducible apply wdcall_pure); focus (first | assumption | exact refvalid_fn ⟨_, _⟩)) | (with_reducible refine wguard_split_t (fun h => ?_) (fun h => ?_)) | (with_reducible refine wguard_split_f (fun h => ?_) (fun h => ?_)) | (with_reducible refine wcond_split (fun h => ?_) (fun h => ?_)) | (with_reducible refine wdguard_split_t (fun h => ?_) (fun h => ?_)) | (with_reducible refine wdguard_split_f (fun h => ?_) (fun h => ?_)) | (with_reducible refine And.intro (fun h => ?_) (fun h => ?_)) | (with_reducible apply And.intro; focus omega))
    all_goals (try (exfalso; exact hr ⟨by assumption, by assumption⟩))
    all_goals ((refine ends_ret (by simp only [resultsOf, resOf, push_cast, seval, EE_P]; rfl) (by simp only [push_cast, seval, EE_P]) ?_ (by repeat' (first | exact Keeps.refl _ | assumption | exact (hwf.keep1 _) | refine Keeps.new hwf ?_ (by omega) _)) (by simp only [lt_int, lt_bool, lt_str, lt_nil, lt_empty, lt_agg, lt_tup, lt_list, lt_cells, lt_fn, lt_nilp, lt_nilfn, lt_nili, List.mem_cons, List.not_mem_nil, or_false, forall_eq_or_imp, forall_eq, and_true, true_and, and_self, implies_true, *]; try omega)); (try simp only [tupOf, push_cast, seval, EE_P]))
    all_goals (unfold fcmp; simp_all)
def fewS (ls : List Line) : Bool := (ls.all fun l => decide (l.name.size ≤ 40) && decide (l.group.size ≤ 40)) && decide (ls.length ≤ 12)
theorem few_no {ls : List Line} {i : Nat} {l : Line} (h : ls[i]? = some l) (hn : 40 < l.name.size ∨ 40 < l.group.size) : fewS ls = false := by
  unfold fewS
  rw [show (ls.all fun l => decide (l.name.size ≤ 40) && decide (l.group.size ≤ 40)) = false from ?_, Bool.false_and]
  rw [List.all_eq_false]
  exact ⟨l, List.mem_of_getElem? h, by simp; omega⟩
theorem few_yes {ls : List Line} (h : ∀ (j : Nat) (l : Line), ls[j]? = some l → l.name.size ≤ 40 ∧ l.group.size ≤ 40) : fewS ls = decide (ls.length ≤ 12) := by
  unfold fewS
  rw [show (ls.all fun l => decide (l.name.size ≤ 40) && decide (l.group.size ≤ 40)) = true from ?_, Bool.true_and]
  rw [List.all_eq_true]
  intro l hl
  obtain ⟨j, hj, rfl⟩ := List.getElem_of_mem hl
  have := h j ls[j] (List.getElem?_eq_getElem hj)
  simp; exact this
theorem few_fn {ls : List Line} {v : PV} (hv : SliceP (ls.map Line.cs) v) (hl : ls.length ≤ 9223372036854775807) : Pure EE 11 [v] (.bool (fewS ls)) := by
  have hvl := hv.len
  simp only [List.length_map] at hvl
  intro σ nx
  refine fn_of_body goodEE (by rw [EE_P]; exact Tryz.func11) rfl rfl (by kernel_rfl) (Nat.le_of_ble_eq_true rfl) (Nat.le_refl _) fun hwf hlt => ?_
  rw [show Tryz.f11.results.toList = [.tmp 2] from rfl]
  refine awp_begin _ _ _ _ _ (cc := _) (by conv => lhs; simp only [push_cast, seval, Tryz.f11]) ?_
  simp only [push_cast, seval, EE_P]
  repeat' (first | simp only [push_cast, seval, EE_P, hvl, hv.str] | simp (disch := omega) only [wrap_fits] | ((first | with_reducible apply wcall_pure | with_reducible apply wdcall_pure); focus (first | assumption | fail)) | (with_reducible refine wguard_split_t (fun h => ?_) (fun h => ?_)) | (with_reducible refine wguard_split_f (fun h => ?_) (fun h => ?_)) | (with_reducible refine wcond_split (fun h => ?_) (fun h => ?_)) | (with_reducible refine wdguard_split_t (fun h => ?_) (fun h => ?_)) | (with_reducible refine wdguard_split_f (fun h => ?_) (fun h => ?_)) | (with_reducible refine And.intro (fun h => ?_) (fun h => ?_)) | (with_reducible apply And.intro; focus omega))
  refine wloop_by (fun m sl σ' nx' => ∃ i : Nat, i ≤ ls.length ∧ m = ls.length - i ∧ (∀ j (l : Line), ls[j]? = some l → j < i → l.name.size ≤ 40 ∧ l.group.size ≤ 40) ∧ sl 0 = v ∧ sl 3 = .int .i64 i ∧ Keeps σ σ') ls.length
    ⟨0, by omega, rfl, fun j _ _ h => by omega, rfl, rfl, .refl _⟩ ?_
  rintro m sl σ' nx' ⟨i, hi, hm, hb, h0, h3, hk⟩
  have hi0 : (0 : Int) ≤ i := by omega
  by_cases hil : i < ls.length
  · have hil' : (i : Int) < ls.length := by omega
    obtain rfl : v = .list (ls.map Line.cs) := hv.lt (i := i) (by simpa using hil)
    have hw : IntKind.i64.wrap ((i : Int) + 1) = (i : Int) + 1 := wrap_small (by omega) (by omega)
    have hget : (ls.map Line.cs)[i]? = some ls[i].cs := by rw [List.getElem?_map, List.getElem?_eq_getElem hil]; rfl
    have hget' : ls[i]? = some ls[i] := List.getElem?_eq_getElem hil
    generalize hf : ls[i] = f at hget hget'
    have hno := few_no hget'
    repeat' (first | simp only [push_cast, seval, EE_P, h0, h3, hvl, hi0, hil', hget, hw, List.length_map, Int.toNat_natCast] | simp (disch := omega) only [wrap_fits] | ((first | with_reducible apply wcall_pure | with_reducible apply wdcall_pure); focus (first | assumption | fail)) | (with_reducible refine wguard_split_t (fun h => ?_) (fun h => ?_)) | (with_reducible refine wguard_split_f (fun h => ?_) (fun h => ?_)) | (with_reducible refine wcond_split (fun h => ?_) (fun h => ?_)) | (with_reducible refine wdguard_split_t (fun h => ?_) (fun h => ?_)) | (with_reducible refine wdguard_split_f (fun h => ?_) (fun h => ?_)) | (with_reducible refine And.intro (fun h => ?_) (fun h => ?_)) | (with_reducible apply And.intro; focus omega))
    · ((refine ends_ret (by simp only [resultsOf, resOf, push_cast, seval, EE_P]; rfl) (by simp only [push_cast, seval, EE_P]) ?_ (by repeat' (first | exact Keeps.refl _ | assumption | exact (hwf.keep1 _) | refine Keeps.new hwf ?_ (by omega) _)) (by simp only [lt_int, lt_bool, lt_str, lt_nil, lt_empty, lt_agg, lt_tup, lt_list, lt_cells, lt_fn, lt_nilp, lt_nilfn, lt_nili, List.mem_cons, List.not_mem_nil, or_false, forall_eq_or_imp, forall_eq, and_true, true_and, and_self, implies_true, *]; try omega)); (try simp only [tupOf, push_cast, seval, EE_P]))
      rw [hno (by omega)]
    · refine ⟨ls.length - (i + 1), by omega, i + 1, by omega, rfl, fun j l hj hji => ?_, by simp, (by repeat' (first | exact Keeps.refl _ | assumption | exact (hwf.keep1 _) | refine Keeps.new hwf ?_ (by omega) _))⟩
      by_cases hjj : j = i
      · subst hjj
        rw [hget'] at hj
        cases hj
        omega
      · exact hb j l hj (by omega)
    · ((refine ends_ret (by simp only [resultsOf, resOf, push_cast, seval, EE_P]; rfl) (by simp only [push_cast, seval, EE_P]) ?_ (by repeat' (first | exact Keeps.refl _ | assumption | exact (hwf.keep1 _) | refine Keeps.new hwf ?_ (by omega) _)) (by simp only [lt_int, lt_bool, lt_str, lt_nil, lt_empty, lt_agg, lt_tup, lt_list, lt_cells, lt_fn, lt_nilp, lt_nilfn, lt_nili, List.mem_cons, List.not_mem_nil, or_false, forall_eq_or_imp, forall_eq, and_true, true_and, and_self, implies_true, *]; try omega)); (try simp only [tupOf, push_cast, seval, EE_P]))
      rw [hno (by omega)]
  · have hil' : ¬ (i : Int) < ls.length := by omega
    repeat' (first | simp only [push_cast, seval, EE_P, h0, h3, hvl, hil', hv.str] | simp (disch := omega) only [wrap_fits] | ((first | with_reducible apply wcall_pure | with_reducible apply wdcall_pure); focus (first | assumption | fail)) | (with_reducible refine wguard_split_t (fun h => ?_) (fun h => ?_)) | (with_reducible refine wguard_split_f (fun h => ?_) (fun h => ?_)) | (with_reducible refine wcond_split (fun h => ?_) (fun h => ?_)) | (with_reducible refine wdguard_split_t (fun h => ?_) (fun h => ?_)) | (with_reducible refine wdguard_split_f (fun h => ?_) (fun h => ?_)) | (with_reducible refine And.intro (fun h => ?_) (fun h => ?_)) | (with_reducible apply And.intro; focus omega))
    ((refine ends_ret (by simp only [resultsOf, resOf, push_cast, seval, EE_P]; rfl) (by simp only [push_cast, seval, EE_P]) ?_ (by repeat' (first | exact Keeps.refl _ | assumption | exact (hwf.keep1 _) | refine Keeps.new hwf ?_ (by omega) _)) (by simp only [lt_int, lt_bool, lt_str, lt_nil, lt_empty, lt_agg, lt_tup, lt_list, lt_cells, lt_fn, lt_nilp, lt_nilfn, lt_nili, List.mem_cons, List.not_mem_nil, or_false, forall_eq_or_imp, forall_eq, and_true, true_and, and_self, implies_true, *]; try omega)); (try simp only [tupOf, push_cast, seval, EE_P]))
    rw [few_yes fun j l hj => hb j l hj (by have := (List.getElem?_eq_some_iff.1 hj).1; omega)]
    congr 1
    simp
    omega

/-! ### slices.Equal of strings -/
theorem strs_len (l : List ByteArray) : lenP (strsP l) = some (l.length : Int) := by simp [strsP, lenP_list]
theorem strs_str (l : List ByteArray) : isStr (strsP l) = false := rfl
theorem equal_no {a b : List ByteArray} {i : Nat} (h : i < a.length) (h' : i < b.length) (hn : a[i] ≠ b[i]) : decide (a = b) = false := decide_eq_false fun e => by subst e; exact hn rfl
theorem equal_fn {a b : List ByteArray} (ha : a.length ≤ 4611686018427387904) (hb : b.length ≤ 4611686018427387904) : Pure EE 30 [strsP a, strsP b] (.bool (decide (a = b))) := by
  by_cases hab : a.length = b.length
  · have hab' : ((a.length : Int) = b.length) = True := eq_true (by omega)
    intro σ nx
    refine fn_of_body goodEE (by rw [EE_P]; exact Tryz.func30) rfl rfl (by kernel_rfl) (Nat.le_of_ble_eq_true rfl) (Nat.le_refl _) fun hwf hlt => ?_
    rw [show Tryz.f30.results.toList = [.tmp 4] from rfl]
    refine awp_begin _ _ _ _ _ (cc := _) (by conv => lhs; simp only [push_cast, seval, Tryz.f30]) ?_
    simp only [push_cast, seval, EE_P, strs_len]
    repeat' (first | simp only [push_cast, seval, EE_P, hab', strs_str, strs_len, not_true_eq_false] | simp (disch := omega) only [wrap_fits] | ((first | with_reducible apply wcall_pure | with_reducible apply wdcall_pure); focus (first | assumption | fail)) | (with_reducible refine wguard_split_t (fun h => ?_) (fun h => ?_)) | (with_reducible refine wguard_split_f (fun h => ?_) (fun h => ?_)) | (with_reducible refine wcond_split (fun h => ?_) (fun h => ?_)) | (with_reducible refine wdguard_split_t (fun h => ?_) (fun h => ?_)) | (with_reducible refine wdguard_split_f (fun h => ?_) (fun h => ?_)) | (with_reducible refine And.intro (fun h => ?_) (fun h => ?_)) | (with_reducible apply And.intro; focus omega))
    refine wloop_by (fun m sl σ' nx' => ∃ i : Nat, i ≤ a.length ∧ m = a.length - i ∧ (∀ j (h : j < a.length) (h' : j < b.length), j < i → a[j] = b[j]) ∧ sl 0 = strsP a ∧ sl 1 = strsP b ∧ sl 12 = .int .i64 a.length ∧ sl 13 = .int .i64 i ∧ Keeps σ σ') a.length
      ⟨0, by omega, rfl, fun j _ _ h => by omega, rfl, rfl, rfl, rfl, .refl _⟩ ?_
    rintro m sl σ' nx' ⟨i, hi, hm, hb2, h0, h1, h12, h13, hk⟩
    have hi0 : (0 : Int) ≤ i := by omega
    by_cases hil : i < a.length
    · have hil' : (i : Int) < a.length := by omega
      have hil2 : (i : Int) < b.length := by omega
      have hw : IntKind.i64.wrap ((i : Int) + 1) = (i : Int) + 1 := wrap_small (by omega) (by omega)
      have g1 := strsP_get hil
      have g2 := strsP_get (l := b) (i := i) (by omega)
      have hno := equal_no (b := b) hil (by omega)
      have h0' : sl 0 = .list (a.map fun s => [PV.str s]) := h0
      have h1' : sl 1 = .list (b.map fun s => [PV.str s]) := h1
      generalize ha : a[i] = x at g1 hno
      generalize hb : b[i] = y at g2 hno
      repeat' (first | simp only [push_cast, seval, EE_P, h0', h1', h12, h13, hi0, hil', hil2, g1, g2, hw, List.length_map, Int.toNat_natCast] | simp (disch := omega) only [wrap_fits] | ((first | with_reducible apply wcall_pure | with_reducible apply wdcall_pure); focus (first | assumption | fail)) | (with_reducible refine wguard_split_t (fun h => ?_) (fun h => ?_)) | (with_reducible refine wguard_split_f (fun h => ?_) (fun h => ?_)) | (with_reducible refine wcond_split (fun h => ?_) (fun h => ?_)) | (with_reducible refine wdguard_split_t (fun h => ?_) (fun h => ?_)) | (with_reducible refine wdguard_split_f (fun h => ?_) (fun h => ?_)) | (with_reducible refine And.intro (fun h => ?_) (fun h => ?_)) | (with_reducible apply And.intro; focus omega))
      · ((refine ends_ret (by simp only [resultsOf, resOf, push_cast, seval, EE_P]; rfl) (by simp only [push_cast, seval, EE_P]) ?_ (by repeat' (first | exact Keeps.refl _ | assumption | exact (hwf.keep1 _) | refine Keeps.new hwf ?_ (by omega) _)) (by simp only [lt_int, lt_bool, lt_str, lt_nil, lt_empty, lt_agg, lt_tup, lt_list, lt_cells, lt_fn, lt_nilp, lt_nilfn, lt_nili, List.mem_cons, List.not_mem_nil, or_false, forall_eq_or_imp, forall_eq, and_true, true_and, and_self, implies_true, *]; try omega)); (try simp only [tupOf, push_cast, seval, EE_P]))
        rw [hno (by assumption)]
      · refine ⟨a.length - (i + 1), by omega, i + 1, by omega, rfl, fun j h1 h2 hji => ?_, rfl, rfl, by simp, (by repeat' (first | exact Keeps.refl _ | assumption | exact (hwf.keep1 _) | refine Keeps.new hwf ?_ (by omega) _))⟩
        by_cases hjj : j = i
        · subst hjj; rw [ha, hb]; assumption
        · exact hb2 j h1 h2 (by omega)
    · have hil' : ¬ (i : Int) < a.length := by omega
      repeat' (first | simp only [push_cast, seval, EE_P, h0, h1, h12, h13, hil'] | simp (disch := omega) only [wrap_fits] | ((first | with_reducible apply wcall_pure | with_reducible apply wdcall_pure); focus (first | assumption | fail)) | (with_reducible refine wguard_split_t (fun h => ?_) (fun h => ?_)) | (with_reducible refine wguard_split_f (fun h => ?_) (fun h => ?_)) | (with_reducible refine wcond_split (fun h => ?_) (fun h => ?_)) | (with_reducible refine wdguard_split_t (fun h => ?_) (fun h => ?_)) | (with_reducible refine wdguard_split_f (fun h => ?_) (fun h => ?_)) | (with_reducible refine And.intro (fun h => ?_) (fun h => ?_)) | (with_reducible apply And.intro; focus omega))
      ((refine ends_ret (by simp only [resultsOf, resOf, push_cast, seval, EE_P]; rfl) (by simp only [push_cast, seval, EE_P]) ?_ (by repeat' (first | exact Keeps.refl _ | assumption | exact (hwf.keep1 _) | refine Keeps.new hwf ?_ (by omega) _)) (by simp only [lt_int, lt_bool, lt_str, lt_nil, lt_empty, lt_agg, lt_tup, lt_list, lt_cells, lt_fn, lt_nilp, lt_nilfn, lt_nili, List.mem_cons, List.not_mem_nil, or_false, forall_eq_or_imp, forall_eq, and_true, true_and, and_self, implies_true, *]; try omega)); (try simp only [tupOf, push_cast, seval, EE_P]))
      rw [decide_eq_true (List.ext_getElem hab fun j h h' => hb2 j h h' (by omega))]
  · have hab' : ((a.length : Int) = b.length) = False := eq_false (by omega)
    intro σ nx
    refine fn_of_body goodEE (by rw [EE_P]; exact Tryz.func30) rfl rfl (by kernel_rfl) (Nat.le_of_ble_eq_true rfl) (Nat.le_refl _) fun hwf hlt => ?_
    rw [show Tryz.f30.results.toList = [.tmp 4] from rfl]
    refine awp_begin _ _ _ _ _ (cc := _) (by conv => lhs; simp only [push_cast, seval, Tryz.f30]) ?_
    simp only [push_cast, seval, EE_P, strs_len]
    repeat' (first | simp only [push_cast, seval, EE_P, hab', strs_str, strs_len] | simp (disch := omega) only [wrap_fits] | ((first | with_reducible apply wcall_pure | with_reducible apply wdcall_pure); focus (first | assumption | fail)) | (with_reducible refine wguard_split_t (fun h => ?_) (fun h => ?_)) | (with_reducible refine wguard_split_f (fun h => ?_) (fun h => ?_)) | (with_reducible refine wcond_split (fun h => ?_) (fun h => ?_)) | (with_reducible refine wdguard_split_t (fun h => ?_) (fun h => ?_)) | (with_reducible refine wdguard_split_f (fun h => ?_) (fun h => ?_)) | (with_reducible refine And.intro (fun h => ?_) (fun h => ?_)) | (with_reducible apply And.intro; focus omega))
    ((refine ends_ret (by simp only [resultsOf, resOf, push_cast, seval, EE_P]; rfl) (by simp only [push_cast, seval, EE_P]) ?_ (by repeat' (first | exact Keeps.refl _ | assumption | exact (hwf.keep1 _) | refine Keeps.new hwf ?_ (by omega) _)) (by simp only [lt_int, lt_bool, lt_str, lt_nil, lt_empty, lt_agg, lt_tup, lt_list, lt_cells, lt_fn, lt_nilp, lt_nilfn, lt_nili, List.mem_cons, List.not_mem_nil, or_false, forall_eq_or_imp, forall_eq, and_true, true_and, and_self, implies_true, *]; try omega)); (try simp only [tupOf, push_cast, seval, EE_P]))
    rw [decide_eq_false fun e => hab (by rw [e])]

/-! ### awake -/
theorem awake1_fn (n : Int) : Pure EE 29 [.int .i64 n] ((Frac.mk n 1).pv) := by
  intro σ nx
  refine fn_of_body goodEE (by rw [EE_P]; exact Tryz.func29) rfl rfl (by kernel_rfl) (Nat.le_of_ble_eq_true rfl) (Nat.le_refl _) fun hwf hlt => ?_
  rw [show Tryz.f29.results.toList = [.cell 2 27] from rfl]
  refine awp_begin _ _ _ _ _ (cc := _) (by conv => lhs; simp only [push_cast, seval, Tryz.f29]) ?_
  simp only [push_cast, seval, EE_P]
  repeat' (first | simp only [push_cast, seval, EE_P] | simp (disch := omega) only [wrap_fits] | ((first | with_reducible apply wcall_pure | with_reducible apply wdcall_pure); focus (first | assumption | fail)) | (with_reducible refine wguard_split_t (fun h => ?_) (fun h => ?_)) | (with_reducible refine wguard_split_f (fun h => ?_) (fun h => ?_)) | (with_reducible refine wcond_split (fun h => ?_) (fun h => ?_)) | (with_reducible refine wdguard_split_t (fun h => ?_) (fun h => ?_)) | (with_reducible refine wdguard_split_f (fun h => ?_) (fun h => ?_)) | (with_reducible refine And.intro (fun h => ?_) (fun h => ?_)) | (with_reducible apply And.intro; focus omega))
  ((refine ends_ret (by simp only [resultsOf, resOf, push_cast, seval, EE_P]; rfl) (by simp only [push_cast, seval, EE_P]) ?_ (by repeat' (first | exact Keeps.refl _ | assumption | exact (hwf.keep1 _) | refine Keeps.new hwf ?_ (by omega) _)) (by simp only [lt_int, lt_bool, lt_str, lt_nil, lt_empty, lt_agg, lt_tup, lt_list, lt_cells, lt_fn, lt_nilp, lt_nilfn, lt_nili, List.mem_cons, List.not_mem_nil, or_false, forall_eq_or_imp, forall_eq, and_true, true_and, and_self, implies_true, *]; try omega)); (try simp only [tupOf, push_cast, seval, EE_P]))
def awakeLines : List Line := [⟨(⟨#[97]⟩ : ByteArray), ⟨#[]⟩, 0, true, 30, 1, 0⟩, ⟨(⟨#[98]⟩ : ByteArray), (⟨#[103]⟩ : ByteArray), 0, true, 5, 1, 0⟩, ⟨(⟨#[99]⟩ : ByteArray), (⟨#[103]⟩ : ByteArray), 0, true, 8, 1, 0⟩, ⟨(⟨#[100]⟩ : ByteArray), ⟨#[]⟩, 1, true, 50, 1, 0⟩, ⟨(⟨#[102]⟩ : ByteArray), ⟨#[]⟩, 3, true, 10, 1, 0⟩, ⟨(⟨#[104]⟩ : ByteArray), ⟨#[]⟩, 2, true, 9, 1, 0⟩]
def awakeCredit : Credit := ⟨[⟨(⟨#[97]⟩ : ByteArray), 30, 1⟩, ⟨(⟨#[99]⟩ : ByteArray), 8, 1⟩, ⟨(⟨#[100]⟩ : ByteArray), -38, 1⟩, ⟨(⟨#[102]⟩ : ByteArray), 10, 1⟩, ⟨(⟨#[104]⟩ : ByteArray), -1, 1⟩], ⟨9, 1⟩, 900⟩
theorem awake_combine : combineS awakeLines = (awakeCredit, 0) := by kernel_rfl
theorem awake_valid : validS awakeCredit = true := by kernel_rfl
def awakeTexts : List ByteArray := [(⟨#[97, 32, 43, 51, 48]⟩ : ByteArray), (⟨#[99, 32, 43, 56]⟩ : ByteArray), (⟨#[100, 32, 45, 51, 56]⟩ : ByteArray), (⟨#[102, 32, 43, 49, 48]⟩ : ByteArray), (⟨#[104, 32, 45, 49]⟩ : ByteArray), (⟨#[116, 111, 116, 97, 108, 32, 57, 46, 48, 48]⟩ : ByteArray)]
theorem awake_explain : explainS awakeCredit = awakeTexts := by kernel_rfl
theorem awake_fn : Pure EE 10 [] (.bool true) := by
  have hc := combine_fn (ls := awakeLines) .list
  rw [awake_combine] at hc
  have he := explain_fn awakeCredit (partsV_slice _) (by decide)
  rw [show explainV awakeCredit = strsP (explainS awakeCredit) from if_pos awake_valid, awake_explain] at he
  intro σ nx
  refine fn_of_body goodEE (by rw [EE_P]; exact Tryz.func10) rfl rfl (by kernel_rfl) (Nat.le_of_ble_eq_true rfl) (Nat.le_refl _) fun hwf hlt => ?_
  rw [show Tryz.f10.results.toList = [.tmp 0] from rfl]
  refine awp_begin _ _ _ _ _ (cc := _) (by conv => lhs; simp only [push_cast, seval, Tryz.f10]) ?_
  simp only [push_cast, seval, EE_P]
  repeat' (first | simp only [push_cast, seval, EE_P] | simp (disch := omega) only [wrap_fits] | ((first | with_reducible apply wcall_pure | with_reducible apply wdcall_pure); focus (first | assumption | exact equal_fn (by simp) (by simp) | exact awake1_fn _ | exact few_fn (by assumption) (by omega) | exact refcompare_fn ⟨_, _⟩ ⟨_, _⟩ | exact refvalid_fn ⟨_, _⟩ | exact explain_fn _ (by assumption) (by omega) | exact valid_credit_fn _ (by assumption) (by omega) | exact sum_fn (by assumption) (by omega) | exact all_fn (by assumption) (by omega) | exact pointsText_fn _ | exact cutPrefix_fn _ _ | exact cutPrefix1_fn _ _ | exact hasPrefix_fn _ _ | exact format_fn ⟨_, _⟩ | exact itoa_fn (by omega) (by omega) | exact steps_fn _ | exact choosef_fn _ _ | exact wrong_fn _ | exact right_fn _ | exact isName_fn _ | exact formatExpr_name _ | exact format_name _ | exact right_name _ | exact depth_name _ | exact name_fn _ | exact run_fn _ (by omega) _ [] [] _ (fun b _ _ => inName_fn b) | exact keywords_fn | exact contains_fn kwS (by decide) _ | exact inName_fn _ | exact digit_fn _ | exact letter_fn _ | exact hundredths_fn goodEE EE_P _ _ | exact mul_fn goodEE EE_P _ _ _ _ | exact sub_fn goodEE EE_P _ _ _ _ | exact add_fn goodEE EE_P _ _ _ _ | exact weight_fn goodEE EE_P EE_zero _ _ _ _ _ _ _ | exact less_fn goodEE EE_P _ _ _ _ | exact compare_fn goodEE EE_P _ _ _ _ | exact cmp_fn goodEE EE_P _ _ | exact isNaN_fn goodEE EE_P _ | exact valid_fn goodEE EE_P _ _ | exact abs_fn goodEE EE_P (by omega) (by omega))) | (with_reducible refine wguard_split_t (fun h => ?_) (fun h => ?_)) | (with_reducible refine wguard_split_f (fun h => ?_) (fun h => ?_)) | (with_reducible refine wcond_split (fun h => ?_) (fun h => ?_)) | (with_reducible refine wdguard_split_t (fun h => ?_) (fun h => ?_)) | (with_reducible refine wdguard_split_f (fun h => ?_) (fun h => ?_)) | (with_reducible refine And.intro (fun h => ?_) (fun h => ?_)) | (with_reducible apply And.intro; focus omega))
  refine wcall_freeze (σ' := upd _ (nx + 20) none) hc ((Sub.refl _).drop _) ⟨fz_row (k := nx + 20) (by simp only [upd_at, push_cast, seval]; rfl) (upd_same ..) rfl, trivial⟩ ?_
  simp only [awakeCredit, Credit.val, Credit.pv] at he ⊢
  have hone : one (partsV awakeCredit.parts) = true := (partsV_slice _).one
  have hcel : cellsP (partsV awakeCredit.parts) = [partsV awakeCredit.parts] := (partsV_slice _).cells
  simp only [awakeCredit] at hone hcel
  repeat' (first | simp only [push_cast, seval, EE_P, hone, hcel] | simp (disch := omega) only [wrap_fits] | ((first | with_reducible apply wcall_pure | with_reducible apply wdcall_pure); focus (first | assumption | exact equal_fn (by simp) (by simp) | exact awake1_fn _ | exact few_fn (by assumption) (by omega) | exact refcompare_fn ⟨_, _⟩ ⟨_, _⟩ | exact refvalid_fn ⟨_, _⟩ | exact explain_fn _ (by assumption) (by omega) | exact valid_credit_fn _ (by assumption) (by omega) | exact sum_fn (by assumption) (by omega) | exact all_fn (by assumption) (by omega) | exact pointsText_fn _ | exact cutPrefix_fn _ _ | exact cutPrefix1_fn _ _ | exact hasPrefix_fn _ _ | exact format_fn ⟨_, _⟩ | exact itoa_fn (by omega) (by omega) | exact steps_fn _ | exact choosef_fn _ _ | exact wrong_fn _ | exact right_fn _ | exact isName_fn _ | exact formatExpr_name _ | exact format_name _ | exact right_name _ | exact depth_name _ | exact name_fn _ | exact run_fn _ (by omega) _ [] [] _ (fun b _ _ => inName_fn b) | exact keywords_fn | exact contains_fn kwS (by decide) _ | exact inName_fn _ | exact digit_fn _ | exact letter_fn _ | exact hundredths_fn goodEE EE_P _ _ | exact mul_fn goodEE EE_P _ _ _ _ | exact sub_fn goodEE EE_P _ _ _ _ | exact add_fn goodEE EE_P _ _ _ _ | exact weight_fn goodEE EE_P EE_zero _ _ _ _ _ _ _ | exact less_fn goodEE EE_P _ _ _ _ | exact compare_fn goodEE EE_P _ _ _ _ | exact cmp_fn goodEE EE_P _ _ | exact isNaN_fn goodEE EE_P _ | exact valid_fn goodEE EE_P _ _ | exact abs_fn goodEE EE_P (by omega) (by omega))) | (with_reducible refine wguard_split_t (fun h => ?_) (fun h => ?_)) | (with_reducible refine wguard_split_f (fun h => ?_) (fun h => ?_)) | (with_reducible refine wcond_split (fun h => ?_) (fun h => ?_)) | (with_reducible refine wdguard_split_t (fun h => ?_) (fun h => ?_)) | (with_reducible refine wdguard_split_f (fun h => ?_) (fun h => ?_)) | (with_reducible refine And.intro (fun h => ?_) (fun h => ?_)) | (with_reducible apply And.intro; focus omega))
  refine wcall_lend goodEE (equal_fn (a := awakeTexts) (b := awakeTexts) (by decide) (by decide)) ⟨.refl _, fza_row (upd_same ..) rfl, trivial⟩ (.bool _) ?_
  repeat' (first | simp only [push_cast, seval, EE_P] | simp (disch := omega) only [wrap_fits] | ((first | with_reducible apply wcall_pure | with_reducible apply wdcall_pure); focus (first | assumption | exact equal_fn (by simp) (by simp) | exact awake1_fn _ | exact few_fn (by assumption) (by omega) | exact refcompare_fn ⟨_, _⟩ ⟨_, _⟩ | exact refvalid_fn ⟨_, _⟩ | exact explain_fn _ (by assumption) (by omega) | exact valid_credit_fn _ (by assumption) (by omega) | exact sum_fn (by assumption) (by omega) | exact all_fn (by assumption) (by omega) | exact pointsText_fn _ | exact cutPrefix_fn _ _ | exact cutPrefix1_fn _ _ | exact hasPrefix_fn _ _ | exact format_fn ⟨_, _⟩ | exact itoa_fn (by omega) (by omega) | exact steps_fn _ | exact choosef_fn _ _ | exact wrong_fn _ | exact right_fn _ | exact isName_fn _ | exact formatExpr_name _ | exact format_name _ | exact right_name _ | exact depth_name _ | exact name_fn _ | exact run_fn _ (by omega) _ [] [] _ (fun b _ _ => inName_fn b) | exact keywords_fn | exact contains_fn kwS (by decide) _ | exact inName_fn _ | exact digit_fn _ | exact letter_fn _ | exact hundredths_fn goodEE EE_P _ _ | exact mul_fn goodEE EE_P _ _ _ _ | exact sub_fn goodEE EE_P _ _ _ _ | exact add_fn goodEE EE_P _ _ _ _ | exact weight_fn goodEE EE_P EE_zero _ _ _ _ _ _ _ | exact less_fn goodEE EE_P _ _ _ _ | exact compare_fn goodEE EE_P _ _ _ _ | exact cmp_fn goodEE EE_P _ _ | exact isNaN_fn goodEE EE_P _ | exact valid_fn goodEE EE_P _ _ | exact abs_fn goodEE EE_P (by omega) (by omega))) | (with_reducible refine wguard_split_t (fun h => ?_) (fun h => ?_)) | (with_reducible refine wguard_split_f (fun h => ?_) (fun h => ?_)) | (with_reducible refine wcond_split (fun h => ?_) (fun h => ?_)) | (with_reducible refine wdguard_split_t (fun h => ?_) (fun h => ?_)) | (with_reducible refine wdguard_split_f (fun h => ?_) (fun h => ?_)) | (with_reducible refine And.intro (fun h => ?_) (fun h => ?_)) | (with_reducible apply And.intro; focus omega))
  ((refine ends_ret (by simp only [resultsOf, resOf, push_cast, seval, EE_P]; rfl) (by simp only [push_cast, seval, EE_P]) ?_ (by repeat' (first | exact Keeps.refl _ | assumption | exact (hwf.keep1 _) | refine Keeps.new hwf ?_ (by omega) _)) (by simp only [lt_int, lt_bool, lt_str, lt_nil, lt_empty, lt_agg, lt_tup, lt_list, lt_cells, lt_fn, lt_nilp, lt_nilfn, lt_nili, List.mem_cons, List.not_mem_nil, or_false, forall_eq_or_imp, forall_eq, and_true, true_and, and_self, implies_true, *]; try omega)); (try simp only [tupOf, push_cast, seval, EE_P]))
  simp
end Go.Proofs.YtdajoilaakiinaaGreatDoor.Awp

/- The plain law of CreditLimits. -/
namespace Go.Proofs.YtdajoilaakiinaaGreatDoor.Awp
open Go Go.Proofs
set_option linter.unusedSimpArgs false
set_option linter.unusedVariables false
set_option maxHeartbeats 1000000

abbrev Fok (a : Frac) : Prop := FV a.n a.d
def Fle (a b : Frac) : Prop := a.n * b.d ≤ b.n * a.d
instance (a b : Frac) : Decidable (Fle a b) := by unfold Fle; infer_instance
theorem Fok.pos {a : Frac} (h : Fok a) : 0 < a.d := by have := h.1; omega
theorem Fle.rfl' (a : Frac) : Fle a a := Int.le_refl _
theorem Fle.trans {a b c : Frac} (ha : 0 < a.d) (hb : 0 < b.d) (hc : 0 < c.d) (h : Fle a b) (h' : Fle b c) : Fle a c := by
  unfold Fle at *
  refine Int.le_of_mul_le_mul_right (?_ : a.n * c.d * b.d ≤ c.n * a.d * b.d) hb
  have h1 := Int.mul_le_mul_of_nonneg_right h (c := c.d) (by omega)
  have h2 := Int.mul_le_mul_of_nonneg_right h' (c := a.d) (by omega)
  calc a.n * c.d * b.d = a.n * b.d * c.d := by rw [Int.mul_right_comm]
    _ ≤ b.n * a.d * c.d := h1
    _ = b.n * c.d * a.d := by rw [Int.mul_right_comm]
    _ ≤ c.n * b.d * a.d := h2
    _ = c.n * a.d * b.d := by rw [Int.mul_right_comm]
theorem fcmp_ok {a b : Frac} (ha : Fok a) (hb : Fok b) : fcmp a.n a.d b.n b.d = cmp (a.n * b.d) (b.n * a.d) := if_pos ⟨ha, hb⟩
theorem cmp_cases (x y : Int) : (x < y ∧ cmp x y = -1) ∨ (x = y ∧ cmp x y = 0) ∨ (y < x ∧ cmp x y = 1) := by
  unfold cmp
  by_cases h : x < y
  · exact .inl ⟨h, if_pos h⟩
  · by_cases h' : x > y
    · exact .inr (.inr ⟨h', by rw [if_neg h, if_pos h']⟩)
    · exact .inr (.inl ⟨by omega, by rw [if_neg h, if_neg h']⟩)
theorem less_iff {a b : Frac} (ha : Fok a) (hb : Fok b) : lessS a b = true ↔ ¬ Fle b a := by
  unfold lessS
  rw [decide_eq_true_eq]
  unfold flt Fle
  rw [fcmp_ok ha hb]
  rcases cmp_cases (a.n * b.d) (b.n * a.d) with ⟨h1, h2⟩ | ⟨h1, h2⟩ | ⟨h1, h2⟩ <;> omega
theorem less_no {a b : Frac} (ha : Fok a) (hb : Fok b) (h : lessS a b = false) : Fle b a := Decidable.byContradiction fun hn => by
  rw [(less_iff ha hb).2 hn] at h
  cases h
theorem less_le {a b : Frac} (ha : Fok a) (hb : Fok b) (h : lessS a b = true) : Fle a b := by
  have := (less_iff ha hb).1 h
  unfold Fle at *
  omega
theorem zero_ok : Fok ⟨0, 1⟩ := by decide
/-- The weight of a line that applies. -/
theorem weight_cases {l : Line} (h : Fok l.amt) : (0 ≤ l.num ∧ weightS l = l.amt) ∨ (l.num < 0 ∧ weightS l = ⟨0, 1⟩) := by
  have e : fcmp l.num l.den 0 1 = cmp (l.num * 1) (0 * l.den) := fcmp_ok (a := l.amt) (b := ⟨0, 1⟩) h zero_ok
  rw [Int.mul_one, Int.zero_mul] at e
  have k : flt l.num l.den 0 1 ↔ l.num < 0 := by
    unfold flt
    rw [e]
    rcases cmp_cases l.num 0 with ⟨h1, h2⟩ | ⟨h1, h2⟩ | ⟨h1, h2⟩ <;> omega
  unfold weightS weightN weightD
  by_cases h1 : l.num < 0
  · rw [if_pos (k.2 h1), if_pos (k.2 h1)]; exact .inr ⟨h1, rfl⟩
  · rw [if_neg fun hn => h1 (k.1 hn), if_neg fun hn => h1 (k.1 hn)]; exact .inl ⟨by omega, rfl⟩
theorem weight_ok {l : Line} (h : Fok l.amt) : Fok (weightS l) ∧ 0 ≤ (weightS l).n := by
  rcases weight_cases h with ⟨h1, h2⟩ | ⟨h1, h2⟩
  · rw [h2]; exact ⟨h, h1⟩
  · rw [h2]; exact ⟨zero_ok, Int.le_refl _⟩
theorem zero_of {a : Frac} (h : Fok a) (h0 : a.n = 0) : a = ⟨0, 1⟩ := by
  obtain ⟨n, d⟩ := a
  simp only at h0
  subst h0
  have h1 := h.1
  have h2 := h.2.2.2.2
  simp only [Int.gcd_zero_left] at h2
  simp only [Frac.mk.injEq, true_and]
  simp only at h1
  omega
theorem red_nonneg {a b : Int} (h : 0 ≤ a) : 0 ≤ redN a b := by
  unfold redN
  split
  · exact Int.tdiv_nonneg h (Int.natCast_nonneg _)
  · omega

/-- A maker that went wrong, or has a valid number of points. -/
def Pok (m : MK) : Prop := m.wrong = true ∨ Fok m.pts ∧ 0 ≤ m.pts.n
theorem become_ok {m : MK} {name : ByteArray} {p : Frac} {e : Int} (h : e = 0 → Fok p → Pok m → m.wrong = true ∨ 0 ≤ p.n) (hm : Pok m) : (becomeS m name p e).wrong = true ∨ (m.wrong = false ∧ e = 0 ∧ Fok p ∧ 0 ≤ p.n ∧ (becomeS m name p e).pts = p) := by
  unfold becomeS
  split
  · exact .inl rfl
  · rename_i hc
    right
    have h1 : m.wrong = false := by cases hw : m.wrong <;> simp_all
    have h2 : e = 0 := Decidable.byContradiction fun hn => hc (.inr (.inl hn))
    have h3 : fsubErr p m.pts = 0 := Decidable.byContradiction fun hn => hc (.inr (.inr hn))
    have h4 : Fok p := by
      unfold fsubErr fsubE at h3
      split at h3
      · rename_i hv; exact hv.1
      · omega
    refine ⟨h1, h2, h4, ?_, rfl⟩
    rcases h h2 h4 hm with h5 | h5
    · rw [h1] at h5; cases h5
    · exact h5
theorem become_pok {m : MK} {name : ByteArray} {p : Frac} {e : Int} (h : e = 0 → Fok p → Pok m → m.wrong = true ∨ 0 ≤ p.n) (hm : Pok m) : Pok (becomeS m name p e) := by
  rcases become_ok (name := name) h hm with h1 | ⟨_, _, h1, h2, h3⟩
  · exact .inl h1
  · right; rw [h3]; exact ⟨h1, h2⟩
theorem add_nonneg {a b : Frac} (ha : Fok a) (hb : Fok b) (h : 0 ≤ a.n) (h' : 0 ≤ b.n) : 0 ≤ (fadd a b).n := by
  show 0 ≤ faddN a.n a.d b.n b.d
  unfold faddN
  rw [if_pos ⟨ha, hb⟩]
  have h1 := Int.mul_nonneg h (by have := hb.1; omega : 0 ≤ b.d)
  have h2 := Int.mul_nonneg h' (by have := ha.1; omega : 0 ≤ a.d)
  exact red_nonneg (by omega)
theorem sub_nonneg {a b : Frac} (ha : Fok a) (hb : Fok b) (h : Fle b a) : 0 ≤ (fsub a b).n := by
  show 0 ≤ fsubN a.n a.d b.n b.d
  unfold fsubN
  rw [if_pos ⟨ha, hb⟩]
  unfold Fle at h
  exact red_nonneg (by omega)
theorem adds_pok {m : MK} {name : ByteArray} {w : Frac} (hm : Pok m) (hw : Fok w ∧ 0 ≤ w.n) : Pok (addS m name w) := by
  refine become_pok (fun _ _ _ => ?_) hm
  rcases hm with h | ⟨h1, h2⟩
  · exact .inl h
  · exact .inr (add_nonneg h1 hw.1 h2 hw.2)
def AllR (ls : List Line) : Prop := ∀ l ∈ ls, rightS l = true
theorem right_amt {l : Line} (h : rightS l = true) (ha : l.app = true) : Fok l.amt := by
  unfold rightS at h
  simp [ha] at h
  exact h.2.1
theorem right_kind {l : Line} (h : rightS l = true) : 0 ≤ l.kind ∧ l.kind ≤ 3 := by
  unfold rightS at h
  simp at h
  exact h.1.1.1
theorem best_ok {g : ByteArray} {b : Line} (hb : Fok b.amt) : ∀ {ls : List Line}, AllR ls → Fok (bestS g b ls).amt := by
  intro ls
  induction ls generalizing b with
  | nil => intro _; exact hb
  | cons l ls ih =>
    intro h
    unfold bestS
    rw [List.foldl_cons]
    refine ih ?_ fun x hx => h x (List.mem_cons_of_mem _ hx)
    split
    · rename_i hc
      simp [memberS] at hc
      exact right_amt (h l (List.mem_cons_self ..)) hc.1.1.2
    · exact hb
theorem points_pok {ls : List Line} (hr : AllR ls) {i : Nat} {l : Line} (hl : ls[i]? = some l) (ha : l.app = true) {m : MK} (hm : Pok m) : Pok (pointsS ls i l m) := by
  have hok := right_amt (hr l (List.mem_of_getElem? hl)) ha
  unfold pointsS
  split
  · exact adds_pok hm (weight_ok hok)
  · split
    · exact hm
    · exact adds_pok hm (weight_ok (best_ok hok fun x hx => hr x (List.mem_of_mem_drop hx)))
theorem penalty_pok {l : Line} (hl : Fok l.amt) {m : MK} (hm : Pok m) : Pok (penaltyS l m) := by
  unfold penaltyS
  refine become_pok (fun _ _ _ => ?_) hm
  rcases hm with h | ⟨h1, h2⟩
  · exact .inl h
  · right
    have hw := weight_ok hl
    cases hc : lessS m.pts (weightS l)
    · exact sub_nonneg h1 hw.1 (less_no h1 hw.1 hc)
    · exact sub_nonneg h1 h1 (Fle.rfl' _)
theorem choose_pok {better : Frac → Frac → Bool} {l : Line} (hl : Fok l.amt) {m : MK} (hm : Pok m) : Pok (chooseS better l m) := by
  unfold chooseS
  refine become_pok (fun _ _ _ => ?_) hm
  rcases hm with h | ⟨h1, h2⟩
  · exact .inl h
  · right
    split
    · exact (weight_ok hl).2
    · exact h2
theorem stepsTo_ind {kind : Int} {f : Nat → Line → MK → MK} {ls : List Line} {m0 : MK} {P : Nat → MK → Prop} (h0 : P 0 m0)
    (hs : ∀ (j : Nat) (l : Line) (m : MK), ls[j]? = some l → P j m → (l.app = true → l.kind = kind → P (j + 1) (f j l m)) ∧ (¬ (l.app = true ∧ l.kind = kind) → P (j + 1) m)) : ∀ j, j ≤ ls.length → P j (stepsTo kind f ls m0 j)
  | 0, _ => h0
  | j + 1, hj => by
    have ih := stepsTo_ind h0 hs j (by omega)
    have hg : ls[j]? = some ls[j] := List.getElem?_eq_getElem (by omega)
    unfold stepsTo
    rw [hg]
    obtain ⟨h1, h2⟩ := hs j ls[j] _ hg ih
    simp only
    split
    · rename_i hc
      simp at hc
      exact h1 hc.1 hc.2
    · rename_i hc
      simp only [Bool.and_eq_true, decide_eq_true_eq] at hc
      exact h2 hc
theorem phase_pok {ls : List Line} (hr : AllR ls) : ∀ t, Pok (phase ls m0S t)
  | 0 => .inr ⟨zero_ok, Int.le_refl _⟩
  | t + 1 => by
    unfold phase
    refine stepsTo_ind (P := fun _ m => Pok m) (phase_pok hr t) (fun j l m hj hm => ⟨fun ha hk => ?_, fun _ => hm⟩) _ (Nat.le_refl _)
    have hok := right_amt (hr l (List.mem_of_getElem? hj)) ha
    unfold funAt
    split
    · exact points_pok hr hj ha hm
    · exact penalty_pok hok hm
    · exact choose_pok hok hm
    · exact choose_pok hok hm
/-- What the floors leave. -/
def FloorInv (ls : List Line) (j : Nat) (m : MK) : Prop := m.wrong = true ∨ Fok m.pts ∧ 0 ≤ m.pts.n ∧ ∀ (i : Nat) (l : Line), i < j → ls[i]? = some l → l.app = true → l.kind = 3 → Fle (weightS l) m.pts
theorem floors {ls : List Line} (hr : AllR ls) : FloorInv ls ls.length (phase ls m0S 3) := by
  show FloorInv ls ls.length (stepsTo 3 _ ls (phase ls m0S 2) ls.length)
  refine stepsTo_ind (P := FloorInv ls) ?_ (fun j l m hj hm => ⟨fun ha hk => ?_, fun hn => ?_⟩) _ (Nat.le_refl _)
  · rcases phase_pok hr 2 with h | ⟨h1, h2⟩
    · exact .inl h
    · exact .inr ⟨h1, h2, fun i l hi => by omega⟩
  · have hok := right_amt (hr l (List.mem_of_getElem? hj)) ha
    have hw := weight_ok hok
    have hp : Pok m := by
      rcases hm with h | ⟨h1, h2, _⟩
      · exact .inl h
      · exact .inr ⟨h1, h2⟩
    show FloorInv ls (j + 1) (becomeS m l.name (if lessS m.pts (weightS l) = true then weightS l else m.pts) 0)
    rcases become_ok (m := m) (name := l.name) (p := if lessS m.pts (weightS l) = true then weightS l else m.pts) (e := 0) (fun _ _ h => by
      rcases h with h | ⟨h1, h2⟩
      · exact .inl h
      · right; split
        · exact hw.2
        · exact h2) hp with h | ⟨h1, _, h3, h4, h5⟩
    · exact .inl h
    · right
      rw [h5]
      refine ⟨h3, h4, fun i x hi hx hxa hxk => ?_⟩
      rcases hm with h | ⟨m1, m2, m3⟩
      · rw [h1] at h; cases h
      have hx' := weight_ok (right_amt (hr x (List.mem_of_getElem? hx)) hxa)
      by_cases hij : i = j
      · subst hij
        rw [hj] at hx; cases hx
        cases hc : lessS m.pts (weightS l)
        · rw [if_neg (by simp)]; exact less_no m1 hw.1 hc
        · rw [if_pos rfl]; exact Fle.rfl' _
      · have hle := m3 i x (by omega) hx hxa hxk
        cases hc : lessS m.pts (weightS l)
        · rw [if_neg (by simp)]; exact hle
        · rw [if_pos rfl]; exact hle.trans hx'.1.pos m1.pos hw.1.pos (less_le m1 hw.1 hc)
  · rcases hm with h | ⟨m1, m2, m3⟩
    · exact .inl h
    · refine .inr ⟨m1, m2, fun i x hi hx hxa hxk => ?_⟩
      by_cases hij : i = j
      · subst hij
        rw [hj] at hx; cases hx
        exact (hn ⟨hxa, hxk⟩).elim
      · exact m3 i x (by omega) hx hxa hxk
/-- What the caps leave. -/
def CapInv (ls : List Line) (m0 : MK) (j : Nat) (m : MK) : Prop := m.wrong = true ∨ m0.wrong = false ∧ Fok m.pts ∧ 0 ≤ m.pts.n ∧ (∀ (i : Nat) (l : Line), i < j → ls[i]? = some l → l.app = true → l.kind = 2 → Fle m.pts (weightS l)) ∧
  (m.pts = m0.pts ∨ ∃ l ∈ ls, l.app = true ∧ l.kind = 2 ∧ m.pts = weightS l)
theorem caps {ls : List Line} (hr : AllR ls) : CapInv ls (phase ls m0S 3) ls.length (phase ls m0S 4) := by
  show CapInv ls (phase ls m0S 3) ls.length (stepsTo 2 _ ls (phase ls m0S 3) ls.length)
  generalize hm0 : phase ls m0S 3 = m0
  refine stepsTo_ind (P := CapInv ls m0) ?_ (fun j l m hj hm => ⟨fun ha hk => ?_, fun hn => ?_⟩) _ (Nat.le_refl _)
  · have := phase_pok hr 3
    rw [hm0] at this
    cases hw : m0.wrong
    · rcases this with h | ⟨h1, h2⟩
      · rw [hw] at h; cases h
      · exact .inr ⟨hw, h1, h2, fun i l hi => by omega, .inl rfl⟩
    · exact .inl hw
  · have hok := right_amt (hr l (List.mem_of_getElem? hj)) ha
    have hw := weight_ok hok
    have hp : Pok m := by
      rcases hm with h | ⟨_, h1, h2, _⟩
      · exact .inl h
      · exact .inr ⟨h1, h2⟩
    show CapInv ls m0 (j + 1) (becomeS m l.name (if lessS (weightS l) m.pts = true then weightS l else m.pts) 0)
    rcases become_ok (m := m) (name := l.name) (p := if lessS (weightS l) m.pts = true then weightS l else m.pts) (e := 0) (fun _ _ h => by
      rcases h with h | ⟨h1, h2⟩
      · exact .inl h
      · right; split
        · exact hw.2
        · exact h2) hp with h | ⟨h1, _, h3, h4, h5⟩
    · exact .inl h
    · right
      rw [h5]
      rcases hm with h | ⟨m0w, m1, m2, m3, m4⟩
      · rw [h1] at h; cases h
      refine ⟨m0w, h3, h4, fun i x hi hx hxa hxk => ?_, ?_⟩
      · have hx' := weight_ok (right_amt (hr x (List.mem_of_getElem? hx)) hxa)
        by_cases hij : i = j
        · subst hij
          rw [hj] at hx; cases hx
          cases hc : lessS (weightS l) m.pts
          · rw [if_neg (by simp)]; exact less_no hw.1 m1 hc
          · rw [if_pos rfl]; exact Fle.rfl' _
        · have hle := m3 i x (by omega) hx hxa hxk
          cases hc : lessS (weightS l) m.pts
          · rw [if_neg (by simp)]; exact hle
          · rw [if_pos rfl]; exact (less_le hw.1 m1 hc).trans hw.1.pos m1.pos hx'.1.pos hle
      · cases hc : lessS (weightS l) m.pts
        · rw [if_neg (by simp)]; exact m4
        · rw [if_pos rfl]; exact .inr ⟨l, List.mem_of_getElem? hj, ha, hk, rfl⟩
  · rcases hm with h | ⟨m0w, m1, m2, m3, m4⟩
    · exact .inl h
    · refine .inr ⟨m0w, m1, m2, fun i x hi hx hxa hxk => ?_, m4⟩
      by_cases hij : i = j
      · subst hij
        rw [hj] at hx; cases hx
        exact (hn ⟨hxa, hxk⟩).elim
      · exact m3 i x (by omega) hx hxa hxk
structure Limits (ls : List Line) (p : Frac) : Prop where
  ok : Fok p
  nonneg : 0 ≤ p.n
  amt : ∀ l ∈ ls, l.app = true → Fok l.amt
  kind : ∀ l ∈ ls, 0 ≤ l.kind ∧ l.kind ≤ 3
  cap : ∀ l ∈ ls, l.app = true → l.kind = 2 → fcmp p.n p.d l.num l.den > 0 → l.num < 0 ∧ p = ⟨0, 1⟩
  floor : ∀ l ∈ ls, l.app = true → l.kind = 3 → fcmp p.n p.d l.num l.den < 0 → ∃ y ∈ ls, y.kind = 2 ∧ y.app = true ∧ (fcmp p.n p.d y.num y.den = 0 ∨ y.num < 0 ∧ p = ⟨0, 1⟩)
theorem combine_ok {ls : List Line} (h : (combineS ls).2 = 0) : AllR ls ∧ (phase ls m0S 4).wrong = false ∧ Fok (phase ls m0S 4).pts ∧ combineS ls = (⟨(phase ls m0S 4).parts, (phase ls m0S 4).pts, hundS (phase ls m0S 4).pts⟩, 0) := by
  unfold combineS at h ⊢
  split at h
  · cases h
  · rename_i hc
    rw [if_neg hc]
    unfold finishS at h ⊢
    split at h
    · cases h
    · rename_i hf
      rw [if_neg hf]
      refine ⟨fun l hl => Decidable.byContradiction fun hn => hc (.inr (List.any_eq_true.2 ⟨l, hl, by simpa using hn⟩)), by cases hw : (phase ls m0S 4).wrong <;> simp_all, Decidable.byContradiction fun hn => hf (.inr (.inl hn)), rfl⟩
theorem limits {ls : List Line} (h : (combineS ls).2 = 0) : Limits ls (combineS ls).1.pts := by
  obtain ⟨hr, hw, hv, he⟩ := combine_ok h
  rw [he]
  show Limits ls (phase ls m0S 4).pts
  have hcaps := caps hr
  have hfl := floors hr
  generalize phase ls m0S 4 = m at *
  generalize phase ls m0S 3 = m0 at *
  rcases hcaps with h1 | ⟨m0w, c1, c2, c3, c4⟩
  · rw [hw] at h1; cases h1
  rcases hfl with h1 | ⟨f1, f2, f3⟩
  · rw [m0w] at h1; cases h1
  have amt : ∀ l ∈ ls, l.app = true → Fok l.amt := fun l hl ha => right_amt (hr l hl) ha
  have zero_le : Fle m.pts ⟨0, 1⟩ → m.pts = ⟨0, 1⟩ := fun hz => by
    unfold Fle at hz
    simp only [Int.mul_one, Int.zero_mul] at hz
    exact zero_of c1 (by omega)
  refine ⟨c1, c2, amt, fun l hl => right_kind (hr l hl), fun l hl ha hk hc => ?_, fun l hl ha hk hc => ?_⟩
  · obtain ⟨i, hi, rfl⟩ := List.getElem_of_mem hl
    have hle := c3 i _ hi (List.getElem?_eq_getElem hi) ha hk
    rcases weight_cases (amt _ hl ha) with ⟨w1, w2⟩ | ⟨w1, w2⟩
    · rw [w2] at hle
      have := fcmp_ok c1 (amt _ hl ha)
      unfold Fle at hle
      rcases cmp_cases (m.pts.n * ls[i].amt.d) (ls[i].amt.n * m.pts.d) with ⟨h1, h2⟩ | ⟨h1, h2⟩ | ⟨h1, h2⟩
      · rw [h2] at this; exact absurd hc (by show ¬ fcmp m.pts.n m.pts.d ls[i].amt.n ls[i].amt.d > 0; omega)
      · rw [h2] at this; exact absurd hc (by show ¬ fcmp m.pts.n m.pts.d ls[i].amt.n ls[i].amt.d > 0; omega)
      · omega
    · rw [w2] at hle
      exact ⟨w1, zero_le hle⟩
  · have hok := amt _ hl ha
    have e := fcmp_ok c1 hok
    have hlt : m.pts.n * l.amt.d < l.amt.n * m.pts.d := by
      rcases cmp_cases (m.pts.n * l.amt.d) (l.amt.n * m.pts.d) with ⟨h1, h2⟩ | ⟨h1, h2⟩ | ⟨h1, h2⟩
      · exact h1
      · rw [h2] at e; exact absurd hc (by show ¬ fcmp m.pts.n m.pts.d l.amt.n l.amt.d < 0; omega)
      · rw [h2] at e; exact absurd hc (by show ¬ fcmp m.pts.n m.pts.d l.amt.n l.amt.d < 0; omega)
    rcases c4 with h0 | ⟨y, hy, ya, yk, hyw⟩
    · exfalso
      obtain ⟨i, hi, rfl⟩ := List.getElem_of_mem hl
      have hle := f3 i _ hi (List.getElem?_eq_getElem hi) ha hk
      rw [← h0] at hle
      rcases weight_cases hok with ⟨w1, w2⟩ | ⟨w1, w2⟩
      · rw [w2] at hle
        unfold Fle at hle
        omega
      · have h1 := Int.mul_nonneg c2 (show 0 ≤ ls[i].amt.d by have := hok.pos; omega)
        have h2 : ls[i].amt.n * m.pts.d ≤ 0 := by
          have h3 := Int.mul_le_mul_of_nonneg_right (show ls[i].amt.n ≤ 0 from by show ls[i].num ≤ 0; omega) (show 0 ≤ m.pts.d by have := c1.pos; omega)
          rw [Int.zero_mul] at h3
          exact h3
        omega
    · refine ⟨y, hy, yk, ya, ?_⟩
      rcases weight_cases (amt _ hy ya) with ⟨w1, w2⟩ | ⟨w1, w2⟩
      · left
        have e2 := fcmp_ok c1 (amt _ hy ya)
        rw [hyw, w2] at e2 ⊢
        show fcmp y.amt.n y.amt.d y.amt.n y.amt.d = 0
        rw [e2]
        unfold cmp
        simp
      · exact .inr ⟨w1, by rw [hyw, w2]⟩
end Go.Proofs.YtdajoilaakiinaaGreatDoor.Awp

/- Reading arguments; CreditLimits. -/
namespace Go.Proofs.YtdajoilaakiinaaGreatDoor.Awp
open Go Go.Proofs
set_option linter.unusedSimpArgs false
set_option linter.unusedVariables false
set_option maxRecDepth 10000
set_option maxHeartbeats 4000000

section
variable {P : Program} {t : TypeId} {c : List PV}
theorem cells_int {k : IntKind} (hu : P.underlying t = some (.int k)) (h : Cells P t c) : ∃ n, c = [.int k n] := by
  cases h with
  | int h wf => rw [hu] at h; cases h; exact ⟨_, rfl⟩
  | bool h => rw [hu] at h; cases h
  | str h => rw [hu] at h; cases h
  | nil h => rw [hu] at h; cases h
  | list h => rw [hu] at h; cases h
  | struct h => rw [hu] at h; cases h
theorem cells_bool (hu : P.underlying t = some .bool) (h : Cells P t c) : ∃ b, c = [.bool b] := by
  cases h with
  | int h wf => rw [hu] at h; cases h
  | bool h => exact ⟨_, rfl⟩
  | str h => rw [hu] at h; cases h
  | nil h => rw [hu] at h; cases h
  | list h => rw [hu] at h; cases h
  | struct h => rw [hu] at h; cases h
theorem cells_str (hu : P.underlying t = some .string) (h : Cells P t c) : ∃ s, c = [.str s] ∧ s.size ≤ maxLen := by
  cases h with
  | int h wf => rw [hu] at h; cases h
  | bool h => rw [hu] at h; cases h
  | str h hs => exact ⟨_, rfl, hs⟩
  | nil h => rw [hu] at h; cases h
  | list h => rw [hu] at h; cases h
  | struct h => rw [hu] at h; cases h
theorem cells_slice {e : TypeId} (hu : P.underlying t = some (.slice e)) (h : Cells P t c) : ∃ es v, c = [v] ∧ SliceP es v ∧ es.length ≤ maxLen ∧ ∀ x ∈ es, Cells P e x := by
  cases h with
  | int h wf => rw [hu] at h; cases h
  | bool h => rw [hu] at h; cases h
  | str h => rw [hu] at h; cases h
  | nil h => exact ⟨[], .nil, rfl, .nil rfl, Nat.zero_le _, fun x hx => by cases hx⟩
  | list h hl hes => rw [hu] at h; cases h; exact ⟨_, _, rfl, .list, hl, hes⟩
  | struct h => rw [hu] at h; cases h
def fieldTypes : Option TypeDesc → List TypeId
  | some (.struct fs) => fs.toList.map (·.type)
  | _ => []
def isStruct : Option TypeDesc → Bool
  | some (.struct _) => true
  | _ => false
theorem cells_struct {ts : List TypeId} (hs : isStruct (P.underlying t) = true) (hu : fieldTypes (P.underlying t) = ts) (h : Cells P t c) : ∃ parts : List (List PV), c = parts.flatten ∧ parts.length = ts.length ∧ ∀ (i : Nat) u x, ts[i]? = some u → parts[i]? = some x → Cells P u x := by
  cases h with
  | int h wf => rw [h] at hs; cases hs
  | bool h => rw [h] at hs; cases hs
  | str h => rw [h] at hs; cases hs
  | nil h => rw [h] at hs; cases hs
  | list h => rw [h] at hs; cases hs
  | struct h hl hc =>
    rw [h] at hu
    subst hu
    refine ⟨_, rfl, by simp [fieldTypes, hl], fun i u x hi hx => ?_⟩
    simp only [fieldTypes, List.getElem?_map, Option.map_eq_some_iff] at hi
    obtain ⟨f, hf, rfl⟩ := hi
    exact hc i f x hf hx
end
theorem cells_frac {c : List PV} (h : Cells EE.P 27 c) : ∃ f : Frac, c = f.cs := by
  rw [EE_P] at h
  obtain ⟨parts, rfl, hl, hc⟩ := cells_struct (ts := [3, 3]) (by kernel_rfl) (by kernel_rfl) h
  match parts, hl with
  | [a, b], _ =>
    obtain ⟨n, rfl⟩ := cells_int (k := .i64) (by kernel_rfl) (hc 0 _ a rfl rfl)
    obtain ⟨d, rfl⟩ := cells_int (k := .i64) (by kernel_rfl) (hc 1 _ b rfl rfl)
    exact ⟨⟨n, d⟩, rfl⟩
theorem cells_line {c : List PV} (h : Cells EE.P 34 c) : ∃ l : Line, c = l.cs := by
  rw [EE_P] at h
  obtain ⟨parts, rfl, hl, hc⟩ := cells_struct (ts := [9, 9, 3, 4, 27, 30]) (by kernel_rfl) (by kernel_rfl) h
  match parts, hl with
  | [a, b, c, d, e, f], _ =>
    obtain ⟨s1, rfl, _⟩ := cells_str (by kernel_rfl) (hc 0 _ a rfl rfl)
    obtain ⟨s2, rfl, _⟩ := cells_str (by kernel_rfl) (hc 1 _ b rfl rfl)
    obtain ⟨n, rfl⟩ := cells_int (k := .i64) (by kernel_rfl) (hc 2 _ c rfl rfl)
    obtain ⟨p, rfl⟩ := cells_bool (by kernel_rfl) (hc 3 _ d rfl rfl)
    obtain ⟨q, rfl⟩ := cells_frac (by rw [EE_P]; exact hc 4 _ e rfl rfl)
    obtain ⟨r, rfl⟩ := cells_int (k := .i64) (by kernel_rfl) (hc 5 _ f rfl rfl)
    exact ⟨⟨s1, s2, n, p, q.n, q.d, r⟩, rfl⟩
theorem cells_lines {c : List PV} (h : Cells EE.P 22 c) : ∃ (ls : List Line) (v : PV), c = [v] ∧ SliceP (ls.map Line.cs) v ∧ ls.length ≤ maxLen := by
  obtain ⟨es, v, rfl, hv, hl, he⟩ := cells_slice (e := 34) (by rw [EE_P]; kernel_rfl) h
  have : ∀ (es : List (List PV)), (∀ x ∈ es, Cells EE.P 34 x) → ∃ ls : List Line, es = ls.map Line.cs := by
    intro es
    induction es with
    | nil => intro _; exact ⟨[], rfl⟩
    | cons x xs ih =>
      intro h
      obtain ⟨l, rfl⟩ := cells_line (h x (List.mem_cons_self ..))
      obtain ⟨ls, rfl⟩ := ih fun y hy => h y (List.mem_cons_of_mem _ hy)
      exact ⟨l :: ls, rfl⟩
  obtain ⟨ls, rfl⟩ := this es he
  exact ⟨ls, v, rfl, hv, by simpa using hl⟩
theorem args_lines {ts : List TypeId} {pvs : List PV} (h : Args EE.P (22 :: ts) pvs) : ∃ (ls : List Line) (v : PV) (rest : List PV), pvs = v :: rest ∧ SliceP (ls.map Line.cs) v ∧ ls.length ≤ maxLen ∧ Args EE.P ts rest := by
  match pvs, h with
  | p :: ps, ⟨⟨c, hc, hp⟩, h2⟩ =>
    obtain ⟨ls, v, rfl, hv, hl⟩ := cells_lines hc
    refine ⟨ls, v, ps, ?_, hv, hl, h2⟩
    rw [hp, mk, if_neg (by rw [show tagg EE.P 22 = false from by rw [EE_P]; kernel_rfl]; simp)]
    rfl

/-! ### the law -/
def capS (p : Frac) (y : Line) : Bool := decide (y.kind = 2) && y.app && (decide (fcmp p.n p.d y.num y.den = 0) || (decide (y.num < 0) && decide (p = ⟨0, 1⟩)))
theorem limits_fn {ls : List Line} {v : PV} (hv : SliceP (ls.map Line.cs) v) (hl : ls.length ≤ maxLen) : Pure EE 3 [v] (.bool true) := by
  have hl' : ls.length ≤ 9223372036854775807 := hl
  have hvl := hv.len
  simp only [List.length_map] at hvl
  have hfew := few_fn hv hl'
  have hcom := combine_fn hv
  cases hfs : fewS ls
  · rw [hfs] at hfew
    intro σ nx
    refine fn_of_body goodEE (by rw [EE_P]; exact Tryz.func3) rfl rfl (by kernel_rfl) (Nat.le_of_ble_eq_true rfl) (Nat.le_refl _) fun hwf hlt => ?_
    rw [show Tryz.f3.results.toList = [.tmp 2] from rfl]
    refine awp_begin _ _ _ _ _ (cc := _) (by conv => lhs; simp only [push_cast, seval, Tryz.f3]) ?_
    simp only [push_cast, seval, EE_P]
    repeat' (first | simp only [push_cast, seval, EE_P] | simp (disch := omega) only [wrap_fits] | ((first | with_reducible apply wcall_pure | with_reducible apply wdcall_pure); focus (first | assumption | exact awake_fn | exact few_fn (by assumption) (by omega) | exact refcompare_fn ⟨_, _⟩ ⟨_, _⟩)) | (with_reducible refine wguard_split_t (fun h => ?_) (fun h => ?_)) | (with_reducible refine wguard_split_f (fun h => ?_) (fun h => ?_)) | (with_reducible refine wcond_split (fun h => ?_) (fun h => ?_)) | (with_reducible refine wdguard_split_t (fun h => ?_) (fun h => ?_)) | (with_reducible refine wdguard_split_f (fun h => ?_) (fun h => ?_)) | (with_reducible refine And.intro (fun h => ?_) (fun h => ?_)) | (with_reducible apply And.intro; focus omega))
    ((refine ends_ret (by simp only [resultsOf, resOf, push_cast, seval, EE_P]; rfl) (by simp only [push_cast, seval, EE_P]) ?_ (by repeat' (first | exact Keeps.refl _ | assumption | exact (hwf.keep1 _) | refine Keeps.new hwf ?_ (by omega) _)) (by simp only [lt_int, lt_bool, lt_str, lt_nil, lt_empty, lt_agg, lt_tup, lt_list, lt_cells, lt_fn, lt_nilp, lt_nilfn, lt_nili, List.mem_cons, List.not_mem_nil, or_false, forall_eq_or_imp, forall_eq, and_true, true_and, and_self, implies_true, *]; try omega)); (try simp only [tupOf, push_cast, seval, EE_P]))
  rw [hfs] at hfew
  by_cases he : (combineS ls).2 = 0
  · have hlim := limits he
    generalize hc : combineS ls = c at *
    obtain ⟨⟨parts, pts, hund⟩, e⟩ := c
    simp only at he
    subst he
    have hone : one (partsV parts) = true := (partsV_slice _).one
    have hcel : cellsP (partsV parts) = [partsV parts] := (partsV_slice _).cells
    simp only [Credit.val] at hcom
    intro σ nx
    refine fn_of_body goodEE (by rw [EE_P]; exact Tryz.func3) rfl rfl (by kernel_rfl) (Nat.le_of_ble_eq_true rfl) (Nat.le_refl _) fun hwf hlt => ?_
    rw [show Tryz.f3.results.toList = [.tmp 2] from rfl]
    refine awp_begin _ _ _ _ _ (cc := _) (by conv => lhs; simp only [push_cast, seval, Tryz.f3]) ?_
    simp only [push_cast, seval, EE_P]
    repeat' (first | simp only [push_cast, seval, EE_P, hone, hcel, hvl, hv.str, hv.one, hv.cells] | simp (disch := omega) only [wrap_fits] | ((first | with_reducible apply wcall_pure | with_reducible apply wdcall_pure); focus (first | assumption | exact awake_fn | exact few_fn (by assumption) (by omega) | exact refcompare_fn ⟨_, _⟩ ⟨_, _⟩)) | (with_reducible refine wguard_split_t (fun h => ?_) (fun h => ?_)) | (with_reducible refine wguard_split_f (fun h => ?_) (fun h => ?_)) | (with_reducible refine wcond_split (fun h => ?_) (fun h => ?_)) | (with_reducible refine wdguard_split_t (fun h => ?_) (fun h => ?_)) | (with_reducible refine wdguard_split_f (fun h => ?_) (fun h => ?_)) | (with_reducible refine And.intro (fun h => ?_) (fun h => ?_)) | (with_reducible apply And.intro; focus omega))
    refine wloop_by (fun m sl σ' nx' => ∃ i k3 k5 : Nat, i ≤ ls.length ∧ m = ls.length - i ∧ nx ≤ k3 ∧ k3 < nx' ∧ nx ≤ k5 ∧ k5 < nx' ∧ k3 ≠ k5 ∧ sl 0 = v ∧ sl 3 = .ptr k3 0 0 ∧ sl 5 = .ptr k5 0 0 ∧ sl 28 = v ∧ sl 29 = .int .i64 ls.length ∧ sl 30 = .int .i64 i ∧
      σ' k3 = some (.row [[partsV parts, .int .i64 pts.n, .int .i64 pts.d, .int .i64 hund]]) ∧ σ' k5 = some (.row [[.int .i64 0, .int .i64 1]]) ∧ Keeps σ σ') ls.length
      ⟨0, nx + 11, nx + 17, by omega, rfl, by omega, by omega, by omega, by omega, by omega, rfl, rfl, rfl, rfl, rfl, rfl, ?_, ?_, (by repeat' (first | exact Keeps.refl _ | assumption | exact (hwf.keep1 _) | refine Keeps.new hwf ?_ (by omega) _))⟩ ?_
    · simp only [upd_at, push_cast, seval]
    · simp only [upd_at, push_cast, seval]
    rintro m sl σ' nx' ⟨i, k3, k5, hi, hm, k1, k2, k4, k6, k7, h0, h3, h5, h28, h29, h30, hs3, hs5, hk⟩
    have hi0 : (0 : Int) ≤ i := by omega
    by_cases hil : i < ls.length
    · have hil' : (i : Int) < ls.length := by omega
      have h28' : sl 28 = .list (ls.map Line.cs) := h28.trans (hv.lt (i := i) (by simpa using hil))
      have hw : IntKind.i64.wrap ((i : Int) + 1) = (i : Int) + 1 := wrap_small (by omega) (by omega)
      have hget : (ls.map Line.cs)[i]? = some ls[i].cs := by rw [List.getElem?_map, List.getElem?_eq_getElem hil]; rfl
      have hmem : ls[i] ∈ ls := List.getElem_mem hil
      generalize hf : ls[i] = l at hget hmem
      have hA : (!l.app) = false → FV pts.n pts.d ∧ FV l.num l.den := fun ha => ⟨hlim.ok, hlim.amt l hmem (by simpa using ha)⟩
      have hC : (!l.app) = false → l.kind = 2 → fcmp pts.n pts.d l.num l.den > 0 → l.num < 0 ∧ pts.n = 0 ∧ pts.d = 1 := fun ha hk2 hc => by
        obtain ⟨h1, h2⟩ := hlim.cap l hmem (by simpa using ha) hk2 hc
        exact ⟨h1, by rw [show pts = ⟨0, 1⟩ from h2], by rw [show pts = ⟨0, 1⟩ from h2]⟩
      have hF : (!l.app) = false → ¬ l.kind < 2 → ¬ l.kind = 2 → ¬ fcmp pts.n pts.d l.num l.den ≥ 0 → ls.any (capS pts) = true := fun ha hk1 hk2 hc => by
        have := hlim.kind l hmem
        obtain ⟨y, h1, h2, h3, h4⟩ := hlim.floor l hmem (by simpa using ha) (by omega) (by show fcmp pts.n pts.d l.num l.den < 0; omega)
        refine List.any_eq_true.2 ⟨y, h1, ?_⟩
        simp only [capS, h2, h3]
        simpa using h4
      repeat' (first | simp only [push_cast, seval, EE_P, h0, h3, h5, h28', h29, h30, hi0, hil', hget, hw, List.length_map, Int.toNat_natCast, (key_ne k2).1, (key_ne k2).2.1, (key_ne k2).2.2.1, (key_ne k2).2.2.2, (key_ne k6).1, (key_ne k6).2.1, (key_ne k6).2.2.1, (key_ne k6).2.2.2, (ne_keys k7).1, (ne_keys k7).2, hs3, hs5, hv.str, hvl] | simp (disch := omega) only [wrap_fits] | ((first | with_reducible apply wcall_pure | with_reducible apply wdcall_pure); focus (first | assumption | exact awake_fn | exact few_fn (by assumption) (by omega) | exact refcompare_fn ⟨_, _⟩ ⟨_, _⟩)) | (with_reducible refine wguard_split_t (fun h => ?_) (fun h => ?_)) | (with_reducible refine wguard_split_f (fun h => ?_) (fun h => ?_)) | (with_reducible refine wcond_split (fun h => ?_) (fun h => ?_)) | (with_reducible refine wdguard_split_t (fun h => ?_) (fun h => ?_)) | (with_reducible refine wdguard_split_f (fun h => ?_) (fun h => ?_)) | (with_reducible refine And.intro (fun h => ?_) (fun h => ?_)) | (with_reducible apply And.intro; focus omega))
      all_goals (try (exfalso; omega))
      all_goals (try (exfalso; first | exact absurd (hA (by assumption)) (by assumption) | (have hc := hC (by assumption) (by assumption) (by assumption); omega)))
      all_goals (try (refine ⟨ls.length - (i + 1), by omega, i + 1, k3, k5, by omega, rfl, k1, by omega, k4, by omega, k7, rfl, rfl, h28'.symm.trans h28, by simp, ?_, ?_, (by repeat' (first | exact Keeps.refl _ | assumption | exact (hwf.keep1 _) | refine Keeps.new hwf ?_ (by omega) _))⟩ <;> (simp only [(key_ne k2).1, (key_ne k2).2.1, (key_ne k2).2.2.1, (key_ne k2).2.2.2, (key_ne k6).1, (key_ne k6).2.1, (key_ne k6).2.2.1, (key_ne k6).2.2.2]; simp [hs3, hs5]; done)))
      have hF' := hF (by assumption) (by assumption) (by assumption) (by assumption)
      refine wloop_by (fun m2 sl2 σ2 nx2 => ∃ j : Nat, j ≤ ls.length ∧ m2 = ls.length - j ∧ nx' ≤ nx2 ∧ sl2 0 = v ∧ sl2 3 = .ptr k3 0 0 ∧ sl2 5 = .ptr k5 0 0 ∧ sl2 10 = .bool ((ls.take j).any (capS pts)) ∧ sl2 28 = v ∧ sl2 29 = .int .i64 ls.length ∧ sl2 30 = .int .i64 i ∧
        sl2 78 = v ∧ sl2 79 = .int .i64 ls.length ∧ sl2 80 = .int .i64 j ∧ σ2 k3 = some (.row [[partsV parts, .int .i64 pts.n, .int .i64 pts.d, .int .i64 hund]]) ∧ σ2 k5 = some (.row [[.int .i64 0, .int .i64 1]]) ∧ Keeps σ σ2) ls.length
        ⟨0, by omega, rfl, by omega, h0, h3, h5, rfl, ?_, ?_, ?_, rfl, rfl, rfl, ?_, ?_, (by repeat' (first | exact Keeps.refl _ | assumption | exact (hwf.keep1 _) | refine Keeps.new hwf ?_ (by omega) _))⟩ ?_
      · simp only [upd_at, push_cast, seval, h28]
      · simp only [upd_at, push_cast, seval, h29]
      · simp only [upd_at, push_cast, seval, h30]
      · simp only [upd_at, push_cast, seval, (key_ne k2).1, (key_ne k2).2.1, (key_ne k2).2.2.1, (key_ne k2).2.2.2, hs3]
      · simp only [upd_at, push_cast, seval, (key_ne k6).1, (key_ne k6).2.1, (key_ne k6).2.2.1, (key_ne k6).2.2.2, hs5]
      clear hs3 hs5 hk h0 h3 h5 h28 h29 h30 h28'
      rintro m2 sl2 σ2 nx2 ⟨j, hj, hm2, hnx2, h0, h3, h5, h10, h28, h29, h30, h78, h79, h80, hs3, hs5, hk⟩
      have k2' : k3 < nx2 := by omega
      have k6' : k5 < nx2 := by omega
      have hj0 : (0 : Int) ≤ j := by omega
      by_cases hjl : j < ls.length
      · have hjl' : (j : Int) < ls.length := by omega
        have h78' : sl2 78 = .list (ls.map Line.cs) := h78.trans (hv.lt (i := j) (by simpa using hjl))
        have hw' : IntKind.i64.wrap ((j : Int) + 1) = (j : Int) + 1 := wrap_small (by omega) (by omega)
        have hget' : (ls.map Line.cs)[j]? = some ls[j].cs := by rw [List.getElem?_map, List.getElem?_eq_getElem hjl]; rfl
        have hany : (ls.take (j + 1)).any (capS pts) = ((ls.take j).any (capS pts) || capS pts ls[j]) := by rw [List.take_succ_eq_append_getElem hjl, List.any_append]; simp
        generalize hf' : ls[j] = y at hget' hany
        have c1 : y.kind = 2 → y.app = true → ¬ fcmp pts.n pts.d y.num y.den = 0 → y.num < 0 → capS pts y = decide (pts.n = 0 ∧ pts.d = 1) := fun h1 h2 h3 h4 => by simp [capS, frac_iff, h1, h2, h3, h4]
        have c2 : ¬ fcmp pts.n pts.d y.num y.den = 0 → ¬ y.num < 0 → capS pts y = false := fun h3 h4 => by simp [capS, h3, h4]
        have c3 : y.kind = 2 → y.app = true → fcmp pts.n pts.d y.num y.den = 0 → capS pts y = true := fun h1 h2 h3 => by simp [capS, h1, h2, h3]
        have c4 : y.app = false → capS pts y = false := fun h => by simp [capS, h]
        have c5 : ¬ y.kind = 2 → capS pts y = false := fun h => by simp [capS, h]
        generalize hb : (ls.take j).any (capS pts) = b at h10 hany
        repeat' (first | simp only [push_cast, seval, EE_P, h0, h3, h5, h10, h28, h29, h30, h78', h79, h80, hj0, hjl', hget', hw', List.length_map, Int.toNat_natCast, (key_ne k2').1, (key_ne k2').2.1, (key_ne k2').2.2.1, (key_ne k2').2.2.2, (key_ne k6').1, (key_ne k6').2.1, (key_ne k6').2.2.1, (key_ne k6').2.2.2, (ne_keys k7).1, (ne_keys k7).2, hs3, hs5, hv.str, hvl] | simp (disch := omega) only [wrap_fits] | ((first | with_reducible apply wcall_pure | with_reducible apply wdcall_pure); focus (first | assumption | exact awake_fn | exact few_fn (by assumption) (by omega) | exact refcompare_fn ⟨_, _⟩ ⟨_, _⟩)) | (with_reducible refine wguard_split_t (fun h => ?_) (fun h => ?_)) | (with_reducible refine wguard_split_f (fun h => ?_) (fun h => ?_)) | (with_reducible refine wcond_split (fun h => ?_) (fun h => ?_)) | (with_reducible refine wdguard_split_t (fun h => ?_) (fun h => ?_)) | (with_reducible refine wdguard_split_f (fun h => ?_) (fun h => ?_)) | (with_reducible refine And.intro (fun h => ?_) (fun h => ?_)) | (with_reducible apply And.intro; focus omega))
        all_goals refine ⟨ls.length - (j + 1), by omega, j + 1, by omega, rfl, by omega, ?_, h78'.symm.trans h78, by simp, (by repeat' (first | exact Keeps.refl _ | assumption | exact (hwf.keep1 _) | refine Keeps.new hwf ?_ (by omega) _))⟩
        all_goals rw [hany]
        all_goals (first | (rw [show b = true by assumption]; rfl) | (rw [show b = false by assumption, Bool.false_or]; first | rw [c5 (by assumption)] | rw [c4 (by assumption)] | rw [c3 (by assumption) (by assumption) (by assumption)] | rw [c1 (by assumption) (by assumption) (by assumption) (by assumption)] | rw [c2 (by assumption) (by assumption)]))
      · have hjl' : ¬ (j : Int) < ls.length := by omega
        obtain rfl : j = ls.length := by omega
        rw [List.take_length, hF'] at h10
        repeat' (first | simp only [push_cast, seval, EE_P, h0, h3, h5, h10, h28, h29, h30, h78, h79, h80, hjl', (key_ne k2').1, (key_ne k2').2.1, (key_ne k2').2.2.1, (key_ne k2').2.2.2, (key_ne k6').1, (key_ne k6').2.1, (key_ne k6').2.2.1, (key_ne k6').2.2.2, (ne_keys k7).1, (ne_keys k7).2, hs3, hs5, hw] | simp (disch := omega) only [wrap_fits] | ((first | with_reducible apply wcall_pure | with_reducible apply wdcall_pure); focus (first | assumption | exact awake_fn | exact few_fn (by assumption) (by omega) | exact refcompare_fn ⟨_, _⟩ ⟨_, _⟩)) | (with_reducible refine wguard_split_t (fun h => ?_) (fun h => ?_)) | (with_reducible refine wguard_split_f (fun h => ?_) (fun h => ?_)) | (with_reducible refine wcond_split (fun h => ?_) (fun h => ?_)) | (with_reducible refine wdguard_split_t (fun h => ?_) (fun h => ?_)) | (with_reducible refine wdguard_split_f (fun h => ?_) (fun h => ?_)) | (with_reducible refine And.intro (fun h => ?_) (fun h => ?_)) | (with_reducible apply And.intro; focus omega))
        exact ⟨ls.length - (i + 1), by omega, i + 1, k3, k5, by omega, rfl, k1, by omega, k4, by omega, k7, rfl, rfl, by simp, hs3, hs5, hk⟩
    · have hil' : ¬ (i : Int) < ls.length := by omega
      repeat' (first | simp only [push_cast, seval, EE_P, h0, h3, h5, h28, h29, h30, hil'] | simp (disch := omega) only [wrap_fits] | ((first | with_reducible apply wcall_pure | with_reducible apply wdcall_pure); focus (first | assumption | exact awake_fn | exact few_fn (by assumption) (by omega) | exact refcompare_fn ⟨_, _⟩ ⟨_, _⟩)) | (with_reducible refine wguard_split_t (fun h => ?_) (fun h => ?_)) | (with_reducible refine wguard_split_f (fun h => ?_) (fun h => ?_)) | (with_reducible refine wcond_split (fun h => ?_) (fun h => ?_)) | (with_reducible refine wdguard_split_t (fun h => ?_) (fun h => ?_)) | (with_reducible refine wdguard_split_f (fun h => ?_) (fun h => ?_)) | (with_reducible refine And.intro (fun h => ?_) (fun h => ?_)) | (with_reducible apply And.intro; focus omega))
      ((refine ends_ret (by simp only [resultsOf, resOf, push_cast, seval, EE_P]; rfl) (by simp only [push_cast, seval, EE_P]) ?_ (by repeat' (first | exact Keeps.refl _ | assumption | exact (hwf.keep1 _) | refine Keeps.new hwf ?_ (by omega) _)) (by simp only [lt_int, lt_bool, lt_str, lt_nil, lt_empty, lt_agg, lt_tup, lt_list, lt_cells, lt_fn, lt_nilp, lt_nilfn, lt_nili, List.mem_cons, List.not_mem_nil, or_false, forall_eq_or_imp, forall_eq, and_true, true_and, and_self, implies_true, *]; try omega)); (try simp only [tupOf, push_cast, seval, EE_P]))
  · generalize hc : combineS ls = c at *
    obtain ⟨⟨parts, pts, hund⟩, e⟩ := c
    have hone : one (partsV parts) = true := (partsV_slice _).one
    have hcel : cellsP (partsV parts) = [partsV parts] := (partsV_slice _).cells
    simp only [Credit.val] at hcom
    intro σ nx
    refine fn_of_body goodEE (by rw [EE_P]; exact Tryz.func3) rfl rfl (by kernel_rfl) (Nat.le_of_ble_eq_true rfl) (Nat.le_refl _) fun hwf hlt => ?_
    rw [show Tryz.f3.results.toList = [.tmp 2] from rfl]
    refine awp_begin _ _ _ _ _ (cc := _) (by conv => lhs; simp only [push_cast, seval, Tryz.f3]) ?_
    simp only [push_cast, seval, EE_P]
    repeat' (first | simp only [push_cast, seval, EE_P, hone, hcel, hvl, hv.str, hv.one, hv.cells, he] | simp (disch := omega) only [wrap_fits] | ((first | with_reducible apply wcall_pure | with_reducible apply wdcall_pure); focus (first | assumption | exact awake_fn | exact few_fn (by assumption) (by omega) | exact refcompare_fn ⟨_, _⟩ ⟨_, _⟩)) | (with_reducible refine wguard_split_t (fun h => ?_) (fun h => ?_)) | (with_reducible refine wguard_split_f (fun h => ?_) (fun h => ?_)) | (with_reducible refine wcond_split (fun h => ?_) (fun h => ?_)) | (with_reducible refine wdguard_split_t (fun h => ?_) (fun h => ?_)) | (with_reducible refine wdguard_split_f (fun h => ?_) (fun h => ?_)) | (with_reducible refine And.intro (fun h => ?_) (fun h => ?_)) | (with_reducible apply And.intro; focus omega))
    ((refine ends_ret (by simp only [resultsOf, resOf, push_cast, seval, EE_P]; rfl) (by simp only [push_cast, seval, EE_P]) ?_ (by repeat' (first | exact Keeps.refl _ | assumption | exact (hwf.keep1 _) | refine Keeps.new hwf ?_ (by omega) _)) (by simp only [lt_int, lt_bool, lt_str, lt_nil, lt_empty, lt_agg, lt_tup, lt_list, lt_cells, lt_fn, lt_nilp, lt_nilfn, lt_nili, List.mem_cons, List.not_mem_nil, or_false, forall_eq_or_imp, forall_eq, and_true, true_and, and_self, implies_true, *]; try omega)); (try simp only [tupOf, push_cast, seval, EE_P]))
theorem limits_law : ∀ pvs, Args EE.P Tryz.f3.params.toList pvs → Pure EE 3 pvs (.bool true) := by
  intro pvs h
  obtain ⟨ls, v, rest, rfl, hv, hl, h⟩ := args_lines h
  match rest, h with
  | [], _ => exact limits_fn hv hl
end Go.Proofs.YtdajoilaakiinaaGreatDoor.Awp

/- Fractions as rational numbers. -/
namespace Go.Proofs.YtdajoilaakiinaaGreatDoor.Awp
open Go Go.Proofs
set_option linter.unusedSimpArgs false
set_option linter.unusedVariables false
set_option maxHeartbeats 1000000

def val (f : Frac) : Rat := Rat.divInt f.n f.d
theorem val_parts {f : Frac} (h : Fok f) : (val f).num = f.n ∧ ((val f).den : Int) = f.d := by
  obtain ⟨h1, _, _, _, h5⟩ := id h
  have hd : ((f.d.toNat : Nat) : Int) = f.d := Int.toNat_of_nonneg (by omega)
  have hc : f.n.natAbs.Coprime f.d.toNat := by
    have : f.d.natAbs = f.d.toNat := by omega
    rw [← this]
    exact h5
  have e : val f = ⟨f.n, f.d.toNat, by omega, hc⟩ := by
    rw [Rat.mk_eq_divInt, hd]
    rfl
  rw [e]
  exact ⟨rfl, hd⟩
theorem val_le {a b : Frac} (ha : Fok a) (hb : Fok b) : Fle a b ↔ val a ≤ val b := by
  rw [Rat.le_iff, (val_parts ha).1, (val_parts ha).2, (val_parts hb).1, (val_parts hb).2]
  rfl
theorem val_inj {a b : Frac} (ha : Fok a) (hb : Fok b) (h : val a = val b) : a = b := by
  have h1 := val_parts ha
  have h2 := val_parts hb
  rw [h] at h1
  rw [frac_iff]
  exact ⟨h1.1.symm.trans h2.1, h1.2.symm.trans h2.2⟩
theorem val_lt {a b : Frac} (ha : Fok a) (hb : Fok b) : lessS a b = true ↔ val a < val b := by
  rw [less_iff ha hb, val_le hb ha]
  exact Rat.not_le
theorem val_nonneg {a : Frac} (ha : Fok a) : 0 ≤ a.n ↔ 0 ≤ val a := by
  rw [← Rat.num_nonneg, (val_parts ha).1]
theorem val_zero : val ⟨0, 1⟩ = 0 := by
  show Rat.divInt 0 1 = 0
  exact Rat.zero_divInt 1
theorem red_val {a b : Int} (hb : 0 < b) (h : redE a b = 0) : Fok ⟨redN a b, redD a b⟩ ∧ val ⟨redN a b, redD a b⟩ = Rat.divInt a b := by
  have hr : redOk a b := by
    unfold redE at h
    split at h
    · assumption
    · cases h
  have hg : (0 : Int) < Int.gcd a b := by
    have := Int.gcd_pos_of_ne_zero_right a (b := b) (by omega)
    omega
  have h1 : (Int.gcd a b : Int) * a.tdiv (Int.gcd a b) = a := Int.mul_tdiv_cancel' (Int.gcd_dvd_left ..)
  have h2 : (Int.gcd a b : Int) * b.tdiv (Int.gcd a b) = b := Int.mul_tdiv_cancel' (Int.gcd_dvd_right ..)
  unfold redN redD
  rw [if_pos hr, if_pos hr]
  refine ⟨hr, ?_⟩
  show Rat.divInt _ _ = _
  have h3 := Rat.divInt_mul_left (n := a.tdiv (Int.gcd a b)) (d := b.tdiv (Int.gcd a b)) (a := (Int.gcd a b : Int)) (by omega)
  rw [h1, h2] at h3
  exact h3.symm
theorem fadd_val {a b : Frac} (h : faddErr a b = 0) : Fok a ∧ Fok b ∧ Fok (fadd a b) ∧ val (fadd a b) = val a + val b := by
  unfold faddErr faddE at h
  split at h
  · rename_i hv
    obtain ⟨ha, hb⟩ := hv
    have h1 := ha.1
    have h2 := hb.1
    obtain ⟨r1, r2⟩ := red_val (Int.mul_pos (by omega) (by omega)) h
    have e : fadd a b = ⟨redN (a.n * b.d + b.n * a.d) (a.d * b.d), redD (a.n * b.d + b.n * a.d) (a.d * b.d)⟩ := by
      unfold fadd faddN faddD
      rw [if_pos ⟨ha, hb⟩, if_pos ⟨ha, hb⟩]
    rw [e]
    refine ⟨ha, hb, r1, r2.trans ?_⟩
    exact (Rat.divInt_add_divInt _ _ (by omega) (by omega)).symm
  · cases h
theorem fsub_val {a b : Frac} (h : fsubErr a b = 0) : Fok a ∧ Fok b ∧ Fok (fsub a b) ∧ val (fsub a b) = val a - val b := by
  unfold fsubErr fsubE at h
  split at h
  · rename_i hv
    obtain ⟨ha, hb⟩ := hv
    have h1 := ha.1
    have h2 := hb.1
    obtain ⟨r1, r2⟩ := red_val (Int.mul_pos (by omega) (by omega)) h
    have e : fsub a b = ⟨redN (a.n * b.d - b.n * a.d) (a.d * b.d), redD (a.n * b.d - b.n * a.d) (a.d * b.d)⟩ := by
      unfold fsub fsubN fsubD
      rw [if_pos ⟨ha, hb⟩, if_pos ⟨ha, hb⟩]
    rw [e]
    refine ⟨ha, hb, r1, r2.trans ?_⟩
    exact (Rat.divInt_sub_divInt _ _ (by omega) (by omega)).symm
  · cases h
theorem fadd_err_of {a b q : Frac} (ha : Fok a) (hb : Fok b) (hq : Fok q) (h : val a + val b = val q) : faddErr a b = 0 := by
  have h1 := ha.1
  have h2 := hb.1
  have h3 := hq.1
  have hp : 0 < a.d * b.d := Int.mul_pos (by omega) (by omega)
  unfold faddErr faddE
  rw [if_pos ⟨ha, hb⟩]
  unfold redE
  rw [if_pos]
  -- the reduced fraction is q
  have e : Rat.divInt (a.n * b.d + b.n * a.d) (a.d * b.d) = Rat.divInt q.n q.d := (Rat.divInt_add_divInt _ _ (by omega) (by omega)).symm.trans h
  rw [Rat.divInt_eq_divInt_iff (by omega) (by omega)] at e
  generalize a.n * b.d + b.n * a.d = x at *
  generalize a.d * b.d = y at *
  -- x * q.d = q.n * y, gcd q.n q.d = 1
  have hg : (0 : Int) < Int.gcd x y := by
    have := Int.gcd_pos_of_ne_zero_right x (b := y) (by omega)
    omega
  have hc : Int.gcd q.n q.d = 1 := hq.2.2.2.2
  have d1 : q.d ∣ y := by
    have : q.d ∣ q.n * y := ⟨x, by rw [← e, Int.mul_comm]⟩
    rw [← Int.natAbs_dvd_natAbs, Int.natAbs_mul] at this
    rw [← Int.natAbs_dvd_natAbs]
    exact Nat.Coprime.dvd_of_dvd_mul_left (by rw [Nat.coprime_comm]; exact hc) this
  obtain ⟨k, rfl⟩ := d1
  have hk : 0 < k := Decidable.byContradiction fun hn => by
    have := Int.mul_le_mul_of_nonneg_left (show k ≤ 0 by omega) (show 0 ≤ q.d by omega)
    rw [Int.mul_zero] at this
    omega
  have hx : x = q.n * k := by
    have : x * q.d = q.n * k * q.d := by rw [e, Int.mul_comm q.d k, Int.mul_assoc]
    exact Int.eq_of_mul_eq_mul_right (by omega) this
  subst hx
  have hgk : (Int.gcd (q.n * k) (q.d * k) : Int) = k := by
    rw [Int.gcd_mul_right, hc]
    omega
  show redOk (q.n * k) (q.d * k)
  unfold redOk
  rw [hgk, Int.mul_tdiv_cancel _ (by omega), Int.mul_tdiv_cancel _ (by omega)]
  exact hq
/-- What is left and what is taken away make the whole again. -/
theorem fadd_fsub {p q : Frac} (h : fsubErr q p = 0) : faddErr p (fsub q p) = 0 ∧ fadd p (fsub q p) = q := by
  obtain ⟨hq, hp, hs, hv⟩ := fsub_val h
  have e : val p + val (fsub q p) = val q := by rw [hv]; grind
  have h0 := fadd_err_of hp hs hq e
  obtain ⟨_, _, h1, h2⟩ := fadd_val h0
  exact ⟨h0, val_inj h1 hq (h2.trans e)⟩
theorem hund_mono {a b : Frac} (ha : Fok a) (hb : Fok b) (h : val a ≤ val b) : hundS a ≤ hundS b := by
  rw [← val_le ha hb] at h
  unfold Fle at h
  have h1 := ha.1
  have h2 := hb.1
  unfold hundS
  rw [if_pos ha, if_pos hb]
  have k : (200 * a.n + a.d) * (2 * b.d) ≤ (200 * b.n + b.d) * (2 * a.d) := by grind
  rw [Int.le_ediv_iff_mul_le (by omega)]
  have h3 := Int.ediv_mul_le (200 * a.n + a.d) (show 2 * a.d ≠ 0 by omega)
  have h4 := Int.mul_le_mul_of_nonneg_right h3 (show 0 ≤ 2 * b.d by omega)
  refine Int.le_of_mul_le_mul_right (?_ : _ * (2 * a.d) ≤ _ * (2 * a.d)) (by omega)
  calc (200 * a.n + a.d) / (2 * a.d) * (2 * b.d) * (2 * a.d) = (200 * a.n + a.d) / (2 * a.d) * (2 * a.d) * (2 * b.d) := by rw [Int.mul_right_comm]
    _ ≤ (200 * a.n + a.d) * (2 * b.d) := h4
    _ ≤ (200 * b.n + b.d) * (2 * a.d) := k
theorem fewS_len {ls : List Line} (h : fewS ls = true) : ls.length ≤ 12 := by
  unfold fewS at h
  simp at h
  exact h.2
end Go.Proofs.YtdajoilaakiinaaGreatDoor.Awp

/- slices.Clone; the walk of CreditOrder. -/
namespace Go.Proofs.YtdajoilaakiinaaGreatDoor.Awp
open Go Go.Proofs
set_option linter.unusedSimpArgs false
set_option linter.unusedVariables false
set_option maxRecDepth 10000
set_option maxHeartbeats 4000000

theorem lines7' (ls : List Line) : ∀ c ∈ ls.map Line.cs, c.length = 7 ∧ ones c = true := fun c hc => by
  obtain ⟨l, _, rfl⟩ := List.mem_map.1 hc
  exact ⟨rfl, rfl⟩
theorem objlt_lines {n : Nat} (ls : List Line) : ObjLt n (.row (ls.map Line.cs)) := by
  intro cs hcs c hc
  obtain ⟨l, _, rfl⟩ := List.mem_map.1 hcs
  simp only [Line.cs, List.mem_cons, List.not_mem_nil, or_false] at hc
  rcases hc with rfl | rfl | rfl | rfl | rfl | rfl | rfl
  · exact .str _
  · exact .str _
  · exact .int _ _
  · exact .bool _
  · exact .int _ _
  · exact .int _ _
  · exact .int _ _
theorem clone_fn {σ : Store} {nx : Nat} {ls : List Line} (hn : ls ≠ []) (hl : ls.length ≤ 1000000) : Fn EE 19 σ nx [.list (ls.map Line.cs)] (.ret (.row (nx + 5) 0 ls.length)) (upd σ (nx + 5) (some (.row (ls.map Line.cs)))) (nx + 7) := by
  have h0 : ¬ ls.map Line.cs = [] := by simpa using hn
  have h7 : (∀ c ∈ ls.map Line.cs, c.length = 7 ∧ ones c = true) = True := eq_true (lines7' ls)
  refine fn_of_body goodEE (by rw [EE_P]; exact Tryz.func19) rfl rfl (by kernel_rfl) (Nat.le_of_ble_eq_true rfl) ?_ fun hwf hlt => ?_
  rotate_left
  rw [show Tryz.f19.results.toList = [.tmp 2] from rfl]
  refine awp_begin _ _ _ _ _ (cc := _) (by conv => lhs; simp only [push_cast, seval, Tryz.f19]) ?_
  simp only [push_cast, seval, EE_P]
  · repeat' (first | simp only [push_cast, seval, EE_P, List.length_map] | simp (disch := omega) only [wrap_fits] | ((first | with_reducible apply wcall_pure | with_reducible apply wdcall_pure); focus (first | assumption | fail)) | (with_reducible refine wguard_split_t (fun h => ?_) (fun h => ?_)) | (with_reducible refine wguard_split_f (fun h => ?_) (fun h => ?_)) | (with_reducible refine wcond_split (fun h => ?_) (fun h => ?_)) | (with_reducible refine wdguard_split_t (fun h => ?_) (fun h => ?_)) | (with_reducible refine wdguard_split_f (fun h => ?_) (fun h => ?_)) | (with_reducible refine And.intro (fun h => ?_) (fun h => ?_)) | (with_reducible apply And.intro; focus omega))
    have hs : upd (upd (upd σ (nx + 3) (some (.row []))) (nx + 3) none) (nx + 5) (some (.row (ls.map Line.cs))) = upd σ (nx + 5) (some (.row (ls.map Line.cs))) := by
      funext j
      by_cases h5 : j = nx + 5
      · subst h5; rw [upd_same, upd_same]
      · rw [upd_other _ _ h5, upd_other _ _ h5]
        by_cases h3 : j = nx + 3
        · subst h3; rw [upd_same]; exact (hwf.none (by omega)).symm
        · rw [upd_other _ _ h3, upd_other _ _ h3]
    refine ⟨⟨by simp only [roomFor, push_cast, seval]; omega, fun c hc => lines7' ls c hc⟩, ?_⟩
    rw [hs]
    refine ends_of trivial (by simp only [resultsOf, resOf, push_cast, seval, EE_P]; rfl) (by first | exact ⟨trivial, trivial⟩ | simp only [push_cast, seval, and_self]) ?_
    have hw2 : Wf (upd σ (nx + 5) (some (.row (ls.map Line.cs)))) (nx + 7) := hwf.set (by omega) (by omega) fun o e => by cases e; exact objlt_lines ls
    exact leaves_all (by omega) hw2 (.row _ _ _ (by omega))
  · omega
/-- The line at place i with two lines exchanged. -/
def swapS (ls : List Line) (x y : Nat) (a b : Line) : List Line := (ls.set x b).set y a
structure OrderLaw (ls : List Line) : Prop where
  law : ∀ (x y : Nat) (a b : Line), ls[x]? = some a → ls[y]? = some b → ((combineS ls).2 = 1 ↔ (combineS (swapS ls x y a b)).2 = 1) ∧
    ((combineS ls).2 = 0 → (combineS (swapS ls x y a b)).2 = 0 → (combineS ls).1.pts = (combineS (swapS ls x y a b)).1.pts ∧ (combineS ls).1.hund = (combineS (swapS ls x y a b)).1.hund ∧ (combineS ls).1.parts.length = (combineS (swapS ls x y a b)).1.parts.length)
theorem order_fn {ls : List Line} {v : PV} (hv : SliceP (ls.map Line.cs) v) (hl : ls.length ≤ maxLen) (i k : Int) (hi : 0 ≤ i ∧ i ≤ 255) (hk : 0 ≤ k ∧ k ≤ 255) (hlaw : OrderLaw ls) : Pure EE 5 [v, .int .u8 i, .int .u8 k] (.bool true) := by
  have hl' : ls.length ≤ 9223372036854775807 := hl
  have hvl := hv.len
  simp only [List.length_map] at hvl
  have hfew := few_fn hv hl'
  have hcom := combine_fn hv
  cases hfs : fewS ls
  · rw [hfs] at hfew
    intro σ nx
    refine fn_of_body goodEE (by rw [EE_P]; exact Tryz.func5) rfl rfl (by kernel_rfl) (Nat.le_of_ble_eq_true rfl) (Nat.le_refl _) fun hwf hlt => ?_
    rw [show Tryz.f5.results.toList = [.tmp 6] from rfl]
    refine awp_begin _ _ _ _ _ (cc := _) (by conv => lhs; simp only [push_cast, seval, Tryz.f5]) ?_
    simp only [push_cast, seval, EE_P]
    repeat' (first | simp only [push_cast, seval, EE_P] | simp (disch := omega) only [wrap_fits] | ((first | with_reducible apply wcall_pure | with_reducible apply wdcall_pure); focus (first | assumption | exact awake_fn | exact few_fn (by assumption) (by omega))) | (with_reducible refine wguard_split_t (fun h => ?_) (fun h => ?_)) | (with_reducible refine wguard_split_f (fun h => ?_) (fun h => ?_)) | (with_reducible refine wcond_split (fun h => ?_) (fun h => ?_)) | (with_reducible refine wdguard_split_t (fun h => ?_) (fun h => ?_)) | (with_reducible refine wdguard_split_f (fun h => ?_) (fun h => ?_)) | (with_reducible refine And.intro (fun h => ?_) (fun h => ?_)) | (with_reducible apply And.intro; focus omega))
    ((refine ends_ret (by simp only [resultsOf, resOf, push_cast, seval, EE_P]; rfl) (by simp only [push_cast, seval, EE_P]) ?_ (by repeat' (first | exact Keeps.refl _ | assumption | exact (hwf.keep1 _) | refine Keeps.new hwf ?_ (by omega) _)) (by simp only [lt_int, lt_bool, lt_str, lt_nil, lt_empty, lt_agg, lt_tup, lt_list, lt_cells, lt_fn, lt_nilp, lt_nilfn, lt_nili, List.mem_cons, List.not_mem_nil, or_false, forall_eq_or_imp, forall_eq, and_true, true_and, and_self, implies_true, *]; try omega)); (try simp only [tupOf, push_cast, seval, EE_P]))
  rw [hfs] at hfew
  have hlen := fewS_len hfs
  by_cases hn : ls = []
  · subst hn
    have hvl' : lenP v = some 0 := hvl
    intro σ nx
    refine fn_of_body goodEE (by rw [EE_P]; exact Tryz.func5) rfl rfl (by kernel_rfl) (Nat.le_of_ble_eq_true rfl) (Nat.le_refl _) fun hwf hlt => ?_
    rw [show Tryz.f5.results.toList = [.tmp 6] from rfl]
    refine awp_begin _ _ _ _ _ (cc := _) (by conv => lhs; simp only [push_cast, seval, Tryz.f5]) ?_
    simp only [push_cast, seval, EE_P]
    repeat' (first | simp only [push_cast, seval, EE_P, hvl', hv.str] | simp (disch := omega) only [wrap_fits] | ((first | with_reducible apply wcall_pure | with_reducible apply wdcall_pure); focus (first | assumption | exact awake_fn | exact few_fn (by assumption) (by omega))) | (with_reducible refine wguard_split_t (fun h => ?_) (fun h => ?_)) | (with_reducible refine wguard_split_f (fun h => ?_) (fun h => ?_)) | (with_reducible refine wcond_split (fun h => ?_) (fun h => ?_)) | (with_reducible refine wdguard_split_t (fun h => ?_) (fun h => ?_)) | (with_reducible refine wdguard_split_f (fun h => ?_) (fun h => ?_)) | (with_reducible refine And.intro (fun h => ?_) (fun h => ?_)) | (with_reducible apply And.intro; focus omega))
    all_goals ((refine ends_ret (by simp only [resultsOf, resOf, push_cast, seval, EE_P]; rfl) (by simp only [push_cast, seval, EE_P]) ?_ (by repeat' (first | exact Keeps.refl _ | assumption | exact (hwf.keep1 _) | refine Keeps.new hwf ?_ (by omega) _)) (by simp only [lt_int, lt_bool, lt_str, lt_nil, lt_empty, lt_agg, lt_tup, lt_list, lt_cells, lt_fn, lt_nilp, lt_nilfn, lt_nili, List.mem_cons, List.not_mem_nil, or_false, forall_eq_or_imp, forall_eq, and_true, true_and, and_self, implies_true, *]; try omega)); (try simp only [tupOf, push_cast, seval, EE_P]))
  have hpos : 0 < ls.length := List.length_pos_iff.2 hn
  have hl0 : ¬ (ls.length : Int) = 0 := by omega
  obtain rfl : v = .list (ls.map Line.cs) := hv.lt (i := 0) (by simpa using hpos)
  intro σ nx
  refine fn_of_body goodEE (by rw [EE_P]; exact Tryz.func5) rfl rfl (by kernel_rfl) (Nat.le_of_ble_eq_true rfl) (Nat.le_refl _) fun hwf hlt => ?_
  rw [show Tryz.f5.results.toList = [.tmp 6] from rfl]
  refine awp_begin _ _ _ _ _ (cc := _) (by conv => lhs; simp only [push_cast, seval, Tryz.f5]) ?_
  simp only [push_cast, seval, EE_P]
  repeat' (first | simp only [push_cast, seval, EE_P, hvl, hl0] | simp (disch := omega) only [wrap_fits] | ((first | with_reducible apply wcall_pure | with_reducible apply wdcall_pure); focus (first | assumption | exact awake_fn | exact few_fn (by assumption) (by omega))) | (with_reducible refine wguard_split_t (fun h => ?_) (fun h => ?_)) | (with_reducible refine wguard_split_f (fun h => ?_) (fun h => ?_)) | (with_reducible refine wcond_split (fun h => ?_) (fun h => ?_)) | (with_reducible refine wdguard_split_t (fun h => ?_) (fun h => ?_)) | (with_reducible refine wdguard_split_f (fun h => ?_) (fun h => ?_)) | (with_reducible refine And.intro (fun h => ?_) (fun h => ?_)) | (with_reducible apply And.intro; focus omega))
  refine wcall_of _ _ _ _ _ _ (clone_fn hn (by omega)) ?_
  have ex : ∃ x : Nat, i.tmod ls.length = x ∧ x < ls.length := ⟨(i.tmod ls.length).toNat, by have := tmod_bd hi.1 (show (0 : Int) < ls.length by omega); omega, by have := tmod_bd hi.1 (show (0 : Int) < ls.length by omega); omega⟩
  have ey : ∃ y : Nat, k.tmod ls.length = y ∧ y < ls.length := ⟨(k.tmod ls.length).toNat, by have := tmod_bd hk.1 (show (0 : Int) < ls.length by omega); omega, by have := tmod_bd hk.1 (show (0 : Int) < ls.length by omega); omega⟩
  obtain ⟨x, ex, hx⟩ := ex
  obtain ⟨y, ey, hy⟩ := ey
  have wi : IntKind.i64.wrap i = i := wrap_small (by omega) (by omega)
  have wk : IntKind.i64.wrap k = k := wrap_small (by omega) (by omega)
  have wx : IntKind.i64.wrap (x : Int) = x := wrap_small (by omega) (by omega)
  have wy : IntKind.i64.wrap (y : Int) = y := wrap_small (by omega) (by omega)
  have hx' : (x : Int) < ls.length := by omega
  have hy' : (y : Int) < ls.length := by omega
  have hx0 : (0 : Int) ≤ x := by omega
  have hy0 : (0 : Int) ≤ y := by omega
  have hgx : (ls.map Line.cs)[x]? = some ls[x].cs := by rw [List.getElem?_map, List.getElem?_eq_getElem hx]; rfl
  have hgy : (ls.map Line.cs)[y]? = some ls[y].cs := by rw [List.getElem?_map, List.getElem?_eq_getElem hy]; rfl
  have hgs : ((ls.map Line.cs).set x ls[y].cs)[y]? = some ls[y].cs := by
    by_cases hxy : x = y
    · subst hxy; simp [List.getElem?_set, hx]
    · rw [List.getElem?_set_ne hxy, hgy]
  have hsw : ((ls.map Line.cs).set x ls[y].cs).set y ls[x].cs = (swapS ls x y ls[x] ls[y]).map Line.cs := by unfold swapS; rw [List.map_set, List.map_set]
  have hlw := hlaw.law x y ls[x] ls[y] (List.getElem?_eq_getElem hx) (List.getElem?_eq_getElem hy)
  have hswl : (swapS ls x y ls[x] ls[y]).length = ls.length := by simp [swapS]
  generalize ls[x] = a at *
  generalize ls[y] = b at *
  have hcom2 := combine_fn (ls := swapS ls x y a b) .list
  have hsl : (swapS ls x y a b).length = ls.length := hswl
  generalize hc1 : combineS ls = c1 at *
  generalize hc2 : combineS (swapS ls x y a b) = c2 at *
  obtain ⟨⟨p1, t1, h1⟩, e1⟩ := c1
  obtain ⟨⟨p2, t2, h2⟩, e2⟩ := c2
  simp only [Credit.val] at hcom hcom2
  simp only at hlw
  have o1 := (partsV_slice p1).one
  have o2 := (partsV_slice p2).one
  have ce1 := (partsV_slice p1).cells
  have ce2 := (partsV_slice p2).cells
  have l1 := (partsV_slice p1).len
  have l2 := (partsV_slice p2).len
  have i1 := (partsV_slice p1).str
  have i2 := (partsV_slice p2).str
  simp only [List.length_map] at l1 l2
  simp only [Line.cs] at hgs
  repeat' (first | simp only [push_cast, seval, EE_P, hvl, hl0, ex, ey, wi, wk, wx, wy, Int.toNat_natCast, hx', hy', hx0, hy0, hx, hy, hgx, hgy, hgs, List.length_map, List.length_set, o1, ce1] | simp (disch := omega) only [wrap_fits] | ((first | with_reducible apply wcall_pure | with_reducible apply wdcall_pure); focus (first | assumption | exact awake_fn | exact few_fn (by assumption) (by omega))) | (with_reducible refine wguard_split_t (fun h => ?_) (fun h => ?_)) | (with_reducible refine wguard_split_f (fun h => ?_) (fun h => ?_)) | (with_reducible refine wcond_split (fun h => ?_) (fun h => ?_)) | (with_reducible refine wdguard_split_t (fun h => ?_) (fun h => ?_)) | (with_reducible refine wdguard_split_f (fun h => ?_) (fun h => ?_)) | (with_reducible refine And.intro (fun h => ?_) (fun h => ?_)) | (with_reducible apply And.intro; focus omega))
  refine wcall_freeze (σ' := upd _ (nx + 19) none) hcom2 ((Sub.refl _).drop _) ⟨fz_row (k := nx + 19) (by simp only [upd_at, push_cast, seval]; exact congrArg (fun e => some (AObj.row e)) hsw) (upd_same ..) (by rw [List.length_map, hsl]), trivial⟩ ?_
  repeat' (first | simp only [push_cast, seval, EE_P, o2, ce2, o1, ce1, l1, l2, i1, i2] | simp (disch := omega) only [wrap_fits] | ((first | with_reducible apply wcall_pure | with_reducible apply wdcall_pure); focus (first | assumption | exact awake_fn | exact few_fn (by assumption) (by omega))) | (with_reducible refine wguard_split_t (fun h => ?_) (fun h => ?_)) | (with_reducible refine wguard_split_f (fun h => ?_) (fun h => ?_)) | (with_reducible refine wcond_split (fun h => ?_) (fun h => ?_)) | (with_reducible refine wdguard_split_t (fun h => ?_) (fun h => ?_)) | (with_reducible refine wdguard_split_f (fun h => ?_) (fun h => ?_)) | (with_reducible refine And.intro (fun h => ?_) (fun h => ?_)) | (with_reducible apply And.intro; focus omega))
  all_goals ((refine ends_ret (by simp only [resultsOf, resOf, push_cast, seval, EE_P]; rfl) (by simp only [push_cast, seval, EE_P]) ?_ (by repeat' (first | exact Keeps.refl _ | assumption | exact (hwf.keep1 _) | refine Keeps.new hwf ?_ (by omega) _)) (by simp only [lt_int, lt_bool, lt_str, lt_nil, lt_empty, lt_agg, lt_tup, lt_list, lt_cells, lt_fn, lt_nilp, lt_nilfn, lt_nili, List.mem_cons, List.not_mem_nil, or_false, forall_eq_or_imp, forall_eq, and_true, true_and, and_self, implies_true, *]; try omega)); (try simp only [tupOf, push_cast, seval, EE_P]))
  all_goals clear hfew hcom hcom2 hc1 hc2 hlt hwf hv hvl hgx hgy hgs hsw
  all_goals (first | rfl | (exfalso; simp_all; done) | (simp_all; done))
end Go.Proofs.YtdajoilaakiinaaGreatDoor.Awp

/- What Combine computes, in rational numbers, whatever the order of the lines. -/
namespace Go.Proofs.YtdajoilaakiinaaGreatDoor.Awp
open Go Go.Proofs
set_option linter.unusedSimpArgs false
set_option linter.unusedVariables false
set_option maxHeartbeats 1000000

def wt (l : Line) : Rat := val (weightS l)
def isK (k : Int) (l : Line) : Bool := l.app && decide (l.kind = k)
theorem member_iff {g : ByteArray} {l : Line} : memberS g l = true ↔ isK 0 l = true ∧ l.group = g := by
  unfold memberS isK
  simp only [Bool.and_eq_true, decide_eq_true_eq]
  constructor
  · rintro ⟨⟨h1, h2⟩, h3⟩; exact ⟨⟨h2, h1⟩, h3⟩
  · rintro ⟨⟨h1, h2⟩, h3⟩; exact ⟨⟨h2, h1⟩, h3⟩
/-- The best weight of a group. -/
def Mx (g : ByteArray) : List Line → Rat
  | [] => 0
  | l :: ls => if memberS g l = true then max (wt l) (Mx g ls) else Mx g ls
/-- The sum of the points, but for the groups of S. -/
def TS (S : ByteArray → Bool) : List Line → Rat
  | [] => 0
  | l :: ls => TS S ls + (if isK 0 l = true then (if l.group.size = 0 then wt l else if S l.group = true then 0 else max (wt l) (Mx l.group ls) - Mx l.group ls) else 0)
/-- The number of their parts. -/
def NS (S : ByteArray → Bool) : List Line → Nat
  | [] => 0
  | l :: ls => NS S ls + (if isK 0 l = true then (if l.group.size = 0 then 1 else if S l.group = true then 0 else if ls.any (memberS l.group) = true then 0 else 1) else 0)
/-- Sums, greatest and least weights, and numbers of the lines of a kind. -/
def Sm (k : Int) : List Line → Rat
  | [] => 0
  | l :: ls => Sm k ls + (if isK k l = true then wt l else 0)
def Mk (k : Int) : List Line → Rat
  | [] => 0
  | l :: ls => if isK k l = true then max (wt l) (Mk k ls) else Mk k ls
def Mn (p : Rat) : List Line → Rat
  | [] => p
  | l :: ls => if isK 2 l = true then min (wt l) (Mn p ls) else Mn p ls
def Cn (k : Int) (ls : List Line) : Nat := ls.countP (isK k)
def noS : ByteArray → Bool := fun _ => false
def penS (ls : List Line) : Rat := max 0 (TS noS ls - Sm 1 ls)
def resS (ls : List Line) : Rat := Mn (max (penS ls) (Mk 3 ls)) ls
def cntS (ls : List Line) : Nat := NS noS ls + Cn 1 ls + Cn 3 ls + Cn 2 ls

theorem TS_cons (S : ByteArray → Bool) (l : Line) (ls : List Line) : TS S (l :: ls) = TS S ls + (if isK 0 l = true then (if l.group.size = 0 then wt l else if S l.group = true then 0 else max (wt l) (Mx l.group ls) - Mx l.group ls) else 0) := rfl
theorem NS_cons (S : ByteArray → Bool) (l : Line) (ls : List Line) : NS S (l :: ls) = NS S ls + (if isK 0 l = true then (if l.group.size = 0 then 1 else if S l.group = true then 0 else if ls.any (memberS l.group) = true then 0 else 1) else 0) := rfl
theorem Mx_cons (g : ByteArray) (l : Line) (ls : List Line) : Mx g (l :: ls) = if memberS g l = true then max (wt l) (Mx g ls) else Mx g ls := rfl
theorem ts_congr {S S' : ByteArray → Bool} (h : ∀ g, g.size ≠ 0 → S g = S' g) : ∀ ls, TS S ls = TS S' ls ∧ NS S ls = NS S' ls
  | [] => ⟨rfl, rfl⟩
  | l :: ls => by
    obtain ⟨h1, h2⟩ := ts_congr h ls
    rw [TS_cons, TS_cons, NS_cons, NS_cons, h1, h2]
    by_cases hg : l.group.size = 0
    · simp only [hg, if_true, and_self]
    · rw [h _ hg]; exact ⟨rfl, rfl⟩
def addG (S : ByteArray → Bool) (g : ByteArray) : ByteArray → Bool := fun x => S x || decide (x = g)
theorem any_mx {g : ByteArray} : ∀ {ls : List Line}, ls.any (memberS g) = false → Mx g ls = 0
  | [], _ => rfl
  | l :: ls, h => by
    rw [List.any_cons, Bool.or_eq_false_iff] at h
    unfold Mx
    rw [h.1, if_neg (by simp)]
    exact any_mx h.2
theorem ts_add {S : ByteArray → Bool} {g : ByteArray} (hS : S g = false) (hg : g.size ≠ 0) : ∀ ls, TS S ls = TS (addG S g) ls + Mx g ls ∧ NS S ls = NS (addG S g) ls + (if ls.any (memberS g) = true then 1 else 0)
  | [] => ⟨by simp [TS, Mx]; grind, rfl⟩
  | l :: ls => by
    obtain ⟨h1, h2⟩ := ts_add hS hg ls
    simp only [TS_cons, NS_cons, Mx_cons, List.any_cons]
    cases hk : isK 0 l
    · have hm : memberS g l = false := by
        cases hm : memberS g l
        · rfl
        · rw [(member_iff.1 hm).1] at hk; cases hk
      simp only [hm, Bool.false_or, Bool.false_eq_true, if_false]
      rw [h1, h2]
      exact ⟨by grind, by omega⟩
    · simp only [if_true]
      by_cases hgs : l.group.size = 0
      · have hm : memberS g l = false := by
          cases hm : memberS g l
          · rfl
          · rw [(member_iff.1 hm).2] at hgs; exact absurd hgs hg
        simp only [hm, hgs, Bool.false_or, Bool.false_eq_true, if_false, if_true]
        rw [h1, h2]
        exact ⟨by grind, by omega⟩
      · by_cases he : l.group = g
        · have hm : memberS g l = true := member_iff.2 ⟨hk, he⟩
          have hS' : addG S g g = true := by simp [addG]
          simp only [hm, he, hg, hS, hS', if_false, if_true, Bool.true_or, Bool.false_eq_true]
          rw [h1, h2]
          refine ⟨by grind, ?_⟩
          cases ls.any (memberS g)
          · simp
          · simp
        · have hm : memberS g l = false := by
            cases hm : memberS g l
            · rfl
            · exact absurd (member_iff.1 hm).2 he
          have hS' : addG S g l.group = S l.group := by simp [addG, he]
          simp only [hm, hgs, hS', Bool.false_or, Bool.false_eq_true, if_false]
          rw [h1, h2]
          exact ⟨by grind, by omega⟩

/-! ### one step -/
theorem become_get {m : MK} {name : ByteArray} {p : Frac} {e : Int} (h : (becomeS m name p e).wrong = false) : m.wrong = false ∧ e = 0 ∧ fsubErr p m.pts = 0 ∧ Fok p ∧ Fok m.pts ∧ becomeS m name p e = { m with parts := m.parts ++ [Part.mk name (fsub p m.pts)], pts := p } := by
  unfold becomeS at h ⊢
  split at h
  · cases h
  · rename_i hc
    rw [if_neg hc]
    have h3 : fsubErr p m.pts = 0 := Decidable.byContradiction fun hn => hc (.inr (.inr hn))
    obtain ⟨h4, h5, _⟩ := fsub_val h3
    exact ⟨by cases hw : m.wrong <;> simp_all, Decidable.byContradiction fun hn => hc (.inr (.inl hn)), h3, h4, h5, rfl⟩
theorem wt_nonneg {l : Line} (h : Fok l.amt) : 0 ≤ wt l := (val_nonneg (weight_ok h).1).1 (weight_ok h).2
theorem isK_app {k : Int} {l : Line} (h : isK k l = true) : l.app = true ∧ l.kind = k := by
  unfold isK at h
  simpa using h
theorem isK_ok {k : Int} {ls : List Line} (hr : AllR ls) {l : Line} (hl : l ∈ ls) (h : isK k l = true) : Fok l.amt := right_amt (hr l hl) (isK_app h).1
theorem best_val {g : ByteArray} {b : Line} (hb : Fok b.amt) : ∀ {ls : List Line}, AllR ls → val (weightS (bestS g b ls)) = max (wt b) (Mx g ls) := by
  intro ls
  induction ls generalizing b with
  | nil => intro _; have := wt_nonneg hb; show wt b = max (wt b) 0; grind
  | cons l ls ih =>
    intro h
    have h' : AllR ls := fun x hx => h x (List.mem_cons_of_mem _ hx)
    unfold bestS
    rw [List.foldl_cons]
    show val (weightS (bestS g _ ls)) = _
    cases hm : memberS g l
    · rw [if_neg (by simp), ih hb h']
      rw [Mx_cons, hm, if_neg (by simp)]
    · have hl := isK_ok h (List.mem_cons_self ..) (member_iff.1 hm).1
      rw [Mx_cons, hm, if_pos rfl]
      cases hc : lessS (weightS b) (weightS l)
      · rw [if_neg (by simp), ih hb h']
        have := (val_le (weight_ok hl).1 (weight_ok hb).1).1 (less_no (weight_ok hb).1 (weight_ok hl).1 hc)
        have e1 : wt l ≤ wt b := this
        grind
      · rw [if_pos (by simp), ih hl h']
        have e1 : wt b < wt l := (val_lt (weight_ok hb).1 (weight_ok hl).1).1 hc
        grind

/-! ### the four phases -/
def seen (ls : List Line) (j : Nat) : ByteArray → Bool := fun g => (ls.take j).any (memberS g)
theorem seen_succ {ls : List Line} {j : Nat} {l : Line} (h : ls[j]? = some l) (g : ByteArray) : seen ls (j + 1) g = (seen ls j g || memberS g l) := by
  obtain ⟨h1, h2⟩ := List.getElem?_eq_some_iff.1 h
  unfold seen
  rw [List.take_succ_eq_append_getElem h1, List.any_append, h2]
  simp
theorem drop_get {ls : List Line} {j : Nat} {l : Line} (h : ls[j]? = some l) : ls.drop j = l :: ls.drop (j + 1) := by
  obtain ⟨h1, h2⟩ := List.getElem?_eq_some_iff.1 h
  rw [List.drop_eq_getElem_cons h1, h2]
def InvP (ls : List Line) (j : Nat) (m : MK) : Prop := m.wrong = false → Fok m.pts ∧ 0 ≤ val m.pts ∧ val m.pts + TS (seen ls j) (ls.drop j) = TS noS ls ∧ m.parts.length + NS (seen ls j) (ls.drop j) = NS noS ls
theorem phase1 {ls : List Line} (hr : AllR ls) : (phase ls m0S 1).wrong = false → Fok (phase ls m0S 1).pts ∧ 0 ≤ val (phase ls m0S 1).pts ∧ val (phase ls m0S 1).pts = TS noS ls ∧ (phase ls m0S 1).parts.length = NS noS ls := by
  have key : InvP ls ls.length (stepsTo 0 (pointsS ls) ls m0S ls.length) := by
    refine stepsTo_ind (P := InvP ls) ?_ (fun j l m hj hm => ⟨fun ha hk => ?_, fun hn => ?_⟩) _ (Nat.le_refl _)
    · intro _
      refine ⟨zero_ok, by show 0 ≤ val ⟨0, 1⟩; rw [val_zero]; exact Rat.le_refl, ?_, ?_⟩
      · show val ⟨0, 1⟩ + TS (seen ls 0) ls = _
        rw [val_zero, show seen ls 0 = noS from rfl, Rat.zero_add]
      · show 0 + NS (seen ls 0) ls = _
        rw [show seen ls 0 = noS from rfl, Nat.zero_add]
    · have hk0 : isK 0 l = true := by simp [isK, ha, hk]
      have hl := isK_ok hr (List.mem_of_getElem? hj) hk0
      have hdrop : AllR (ls.drop (j + 1)) := fun x hx => hr x (List.mem_of_mem_drop hx)
      have hd := drop_get hj
      intro hw
      unfold pointsS at hw ⊢
      by_cases hg : l.group.size = 0
      · rw [if_pos hg] at hw ⊢
        obtain ⟨w1, w2, w3, w4, w5, w6⟩ := become_get hw
        obtain ⟨i1, i2, i3, i4⟩ := hm w1
        obtain ⟨_, _, a3, a4⟩ := fadd_val w2
        show Fok (becomeS _ _ _ _).pts ∧ 0 ≤ val (becomeS _ _ _ _).pts ∧ val (becomeS _ _ _ _).pts + _ = _ ∧ (becomeS _ _ _ _).parts.length + _ = _
        rw [w6]
        obtain ⟨c1, c2⟩ := ts_congr (S := seen ls (j + 1)) (S' := seen ls j) (fun g hgz => by
          rw [seen_succ hj]
          cases hmm : memberS g l
          · simp
          · rw [(member_iff.1 hmm).2] at hg; exact absurd hg hgz) (ls.drop (j + 1))
        rw [hd] at i3 i4
        simp only [TS_cons, NS_cons, hk0, hg, if_true] at i3 i4
        have hwn := wt_nonneg hl
        have a4' : val (fadd m.pts (weightS l)) = val m.pts + wt l := a4
        refine ⟨a3, ?_, ?_, ?_⟩
        · show 0 ≤ val (fadd m.pts (weightS l)); grind
        · show val (fadd m.pts (weightS l)) + _ = _; rw [c1]; grind
        · show (m.parts ++ [_]).length + _ = _; rw [c2, List.length_append, List.length_singleton]; omega
      · rw [if_neg hg] at hw ⊢
        cases hs : (ls.take j).any (memberS l.group)
        · rw [hs, if_neg (by simp)] at hw
          rw [if_neg (by simp)]
          obtain ⟨w1, w2, w3, w4, w5, w6⟩ := become_get hw
          obtain ⟨i1, i2, i3, i4⟩ := hm w1
          obtain ⟨_, _, a3, a4⟩ := fadd_val w2
          show Fok (becomeS _ _ _ _).pts ∧ 0 ≤ val (becomeS _ _ _ _).pts ∧ val (becomeS _ _ _ _).pts + _ = _ ∧ (becomeS _ _ _ _).parts.length + _ = _
          rw [w6]
          have hs' : seen ls j l.group = false := hs
          obtain ⟨c1, c2⟩ := ts_congr (S := seen ls (j + 1)) (S' := addG (seen ls j) l.group) (fun g hgz => by
            rw [seen_succ hj]
            unfold addG
            congr 1
            cases hmm : memberS g l
            · symm; rw [decide_eq_false_iff_not]; intro e; rw [member_iff.2 ⟨hk0, e.symm⟩] at hmm; cases hmm
            · symm; rw [decide_eq_true_eq]; exact (member_iff.1 hmm).2.symm) (ls.drop (j + 1))
          obtain ⟨d1, d2⟩ := ts_add hs' hg (ls.drop (j + 1))
          have hb : val (weightS (bestS l.group l (ls.drop j))) = max (wt l) (Mx l.group (ls.drop (j + 1))) := by
            rw [best_val hl (fun x hx => hr x (List.mem_of_mem_drop hx)), hd]
            rw [Mx_cons]
            rw [member_iff.2 ⟨hk0, rfl⟩, if_pos rfl]
            grind
          rw [hd] at i3 i4
          simp only [TS_cons, NS_cons, hk0, hg, hs', if_true, if_false, Bool.false_eq_true] at i3 i4
          have hwn := wt_nonneg hl
          refine ⟨a3, ?_, ?_, ?_⟩
          · show 0 ≤ val (fadd m.pts (weightS (bestS l.group l (ls.drop j)))); rw [a4, hb]; grind
          · show val (fadd m.pts (weightS (bestS l.group l (ls.drop j)))) + _ = _; rw [a4, hb, c1]; grind
          · show (m.parts ++ [_]).length + _ = _
            rw [c2, List.length_append, List.length_singleton]
            cases hany : (ls.drop (j + 1)).any (memberS l.group) <;> simp only [hany, if_true, if_false, Bool.false_eq_true] at i4 d2 <;> omega
        · rw [hs, if_pos rfl] at hw
          rw [if_pos rfl]
          obtain ⟨i1, i2, i3, i4⟩ := hm hw
          have hs' : seen ls j l.group = true := hs
          obtain ⟨c1, c2⟩ := ts_congr (S := seen ls (j + 1)) (S' := seen ls j) (fun g hgz => by
            rw [seen_succ hj]
            cases hmm : memberS g l
            · simp
            · rw [← (member_iff.1 hmm).2, hs']; rfl) (ls.drop (j + 1))
          rw [hd] at i3 i4
          simp only [TS_cons, NS_cons, hk0, hg, hs', if_true, if_false] at i3 i4
          refine ⟨i1, i2, ?_, ?_⟩
          · rw [c1]; grind
          · rw [c2]; omega
    · have hk0 : isK 0 l = false := by
        cases hk : isK 0 l
        · rfl
        · exact absurd (isK_app hk) hn
      intro hw
      obtain ⟨i1, i2, i3, i4⟩ := hm hw
      have hd := drop_get hj
      obtain ⟨c1, c2⟩ := ts_congr (S := seen ls (j + 1)) (S' := seen ls j) (fun g hgz => by
        rw [seen_succ hj]
        cases hmm : memberS g l
        · simp
        · rw [(member_iff.1 hmm).1] at hk0; cases hk0) (ls.drop (j + 1))
      rw [hd] at i3 i4
      simp only [TS_cons, NS_cons, hk0, if_false, Bool.false_eq_true] at i3 i4
      refine ⟨i1, i2, ?_, ?_⟩
      · rw [c1]; grind
      · rw [c2]; omega
  intro hw
  obtain ⟨i1, i2, i3, i4⟩ := key hw
  rw [List.drop_length] at i3 i4
  exact ⟨i1, i2, by have : val (phase ls m0S 1).pts + 0 = TS noS ls := i3; grind, i4⟩

theorem Sm_snoc (k : Int) (l : Line) : ∀ xs : List Line, Sm k (xs ++ [l]) = Sm k xs + (if isK k l = true then wt l else 0)
  | [] => by show (0 : Rat) + _ = 0 + _; rfl
  | x :: xs => by
    show Sm k (xs ++ [l]) + _ = Sm k xs + _ + _
    rw [Sm_snoc k l xs]
    grind
theorem Mk_snoc (k : Int) (l : Line) (hl : isK k l = true → 0 ≤ wt l) : ∀ xs : List Line, Mk k (xs ++ [l]) = if isK k l = true then max (wt l) (Mk k xs) else Mk k xs
  | [] => by
    show (if _ then max (wt l) (0 : Rat) else 0) = if _ then max (wt l) (0 : Rat) else 0
    rfl
  | x :: xs => by
    show (if isK k x = true then max (wt x) (Mk k (xs ++ [l])) else Mk k (xs ++ [l])) = if isK k l = true then max (wt l) (if isK k x = true then max (wt x) (Mk k xs) else Mk k xs) else (if isK k x = true then max (wt x) (Mk k xs) else Mk k xs)
    rw [Mk_snoc k l hl xs]
    split <;> split <;> grind
theorem Mn_snoc (p : Rat) (l : Line) : ∀ xs : List Line, Mn p (xs ++ [l]) = if isK 2 l = true then min (wt l) (Mn p xs) else Mn p xs
  | [] => rfl
  | x :: xs => by
    show (if isK 2 x = true then min (wt x) (Mn p (xs ++ [l])) else Mn p (xs ++ [l])) = if isK 2 l = true then min (wt l) (if isK 2 x = true then min (wt x) (Mn p xs) else Mn p xs) else (if isK 2 x = true then min (wt x) (Mn p xs) else Mn p xs)
    rw [Mn_snoc p l xs]
    split <;> split <;> grind
theorem Cn_snoc (k : Int) (l : Line) (xs : List Line) : Cn k (xs ++ [l]) = Cn k xs + (if isK k l = true then 1 else 0) := by
  unfold Cn
  rw [List.countP_append, List.countP_singleton]
theorem take_snoc {ls : List Line} {j : Nat} {l : Line} (h : ls[j]? = some l) : ls.take (j + 1) = ls.take j ++ [l] := by
  obtain ⟨h1, h2⟩ := List.getElem?_eq_some_iff.1 h
  rw [List.take_succ_eq_append_getElem h1, h2]
/-- A phase that goes line by line. -/
theorem phase_of {ls : List Line} {kind : Int} {f : Nat → Line → MK → MK} {m0 : MK} {V : List Line → Rat} {c0 : Nat} (hr : AllR ls)
    (h0 : m0.wrong = false → Fok m0.pts ∧ 0 ≤ val m0.pts ∧ val m0.pts = V [] ∧ m0.parts.length = c0)
    (hf : ∀ (j : Nat) (l : Line) (m : MK) (xs : List Line), isK kind l = true → Fok l.amt → (m.wrong = false → Fok m.pts ∧ 0 ≤ val m.pts ∧ val m.pts = V xs) → (f j l m).wrong = false →
      m.wrong = false ∧ Fok (f j l m).pts ∧ 0 ≤ val (f j l m).pts ∧ val (f j l m).pts = V (xs ++ [l]) ∧ (f j l m).parts.length = m.parts.length + 1)
    (hn : ∀ (l : Line) (xs : List Line), isK kind l = false → V (xs ++ [l]) = V xs) :
    (stepsTo kind f ls m0 ls.length).wrong = false → Fok (stepsTo kind f ls m0 ls.length).pts ∧ 0 ≤ val (stepsTo kind f ls m0 ls.length).pts ∧ val (stepsTo kind f ls m0 ls.length).pts = V ls ∧ (stepsTo kind f ls m0 ls.length).parts.length = c0 + Cn kind ls := by
  have key := stepsTo_ind (kind := kind) (f := f) (ls := ls) (m0 := m0) (P := fun j m => m.wrong = false → Fok m.pts ∧ 0 ≤ val m.pts ∧ val m.pts = V (ls.take j) ∧ m.parts.length = c0 + Cn kind (ls.take j)) h0 (fun j l m hj hm => ⟨fun ha hk => ?_, fun hk => ?_⟩) ls.length (Nat.le_refl _)
  · rw [List.take_length] at key
    exact key
  · have hk0 : isK kind l = true := by simp [isK, ha, hk]
    intro hw
    obtain ⟨w1, w2, w3, w4, w5⟩ := hf j l m (ls.take j) hk0 (isK_ok hr (List.mem_of_getElem? hj) hk0) (fun h => by obtain ⟨a, b, c, _⟩ := hm h; exact ⟨a, b, c⟩) hw
    obtain ⟨_, _, _, i4⟩ := hm w1
    rw [take_snoc hj]
    refine ⟨w2, w3, w4, ?_⟩
    rw [w5, i4, Cn_snoc, if_pos hk0]
    omega
  · have hk0 : isK kind l = false := by
      cases hk' : isK kind l
      · rfl
      · exact absurd (isK_app hk') hk
    intro hw
    obtain ⟨i1, i2, i3, i4⟩ := hm hw
    rw [take_snoc hj, hn l _ hk0, Cn_snoc, hk0]
    exact ⟨i1, i2, i3, i4⟩
theorem phase2 {ls : List Line} (hr : AllR ls) : (phase ls m0S 2).wrong = false → Fok (phase ls m0S 2).pts ∧ 0 ≤ val (phase ls m0S 2).pts ∧ val (phase ls m0S 2).pts = penS ls ∧ (phase ls m0S 2).parts.length = NS noS ls + Cn 1 ls := by
  refine phase_of (kind := 1) (f := fun _ => penaltyS) (m0 := phase ls m0S 1) (V := fun xs => max 0 (TS noS ls - Sm 1 xs)) hr ?_ ?_ ?_
  · intro h
    obtain ⟨a, b, c, d⟩ := phase1 hr h
    refine ⟨a, b, ?_, d⟩
    show _ = max 0 (TS noS ls - 0)
    rw [c] at b ⊢
    grind
  · intro j l m xs hk hl hm hw
    have hwn := wt_nonneg hl
    have hwo := weight_ok hl
    unfold penaltyS at hw ⊢
    obtain ⟨w1, w2, w3, w4, w5, w6⟩ := become_get hw
    obtain ⟨i1, i2, i3⟩ := hm w1
    simp only at w2 w6 ⊢
    rw [w6]
    refine ⟨w1, w4, ?_⟩
    show 0 ≤ val (fsub m.pts _) ∧ val (fsub m.pts _) = max 0 (TS noS ls - Sm 1 (xs ++ [l])) ∧ (m.parts ++ [_]).length = _
    rw [Sm_snoc, if_pos hk, List.length_append, List.length_singleton, (fsub_val w2).2.2.2]
    have i3' : val m.pts = max 0 (TS noS ls - Sm 1 xs) := i3
    cases hc : lessS m.pts (weightS l)
    · have e1 : wt l ≤ val m.pts := (val_le hwo.1 i1).1 (less_no i1 hwo.1 hc)
      rw [if_neg (by simp)]
      have e2 : val (weightS l) = wt l := rfl
      rw [e2]
      exact ⟨by grind, by grind, rfl⟩
    · have e1 : val m.pts < wt l := (val_lt i1 hwo.1).1 hc
      rw [if_pos rfl]
      exact ⟨by grind, by grind, rfl⟩
  · intro l xs hk
    show max 0 (TS noS ls - Sm 1 (xs ++ [l])) = max 0 (TS noS ls - Sm 1 xs)
    rw [Sm_snoc, hk, if_neg (by simp), Rat.add_zero]
theorem phase3 {ls : List Line} (hr : AllR ls) : (phase ls m0S 3).wrong = false → Fok (phase ls m0S 3).pts ∧ 0 ≤ val (phase ls m0S 3).pts ∧ val (phase ls m0S 3).pts = max (penS ls) (Mk 3 ls) ∧ (phase ls m0S 3).parts.length = NS noS ls + Cn 1 ls + Cn 3 ls := by
  refine phase_of (kind := 3) (f := fun _ => chooseS fun w p => lessS p w) (m0 := phase ls m0S 2) (V := fun xs => max (penS ls) (Mk 3 xs)) hr ?_ ?_ ?_
  · intro h
    obtain ⟨a, b, c, d⟩ := phase2 hr h
    refine ⟨a, b, ?_, d⟩
    show _ = max (penS ls) 0
    rw [c] at b ⊢
    grind
  · intro j l m xs hk hl hm hw
    have hwn := wt_nonneg hl
    have hwo := weight_ok hl
    unfold chooseS at hw ⊢
    obtain ⟨w1, w2, w3, w4, w5, w6⟩ := become_get hw
    obtain ⟨i1, i2, i3⟩ := hm w1
    simp only at w6 ⊢
    rw [w6]
    refine ⟨w1, w4, ?_⟩
    show 0 ≤ val (if lessS m.pts (weightS l) = true then weightS l else m.pts) ∧ val (if lessS m.pts (weightS l) = true then weightS l else m.pts) = max (penS ls) (Mk 3 (xs ++ [l])) ∧ (m.parts ++ [_]).length = _
    rw [Mk_snoc 3 l (fun _ => hwn), if_pos hk, List.length_append, List.length_singleton]
    have i3' : val m.pts = max (penS ls) (Mk 3 xs) := i3
    have e2 : val (weightS l) = wt l := rfl
    cases hc : lessS m.pts (weightS l)
    · have e1 : wt l ≤ val m.pts := (val_le hwo.1 i1).1 (less_no i1 hwo.1 hc)
      rw [if_neg (by simp)]
      exact ⟨by grind, by grind, rfl⟩
    · have e1 : val m.pts < wt l := (val_lt i1 hwo.1).1 hc
      rw [if_pos rfl, e2]
      exact ⟨by grind, by grind, rfl⟩
  · intro l xs hk
    show max (penS ls) (Mk 3 (xs ++ [l])) = max (penS ls) (Mk 3 xs)
    rw [Mk_snoc 3 l (fun h => by rw [hk] at h; cases h), hk, if_neg (by simp)]
theorem phase4 {ls : List Line} (hr : AllR ls) : (phase ls m0S 4).wrong = false → Fok (phase ls m0S 4).pts ∧ 0 ≤ val (phase ls m0S 4).pts ∧ val (phase ls m0S 4).pts = resS ls ∧ (phase ls m0S 4).parts.length = cntS ls := by
  refine phase_of (kind := 2) (f := fun _ => chooseS lessS) (m0 := phase ls m0S 3) (V := fun xs => Mn (max (penS ls) (Mk 3 ls)) xs) hr ?_ ?_ ?_
  · intro h
    obtain ⟨a, b, c, d⟩ := phase3 hr h
    exact ⟨a, b, c, d⟩
  · intro j l m xs hk hl hm hw
    have hwn := wt_nonneg hl
    have hwo := weight_ok hl
    unfold chooseS at hw ⊢
    obtain ⟨w1, w2, w3, w4, w5, w6⟩ := become_get hw
    obtain ⟨i1, i2, i3⟩ := hm w1
    rw [w6]
    refine ⟨w1, w4, ?_⟩
    show 0 ≤ val (if lessS (weightS l) m.pts = true then weightS l else m.pts) ∧ val (if lessS (weightS l) m.pts = true then weightS l else m.pts) = Mn (max (penS ls) (Mk 3 ls)) (xs ++ [l]) ∧ (m.parts ++ [_]).length = _
    rw [Mn_snoc, if_pos hk, List.length_append, List.length_singleton]
    have i3' : val m.pts = Mn (max (penS ls) (Mk 3 ls)) xs := i3
    have e2 : val (weightS l) = wt l := rfl
    cases hc : lessS (weightS l) m.pts
    · have e1 : val m.pts ≤ wt l := (val_le i1 hwo.1).1 (less_no hwo.1 i1 hc)
      rw [if_neg (by simp)]
      exact ⟨by grind, by grind, rfl⟩
    · have e1 : wt l < val m.pts := (val_lt hwo.1 i1).1 hc
      rw [if_pos rfl, e2]
      exact ⟨by grind, by grind, rfl⟩
  · intro l xs hk
    show Mn _ (xs ++ [l]) = Mn _ xs
    rw [Mn_snoc, hk, if_neg (by simp)]
/-- Where there are points, they are resS, and their parts are cntS. -/
theorem combine_val {ls : List Line} (h : (combineS ls).2 = 0) : AllR ls ∧ Fok (combineS ls).1.pts ∧ 0 ≤ val (combineS ls).1.pts ∧ val (combineS ls).1.pts = resS ls ∧ (combineS ls).1.parts.length = cntS ls ∧ (combineS ls).1.hund = hundS (combineS ls).1.pts := by
  obtain ⟨hr, hw, hv, he⟩ := combine_ok h
  obtain ⟨a, b, c, d⟩ := phase4 hr hw
  rw [he]
  exact ⟨hr, a, b, c, d, rfl⟩
theorem finish_12 (m : MK) : (finishS m).2 ≠ 1 := by
  unfold finishS
  split
  · decide
  · show (0 : Int) ≠ 1; decide
theorem combine_one {ls : List Line} : (combineS ls).2 = 1 ↔ ls.length > 32 ∨ ls.any (fun l => !rightS l) = true := by
  unfold combineS
  split
  · rename_i h; exact ⟨fun _ => h, fun _ => rfl⟩
  · rename_i h; exact ⟨fun e => absurd e (finish_12 _), fun e => absurd e h⟩
end Go.Proofs.YtdajoilaakiinaaGreatDoor.Awp

/- The order of the lines does not matter. -/
namespace Go.Proofs.YtdajoilaakiinaaGreatDoor.Awp
open Go Go.Proofs
set_option linter.unusedSimpArgs false
set_option linter.unusedVariables false
set_option maxHeartbeats 1000000

theorem Mx_perm (g : ByteArray) {a b : List Line} (h : a.Perm b) : Mx g a = Mx g b := by
  induction h with
  | nil => rfl
  | cons x _ ih => rw [Mx_cons, Mx_cons, ih]
  | swap x y l =>
    simp only [Mx_cons]
    split <;> split <;> grind
  | trans _ _ h1 h2 => rw [h1, h2]
theorem any_perm {p : Line → Bool} {a b : List Line} (h : a.Perm b) : a.any p = b.any p := by
  induction h with
  | nil => rfl
  | cons x _ ih => rw [List.any_cons, List.any_cons, ih]
  | swap x y l =>
    simp only [List.any_cons]
    cases p x <;> cases p y <;> rfl
  | trans _ _ h1 h2 => rw [h1, h2]
def cT (S : ByteArray → Bool) (l : Line) (ls : List Line) : Rat := if isK 0 l = true then (if l.group.size = 0 then wt l else if S l.group = true then 0 else max (wt l) (Mx l.group ls) - Mx l.group ls) else 0
def cN (S : ByteArray → Bool) (l : Line) (ls : List Line) : Nat := if isK 0 l = true then (if l.group.size = 0 then 1 else if S l.group = true then 0 else if ls.any (memberS l.group) = true then 0 else 1) else 0
theorem c_other (S : ByteArray → Bool) {x y : Line} (h : ¬ (isK 0 x = true ∧ isK 0 y = true ∧ x.group = y.group)) (ls : List Line) : cT S x (y :: ls) = cT S x ls ∧ cN S x (y :: ls) = cN S x ls := by
  unfold cT cN
  by_cases hx : isK 0 x = true
  · have hm : memberS x.group y = false := by
      cases hm : memberS x.group y
      · rfl
      · obtain ⟨h1, h2⟩ := member_iff.1 hm
        exact absurd ⟨hx, h1, h2.symm⟩ h
    rw [Mx_cons, List.any_cons, hm, Bool.false_or]
    simp only [Bool.false_eq_true, if_false, and_self]
  · rw [if_neg hx, if_neg hx, if_neg hx, if_neg hx]
    exact ⟨rfl, rfl⟩
theorem ts_perm (S : ByteArray → Bool) {a b : List Line} (h : a.Perm b) : TS S a = TS S b ∧ NS S a = NS S b := by
  induction h with
  | nil => exact ⟨rfl, rfl⟩
  | cons x hp ih =>
    rw [TS_cons, TS_cons, NS_cons, NS_cons, ih.1, ih.2, Mx_perm x.group hp, any_perm hp]
    exact ⟨rfl, rfl⟩
  | swap x y l =>
    show TS S l + cT S x l + cT S y (x :: l) = TS S l + cT S y l + cT S x (y :: l) ∧ NS S l + cN S x l + cN S y (x :: l) = NS S l + cN S y l + cN S x (y :: l)
    by_cases h : isK 0 x = true ∧ isK 0 y = true ∧ x.group = y.group
    · obtain ⟨h1, h2, h3⟩ := h
      have m1 : memberS y.group x = true := member_iff.2 ⟨h1, h3⟩
      have m2 : memberS x.group y = true := member_iff.2 ⟨h2, h3.symm⟩
      unfold cT cN
      simp only [Mx_cons, List.any_cons, h1, h2, m1, m2, if_true, Bool.true_or]
      rw [h3]
      by_cases hs : y.group.size = 0
      · rw [if_pos hs, if_pos hs, if_pos hs, if_pos hs]
        exact ⟨by grind, by omega⟩
      · simp only [hs, if_false]
        split
        · exact ⟨by grind, trivial⟩
        · exact ⟨by grind, trivial⟩
    · have h' : ¬ (isK 0 y = true ∧ isK 0 x = true ∧ y.group = x.group) := fun ⟨h1, h2, h3⟩ => h ⟨h2, h1, h3.symm⟩
      rw [(c_other S h' l).1, (c_other S h' l).2, (c_other S h l).1, (c_other S h l).2]
      exact ⟨by grind, by omega⟩
  | trans _ _ h1 h2 => exact ⟨h1.1.trans h2.1, h1.2.trans h2.2⟩
theorem Sm_perm (k : Int) {a b : List Line} (h : a.Perm b) : Sm k a = Sm k b := by
  induction h with
  | nil => rfl
  | cons x _ ih => show Sm k _ + _ = Sm k _ + _; rw [ih]
  | swap x y l => show Sm k l + _ + _ = Sm k l + _ + _; grind
  | trans _ _ h1 h2 => rw [h1, h2]
theorem Mk_perm (k : Int) {a b : List Line} (h : a.Perm b) : Mk k a = Mk k b := by
  induction h with
  | nil => rfl
  | cons x _ ih => show (if _ then max _ (Mk k _) else Mk k _) = if _ then max _ (Mk k _) else Mk k _; rw [ih]
  | swap x y l =>
    show (if isK k y = true then max (wt y) (if isK k x = true then max (wt x) (Mk k l) else Mk k l) else (if isK k x = true then max (wt x) (Mk k l) else Mk k l)) = (if isK k x = true then max (wt x) (if isK k y = true then max (wt y) (Mk k l) else Mk k l) else (if isK k y = true then max (wt y) (Mk k l) else Mk k l))
    split <;> split <;> grind
  | trans _ _ h1 h2 => rw [h1, h2]
theorem Mn_perm (p : Rat) {a b : List Line} (h : a.Perm b) : Mn p a = Mn p b := by
  induction h with
  | nil => rfl
  | cons x _ ih => show (if _ then min _ (Mn p _) else Mn p _) = if _ then min _ (Mn p _) else Mn p _; rw [ih]
  | swap x y l =>
    show (if isK 2 y = true then min (wt y) (if isK 2 x = true then min (wt x) (Mn p l) else Mn p l) else (if isK 2 x = true then min (wt x) (Mn p l) else Mn p l)) = (if isK 2 x = true then min (wt x) (if isK 2 y = true then min (wt y) (Mn p l) else Mn p l) else (if isK 2 y = true then min (wt y) (Mn p l) else Mn p l))
    split <;> split <;> grind
  | trans _ _ h1 h2 => rw [h1, h2]
theorem res_perm {a b : List Line} (h : a.Perm b) : resS a = resS b ∧ cntS a = cntS b := by
  unfold resS cntS penS Cn
  rw [(ts_perm noS h).1, (ts_perm noS h).2, Sm_perm 1 h, Mk_perm 3 h, Mn_perm _ h, h.countP_eq, h.countP_eq, h.countP_eq]
  exact ⟨rfl, rfl⟩
theorem order_perm {a b : List Line} (h : a.Perm b) : ((combineS a).2 = 1 ↔ (combineS b).2 = 1) ∧
    ((combineS a).2 = 0 → (combineS b).2 = 0 → (combineS a).1.pts = (combineS b).1.pts ∧ (combineS a).1.hund = (combineS b).1.hund ∧ (combineS a).1.parts.length = (combineS b).1.parts.length) := by
  refine ⟨by rw [combine_one, combine_one, h.length_eq, any_perm h], fun ha hb => ?_⟩
  obtain ⟨_, a1, a2, a3, a4, a5⟩ := combine_val ha
  obtain ⟨_, b1, b2, b3, b4, b5⟩ := combine_val hb
  obtain ⟨r1, r2⟩ := res_perm h
  have e := val_inj a1 b1 (by rw [a3, b3, r1])
  exact ⟨e, by rw [a5, b5, e], by rw [a4, b4, r2]⟩
theorem swap_perm {ls : List Line} {x y : Nat} {a b : Line} (ha : ls[x]? = some a) (hb : ls[y]? = some b) : (swapS ls x y a b).Perm ls := by
  obtain ⟨hx, rfl⟩ := List.getElem?_eq_some_iff.1 ha
  obtain ⟨hy, rfl⟩ := List.getElem?_eq_some_iff.1 hb
  exact List.set_set_perm hx hy
theorem order_law (ls : List Line) : OrderLaw ls := ⟨fun x y a b ha hb => order_perm (swap_perm ha hb).symm⟩

theorem cells_wf {P : Program} {t : TypeId} {c : List PV} {k : IntKind} (hu : P.underlying t = some (.int k)) (h : Cells P t c) : ∃ n, c = [.int k n] ∧ (Lit.int k n).wf = true := by
  cases h with
  | int h wf => rw [hu] at h; cases h; exact ⟨_, rfl, wf⟩
  | bool h => rw [hu] at h; cases h
  | str h => rw [hu] at h; cases h
  | nil h => rw [hu] at h; cases h
  | list h => rw [hu] at h; cases h
  | struct h => rw [hu] at h; cases h
theorem args_u8 {ts : List TypeId} {pvs : List PV} (h : Args EE.P (5 :: ts) pvs) : ∃ (n : Int) (rest : List PV), pvs = .int .u8 n :: rest ∧ (0 ≤ n ∧ n ≤ 255) ∧ Args EE.P ts rest := by
  match pvs, h with
  | p :: ps, ⟨⟨c, hc, hp⟩, h2⟩ =>
    obtain ⟨n, rfl, hw⟩ := cells_wf (k := .u8) (by rw [EE_P]; kernel_rfl) hc
    refine ⟨n, ps, ?_, ?_, h2⟩
    · rw [hp, mk, if_neg (by rw [show tagg EE.P 5 = false from by rw [EE_P]; kernel_rfl]; simp)]
      rfl
    · simp [Lit.wf] at hw
      exact hw
theorem order_proved : ∀ pvs, Args EE.P Tryz.f5.params.toList pvs → Pure EE 5 pvs (.bool true) := by
  intro pvs h
  obtain ⟨ls, v, rest, rfl, hv, hl, h⟩ := args_lines h
  obtain ⟨i, rest, rfl, hi, h⟩ := args_u8 h
  obtain ⟨k, rest, rfl, hk, h⟩ := args_u8 h
  match rest, h with
  | [], _ => exact order_fn hv hl i k hi hk (order_law ls)
end Go.Proofs.YtdajoilaakiinaaGreatDoor.Awp

/- Of a group only the best line counts; lines that do not apply do not matter: the plain law. -/
namespace Go.Proofs.YtdajoilaakiinaaGreatDoor.Awp
open Go Go.Proofs
set_option linter.unusedSimpArgs false
set_option linter.unusedVariables false
set_option maxHeartbeats 1000000

def delS (ls : List Line) (x : Nat) : List Line := ls.take x ++ ls.drop (x + 1)
theorem del_perm {ls : List Line} {x : Nat} {p : Line} (h : ls[x]? = some p) : ls.Perm (p :: delS ls x) := by
  obtain ⟨hx, rfl⟩ := List.getElem?_eq_some_iff.1 h
  unfold delS
  have e : ls = ls.take x ++ ls[x] :: ls.drop (x + 1) := by
    rw [← List.drop_eq_getElem_cons hx, List.take_append_drop]
  conv => lhs; rw [e]
  exact List.perm_middle
theorem mem_del {ls : List Line} {x y : Nat} {q : Line} (h : ls[y]? = some q) (hxy : ¬ x = y) : q ∈ delS ls x := by
  unfold delS
  rcases Nat.lt_or_gt_of_ne hxy with h1 | h1
  · refine List.mem_append_right _ ?_
    refine List.mem_of_getElem? (i := y - (x + 1)) ?_
    rw [List.getElem?_drop, show x + 1 + (y - (x + 1)) = y by omega]
    exact h
  · refine List.mem_append_left _ ?_
    refine List.mem_of_getElem? (i := y) ?_
    rw [List.getElem?_take, if_pos h1]
    exact h
theorem mx_ge {g : ByteArray} {q : Line} : ∀ {ls : List Line}, q ∈ ls → memberS g q = true → wt q ≤ Mx g ls
  | [], h, _ => by cases h
  | l :: ls, h, hm => by
    rw [Mx_cons]
    rcases List.mem_cons.1 h with rfl | h
    · rw [if_pos hm]; grind
    · have := mx_ge h hm
      split
      · grind
      · exact this
theorem res_drop {p : Line} {ls : List Line} (h0 : isK 0 p = true) (hg : ¬ p.group.size = 0) {q : Line} (hq : q ∈ ls) (hm : memberS p.group q = true) (hw : wt p ≤ wt q) : resS (p :: ls) = resS ls ∧ cntS (p :: ls) = cntS ls := by
  have hk : ∀ k : Int, k ≠ 0 → isK k p = false := fun k hk => by
    cases hh : isK k p
    · rfl
    · have h1 := (isK_app hh).2
      have h2 := (isK_app h0).2
      omega
  have hmx := mx_ge hq hm
  have hany : ls.any (memberS p.group) = true := List.any_eq_true.2 ⟨q, hq, hm⟩
  have e1 : TS noS (p :: ls) = TS noS ls := by
    rw [TS_cons, if_pos h0, if_neg hg, show noS p.group = false from rfl, if_neg (by simp)]
    grind
  have e2 : NS noS (p :: ls) = NS noS ls := by
    rw [NS_cons, if_pos h0, if_neg hg, show noS p.group = false from rfl, if_neg (by simp), if_pos hany]
    rfl
  have e3 : Sm 1 (p :: ls) = Sm 1 ls := by
    show Sm 1 ls + (if isK 1 p = true then wt p else 0) = _
    rw [hk 1 (by decide), if_neg (by simp)]
    grind
  have e4 : Mk 3 (p :: ls) = Mk 3 ls := by
    show (if isK 3 p = true then max (wt p) (Mk 3 ls) else Mk 3 ls) = _
    rw [hk 3 (by decide), if_neg (by simp)]
  have e5 : ∀ r, Mn r (p :: ls) = Mn r ls := fun r => by
    show (if isK 2 p = true then min (wt p) (Mn r ls) else Mn r ls) = _
    rw [hk 2 (by decide), if_neg (by simp)]
  have e6 : ∀ k : Int, k ≠ 0 → Cn k (p :: ls) = Cn k ls := fun k h => by
    unfold Cn
    rw [List.countP_cons_of_neg (by rw [hk k h]; simp)]
  unfold resS cntS penS
  rw [e1, e2, e3, e4, e5, e6 1 (by decide), e6 3 (by decide), e6 2 (by decide)]
  exact ⟨rfl, rfl⟩
theorem right_kind0 {l : Line} (h : rightS l = true) (hg : ¬ l.group.size = 0) : l.kind = 0 := by
  unfold rightS at h
  simp only [Bool.and_eq_true, Bool.or_eq_true, decide_eq_true_eq] at h
  rcases h.1.2 with h1 | h1
  · exact absurd h1 hg
  · exact h1.1

/-! ### lines that do not apply -/
/-- The lines behind, and those ahead. -/
def goP (kind : Int) (f : List Line → Line → List Line → MK → MK) : List Line → List Line → MK → MK
  | _, [], m => m
  | pre, l :: post, m => goP kind f (pre ++ [l]) post (if (l.app && decide (l.kind = kind)) = true then f pre l post m else m)
def funP : Nat → List Line → Line → List Line → MK → MK
  | 0 => fun pre l post m => if l.group.size = 0 then addS m l.name (weightS l) else if pre.any (memberS l.group) then m else addS m (bestS l.group l (l :: post)).name (weightS (bestS l.group l (l :: post)))
  | 1 => fun _ l _ => penaltyS l
  | 2 => fun _ l _ => chooseS (fun w p => lessS p w) l
  | _ => fun _ l _ => chooseS lessS l
theorem funAt_P {ls : List Line} {t i : Nat} {l : Line} (h : ls[i]? = some l) (m : MK) : funAt ls t i l m = funP t (ls.take i) l (ls.drop (i + 1)) m := by
  obtain ⟨hi, rfl⟩ := List.getElem?_eq_some_iff.1 h
  match t with
  | 0 =>
    show pointsS ls i ls[i] m = _
    unfold pointsS funP
    rw [List.drop_eq_getElem_cons hi]
    rfl
  | 1 => rfl
  | 2 => rfl
  | t + 3 => rfl
theorem stepsTo_go (ls : List Line) (t : Nat) (m : MK) : ∀ j, j ≤ ls.length → goP (kindAt t) (funP t) (ls.take j) (ls.drop j) (stepsTo (kindAt t) (funAt ls t) ls m j) = goP (kindAt t) (funP t) [] ls m
  | 0, _ => rfl
  | j + 1, hj => by
    have hj' : j < ls.length := by omega
    rw [← stepsTo_go ls t m j (by omega)]
    conv => rhs; rw [List.drop_eq_getElem_cons hj', goP]
    rw [stepsTo_succ hj', List.take_succ_eq_append_getElem hj']
    congr 1
    split
    · exact funAt_P (List.getElem?_eq_getElem hj') _
    · rfl
theorem phase_go (ls : List Line) (m : MK) (t : Nat) : phase ls m (t + 1) = goP (kindAt t) (funP t) [] ls (phase ls m t) := by
  have := stepsTo_go ls t (phase ls m t) ls.length (Nat.le_refl _)
  rw [List.drop_length] at this
  exact this
theorem best_skip {g : ByteArray} {b p : Line} (h : memberS g p = false) : ∀ (xs ys : List Line), bestS g b (xs ++ p :: ys) = bestS g b (xs ++ ys) := by
  intro xs ys
  unfold bestS
  rw [List.foldl_append, List.foldl_append, List.foldl_cons, h, Bool.false_and, if_neg (by simp)]
theorem member_no {p : Line} (h : p.app = false) (g : ByteArray) : memberS g p = false := by
  unfold memberS
  rw [h]
  simp
theorem funP_post {p : Line} (h : p.app = false) (t : Nat) (pre : List Line) (l : Line) (xs ys : List Line) (m : MK) : funP t pre l (xs ++ p :: ys) m = funP t pre l (xs ++ ys) m := by
  match t with
  | 0 =>
    have e : bestS l.group l (l :: (xs ++ p :: ys)) = bestS l.group l (l :: (xs ++ ys)) := best_skip (member_no h _) (l :: xs) ys
    show (if l.group.size = 0 then _ else if pre.any _ then m else addS m (bestS l.group l (l :: (xs ++ p :: ys))).name (weightS (bestS l.group l (l :: (xs ++ p :: ys))))) = _
    rw [e]
    rfl
  | 1 => rfl
  | 2 => rfl
  | t + 3 => rfl
theorem funP_pre {p : Line} (h : p.app = false) (t : Nat) (xs ys : List Line) (l : Line) (post : List Line) (m : MK) : funP t (xs ++ p :: ys) l post m = funP t (xs ++ ys) l post m := by
  match t with
  | 0 =>
    have e : (xs ++ p :: ys).any (memberS l.group) = (xs ++ ys).any (memberS l.group) := by
      simp only [List.any_append, List.any_cons, member_no h, Bool.false_or]
    show (if l.group.size = 0 then _ else if (xs ++ p :: ys).any (memberS l.group) = true then m else _) = _
    rw [e]
    rfl
  | 1 => rfl
  | 2 => rfl
  | t + 3 => rfl
theorem goP_pre {p : Line} (h : p.app = false) (k : Int) (t : Nat) (xs : List Line) : ∀ (post ys : List Line) (m : MK), goP k (funP t) (xs ++ p :: ys) post m = goP k (funP t) (xs ++ ys) post m
  | [], _, _ => rfl
  | l :: post, ys, m => by
    unfold goP
    rw [funP_pre h, List.append_assoc, List.append_assoc]
    exact goP_pre h k t xs post (ys ++ [l]) _
theorem goP_skip {p : Line} (h : p.app = false) (k : Int) (t : Nat) (ys : List Line) : ∀ (xs pre : List Line) (m : MK), goP k (funP t) pre (xs ++ p :: ys) m = goP k (funP t) pre (xs ++ ys) m
  | [], pre, m => by
    show goP k (funP t) (pre ++ [p]) ys (if (p.app && _) = true then _ else m) = goP k (funP t) pre ys m
    rw [h, Bool.false_and, if_neg (by simp)]
    have := goP_pre h k t pre ys [] m
    rw [List.append_nil] at this
    exact this
  | x :: xs, pre, m => by
    show goP k (funP t) (pre ++ [x]) (xs ++ p :: ys) (if _ then funP t pre x (xs ++ p :: ys) m else m) = goP k (funP t) (pre ++ [x]) (xs ++ ys) (if _ then funP t pre x (xs ++ ys) m else m)
    rw [funP_post h]
    exact goP_skip h k t ys xs (pre ++ [x]) _
theorem phase_skip {p : Line} (h : p.app = false) (xs ys : List Line) (m : MK) : ∀ t, phase (xs ++ p :: ys) m t = phase (xs ++ ys) m t
  | 0 => rfl
  | t + 1 => by
    rw [phase_go, phase_go, phase_skip h xs ys m t]
    exact goP_skip h _ _ ys xs [] _
theorem split_at {ls : List Line} {x : Nat} {p : Line} (h : ls[x]? = some p) : ls = ls.take x ++ p :: ls.drop (x + 1) := by
  obtain ⟨hx, rfl⟩ := List.getElem?_eq_some_iff.1 h
  rw [← List.drop_eq_getElem_cons hx, List.take_append_drop]
theorem combine_skip {ls : List Line} {x : Nat} {p : Line} (h : ls[x]? = some p) (hp : p.app = false) (h0 : (combineS ls).2 = 0) : combineS (delS ls x) = combineS ls := by
  have h1 : ¬ (ls.length > 32 ∨ ls.any (fun l => !rightS l) = true) := fun hn => by
    have := combine_one.2 hn
    omega
  have e := split_at h
  have hlen : (delS ls x).length ≤ ls.length := by
    conv => rhs; rw [e]
    unfold delS
    simp only [List.length_append, List.length_cons]
    omega
  have h2 : ¬ ((delS ls x).length > 32 ∨ (delS ls x).any (fun l => !rightS l) = true) := fun hn => h1 (by
    rcases hn with hn | hn
    · exact .inl (by omega)
    · refine .inr ?_
      obtain ⟨l, hl, hr⟩ := List.any_eq_true.1 hn
      refine List.any_eq_true.2 ⟨l, ?_, hr⟩
      rcases List.mem_append.1 hl with h | h
      · exact List.mem_of_mem_take h
      · exact List.mem_of_mem_drop h)
  unfold combineS
  rw [if_neg h1, if_neg h2]
  congr 1
  conv => rhs; rw [e]
  exact (phase_skip hp (ls.take x) (ls.drop (x + 1)) m0S 4).symm
end Go.Proofs.YtdajoilaakiinaaGreatDoor.Awp

/- slices.Delete of lines; CreditBest. -/
namespace Go.Proofs.YtdajoilaakiinaaGreatDoor.Awp
open Go Go.Proofs
set_option linter.unusedSimpArgs false
set_option linter.unusedVariables false
set_option maxRecDepth 10000
set_option maxHeartbeats 4000000

theorem wt_eq' {l : Line} (h : Fok l.amt) : wt l = max 0 (val l.amt) := by
  unfold wt
  rcases weight_cases h with ⟨h1, h2⟩ | ⟨h1, h2⟩
  · rw [h2]
    have h3 : 0 ≤ val l.amt := (val_nonneg h).1 h1
    grind
  · rw [h2, val_zero]
    have h3 : ¬ 0 ≤ val l.amt := fun hn => by
      have : 0 ≤ l.num := (val_nonneg h).2 hn
      omega
    grind
theorem combine_cases (ls : List Line) : (combineS ls).2 = 0 ∨ (combineS ls).2 = 1 ∨ (combineS ls).2 = 2 := by
  unfold combineS
  split
  · exact .inr (.inl rfl)
  · unfold finishS
    split
    · exact .inr (.inr rfl)
    · exact .inl rfl
theorem best_law {ls : List Line} {x y : Nat} {p q : Line} (hx : ls[x]? = some p) (hy : ls[y]? = some q) (h0 : (combineS ls).2 = 0) :
    (p.app = false → combineS (delS ls x) = combineS ls) ∧
    (p.app = true → ¬ x = y → ¬ p.group.size = 0 → p.group = q.group → q.app = true → FV p.num p.den → FV q.num q.den → ¬ fcmp p.num p.den q.num q.den > 0 → ¬ (combineS (delS ls x)).2 = 2 →
      (combineS (delS ls x)).2 = 0 ∧ (combineS ls).1.pts = (combineS (delS ls x)).1.pts ∧ (combineS ls).1.parts.length = (combineS (delS ls x)).1.parts.length) := by
  refine ⟨fun hp => combine_skip hx hp h0, fun h1 h2 h3 h4 h5 h6 h7 h8 h9 => ?_⟩
  obtain ⟨hr, a1, a2, a3, a4, a5⟩ := combine_val h0
  have hpr := hr p (List.mem_of_getElem? hx)
  have hqr := hr q (List.mem_of_getElem? hy)
  have hk0 : isK 0 p = true := by unfold isK; rw [h1, right_kind0 hpr h3]; rfl
  have hq0 : memberS p.group q = true := by
    refine member_iff.2 ⟨?_, h4.symm⟩
    unfold isK
    rw [h5, right_kind0 hqr (by rw [← h4]; exact h3)]
    rfl
  have hle : val p.amt ≤ val q.amt := by
    rw [← val_le h6 h7]
    have hf := fcmp_ok (a := p.amt) (b := q.amt) h6 h7
    unfold Fle
    rcases cmp_cases (p.amt.n * q.amt.d) (q.amt.n * p.amt.d) with ⟨c1, c2⟩ | ⟨c1, c2⟩ | ⟨c1, c2⟩
    · omega
    · omega
    · rw [c2] at hf
      exact absurd (show fcmp p.amt.n p.amt.d q.amt.n q.amt.d > 0 by rw [hf]; decide) h8
  have hw : wt p ≤ wt q := by
    rw [wt_eq' h6, wt_eq' h7]
    grind
  have hm := mem_del hy h2
  obtain ⟨r1, r2⟩ := res_drop hk0 h3 hm hq0 hw
  obtain ⟨s1, s2⟩ := res_perm (del_perm hx)
  have n1 : ¬ (combineS (delS ls x)).2 = 1 := fun hn => by
    have ho := combine_one.1 hn
    have hno : ¬ (ls.length > 32 ∨ ls.any (fun l => !rightS l) = true) := fun h => by
      have := combine_one.2 h
      omega
    refine hno ?_
    have hl := (del_perm hx).length_eq
    rcases ho with h | h
    · exact .inl (by rw [hl, List.length_cons]; omega)
    · refine .inr ?_
      obtain ⟨l, hl', hr'⟩ := List.any_eq_true.1 h
      exact List.any_eq_true.2 ⟨l, (del_perm hx).symm.subset (List.mem_cons_of_mem _ hl'), hr'⟩
  have hz : (combineS (delS ls x)).2 = 0 := by
    rcases combine_cases (delS ls x) with h | h | h
    · exact h
    · exact absurd h n1
    · exact absurd h h9
  obtain ⟨_, b1, b2, b3, b4, b5⟩ := combine_val hz
  exact ⟨hz, val_inj a1 b1 (by rw [a3, b3, s1, r1]), by rw [a4, b4, s2, r2]⟩
def zeroL : List PV := [.str ⟨#[]⟩, .str ⟨#[]⟩, .int .i64 0, .bool false, .int .i64 0, .int .i64 0, .int .i64 0]
theorem cut_one {α : Type} (P D S : List α) (z : α) (h : D.length = 1) : (P ++ (D ++ S)).take P.length ++ List.replicate 1 z ++ (P ++ (D ++ S)).drop (P.length + 1) = P ++ z :: S := by
  rw [List.take_left, ← List.drop_drop, List.drop_left, ← h, List.drop_left, List.append_assoc]
  rw [h]
  rfl
/-- Cells that lead nowhere. -/
def constC : PV → Bool
  | .int _ _ => true
  | .bool _ => true
  | .str _ => true
  | .nil => true
  | _ => false
theorem lt_consts {n : Nat} {cs : List PV} (h : cs.all constC = true) : ∀ c ∈ cs, Lt n c := fun c hc => by
  have := List.all_eq_true.1 h c hc
  cases c <;> first | (cases this; done) | skip
  · exact .int _ _
  · exact .bool _
  · exact .str _
  · exact .nil
theorem delete_line {σ : Store} {nx k : Nat} {es spare : List (List PV)} {x : Nat} (hx : x < es.length) (hl : es.length ≤ 1000000) (hes : ∀ c ∈ es ++ spare, c.length = 7 ∧ ones c = true) (hk : σ k = some (.row (es ++ spare))) :
    Fn EE 20 σ nx [.row k 0 es.length, .int .i64 x, .int .i64 ((x : Int) + 1)] (.ret (.row k 0 (es.length - 1))) (upd σ k (some (.row (es.take x ++ es.drop (x + 1) ++ zeroL :: spare)))) nx := by
  have hx' : (x : Int) < es.length := by omega
  have hx0 : (0 : Int) ≤ x := by omega
  have hxx : ¬ (x : Int) = (x : Int) + 1 := by omega
  have hx1 : (x : Int) + 1 ≤ es.length := by omega
  have hx2 : (0 : Int) ≤ (x : Int) + 1 := by omega
  have hx3 : (x : Int) ≤ es.length := by omega
  have t1 : ((x : Int) + 1).toNat = x + 1 := by omega
  have t2 : ((es.length : Int) - ((x : Int) + 1)).toNat = es.length - (x + 1) := by omega
  have h7 : (∀ c ∈ es ++ spare, c.length = 7) = True := eq_true fun c hc => (hes c hc).1
  have d1 : ((es ++ spare).drop (x + 1)).take (es.length - (x + 1)) = es.drop (x + 1) := by
    rw [List.drop_append_of_le_length (by omega), List.take_append_of_le_length (by rw [List.length_drop]; omega), List.take_of_length_le (by rw [List.length_drop]; omega)]
  have d2 : (es.drop (x + 1)).length = es.length - (x + 1) := List.length_drop
  have d3 : x + (es.length - (x + 1)) = es.length - 1 := by omega
  have d4 : (((x : Int) + ((es.length - (x + 1) : Nat) : Int))) = ((es.length - 1 : Nat) : Int) := by omega
  have d5 : ((es ++ spare).take x) = es.take x := List.take_append_of_le_length (by omega)
  have d6 : (es ++ spare).drop (es.length - 1) = es.drop (es.length - 1) ++ spare := List.drop_append_of_le_length (by omega)
  have hA : es.length ≤ (es ++ spare).length := by rw [List.length_append]; omega
  have hR : (es.take x ++ es.drop (x + 1) ++ (es.drop (es.length - 1) ++ spare)).length = es.length + spare.length := by
    simp only [List.length_append, List.length_take, List.length_drop]
    omega
  have hmR : ∀ c ∈ es.take x ++ es.drop (x + 1) ++ (es.drop (es.length - 1) ++ spare), c.length = 7 ∧ ones c = true := fun c hc => by
    rcases List.mem_append.1 hc with h | h
    · rcases List.mem_append.1 h with h | h
      · exact hes c (List.mem_append_left _ (List.mem_of_mem_take h))
      · exact hes c (List.mem_append_left _ (List.mem_of_mem_drop h))
    · rcases List.mem_append.1 h with h | h
      · exact hes c (List.mem_append_left _ (List.mem_of_mem_drop h))
      · exact hes c (List.mem_append_right _ h)
  have e1 : ((es.length : Int) - ((es.length - 1 : Nat) : Int)).toNat = 1 := by omega
  have hfin := cut_one (es.take x ++ es.drop (x + 1)) (es.drop (es.length - 1)) spare zeroL (by rw [List.length_drop]; omega)
  rw [show (es.take x ++ es.drop (x + 1)).length = es.length - 1 by simp only [List.length_append, List.length_take, List.length_drop]; omega] at hfin
  refine fn_of_body goodEE (by rw [EE_P]; exact Tryz.func20) rfl rfl (by kernel_rfl) (Nat.le_of_ble_eq_true rfl) ?_ fun hwf hlt => ?_
  rotate_left
  rw [show Tryz.f20.results.toList = [.tmp 6] from rfl]
  refine awp_begin _ _ _ _ _ (cc := _) (by conv => lhs; simp only [push_cast, seval, Tryz.f20]) ?_
  simp only [push_cast, seval, EE_P]
  · have hkn := (hwf k _ hk).1
    repeat' (first | simp only [push_cast, seval, EE_P, hk, (key_ne hkn).1, (key_ne hkn).2.1, (key_ne hkn).2.2.1, (key_ne hkn).2.2.2, hx', hx0, hxx, hx1, hx2, hx3, t1, t2, d1, d2, d3, d4, d5, d6, h7, Int.toNat_natCast, Int.sub_zero, Nat.zero_add] | simp (disch := omega) only [wrap_fits] | ((first | with_reducible apply wcall_pure | with_reducible apply wdcall_pure); focus (first | assumption | fail)) | (with_reducible refine wguard_split_t (fun h => ?_) (fun h => ?_)) | (with_reducible refine wguard_split_f (fun h => ?_) (fun h => ?_)) | (with_reducible refine wcond_split (fun h => ?_) (fun h => ?_)) | (with_reducible refine wdguard_split_t (fun h => ?_) (fun h => ?_)) | (with_reducible refine wdguard_split_f (fun h => ?_) (fun h => ?_)) | (with_reducible refine And.intro (fun h => ?_) (fun h => ?_)) | (with_reducible apply And.intro; focus omega))
    refine ⟨⟨by rw [List.length_append]; omega, by rw [List.length_append]; omega, fun c hc => hes c (List.mem_append_left _ (List.mem_of_mem_drop hc))⟩, ⟨by omega, by omega, .inr (by rw [hR]; omega), by rw [hR]; omega, fun c hc => (hmR c hc).1⟩, ⟨by rw [hR]; omega, fun c hc => (hmR c hc).1⟩, ?_⟩
    refine ends_of trivial (by simp only [resultsOf, resOf, push_cast, seval, EE_P]; rfl) (by first | exact ⟨trivial, trivial⟩ | simp only [push_cast, seval, and_self]) ?_
    have hlt2 : ObjLt nx (.row (es.take x ++ es.drop (x + 1) ++ zeroL :: spare)) := by
      intro cs hcs c hc
      have ho : ∀ cs ∈ es ++ spare, ∀ c ∈ cs, Lt nx c := fun cs hcs => (hwf k _ hk).2 cs hcs
      rcases List.mem_append.1 hcs with h | h
      · rcases List.mem_append.1 h with h | h
        · exact ho cs (List.mem_append_left _ (List.mem_of_mem_take h)) c hc
        · exact ho cs (List.mem_append_left _ (List.mem_of_mem_drop h)) c hc
      · rcases List.mem_cons.1 h with rfl | h
        · exact lt_consts (by decide) c hc
        · exact ho cs (List.mem_append_right _ h) c hc
    refine leaves1 hwf hkn hlt2 ?_ (fun j hj hjk => by simp only [upd_at, push_cast, seval, (key_ne hj).1, (key_ne hj).2.1, (key_ne hj).2.2.1, (key_ne hj).2.2.2, hjk]) (.row _ _ _ hkn)
    simp only [upd_at, push_cast, seval, (key_ne hkn).1, (key_ne hkn).2.1, (key_ne hkn).2.2.1, (key_ne hkn).2.2.2]
    rw [e1]
    exact congrArg (fun e => some (AObj.row e)) hfin
  · omega

theorem fz_sub {σ σ' : Store} {k len : Nat} {es rest : List (List PV)} (h : σ k = some (.row (es ++ rest))) (h' : σ' k = none) (hl : len = es.length) : Fz σ σ' (.row k 0 len) (.list es) := by
  refine .row k 0 len (es ++ rest) es h h' (by rw [List.length_append]; omega) hl.symm ?_ ?_
  · intro j cs cs' h1 h2
    have hj := (List.getElem?_eq_some_iff.1 h2).1
    rw [Nat.zero_add, List.getElem?_append_left hj, h2] at h1
    cases h1
    rfl
  · intro j cs cs' i x y h1 h2 h3 h4
    have hj := (List.getElem?_eq_some_iff.1 h2).1
    rw [Nat.zero_add, List.getElem?_append_left hj, h2] at h1
    cases h1
    rw [h3] at h4
    cases h4
    exact .refl _
theorem delete_ls {σ : Store} {nx k : Nat} {ls : List Line} {x : Nat} (hx : x < ls.length) (hl : ls.length ≤ 1000000) (hk : σ k = some (.row (ls.map Line.cs))) :
    Fn EE 20 σ nx [.row k 0 ls.length, .int .i64 x, .int .i64 ((x : Int) + 1)] (.ret (.row k 0 (ls.length - 1))) (upd σ k (some (.row ((delS ls x).map Line.cs ++ [zeroL])))) nx := by
  have h := delete_line (nx := nx) (es := ls.map Line.cs) (spare := []) (x := x) (by simpa using hx) (by simpa using hl) (fun c hc => lines7' ls c (by simpa using hc)) (by rw [List.append_nil]; exact hk)
  rw [List.length_map] at h
  have e : (ls.map Line.cs).take x ++ (ls.map Line.cs).drop (x + 1) ++ [zeroL] = (delS ls x).map Line.cs ++ [zeroL] := by
    unfold delS
    rw [List.map_append, List.map_take, List.map_drop]
  rw [← e]
  exact h
theorem bestlaw_fn {ls : List Line} {v : PV} (hv : SliceP (ls.map Line.cs) v) (hl : ls.length ≤ maxLen) (i k : Int) (hi : 0 ≤ i ∧ i ≤ 255) (hk : 0 ≤ k ∧ k ≤ 255) : Pure EE 7 [v, .int .u8 i, .int .u8 k] (.bool true) := by
  have hl' : ls.length ≤ 9223372036854775807 := hl
  have hvl := hv.len
  simp only [List.length_map] at hvl
  have hfew := few_fn hv hl'
  have hcom := combine_fn hv
  cases hfs : fewS ls
  · rw [hfs] at hfew
    intro σ nx
    refine fn_of_body goodEE (by rw [EE_P]; exact Tryz.func7) rfl rfl (by kernel_rfl) (Nat.le_of_ble_eq_true rfl) (Nat.le_refl _) fun hwf hlt => ?_
    rw [show Tryz.f7.results.toList = [.tmp 6] from rfl]
    refine awp_begin _ _ _ _ _ (cc := _) (by conv => lhs; simp only [push_cast, seval, Tryz.f7]) ?_
    simp only [push_cast, seval, EE_P]
    repeat' (first | simp only [push_cast, seval, EE_P] | simp (disch := omega) only [wrap_fits] | ((first | with_reducible apply wcall_pure | with_reducible apply wdcall_pure); focus (first | assumption | exact awake_fn | exact few_fn (by assumption) (by omega) | exact refcompare_fn ⟨_, _⟩ ⟨_, _⟩)) | (with_reducible refine wguard_split_t (fun h => ?_) (fun h => ?_)) | (with_reducible refine wguard_split_f (fun h => ?_) (fun h => ?_)) | (with_reducible refine wcond_split (fun h => ?_) (fun h => ?_)) | (with_reducible refine wdguard_split_t (fun h => ?_) (fun h => ?_)) | (with_reducible refine wdguard_split_f (fun h => ?_) (fun h => ?_)) | (with_reducible refine And.intro (fun h => ?_) (fun h => ?_)) | (with_reducible apply And.intro; focus omega))
    ((refine ends_ret (by simp only [resultsOf, resOf, push_cast, seval, EE_P]; rfl) (by simp only [push_cast, seval, EE_P]) ?_ (by repeat' (first | exact Keeps.refl _ | assumption | exact (hwf.keep1 _) | refine Keeps.new hwf ?_ (by omega) _)) (by simp only [lt_int, lt_bool, lt_str, lt_nil, lt_empty, lt_agg, lt_tup, lt_list, lt_cells, lt_fn, lt_nilp, lt_nilfn, lt_nili, List.mem_cons, List.not_mem_nil, or_false, forall_eq_or_imp, forall_eq, and_true, true_and, and_self, implies_true, *]; try omega)); (try simp only [tupOf, push_cast, seval, EE_P]))
  rw [hfs] at hfew
  have hlen := fewS_len hfs
  by_cases hn : ls = []
  · subst hn
    have hvl' : lenP v = some 0 := hvl
    intro σ nx
    refine fn_of_body goodEE (by rw [EE_P]; exact Tryz.func7) rfl rfl (by kernel_rfl) (Nat.le_of_ble_eq_true rfl) (Nat.le_refl _) fun hwf hlt => ?_
    rw [show Tryz.f7.results.toList = [.tmp 6] from rfl]
    refine awp_begin _ _ _ _ _ (cc := _) (by conv => lhs; simp only [push_cast, seval, Tryz.f7]) ?_
    simp only [push_cast, seval, EE_P]
    repeat' (first | simp only [push_cast, seval, EE_P, hvl', hv.str] | simp (disch := omega) only [wrap_fits] | ((first | with_reducible apply wcall_pure | with_reducible apply wdcall_pure); focus (first | assumption | exact awake_fn | exact few_fn (by assumption) (by omega) | exact refcompare_fn ⟨_, _⟩ ⟨_, _⟩)) | (with_reducible refine wguard_split_t (fun h => ?_) (fun h => ?_)) | (with_reducible refine wguard_split_f (fun h => ?_) (fun h => ?_)) | (with_reducible refine wcond_split (fun h => ?_) (fun h => ?_)) | (with_reducible refine wdguard_split_t (fun h => ?_) (fun h => ?_)) | (with_reducible refine wdguard_split_f (fun h => ?_) (fun h => ?_)) | (with_reducible refine And.intro (fun h => ?_) (fun h => ?_)) | (with_reducible apply And.intro; focus omega))
    all_goals ((refine ends_ret (by simp only [resultsOf, resOf, push_cast, seval, EE_P]; rfl) (by simp only [push_cast, seval, EE_P]) ?_ (by repeat' (first | exact Keeps.refl _ | assumption | exact (hwf.keep1 _) | refine Keeps.new hwf ?_ (by omega) _)) (by simp only [lt_int, lt_bool, lt_str, lt_nil, lt_empty, lt_agg, lt_tup, lt_list, lt_cells, lt_fn, lt_nilp, lt_nilfn, lt_nili, List.mem_cons, List.not_mem_nil, or_false, forall_eq_or_imp, forall_eq, and_true, true_and, and_self, implies_true, *]; try omega)); (try simp only [tupOf, push_cast, seval, EE_P]))
  have hpos : 0 < ls.length := List.length_pos_iff.2 hn
  have hl0 : ¬ (ls.length : Int) = 0 := by omega
  obtain rfl : v = .list (ls.map Line.cs) := hv.lt (i := 0) (by simpa using hpos)
  have ex : ∃ x : Nat, i.tmod ls.length = x ∧ x < ls.length := ⟨(i.tmod ls.length).toNat, by have := tmod_bd hi.1 (show (0 : Int) < ls.length by omega); omega, by have := tmod_bd hi.1 (show (0 : Int) < ls.length by omega); omega⟩
  have ey : ∃ y : Nat, k.tmod ls.length = y ∧ y < ls.length := ⟨(k.tmod ls.length).toNat, by have := tmod_bd hk.1 (show (0 : Int) < ls.length by omega); omega, by have := tmod_bd hk.1 (show (0 : Int) < ls.length by omega); omega⟩
  obtain ⟨x, ex, hx⟩ := ex
  obtain ⟨y, ey, hy⟩ := ey
  have wi : IntKind.i64.wrap i = i := wrap_small (by omega) (by omega)
  have wk : IntKind.i64.wrap k = k := wrap_small (by omega) (by omega)
  have wx : IntKind.i64.wrap (x : Int) = x := wrap_small (by omega) (by omega)
  have wy : IntKind.i64.wrap (y : Int) = y := wrap_small (by omega) (by omega)
  have wx1 : IntKind.i64.wrap ((x : Int) + 1) = (x : Int) + 1 := wrap_small (by omega) (by omega)
  have hx' : (x : Int) < ls.length := by omega
  have hy' : (y : Int) < ls.length := by omega
  have hx0 : (0 : Int) ≤ x := by omega
  have hy0 : (0 : Int) ≤ y := by omega
  have hgx : (ls.map Line.cs)[x]? = some ls[x].cs := by rw [List.getElem?_map, List.getElem?_eq_getElem hx]; rfl
  have hgy : (ls.map Line.cs)[y]? = some ls[y].cs := by rw [List.getElem?_map, List.getElem?_eq_getElem hy]; rfl
  have hdl : (delS ls x).length = ls.length - 1 := by
    unfold delS
    simp only [List.length_append, List.length_take, List.length_drop]
    omega
  have hlaw := fun h00 => best_law (List.getElem?_eq_getElem hx) (List.getElem?_eq_getElem hy) h00
  generalize ls[x] = p at *
  generalize ls[y] = q at *
  have hcom2 := combine_fn (ls := delS ls x) .list
  generalize hc1 : combineS ls = c1 at *
  generalize hc2 : combineS (delS ls x) = c2 at *
  obtain ⟨⟨p1, t1, h1⟩, e1⟩ := c1
  obtain ⟨⟨p2, t2, h2⟩, e2⟩ := c2
  simp only [Credit.val] at hcom hcom2
  simp only at hlaw
  have o1 := (partsV_slice p1).one
  have o2 := (partsV_slice p2).one
  have ce1 := (partsV_slice p1).cells
  have ce2 := (partsV_slice p2).cells
  have l1 := (partsV_slice p1).len
  have l2 := (partsV_slice p2).len
  have i1 := (partsV_slice p1).str
  have i2 := (partsV_slice p2).str
  simp only [List.length_map] at l1 l2
  by_cases h00 : e1 = 0
  · obtain ⟨hl1, hl2⟩ := hlaw h00
    subst h00
    cases hpa : p.app
    · intro σ nx
      refine fn_of_body goodEE (by rw [EE_P]; exact Tryz.func7) rfl rfl (by kernel_rfl) (Nat.le_of_ble_eq_true rfl) (Nat.le_refl _) fun hwf hlt => ?_
      rw [show Tryz.f7.results.toList = [.tmp 6] from rfl]
      refine awp_begin _ _ _ _ _ (cc := _) (by conv => lhs; simp only [push_cast, seval, Tryz.f7]) ?_
      simp only [push_cast, seval, EE_P]
      repeat' (first | simp only [push_cast, seval, EE_P, hvl, hl0, ex, ey, wi, wk, wx, wy, wx1, Int.toNat_natCast, hx', hy', hx0, hy0, hx, hy, hgx, hgy, List.length_map, o1, ce1, hpa] | simp (disch := omega) only [wrap_fits] | ((first | with_reducible apply wcall_pure | with_reducible apply wdcall_pure); focus (first | assumption | exact awake_fn | exact few_fn (by assumption) (by omega) | exact refcompare_fn ⟨_, _⟩ ⟨_, _⟩)) | (with_reducible refine wguard_split_t (fun h => ?_) (fun h => ?_)) | (with_reducible refine wguard_split_f (fun h => ?_) (fun h => ?_)) | (with_reducible refine wcond_split (fun h => ?_) (fun h => ?_)) | (with_reducible refine wdguard_split_t (fun h => ?_) (fun h => ?_)) | (with_reducible refine wdguard_split_f (fun h => ?_) (fun h => ?_)) | (with_reducible refine And.intro (fun h => ?_) (fun h => ?_)) | (with_reducible apply And.intro; focus omega))
      refine wcall_of _ _ _ _ _ _ (clone_fn hn (by omega)) ?_
      repeat' (first | simp only [push_cast, seval, EE_P, wx1] | simp (disch := omega) only [wrap_fits] | ((first | with_reducible apply wcall_pure | with_reducible apply wdcall_pure); focus (first | assumption | exact awake_fn | exact few_fn (by assumption) (by omega) | exact refcompare_fn ⟨_, _⟩ ⟨_, _⟩)) | (with_reducible refine wguard_split_t (fun h => ?_) (fun h => ?_)) | (with_reducible refine wguard_split_f (fun h => ?_) (fun h => ?_)) | (with_reducible refine wcond_split (fun h => ?_) (fun h => ?_)) | (with_reducible refine wdguard_split_t (fun h => ?_) (fun h => ?_)) | (with_reducible refine wdguard_split_f (fun h => ?_) (fun h => ?_)) | (with_reducible refine And.intro (fun h => ?_) (fun h => ?_)) | (with_reducible apply And.intro; focus omega))
      refine wcall_of _ _ _ _ _ _ (delete_ls (x := x) hx (by omega) (by simp only [upd_at, push_cast, seval])) ?_
      repeat' (first | simp only [push_cast, seval, EE_P, wx1] | simp (disch := omega) only [wrap_fits] | ((first | with_reducible apply wcall_pure | with_reducible apply wdcall_pure); focus (first | assumption | exact awake_fn | exact few_fn (by assumption) (by omega) | exact refcompare_fn ⟨_, _⟩ ⟨_, _⟩)) | (with_reducible refine wguard_split_t (fun h => ?_) (fun h => ?_)) | (with_reducible refine wguard_split_f (fun h => ?_) (fun h => ?_)) | (with_reducible refine wcond_split (fun h => ?_) (fun h => ?_)) | (with_reducible refine wdguard_split_t (fun h => ?_) (fun h => ?_)) | (with_reducible refine wdguard_split_f (fun h => ?_) (fun h => ?_)) | (with_reducible refine And.intro (fun h => ?_) (fun h => ?_)) | (with_reducible apply And.intro; focus omega))
      refine wcall_freeze (σ' := upd _ (nx + 105) none) hcom2 ((Sub.refl _).drop _) ⟨fz_sub (k := nx + 105) (es := (delS ls x).map Line.cs) (rest := [zeroL]) (by simp only [upd_at, push_cast, seval]) (upd_same ..) (by rw [List.length_map, hdl]), trivial⟩ ?_
      have hz := hl1 hpa
      injection hz with hz1 hz2
      injection hz1 with hz1 hz3 hz4
      subst hz1; subst hz2; subst hz3; subst hz4
      repeat' (first | simp only [push_cast, seval, EE_P, o2, ce2, o1, ce1, l1, l2, i1, i2, hpa] | simp (disch := omega) only [wrap_fits] | ((first | with_reducible apply wcall_pure | with_reducible apply wdcall_pure); focus (first | assumption | exact awake_fn | exact few_fn (by assumption) (by omega) | exact refcompare_fn ⟨_, _⟩ ⟨_, _⟩)) | (with_reducible refine wguard_split_t (fun h => ?_) (fun h => ?_)) | (with_reducible refine wguard_split_f (fun h => ?_) (fun h => ?_)) | (with_reducible refine wcond_split (fun h => ?_) (fun h => ?_)) | (with_reducible refine wdguard_split_t (fun h => ?_) (fun h => ?_)) | (with_reducible refine wdguard_split_f (fun h => ?_) (fun h => ?_)) | (with_reducible refine And.intro (fun h => ?_) (fun h => ?_)) | (with_reducible apply And.intro; focus omega))
      all_goals ((refine ends_ret (by simp only [resultsOf, resOf, push_cast, seval, EE_P]; rfl) (by simp only [push_cast, seval, EE_P]) ?_ (by repeat' (first | exact Keeps.refl _ | assumption | exact (hwf.keep1 _) | refine Keeps.new hwf ?_ (by omega) _)) (by simp only [lt_int, lt_bool, lt_str, lt_nil, lt_empty, lt_agg, lt_tup, lt_list, lt_cells, lt_fn, lt_nilp, lt_nilfn, lt_nili, List.mem_cons, List.not_mem_nil, or_false, forall_eq_or_imp, forall_eq, and_true, true_and, and_self, implies_true, *]; try omega)); (try simp only [tupOf, push_cast, seval, EE_P]))
      all_goals simp
    · intro σ nx
      refine fn_of_body goodEE (by rw [EE_P]; exact Tryz.func7) rfl rfl (by kernel_rfl) (Nat.le_of_ble_eq_true rfl) (Nat.le_refl _) fun hwf hlt => ?_
      rw [show Tryz.f7.results.toList = [.tmp 6] from rfl]
      refine awp_begin _ _ _ _ _ (cc := _) (by conv => lhs; simp only [push_cast, seval, Tryz.f7]) ?_
      simp only [push_cast, seval, EE_P]
      repeat' (first | simp only [push_cast, seval, EE_P, hvl, hl0, ex, ey, wi, wk, wx, wy, wx1, Int.toNat_natCast, hx', hy', hx0, hy0, hx, hy, hgx, hgy, List.length_map, o1, ce1, hpa] | simp (disch := omega) only [wrap_fits] | ((first | with_reducible apply wcall_pure | with_reducible apply wdcall_pure); focus (first | assumption | exact awake_fn | exact few_fn (by assumption) (by omega) | exact refcompare_fn ⟨_, _⟩ ⟨_, _⟩)) | (with_reducible refine wguard_split_t (fun h => ?_) (fun h => ?_)) | (with_reducible refine wguard_split_f (fun h => ?_) (fun h => ?_)) | (with_reducible refine wcond_split (fun h => ?_) (fun h => ?_)) | (with_reducible refine wdguard_split_t (fun h => ?_) (fun h => ?_)) | (with_reducible refine wdguard_split_f (fun h => ?_) (fun h => ?_)) | (with_reducible refine And.intro (fun h => ?_) (fun h => ?_)) | (with_reducible apply And.intro; focus omega))
      all_goals (try (((refine ends_ret (by simp only [resultsOf, resOf, push_cast, seval, EE_P]; rfl) (by simp only [push_cast, seval, EE_P]) ?_ (by repeat' (first | exact Keeps.refl _ | assumption | exact (hwf.keep1 _) | refine Keeps.new hwf ?_ (by omega) _)) (by simp only [lt_int, lt_bool, lt_str, lt_nil, lt_empty, lt_agg, lt_tup, lt_list, lt_cells, lt_fn, lt_nilp, lt_nilfn, lt_nili, List.mem_cons, List.not_mem_nil, or_false, forall_eq_or_imp, forall_eq, and_true, true_and, and_self, implies_true, *]; try omega)); (try simp only [tupOf, push_cast, seval, EE_P]))))
      refine wcall_of _ _ _ _ _ _ (clone_fn hn (by omega)) ?_
      repeat' (first | simp only [push_cast, seval, EE_P, wx1] | simp (disch := omega) only [wrap_fits] | ((first | with_reducible apply wcall_pure | with_reducible apply wdcall_pure); focus (first | assumption | exact awake_fn | exact few_fn (by assumption) (by omega) | exact refcompare_fn ⟨_, _⟩ ⟨_, _⟩)) | (with_reducible refine wguard_split_t (fun h => ?_) (fun h => ?_)) | (with_reducible refine wguard_split_f (fun h => ?_) (fun h => ?_)) | (with_reducible refine wcond_split (fun h => ?_) (fun h => ?_)) | (with_reducible refine wdguard_split_t (fun h => ?_) (fun h => ?_)) | (with_reducible refine wdguard_split_f (fun h => ?_) (fun h => ?_)) | (with_reducible refine And.intro (fun h => ?_) (fun h => ?_)) | (with_reducible apply And.intro; focus omega))
      refine wcall_of _ _ _ _ _ _ (delete_ls (x := x) hx (by omega) (by simp only [upd_at, push_cast, seval])) ?_
      repeat' (first | simp only [push_cast, seval, EE_P, wx1] | simp (disch := omega) only [wrap_fits] | ((first | with_reducible apply wcall_pure | with_reducible apply wdcall_pure); focus (first | assumption | exact awake_fn | exact few_fn (by assumption) (by omega) | exact refcompare_fn ⟨_, _⟩ ⟨_, _⟩)) | (with_reducible refine wguard_split_t (fun h => ?_) (fun h => ?_)) | (with_reducible refine wguard_split_f (fun h => ?_) (fun h => ?_)) | (with_reducible refine wcond_split (fun h => ?_) (fun h => ?_)) | (with_reducible refine wdguard_split_t (fun h => ?_) (fun h => ?_)) | (with_reducible refine wdguard_split_f (fun h => ?_) (fun h => ?_)) | (with_reducible refine And.intro (fun h => ?_) (fun h => ?_)) | (with_reducible apply And.intro; focus omega))
      refine wcall_freeze (σ' := upd _ (nx + 105) none) hcom2 ((Sub.refl _).drop _) ⟨fz_sub (k := nx + 105) (es := (delS ls x).map Line.cs) (rest := [zeroL]) (by simp only [upd_at, push_cast, seval]) (upd_same ..) (by rw [List.length_map, hdl]), trivial⟩ ?_
      rename_i g1 g2 g3 g4 g5
      have hz := hl2 hpa (by omega) g2 g3 (by simpa using g4) g5.1 g5.2 h
      clear hlaw hcom2 hl1 hl2 hfew
      repeat' (first | simp only [push_cast, seval, EE_P, o2, ce2, o1, ce1, l1, l2, i1, i2, hpa] | simp (disch := omega) only [wrap_fits] | ((first | with_reducible apply wcall_pure | with_reducible apply wdcall_pure); focus (first | assumption | exact awake_fn | exact few_fn (by assumption) (by omega) | exact refcompare_fn ⟨_, _⟩ ⟨_, _⟩)) | (with_reducible refine wguard_split_t (fun h => ?_) (fun h => ?_)) | (with_reducible refine wguard_split_f (fun h => ?_) (fun h => ?_)) | (with_reducible refine wcond_split (fun h => ?_) (fun h => ?_)) | (with_reducible refine wdguard_split_t (fun h => ?_) (fun h => ?_)) | (with_reducible refine wdguard_split_f (fun h => ?_) (fun h => ?_)) | (with_reducible refine And.intro (fun h => ?_) (fun h => ?_)) | (with_reducible apply And.intro; focus omega))
      all_goals ((refine ends_ret (by simp only [resultsOf, resOf, push_cast, seval, EE_P]; rfl) (by simp only [push_cast, seval, EE_P]) ?_ (by repeat' (first | exact Keeps.refl _ | assumption | exact (hwf.keep1 _) | refine Keeps.new hwf ?_ (by omega) _)) (by simp only [lt_int, lt_bool, lt_str, lt_nil, lt_empty, lt_agg, lt_tup, lt_list, lt_cells, lt_fn, lt_nilp, lt_nilfn, lt_nili, List.mem_cons, List.not_mem_nil, or_false, forall_eq_or_imp, forall_eq, and_true, true_and, and_self, implies_true, *]; try omega)); (try simp only [tupOf, push_cast, seval, EE_P]))
      all_goals (obtain ⟨z1, z2, z3⟩ := hz (by assumption); subst z2; first | (rw [z3]; simp; done) | (exfalso; simp_all; done))
  · intro σ nx
    refine fn_of_body goodEE (by rw [EE_P]; exact Tryz.func7) rfl rfl (by kernel_rfl) (Nat.le_of_ble_eq_true rfl) (Nat.le_refl _) fun hwf hlt => ?_
    rw [show Tryz.f7.results.toList = [.tmp 6] from rfl]
    refine awp_begin _ _ _ _ _ (cc := _) (by conv => lhs; simp only [push_cast, seval, Tryz.f7]) ?_
    simp only [push_cast, seval, EE_P]
    repeat' (first | simp only [push_cast, seval, EE_P, hvl, hl0, o1, ce1, h00] | simp (disch := omega) only [wrap_fits] | ((first | with_reducible apply wcall_pure | with_reducible apply wdcall_pure); focus (first | assumption | exact awake_fn | exact few_fn (by assumption) (by omega) | exact refcompare_fn ⟨_, _⟩ ⟨_, _⟩)) | (with_reducible refine wguard_split_t (fun h => ?_) (fun h => ?_)) | (with_reducible refine wguard_split_f (fun h => ?_) (fun h => ?_)) | (with_reducible refine wcond_split (fun h => ?_) (fun h => ?_)) | (with_reducible refine wdguard_split_t (fun h => ?_) (fun h => ?_)) | (with_reducible refine wdguard_split_f (fun h => ?_) (fun h => ?_)) | (with_reducible refine And.intro (fun h => ?_) (fun h => ?_)) | (with_reducible apply And.intro; focus omega))
    all_goals ((refine ends_ret (by simp only [resultsOf, resOf, push_cast, seval, EE_P]; rfl) (by simp only [push_cast, seval, EE_P]) ?_ (by repeat' (first | exact Keeps.refl _ | assumption | exact (hwf.keep1 _) | refine Keeps.new hwf ?_ (by omega) _)) (by simp only [lt_int, lt_bool, lt_str, lt_nil, lt_empty, lt_agg, lt_tup, lt_list, lt_cells, lt_fn, lt_nilp, lt_nilfn, lt_nili, List.mem_cons, List.not_mem_nil, or_false, forall_eq_or_imp, forall_eq, and_true, true_and, and_self, implies_true, *]; try omega)); (try simp only [tupOf, push_cast, seval, EE_P]))
theorem best_proved : ∀ pvs, Args EE.P Tryz.f7.params.toList pvs → Pure EE 7 pvs (.bool true) := by
  intro pvs h
  obtain ⟨ls, v, rest, rfl, hv, hl, h⟩ := args_lines h
  obtain ⟨i, rest, rfl, hi, h⟩ := args_u8 h
  obtain ⟨k, rest, rfl, hk, h⟩ := args_u8 h
  match rest, h with
  | [], _ => exact bestlaw_fn hv hl i k hi hk
end Go.Proofs.YtdajoilaakiinaaGreatDoor.Awp
