/- What the contracts of this seat are stated over; how a contract without memory is ended. -/
import Derived.Test.YtdajoilaakiinaaGreatDoorFM
import Derived.Lib.ItoaNum
import Derived.Test.YtdajoilaakiinaaGreatDoorMB
import Derived.Test.YtdajoilaakiinaaGreatDoorIM
set_option linter.unusedSimpArgs false
set_option linter.unusedVariables false
namespace Go.Proofs.YtdajoilaakiinaaGreatDoor.Awp
open Go Go.Proofs

theorem Wf.none {σ : Store} {nx k : Nat} (h : Wf σ nx) (hk : nx ≤ k) : σ k = none := by
  cases hs : σ k with
  | none => rfl
  | some o => exact absurd (h k o hs).1 (Nat.not_lt_of_le hk)
/-- What was there is there still. -/
def Keeps (σ σ' : Store) : Prop := ∀ k o, σ k = some o → σ' k = some o
theorem Keeps.refl (σ : Store) : Keeps σ σ := fun _ _ h => h
theorem Keeps.new {σ σ' : Store} {nx key : Nat} (hw : Wf σ nx) (h : Keeps σ σ') (hk : nx ≤ key) (v : Option AObj) : Keeps σ (upd σ' key v) := by
  intro k o hs
  have : k ≠ key := by
    intro e
    subst e
    rw [hw.none hk] at hs
    cases hs
  rw [upd_other _ _ this]
  exact h k o hs
theorem leaves_keeps {σ : Store} {nx : Nat} {st : St} {v : PV} (h : Keeps σ st.σ) (hv : Lt nx v) : Leaves σ nx st v σ nx v := ⟨Nat.le_refl _, fun k o hk => .inl ⟨hk, h k o hk⟩, .refl _, hv⟩
theorem ends_ret {E : Env} {σ σ' : Store} {nx nx' : Nat} {rs : List ResultVar} {sl : Nat → PV} {v : PV} {c : Prop} {vs : List PV} (hr : resultsOf E ⟨sl, σ', nx'⟩ rs = some (c, vs)) (hc : c) (hv : tupOf vs = v) (hk : Keeps σ σ') (hl : Lt nx v) :
    Ends E σ nx rs (.ret v) σ nx .ret ⟨sl, σ', nx'⟩ := ⟨c, vs, v, hr, hc, rfl, by rw [hv]; exact leaves_keeps hk hl⟩
theorem ends_tmp {E : Env} {σ σ' : Store} {nx nx' : Nat} {t : Tmp} {sl : Nat → PV} {v : PV} (hv : sl t = v) (hk : Keeps σ σ') (hl : Lt nx v) : Ends E σ nx [.tmp t] (.ret v) σ nx .ret ⟨sl, σ', nx'⟩ := ends_ret rfl ⟨trivial, trivial⟩ hv hk hl
theorem ends_tmp2 {E : Env} {σ σ' : Store} {nx nx' : Nat} {t u : Tmp} {sl : Nat → PV} {v x : PV} (hv : sl t = v) (hx : sl u = x) (hk : Keeps σ σ') (hl : Lt nx v) (hl' : Lt nx x) : Ends E σ nx [.tmp t, .tmp u] (.ret (.tup [v, x])) σ nx .ret ⟨sl, σ', nx'⟩ :=
  ends_ret rfl ⟨trivial, trivial, trivial⟩ (by show PV.tup [sl t, sl u] = _; rw [hv, hx]) hk (.tup _ (fun c hc => by
    simp only [List.mem_cons, List.not_mem_nil, or_false] at hc
    rcases hc with rfl | rfl
    · exact hl
    · exact hl'))
/-- A result that is kept in a variable. -/
theorem cell_res {E : Env} {st : St} {t ty k : Nat} {cs : List PV} (ht : ti E.P ty ≠ none) (hsz : tsz E.P ty = cs.length) (hagg : tagg E.P ty = true) (h1 : st.sl t = .ptr k 0 0) (h2 : st.σ k = some (.row [cs])) :
    ∃ c, resOf E st (.cell t ty) = some (c, .agg cs) ∧ c := by
  simp only [resOf, h1, evLoad, if_neg ht, h2, List.getElem?_cons_zero, Option.getD_some, hsz, mk, hagg, if_true, List.drop_zero, List.take_length]
  exact ⟨_, rfl, by simp, by simp, fun h => by simp at h⟩
theorem ends_cell {E : Env} {σ σ' : Store} {nx nx' : Nat} {t : Tmp} {ty k : Nat} {cs : List PV} {sl : Nat → PV} (ht : ti E.P ty ≠ none) (hsz : tsz E.P ty = cs.length) (hagg : tagg E.P ty = true) (h1 : sl t = .ptr k 0 0) (h2 : σ' k = some (.row [cs])) (hk : Keeps σ σ') (hl : Lt nx (.agg cs)) :
    Ends E σ nx [.cell t ty] (.ret (.agg cs)) σ nx .ret ⟨sl, σ', nx'⟩ := by
  obtain ⟨c, h, hc⟩ := cell_res (E := E) (st := ⟨sl, σ', nx'⟩) ht hsz hagg h1 h2
  exact ends_ret (c := c ∧ True) (vs := [.agg cs]) (by simp only [resultsOf, h]) ⟨hc, trivial⟩ rfl hk hl
theorem ends_cell2 {E : Env} {σ σ' : Store} {nx nx' : Nat} {t u : Tmp} {ty k : Nat} {cs : List PV} {sl : Nat → PV} {x : PV} (ht : ti E.P ty ≠ none) (hsz : tsz E.P ty = cs.length) (hagg : tagg E.P ty = true) (h1 : sl t = .ptr k 0 0) (h2 : σ' k = some (.row [cs])) (hx : sl u = x) (hk : Keeps σ σ') (hl : Lt nx (.agg cs)) (hl' : Lt nx x) :
    Ends E σ nx [.cell t ty, .tmp u] (.ret (.tup [.agg cs, x])) σ nx .ret ⟨sl, σ', nx'⟩ := by
  obtain ⟨c, h, hc⟩ := cell_res (E := E) (st := ⟨sl, σ', nx'⟩) ht hsz hagg h1 h2
  refine ends_ret (c := c ∧ True ∧ True) (vs := [.agg cs, x]) ?_ ⟨hc, trivial, trivial⟩ rfl hk (.tup _ (fun c hc => by
    simp only [List.mem_cons, List.not_mem_nil, or_false] at hc
    rcases hc with rfl | rfl
    · exact hl
    · exact hl'))
  have e2 : resOf E ⟨sl, σ', nx'⟩ (.tmp u) = some (True, x) := by simp only [resOf, hx]
  simp only [resultsOf, h, e2]
theorem lt_ints {n : Nat} {cs : List PV} (h : ∀ c ∈ cs, ∃ k m, c = .int k m) : Lt n (.agg cs) := .agg _ fun c hc => by
  obtain ⟨k, m, rfl⟩ := h c hc
  exact .int _ _
theorem Wf.keep1 {σ : Store} {nx : Nat} (h : Wf σ nx) (v : Option AObj) : Keeps σ (upd σ nx v) := Keeps.new h (Keeps.refl _) (Nat.le_refl _) v
theorem Wf.keep2 {σ : Store} {nx k : Nat} (h : Wf σ nx) (v v' : Option AObj) (hk : nx ≤ k) : Keeps σ (upd (upd σ nx v) k v') := Keeps.new h (h.keep1 v) hk v'
end Go.Proofs.YtdajoilaakiinaaGreatDoor.Awp

/- fraction: contracts. -/
namespace Go.Proofs.YtdajoilaakiinaaGreatDoor.Awp
open Go Go.Proofs
set_option linter.unusedSimpArgs false
set_option linter.unusedVariables false
set_option maxRecDepth 10000
set_option maxHeartbeats 4000000
section
variable {E : Env} (hE : Good E) (hP : E.P = Tryz.prog)
include hE hP

theorem abs_raw (a : Int) : Pure E 76 [.int .i64 a] (.int .i64 (if IntKind.i64.wrap (0 - a) > a then IntKind.i64.wrap (0 - a) else a)) := by
  intro σ nx
  refine fn_of_body hE (by rw [hP]; exact Tryz.func76) rfl rfl (by kernel_rfl) (Nat.le_of_ble_eq_true rfl) (Nat.le_refl _) fun hwf hlt => ?_
  refine awp_begin _ _ _ _ _ (cc := _) (by conv => lhs; simp only [push_cast, seval, Tryz.f76]) ?_
  simp only [push_cast, seval, hP]
  exact ends_ret rfl ⟨trivial, trivial⟩ rfl (Keeps.refl _) (.int _ _)

omit hE hP in
theorem wrap_small {n : Int} (h : -9223372036854775808 ≤ n) (h' : n ≤ 9223372036854775807) : IntKind.i64.wrap n = n := by
  rw [IntKind.wrap_i64]
  omega
theorem abs_fn {a : Int} (h : -1000000000000000000 ≤ a) (h' : a ≤ 1000000000000000000) : Pure E 76 [.int .i64 a] (.int .i64 (a.natAbs : Int)) := by
  have h2 := abs_raw hE hP a
  rw [wrap_small (by omega) (by omega)] at h2
  have e : (if 0 - a > a then 0 - a else a) = (a.natAbs : Int) := by split <;> omega
  rw [e] at h2
  exact h2

omit hE hP in
theorem gcd_step (x y : Int) : Int.gcd (x % y) y = Int.gcd x y := by
  have h : x % y = x + y * (-(x / y)) := by rw [Int.mul_neg]; have := Int.emod_add_mul_ediv x y; omega
  rw [h, Int.gcd_comm, Int.gcd_comm x y]
  exact Int.gcd_add_mul_left_right y x _

theorem divisor_fn {a b : Int} (ha : 0 ≤ a) (hb : 0 ≤ b) : Pure E 75 [.int .i64 a, .int .i64 b] (.int .i64 (Int.gcd a b : Int)) := by
  intro σ nx
  refine fn_of_body hE (by rw [hP]; exact Tryz.func75) rfl rfl (by kernel_rfl) (Nat.le_of_ble_eq_true rfl) (Nat.le_refl _) fun hwf hlt => ?_
  refine awp_begin _ _ _ _ _ (cc := _) (by conv => lhs; simp only [push_cast, seval, Tryz.f75]) ?_
  simp only [push_cast, seval, hP]
  refine wloop_by (fun m sl σ' nx' => ∃ x y : Int, 0 ≤ x ∧ 0 ≤ y ∧ Int.gcd x y = Int.gcd a b ∧ m = y.toNat ∧ sl 0 = .int .i64 x ∧ sl 1 = .int .i64 y ∧ σ' = σ) b.toNat ⟨a, b, ha, hb, rfl, rfl, rfl, rfl, rfl⟩ ?_
  rintro m sl σ' nx' ⟨x, y, hx, hy, hg, hm, h0, h1, rfl⟩
  simp only [push_cast, seval, hP, h0, h1]
  refine ⟨fun hc => ⟨by omega, _, ?_, y, x.tmod y, hy, ?_, ?_, rfl, rfl, rfl⟩, fun hc => ?_⟩
  · have := Int.tmod_lt_of_pos x (b := y) hc
    omega
  · exact Int.tmod_nonneg y hx
  · rw [← hg, Int.tmod_eq_emod_of_nonneg hx]
    exact (Int.gcd_comm ..).trans (gcd_step x y)
  · have : y = 0 := by omega
    subst this
    refine ends_ret rfl ⟨trivial, trivial⟩ ?_ (Keeps.refl _) (.int _ _)
    show PV.int .i64 x = _
    rw [← hg]
    simp
    omega

/-- A valid fraction. -/
def FV (n d : Int) : Prop := 1 ≤ d ∧ d ≤ 1000000 ∧ -1000000000 ≤ n ∧ n ≤ 1000000000 ∧ Int.gcd n d = 1
instance (n d : Int) : Decidable (FV n d) := by unfold FV; infer_instance
def fracP (n d : Int) : PV := .agg [.int .i64 n, .int .i64 d]

theorem valid_fn (n d : Int) : Pure E 43 [fracP n d] (.bool (decide (FV n d))) := by
  intro σ nx
  refine fn_of_body hE (by rw [hP]; exact Tryz.func43) rfl rfl (by kernel_rfl) (Nat.le_of_ble_eq_true rfl) (Nat.le_refl _) fun hwf hlt => ?_
  refine awp_begin _ _ _ _ _ (cc := _) (by conv => lhs; simp only [push_cast, seval, Tryz.f43]) ?_
  simp only [push_cast, seval, hP, fracP]
  have end_ : ∀ sl σ' nx' b, sl 2 = .bool b → (b = true ↔ FV n d) → Keeps σ σ' → Ends E σ nx [.tmp 2] (.ret (.bool (decide (FV n d)))) σ nx .ret ⟨sl, σ', nx'⟩ := by
    intro sl σ' nx' b h1 h2 h3
    refine ends_ret rfl ⟨trivial, trivial⟩ ?_ h3 (.bool _)
    show sl 2 = _
    rw [h1]
    congr 1
    cases b
    · symm; rw [decide_eq_false_iff_not]; intro h; exact absurd (h2.2 h) (by simp)
    · symm; rw [decide_eq_true_eq]; exact h2.1 rfl
  have kp : ∀ v, Keeps σ (upd σ nx v) := fun v => Keeps.new hwf (Keeps.refl _) (Nat.le_refl _) v
  refine ⟨fun h1 => ⟨fun h2 => ⟨fun h3 => ⟨fun h4 => ?_, fun h4 => ?_⟩, fun h3 => ?_⟩, fun h2 => ?_⟩, fun h1 => ?_⟩
  · refine wdcall_pure _ _ _ _ _ _ (abs_fn hE hP (by omega) (by omega)) ?_
    simp only [push_cast, seval, hP]
    refine wdcall_pure _ _ _ _ _ _ (divisor_fn hE hP (by omega) (by omega)) ?_
    simp only [push_cast, seval, hP]
    refine end_ _ _ _ _ rfl ?_ (kp _)
    unfold FV
    have e : Int.gcd (↑n.natAbs) d = Int.gcd n d := by simp [Int.gcd]
    rw [decide_eq_true_eq, e]
    omega
  · exact end_ _ _ _ _ rfl (by unfold FV; simp; omega) (kp _)
  · exact end_ _ _ _ _ rfl (by unfold FV; simp; omega) (kp _)
  · exact end_ _ _ _ _ rfl (by unfold FV; simp; omega) (kp _)
  · exact end_ _ _ _ _ rfl (by unfold FV; simp; omega) (kp _)

theorem isNaN_fn (a : Int) : Pure E 111 [.int .i64 a] (.bool false) := by
  intro σ nx
  refine fn_of_body hE (by rw [hP]; exact Tryz.func111) rfl rfl (by kernel_rfl) (Nat.le_of_ble_eq_true rfl) (Nat.le_refl _) fun hwf hlt => ?_
  refine awp_begin _ _ _ _ _ (cc := _) (by conv => lhs; simp only [push_cast, seval, Tryz.f111]) ?_
  simp only [push_cast, seval, hP, decide_true]
  exact ends_ret rfl ⟨trivial, trivial⟩ rfl (Keeps.refl _) (.bool _)
def cmp (a b : Int) : Int := if a < b then -1 else if a > b then 1 else 0
theorem cmp_fn (a b : Int) : Pure E 95 [.int .i64 a, .int .i64 b] (.int .i64 (cmp a b)) := by
  intro σ nx
  refine fn_of_body hE (by rw [hP]; exact Tryz.func95) rfl rfl (by kernel_rfl) (Nat.le_of_ble_eq_true rfl) (Nat.le_refl _) fun hwf hlt => ?_
  refine awp_begin _ _ _ _ _ (cc := _) (by conv => lhs; simp only [push_cast, seval, Tryz.f95]) ?_
  simp only [push_cast, seval, hP]
  refine wcall_pure _ _ _ _ _ _ (isNaN_fn hE hP _) ?_
  simp only [push_cast, seval, hP]
  refine wcall_pure _ _ _ _ _ _ (isNaN_fn hE hP _) ?_
  simp only [push_cast, seval, hP]
  refine ⟨fun h1 => ends_tmp ?_ (Keeps.refl _) (.int _ _), fun h1 => ⟨fun h2 => ends_tmp ?_ (Keeps.refl _) (.int _ _), fun h2 => ends_tmp ?_ (Keeps.refl _) (.int _ _)⟩⟩
  · show PV.int _ _ = _; unfold cmp; rw [if_pos h1]
  · show PV.int _ _ = _; unfold cmp; rw [if_neg h1, if_pos h2]
  · show PV.int _ _ = _; unfold cmp; rw [if_neg h1, if_neg h2]

omit hE hP in
theorem fv_mul {n d n' d' : Int} (h : FV n d) (h' : FV n' d') : -9223372036854775808 ≤ n * d' ∧ n * d' ≤ 9223372036854775807 := by
  obtain ⟨_, _, h1, h2, _⟩ := h
  obtain ⟨h3, h4, _, _, _⟩ := h'
  have e1 := Int.mul_le_mul_of_nonneg_right (c := d') h2 (by omega)
  have e2 := Int.mul_le_mul_of_nonneg_right (c := d') h1 (by omega)
  omega

def fcmp (n d n' d' : Int) : Int := if FV n d ∧ FV n' d' then cmp (n * d') (n' * d) else 0
theorem compare_fn (n d n' d' : Int) : Pure E 77 [fracP n d, fracP n' d'] (.tup [.int .i64 (fcmp n d n' d'), .bool (decide (FV n d ∧ FV n' d'))]) := by
  intro σ nx
  refine fn_of_body hE (by rw [hP]; exact Tryz.func77) rfl rfl (by kernel_rfl) (Nat.le_of_ble_eq_true rfl) (Nat.le_refl _) fun hwf hlt => ?_
  refine awp_begin _ _ _ _ _ (cc := _) (by conv => lhs; simp only [push_cast, seval, Tryz.f77]) ?_
  simp only [push_cast, seval, hP, fracP]
  refine wcall_pure _ _ _ _ _ _ (valid_fn hE hP n d) ?_
  simp only [push_cast, seval, hP, fracP]
  have kp : ∀ v v', Keeps σ (upd (upd σ nx v) (nx + 1) v') := fun v v' => hwf.keep2 v v' (by omega)
  refine ⟨fun h1 => ?_, fun h1 => ?_⟩
  · refine wcall_pure _ _ _ _ _ _ (valid_fn hE hP n' d') ?_
    simp only [push_cast, seval, hP, fracP]
    refine ⟨fun h2 => ?_, fun h2 => ?_⟩
    · refine ends_tmp2 ?_ ?_ (kp _ _) (.int _ _) (.bool _)
      · show PV.int _ _ = _; unfold fcmp; rw [if_neg fun h => h2 h.2]
      · show PV.bool _ = _; rw [decide_eq_false fun h => h2 h.2]
    · refine wcall_pure _ _ _ _ _ _ (cmp_fn hE hP _ _) ?_
      simp only [push_cast, seval, hP, fracP]
      refine ends_tmp2 ?_ ?_ (kp _ _) (.int _ _) (.bool _)
      · show PV.int _ _ = _
        have b1 := fv_mul h1 h2
        have b2 := fv_mul h2 h1
        unfold fcmp
        rw [if_pos ⟨h1, h2⟩, wrap_small b1.1 b1.2, wrap_small b2.1 b2.2]
      · show PV.bool _ = _; rw [decide_eq_true ⟨h1, h2⟩]
  · refine ends_tmp2 ?_ ?_ (kp _ _) (.int _ _) (.bool _)
    · show PV.int _ _ = _; unfold fcmp; rw [if_neg fun h => h1 h.1]
    · show PV.bool _ = _; rw [decide_eq_false fun h => h1 h.1]
end
end Go.Proofs.YtdajoilaakiinaaGreatDoor.Awp

/- credit: comparing; fraction: the operations. -/
namespace Go.Proofs.YtdajoilaakiinaaGreatDoor.Awp
open Go Go.Proofs
set_option linter.unusedSimpArgs false
set_option linter.unusedVariables false
set_option maxRecDepth 10000
set_option maxHeartbeats 4000000
section
variable {E : Env} (hE : Good E) (hP : E.P = Tryz.prog)
theorem lt_frac {nx : Nat} (n d : Int) : Lt nx (fracP n d) := lt_ints fun c hc => by
  simp only [List.mem_cons, List.not_mem_nil, or_false] at hc
  rcases hc with rfl | rfl
  · exact ⟨_, _, rfl⟩
  · exact ⟨_, _, rfl⟩
include hE hP

def flt (n d n' d' : Int) : Prop := fcmp n d n' d' < 0
instance (n d n' d' : Int) : Decidable (flt n d n' d') := by unfold flt; infer_instance
theorem less_fn (n d n' d' : Int) : Pure E 44 [fracP n d, fracP n' d'] (.bool (decide (flt n d n' d'))) := by
  intro σ nx
  refine fn_of_body hE (by rw [hP]; exact Tryz.func44) rfl rfl (by kernel_rfl) (Nat.le_of_ble_eq_true rfl) (Nat.le_refl _) fun hwf hlt => ?_
  refine awp_begin _ _ _ _ _ (cc := _) (by conv => lhs; simp only [push_cast, seval, Tryz.f44]) ?_
  simp only [push_cast, seval, hP, fracP]
  refine wcall_pure _ _ _ _ _ _ (compare_fn hE hP n d n' d') ?_
  simp only [push_cast, seval, hP]
  exact ends_tmp rfl (hwf.keep2 _ _ (by omega)) (.bool _)

/-- A line's places: name, group, kind, applies, amount, error. -/
def lineP (name group : ByteArray) (kind : Int) (app : Bool) (n d : Int) (err : Int) : PV := .agg [.str name, .str group, .int .i64 kind, .bool app, .int .i64 n, .int .i64 d, .int .i64 err]
def weightN (n d : Int) : Int := if flt n d 0 1 then 0 else n
def weightD (n d : Int) : Int := if flt n d 0 1 then 1 else d
theorem weight_fn (hG : E.G 0 = some [.int .i64 0, .int .i64 1]) (name group : ByteArray) (kind : Int) (app : Bool) (n d err : Int) : Pure E 61 [lineP name group kind app n d err] (fracP (weightN n d) (weightD n d)) := by
  intro σ nx
  refine fn_of_body hE (by rw [hP]; exact Tryz.func61) rfl rfl (by kernel_rfl) (Nat.le_of_ble_eq_true rfl) (Nat.le_refl _) fun hwf hlt => ?_
  refine awp_begin _ _ _ _ _ (cc := _) (by conv => lhs; simp only [push_cast, seval, Tryz.f61]) ?_
  simp only [push_cast, seval, hP, fracP, lineP, hG]
  refine wcall_pure _ _ _ _ _ _ (less_fn hE hP n d 0 1) ?_
  simp only [push_cast, seval, hP, hG]
  refine ⟨fun h => ?_, fun h => ?_⟩
  · refine ends_cell (t := 2) (ty := 27) (k := nx + 1) (by simp only [push_cast, seval, hP]) (by simp only [push_cast, seval, hP]) (by simp only [push_cast, seval, hP]) rfl ?_ ?_ (lt_frac _ _)
    · simp only [push_cast, seval, weightN, weightD, if_pos h]
    · exact Keeps.new hwf (hwf.keep2 _ _ (by omega)) (by omega) _
  · refine ends_cell (t := 2) (ty := 27) (k := nx + 1) (by simp only [push_cast, seval, hP]) (by simp only [push_cast, seval, hP]) (by simp only [push_cast, seval, hP]) rfl ?_ ?_ (lt_frac _ _)
    · simp only [push_cast, seval, weightN, weightD, if_neg h]
    · exact Keeps.new hwf (hwf.keep2 _ _ (by omega)) (by omega) _
end
end Go.Proofs.YtdajoilaakiinaaGreatDoor.Awp

/- fraction: the operations. -/
namespace Go.Proofs.YtdajoilaakiinaaGreatDoor.Awp
open Go Go.Proofs
set_option linter.unusedSimpArgs false
set_option linter.unusedVariables false
set_option maxRecDepth 10000
set_option maxHeartbeats 4000000
section
variable {E : Env} (hE : Good E) (hP : E.P = Tryz.prog)
def redOk (a b : Int) : Prop := FV (a.tdiv (Int.gcd a b)) (b.tdiv (Int.gcd a b))
instance (a b : Int) : Decidable (redOk a b) := by unfold redOk; infer_instance
def redN (a b : Int) : Int := if redOk a b then a.tdiv (Int.gcd a b) else 0
def redD (a b : Int) : Int := if redOk a b then b.tdiv (Int.gcd a b) else 0
def redE (a b : Int) : Int := if redOk a b then 0 else 2
include hE hP
omit hE hP in
theorem tdiv_wrap {a : Int} (g : Nat) (h : -1000000000000000000 ≤ a) (h' : a ≤ 1000000000000000000) : IntKind.i64.wrap (a.tdiv g) = a.tdiv g := by
  have h1 := Int.natAbs_tdiv_le_natAbs a g
  exact wrap_small (by omega) (by omega)
theorem reduced_fn {a b : Int} (ha : -1000000000000000000 ≤ a) (ha' : a ≤ 1000000000000000000) (hb : 0 < b) (hb' : b ≤ 1000000000000000000) : Pure E 97 [.int .i64 a, .int .i64 b] (.tup [fracP (redN a b) (redD a b), .int .i64 (redE a b)]) := by
  intro σ nx
  refine fn_of_body hE (by rw [hP]; exact Tryz.func97) rfl rfl (by kernel_rfl) (Nat.le_of_ble_eq_true rfl) (Nat.le_refl _) fun hwf hlt => ?_
  refine awp_begin _ _ _ _ _ (cc := _) (by conv => lhs; simp only [push_cast, seval, Tryz.f97]) ?_
  simp only [push_cast, seval, hP]
  refine ⟨fun h => absurd h (by omega), fun _ => ?_⟩
  refine wcall_pure _ _ _ _ _ _ (abs_fn hE hP ha ha') ?_
  simp only [push_cast, seval, hP]
  refine wcall_pure _ _ _ _ _ _ (divisor_fn hE hP (by omega) (by omega)) ?_
  have hg : Int.gcd (↑a.natAbs) b = Int.gcd a b := by simp [Int.gcd]
  have hg0 : ¬ (Int.gcd a b : Int) = 0 := by
    have := Int.gcd_eq_zero_iff (a := a) (b := b)
    omega
  simp only [push_cast, seval, hP, hg, hg0, tdiv_wrap _ ha ha', tdiv_wrap (a := b) _ (by omega) hb']
  refine wcall_pure _ _ _ _ _ _ (valid_fn hE hP _ _) ?_
  simp only [push_cast, seval, hP]
  have kp : ∀ v v' v'' w w', Keeps σ (upd (upd (upd (upd (upd σ nx v) (nx + 16) v') (nx + 16) v'') nx w) nx w') := fun v v' v'' w w' =>
    Keeps.new hwf (Keeps.new hwf (Keeps.new hwf (hwf.keep2 _ _ (by omega)) (by omega) _) (by omega) _) (by omega) _
  have kp1 : ∀ v v' v'' w, Keeps σ (upd (upd (upd (upd σ nx v) (nx + 16) v') (nx + 16) v'') nx w) := fun v v' v'' w =>
    Keeps.new hwf (Keeps.new hwf (hwf.keep2 _ _ (by omega)) (by omega) _) (by omega) _
  refine ⟨fun h => ?_, fun h => ?_⟩
  · refine ends_cell2 (t := 4) (ty := 27) (k := nx) (by simp only [push_cast, seval, hP]) (by simp only [push_cast, seval, hP]) (by simp only [push_cast, seval, hP]) rfl ?_ ?_ (kp1 _ _ _ _) (lt_frac _ _) (.int _ _)
    · simp only [push_cast, seval, redN, redD, if_neg (show ¬ redOk a b from h)]
    · show PV.int _ _ = _; unfold redE; rw [if_neg (show ¬ redOk a b from h)]
  · refine ends_cell2 (t := 4) (ty := 27) (k := nx) (by simp only [push_cast, seval, hP]) (by simp only [push_cast, seval, hP]) (by simp only [push_cast, seval, hP]) rfl ?_ ?_ (kp1 _ _ _ _) (lt_frac _ _) (.int _ _)
    · simp only [push_cast, seval, redN, redD, if_pos (show redOk a b from h)]
    · show PV.int _ _ = _; unfold redE; rw [if_pos (show redOk a b from h)]
end
end Go.Proofs.YtdajoilaakiinaaGreatDoor.Awp

/- fraction: the operations. -/
namespace Go.Proofs.YtdajoilaakiinaaGreatDoor.Awp
open Go Go.Proofs
set_option linter.unusedSimpArgs false
set_option linter.unusedVariables false
set_option maxRecDepth 10000
set_option maxHeartbeats 4000000
section
variable {E : Env} (hE : Good E) (hP : E.P = Tryz.prog)
include hE hP
theorem operation_fn (g : FuncId) : Pure E 78 [.fn g [] []] (.fn 96 [] [.cells [.fn g [] []]]) := by
  intro σ nx
  refine fn_of_body hE (by rw [hP]; exact Tryz.func78) rfl rfl (by kernel_rfl) (Nat.le_of_ble_eq_true rfl) (Nat.le_refl _) fun hwf hlt => ?_
  refine awp_begin _ _ _ _ _ (cc := _) (by conv => lhs; simp only [push_cast, seval, Tryz.f78]) ?_
  simp only [push_cast, seval, hP]
  refine ⟨_, _, _, rfl, ⟨trivial, trivial⟩, rfl, Nat.le_refl _, fun k o hk => .inl ⟨hk, hwf.keep1 _ k o hk⟩, ?_, ?_⟩
  · refine .fn _ _ _ _ _ rfl rfl (fun j x y h => by simp at h) (fun j x y h h' => ?_)
    cases j with
    | zero =>
      simp only [List.getElem?_cons_zero, Option.some.injEq] at h h'
      subst h h'
      refine .ptr nx 0 0 [[.fn g [] []]] [.fn g [] []] [.fn g [] []] (by simp only [push_cast, seval]) (hwf.none (Nat.le_refl _)) rfl (Nat.le_refl _) fun j x y h h' => ?_
      cases j with
      | zero =>
        simp only [List.getElem?_cons_zero, Option.some.injEq, Nat.zero_add] at h h'
        subst h h'
        exact .refl _
      | succ j => simp at h'
    | succ j => simp at h'
  · refine .fn _ _ _ (fun c hc => by cases hc) fun c hc => ?_
    simp only [List.mem_cons, List.not_mem_nil, or_false] at hc
    subst hc
    refine .cells _ fun c hc => ?_
    simp only [List.mem_cons, List.not_mem_nil, or_false] at hc
    subst hc
    exact .fn _ _ _ (fun c hc => by cases hc) (fun c hc => by cases hc)

theorem op1_fn {g : FuncId} {n d n' d' x y : Int} (hx : FV n d ∧ FV n' d' → -1000000000000000000 ≤ x ∧ x ≤ 1000000000000000000 ∧ 0 < y ∧ y ≤ 1000000000000000000 ∧ Pure E g [fracP n d, fracP n' d'] (.tup [.int .i64 x, .int .i64 y])) :
    Pure E 96 [fracP n d, fracP n' d', .cells [.fn g [] []]] (.tup [fracP (if FV n d ∧ FV n' d' then redN x y else 0) (if FV n d ∧ FV n' d' then redD x y else 0), .int .i64 (if FV n d ∧ FV n' d' then redE x y else 1)]) := by
  intro σ nx
  refine fn_of_body hE (by rw [hP]; exact Tryz.func96) rfl rfl (by kernel_rfl) (Nat.le_of_ble_eq_true rfl) (Nat.le_refl _) fun hwf hlt => ?_
  refine awp_begin _ _ _ _ _ (cc := _) (by conv => lhs; simp only [push_cast, seval, Tryz.f96]) ?_
  simp only [push_cast, seval, hP, fracP]
  refine wcall_pure _ _ _ _ _ _ (valid_fn hE hP n d) ?_
  simp only [push_cast, seval, hP, fracP]
  have kp : ∀ v v' v'' w, Keeps σ (upd (upd (upd (upd σ nx v) (nx + 1) v') (nx + 2) v'') (nx + 2) w) := fun v v' v'' w => Keeps.new hwf (Keeps.new hwf (hwf.keep2 _ _ (by omega)) (by omega) _) (by omega) _
  refine ⟨fun h1 => ?_, fun h1 => ?_⟩
  · refine wcall_pure _ _ _ _ _ _ (valid_fn hE hP n' d') ?_
    simp only [push_cast, seval, hP, fracP]
    refine ⟨fun h2 => ?_, fun h2 => ?_⟩
    · have hn : ¬ (FV n d ∧ FV n' d') := fun h => h2 h.2
      simp only [if_neg hn]
      refine ends_cell2 (t := 5) (ty := 27) (k := nx + 2) (by simp only [push_cast, seval, hP]) (by simp only [push_cast, seval, hP]) (by simp only [push_cast, seval, hP]) rfl ?_ rfl (kp _ _ _ _) (lt_frac _ _) (.int _ _)
      simp only [push_cast, seval]
    · obtain ⟨x1, x2, y1, y2, hg⟩ := hx ⟨h1, h2⟩
      refine wcall_pure _ _ _ _ _ _ hg ?_
      have hy : ¬ y = 0 := by omega
      simp only [push_cast, seval, hP, fracP, hy]
      refine wcall_pure _ _ _ _ _ _ (reduced_fn hE hP x1 x2 y1 y2) ?_
      simp only [push_cast, seval, hP, fracP, if_pos (show FV n d ∧ FV n' d' from ⟨h1, h2⟩)]
      refine ends_cell2 (t := 5) (ty := 27) (k := nx + 2) (by simp only [push_cast, seval, hP]) (by simp only [push_cast, seval, hP]) (by simp only [push_cast, seval, hP]) rfl ?_ rfl (kp _ _ _ _) (lt_frac _ _) (.int _ _)
      simp only [push_cast, seval]
  · have hn : ¬ (FV n d ∧ FV n' d') := fun h => h1 h.1
    simp only [if_neg hn]
    refine ends_cell2 (t := 5) (ty := 27) (k := nx + 2) (by simp only [push_cast, seval, hP]) (by simp only [push_cast, seval, hP]) (by simp only [push_cast, seval, hP]) rfl ?_ rfl (kp _ _ _ _) (lt_frac _ _) (.int _ _)
    simp only [push_cast, seval]
end
end Go.Proofs.YtdajoilaakiinaaGreatDoor.Awp

/- fraction: Add, Sub, Mul. -/
namespace Go.Proofs.YtdajoilaakiinaaGreatDoor.Awp
open Go Go.Proofs
set_option linter.unusedSimpArgs false
set_option linter.unusedVariables false
set_option maxRecDepth 10000
set_option maxHeartbeats 4000000
section
variable {E : Env} (hE : Good E) (hP : E.P = Tryz.prog)
theorem mul_bd {a b A B : Int} (h1 : -A ≤ a) (h2 : a ≤ A) (h3 : 0 ≤ b) (h4 : b ≤ B) (hA : 0 ≤ A) : -(A * B) ≤ a * b ∧ a * b ≤ A * B := by
  have e1 := Int.mul_le_mul_of_nonneg_right h2 h3
  have e2 := Int.mul_le_mul_of_nonneg_right h1 h3
  have e3 := Int.mul_le_mul_of_nonneg_left h4 hA
  rw [Int.neg_mul] at e2
  omega
theorem nn_bd {n d n' d' : Int} (h : FV n d) (h' : FV n' d') : -1000000000000000000 ≤ n * n' ∧ n * n' ≤ 1000000000000000000 := by
  obtain ⟨_, _, h1, h2, _⟩ := h
  obtain ⟨_, _, h3, h4, _⟩ := h'
  rcases Int.le_total 0 n' with e | e
  · have := mul_bd h1 h2 e h4 (by omega)
    omega
  · have := mul_bd (b := -n') h1 h2 (by omega) (show -n' ≤ 1000000000 by omega) (by omega)
    rw [Int.mul_neg] at this
    omega
theorem nd_bd {n d n' d' : Int} (h : FV n d) (h' : FV n' d') : -1000000000000000 ≤ n * d' ∧ n * d' ≤ 1000000000000000 := by
  obtain ⟨_, _, h1, h2, _⟩ := h
  obtain ⟨h3, h4, _, _, _⟩ := h'
  have := mul_bd h1 h2 (show 0 ≤ d' by omega) h4 (by omega)
  omega
theorem dd_bd {n d n' d' : Int} (h : FV n d) (h' : FV n' d') : 0 < d * d' ∧ d * d' ≤ 1000000000000 := by
  obtain ⟨h1, h2, _⟩ := h
  obtain ⟨h3, h4, _⟩ := h'
  have e := mul_bd (a := d) (A := 1000000) (by omega) h2 (show 0 ≤ d' by omega) h4 (by omega)
  have := Int.mul_pos (show 0 < d by omega) (show 0 < d' by omega)
  omega
include hE hP

theorem add1_fn {n d n' d' : Int} (h : FV n d) (h' : FV n' d') : Pure E 101 [fracP n d, fracP n' d'] (.tup [.int .i64 (n * d' + n' * d), .int .i64 (d * d')]) := by
  intro σ nx
  have b1 := nd_bd h h'
  have b2 := nd_bd h' h
  have b3 := dd_bd h h'
  have b4 := nn_bd h h'
  refine fn_of_body hE (by rw [hP]; exact Tryz.func101) rfl rfl (by kernel_rfl) (Nat.le_of_ble_eq_true rfl) (Nat.le_refl _) fun hwf hlt => ?_
  refine awp_begin _ _ _ _ _ (cc := _) (by conv => lhs; simp only [push_cast, seval, Tryz.f101]) ?_
  have w1 : IntKind.i64.wrap (n * d') = n * d' := wrap_small (by omega) (by omega)
  have w2 : IntKind.i64.wrap (n' * d) = n' * d := wrap_small (by omega) (by omega)
  have w3 : IntKind.i64.wrap (d * d') = d * d' := wrap_small (by omega) (by omega)
  have w4 : IntKind.i64.wrap (n * n') = n * n' := wrap_small (by omega) (by omega)
  have w5 : IntKind.i64.wrap (n * d' + n' * d) = n * d' + n' * d := wrap_small (by omega) (by omega)
  have w6 : IntKind.i64.wrap (n * d' - n' * d) = n * d' - n' * d := wrap_small (by omega) (by omega)
  simp only [push_cast, seval, hP, fracP, w1, w2, w3, w4, w5, w6]
  exact ends_tmp2 rfl rfl (hwf.keep2 _ _ (by omega)) (.int _ _) (.int _ _)
def faddN (n d n' d' : Int) : Int := if FV n d ∧ FV n' d' then redN (n * d' + n' * d) (d * d') else 0
def faddD (n d n' d' : Int) : Int := if FV n d ∧ FV n' d' then redD (n * d' + n' * d) (d * d') else 0
def faddE (n d n' d' : Int) : Int := if FV n d ∧ FV n' d' then redE (n * d' + n' * d) (d * d') else 1
theorem add_fn (n d n' d' : Int) : Pure E 82 [fracP n d, fracP n' d'] (.tup [fracP (faddN n d n' d') (faddD n d n' d'), .int .i64 (faddE n d n' d')]) := by
  intro σ nx
  refine fn_of_body hE (by rw [hP]; exact Tryz.func82) rfl rfl (by kernel_rfl) (Nat.le_of_ble_eq_true rfl) (Nat.le_refl _) fun hwf hlt => ?_
  refine awp_begin _ _ _ _ _ (cc := _) (by conv => lhs; simp only [push_cast, seval, Tryz.f82]) ?_
  simp only [push_cast, seval, hP, fracP]
  refine wdcall_pure _ _ _ _ _ _ (operation_fn hE hP _) ?_
  simp only [push_cast, seval, hP, fracP]
  refine wdcall_pure _ _ _ _ _ _ (op1_fn hE hP (x := n * d' + n' * d) (y := d * d') fun h => ?_) ?_
  · have b1 := nd_bd h.1 h.2
    have b2 := nd_bd h.2 h.1
    have b3 := dd_bd h.1 h.2
    have b4 := nn_bd h.1 h.2
    exact ⟨by omega, by omega, by omega, by omega, add1_fn hE hP h.1 h.2⟩
  · simp only [push_cast, seval, hP, fracP]
    refine ends_cell2 (t := 4) (ty := 27) (k := nx + 2) (by simp only [push_cast, seval, hP]) (by simp only [push_cast, seval, hP]) (by simp only [push_cast, seval, hP]) rfl ?_ rfl (Keeps.new hwf (Keeps.new hwf (hwf.keep2 _ _ (by omega)) (by omega) _) (by omega) _) (lt_frac _ _) (.int _ _)
    simp only [push_cast, seval, faddN, faddD]

theorem sub1_fn {n d n' d' : Int} (h : FV n d) (h' : FV n' d') : Pure E 89 [fracP n d, fracP n' d'] (.tup [.int .i64 (n * d' - n' * d), .int .i64 (d * d')]) := by
  intro σ nx
  have b1 := nd_bd h h'
  have b2 := nd_bd h' h
  have b3 := dd_bd h h'
  have b4 := nn_bd h h'
  refine fn_of_body hE (by rw [hP]; exact Tryz.func89) rfl rfl (by kernel_rfl) (Nat.le_of_ble_eq_true rfl) (Nat.le_refl _) fun hwf hlt => ?_
  refine awp_begin _ _ _ _ _ (cc := _) (by conv => lhs; simp only [push_cast, seval, Tryz.f89]) ?_
  have w1 : IntKind.i64.wrap (n * d') = n * d' := wrap_small (by omega) (by omega)
  have w2 : IntKind.i64.wrap (n' * d) = n' * d := wrap_small (by omega) (by omega)
  have w3 : IntKind.i64.wrap (d * d') = d * d' := wrap_small (by omega) (by omega)
  have w4 : IntKind.i64.wrap (n * n') = n * n' := wrap_small (by omega) (by omega)
  have w5 : IntKind.i64.wrap (n * d' + n' * d) = n * d' + n' * d := wrap_small (by omega) (by omega)
  have w6 : IntKind.i64.wrap (n * d' - n' * d) = n * d' - n' * d := wrap_small (by omega) (by omega)
  simp only [push_cast, seval, hP, fracP, w1, w2, w3, w4, w5, w6]
  exact ends_tmp2 rfl rfl (hwf.keep2 _ _ (by omega)) (.int _ _) (.int _ _)
def fsubN (n d n' d' : Int) : Int := if FV n d ∧ FV n' d' then redN (n * d' - n' * d) (d * d') else 0
def fsubD (n d n' d' : Int) : Int := if FV n d ∧ FV n' d' then redD (n * d' - n' * d) (d * d') else 0
def fsubE (n d n' d' : Int) : Int := if FV n d ∧ FV n' d' then redE (n * d' - n' * d) (d * d') else 1
theorem sub_fn (n d n' d' : Int) : Pure E 62 [fracP n d, fracP n' d'] (.tup [fracP (fsubN n d n' d') (fsubD n d n' d'), .int .i64 (fsubE n d n' d')]) := by
  intro σ nx
  refine fn_of_body hE (by rw [hP]; exact Tryz.func62) rfl rfl (by kernel_rfl) (Nat.le_of_ble_eq_true rfl) (Nat.le_refl _) fun hwf hlt => ?_
  refine awp_begin _ _ _ _ _ (cc := _) (by conv => lhs; simp only [push_cast, seval, Tryz.f62]) ?_
  simp only [push_cast, seval, hP, fracP]
  refine wdcall_pure _ _ _ _ _ _ (operation_fn hE hP _) ?_
  simp only [push_cast, seval, hP, fracP]
  refine wdcall_pure _ _ _ _ _ _ (op1_fn hE hP (x := n * d' - n' * d) (y := d * d') fun h => ?_) ?_
  · have b1 := nd_bd h.1 h.2
    have b2 := nd_bd h.2 h.1
    have b3 := dd_bd h.1 h.2
    have b4 := nn_bd h.1 h.2
    exact ⟨by omega, by omega, by omega, by omega, sub1_fn hE hP h.1 h.2⟩
  · simp only [push_cast, seval, hP, fracP]
    refine ends_cell2 (t := 4) (ty := 27) (k := nx + 2) (by simp only [push_cast, seval, hP]) (by simp only [push_cast, seval, hP]) (by simp only [push_cast, seval, hP]) rfl ?_ rfl (Keeps.new hwf (Keeps.new hwf (hwf.keep2 _ _ (by omega)) (by omega) _) (by omega) _) (lt_frac _ _) (.int _ _)
    simp only [push_cast, seval, fsubN, fsubD]

theorem mul1_fn {n d n' d' : Int} (h : FV n d) (h' : FV n' d') : Pure E 79 [fracP n d, fracP n' d'] (.tup [.int .i64 (n * n'), .int .i64 (d * d')]) := by
  intro σ nx
  have b1 := nd_bd h h'
  have b2 := nd_bd h' h
  have b3 := dd_bd h h'
  have b4 := nn_bd h h'
  refine fn_of_body hE (by rw [hP]; exact Tryz.func79) rfl rfl (by kernel_rfl) (Nat.le_of_ble_eq_true rfl) (Nat.le_refl _) fun hwf hlt => ?_
  refine awp_begin _ _ _ _ _ (cc := _) (by conv => lhs; simp only [push_cast, seval, Tryz.f79]) ?_
  have w1 : IntKind.i64.wrap (n * d') = n * d' := wrap_small (by omega) (by omega)
  have w2 : IntKind.i64.wrap (n' * d) = n' * d := wrap_small (by omega) (by omega)
  have w3 : IntKind.i64.wrap (d * d') = d * d' := wrap_small (by omega) (by omega)
  have w4 : IntKind.i64.wrap (n * n') = n * n' := wrap_small (by omega) (by omega)
  have w5 : IntKind.i64.wrap (n * d' + n' * d) = n * d' + n' * d := wrap_small (by omega) (by omega)
  have w6 : IntKind.i64.wrap (n * d' - n' * d) = n * d' - n' * d := wrap_small (by omega) (by omega)
  simp only [push_cast, seval, hP, fracP, w1, w2, w3, w4, w5, w6]
  exact ends_tmp2 rfl rfl (hwf.keep2 _ _ (by omega)) (.int _ _) (.int _ _)
def fmulN (n d n' d' : Int) : Int := if FV n d ∧ FV n' d' then redN (n * n') (d * d') else 0
def fmulD (n d n' d' : Int) : Int := if FV n d ∧ FV n' d' then redD (n * n') (d * d') else 0
def fmulE (n d n' d' : Int) : Int := if FV n d ∧ FV n' d' then redE (n * n') (d * d') else 1
theorem mul_fn (n d n' d' : Int) : Pure E 46 [fracP n d, fracP n' d'] (.tup [fracP (fmulN n d n' d') (fmulD n d n' d'), .int .i64 (fmulE n d n' d')]) := by
  intro σ nx
  refine fn_of_body hE (by rw [hP]; exact Tryz.func46) rfl rfl (by kernel_rfl) (Nat.le_of_ble_eq_true rfl) (Nat.le_refl _) fun hwf hlt => ?_
  refine awp_begin _ _ _ _ _ (cc := _) (by conv => lhs; simp only [push_cast, seval, Tryz.f46]) ?_
  simp only [push_cast, seval, hP, fracP]
  refine wdcall_pure _ _ _ _ _ _ (operation_fn hE hP _) ?_
  simp only [push_cast, seval, hP, fracP]
  refine wdcall_pure _ _ _ _ _ _ (op1_fn hE hP (x := n * n') (y := d * d') fun h => ?_) ?_
  · have b1 := nd_bd h.1 h.2
    have b2 := nd_bd h.2 h.1
    have b3 := dd_bd h.1 h.2
    have b4 := nn_bd h.1 h.2
    exact ⟨by omega, by omega, by omega, by omega, mul1_fn hE hP h.1 h.2⟩
  · simp only [push_cast, seval, hP, fracP]
    refine ends_cell2 (t := 4) (ty := 27) (k := nx + 2) (by simp only [push_cast, seval, hP]) (by simp only [push_cast, seval, hP]) (by simp only [push_cast, seval, hP]) rfl ?_ rfl (Keeps.new hwf (Keeps.new hwf (hwf.keep2 _ _ (by omega)) (by omega) _) (by omega) _) (lt_frac _ _) (.int _ _)
    simp only [push_cast, seval, fmulN, fmulD]
end
end Go.Proofs.YtdajoilaakiinaaGreatDoor.Awp

/- fraction.floor, Hundredths; slices.IndexFunc. -/
namespace Go.Proofs.YtdajoilaakiinaaGreatDoor.Awp
open Go Go.Proofs
set_option linter.unusedSimpArgs false
set_option linter.unusedVariables false
set_option maxRecDepth 10000
set_option maxHeartbeats 4000000
section
variable {E : Env} (hE : Good E) (hP : E.P = Tryz.prog)
include hE hP
theorem floor_fn {a b : Int} (ha : -1000000000000000000 ≤ a) (ha' : a ≤ 1000000000000000000) (hb : 0 < b) : Pure E 83 [.int .i64 a, .int .i64 b] (.int .i64 (a / b)) := by
  intro σ nx
  refine fn_of_body hE (by rw [hP]; exact Tryz.func83) rfl rfl (by kernel_rfl) (Nat.le_of_ble_eq_true rfl) (Nat.le_refl _) fun hwf hlt => ?_
  refine awp_begin _ _ _ _ _ (cc := _) (by conv => lhs; simp only [push_cast, seval, Tryz.f83]) ?_
  have h1 := Int.natAbs_tdiv_le_natAbs a b
  have hb0 : ¬ b = 0 := by omega
  have hq : IntKind.i64.wrap (a.tdiv b) = a.tdiv b := wrap_small (by omega) (by omega)
  have hq' : IntKind.i64.wrap (a.tdiv b - 1) = a.tdiv b - 1 := wrap_small (by omega) (by omega)
  simp only [push_cast, seval, hP, hq, hq', hb0]
  have e1 := Int.mul_tdiv_add_tmod a b
  have e2 := Int.tmod_lt_of_pos a hb
  refine ⟨fun h => ends_tmp ?_ (Keeps.refl _) (.int _ _), fun h => ends_tmp ?_ (Keeps.refl _) (.int _ _)⟩
  · show PV.int _ _ = _
    congr 1
    symm
    have e3 := Int.lt_tmod_of_pos a hb
    refine ((Int.ediv_emod_unique (r := a.tmod b + b) hb).2 ⟨?_, by omega, by omega⟩).1
    rw [Int.mul_sub]; omega
  · show PV.int _ _ = _
    congr 1
    symm
    refine ((Int.ediv_emod_unique (r := a.tmod b) hb).2 ⟨?_, by omega, by omega⟩).1
    omega
theorem hundredths_fn (n d : Int) : Pure E 51 [fracP n d] (.tup [.int .i64 (if FV n d then (200 * n + d) / (2 * d) else 0), .bool (decide (FV n d))]) := by
  intro σ nx
  refine fn_of_body hE (by rw [hP]; exact Tryz.func51) rfl rfl (by kernel_rfl) (Nat.le_of_ble_eq_true rfl) (Nat.le_refl _) fun hwf hlt => ?_
  refine awp_begin _ _ _ _ _ (cc := _) (by conv => lhs; simp only [push_cast, seval, Tryz.f51]) ?_
  simp only [push_cast, seval, hP, fracP]
  refine wcall_pure _ _ _ _ _ _ (valid_fn hE hP n d) ?_
  simp only [push_cast, seval, hP, fracP]
  refine ⟨fun h => ?_, fun h => ?_⟩
  · exact ends_tmp2 (by simp only [push_cast, seval, if_neg h]) (by simp only [push_cast, seval, decide_eq_false h]) (hwf.keep1 _) (.int _ _) (.bool _)
  · obtain ⟨h1, h2, h3, h4, _⟩ := id h
    have w1 : IntKind.i64.wrap (200 * n) = 200 * n := wrap_small (by omega) (by omega)
    have w2 : IntKind.i64.wrap (2 * d) = 2 * d := wrap_small (by omega) (by omega)
    have w3 : IntKind.i64.wrap (200 * n + d) = 200 * n + d := wrap_small (by omega) (by omega)
    simp only [push_cast, seval, w1, w2, w3]
    refine wcall_pure _ _ _ _ _ _ (floor_fn hE hP (by omega) (by omega) (by omega)) ?_
    simp only [push_cast, seval, hP, fracP]
    exact ends_tmp2 (by simp only [push_cast, seval, if_pos h]) (by simp only [push_cast, seval, decide_eq_true h]) (hwf.keep1 _) (.int _ _) (.bool _)
end
end Go.Proofs.YtdajoilaakiinaaGreatDoor.Awp

/- slices.IndexFunc, ContainsFunc on values that nobody writes. -/
namespace Go.Proofs.YtdajoilaakiinaaGreatDoor.Awp
open Go Go.Proofs
set_option linter.unusedSimpArgs false
set_option linter.unusedVariables false
set_option maxRecDepth 10000
set_option maxHeartbeats 4000000
/-- The contract of a function that only computes, in a store. -/
def At (E : Env) (σ : Store) (nx : Nat) (f : FuncId) (args : List PV) (v : PV) : Prop := ∀ m, nx ≤ m → Fn E f σ m args (.ret v) σ m
theorem Pure.at {E : Env} {σ : Store} {nx : Nat} {f : FuncId} {args : List PV} {v : PV} (h : Pure E f args v) : At E σ nx f args v := fun m _ => h σ m
def idx {α : Type} (p : α → Bool) (es : List α) : Int := match es.findIdx? p with
  | some i => i
  | none => -1
theorem idx_here {α : Type} {p : α → Bool} {es : List α} {i : Nat} {e : α} (h : es[i]? = some e) (hp : p e = true) (hb : ∀ j x, j < i → es[j]? = some x → p x = false) : idx p es = i := by
  unfold idx
  have : es.findIdx? p = some i := by
    rw [List.findIdx?_eq_some_iff_getElem]
    obtain ⟨hi, he⟩ := List.getElem?_eq_some_iff.1 h
    refine ⟨hi, by rw [he]; exact hp, fun j hj => ?_⟩
    rw [hb j _ hj (List.getElem?_eq_getElem (by omega))]
    simp
  rw [this]
theorem idx_none {α : Type} {p : α → Bool} {es : List α} (hb : ∀ j x, j < es.length → es[j]? = some x → p x = false) : idx p es = -1 := by
  unfold idx
  have : es.findIdx? p = none := by
    rw [List.findIdx?_eq_none_iff]
    intro x hx
    obtain ⟨j, hj⟩ := List.getElem?_of_mem hx
    exact hb j x (List.getElem?_eq_some_iff.1 hj).1 hj
  rw [this]
theorem idx_any {α : Type} (p : α → Bool) (es : List α) : decide (idx p es ≥ 0) = es.any p := by
  unfold idx
  cases h : es.findIdx? p with
  | none =>
    rw [List.findIdx?_eq_none_iff] at h
    have : es.any p = false := by rw [List.any_eq_false]; intro x hx; rw [h x hx]; simp
    rw [this]; rfl
  | some i =>
    rw [List.findIdx?_eq_some_iff_getElem] at h
    obtain ⟨hi, hp, _⟩ := h
    have : es.any p = true := List.any_eq_true.2 ⟨_, List.getElem_mem hi, hp⟩
    rw [this]
    exact decide_eq_true (by simp only; omega)
section
variable {E : Env} (hE : Good E) (hP : E.P = Tryz.prog)
include hE hP
theorem indexFunc_line {σ : Store} {nx : Nat} {g : FuncId} {first caps : List PV} {es : List (List PV)} {p : List PV → Bool} (hlen : ∀ e ∈ es, e.length = 7) (hbig : es.length ≤ 4611686018427387904) (h : ∀ e ∈ es, At E σ nx g (first ++ [.agg e] ++ caps) (.bool (p e))) :
    At E σ nx 59 [.list es, .fn g first caps] (.int .i64 (idx p es)) := by
  intro nx1 hn1
  refine fn_of_body hE (by rw [hP]; exact Tryz.func59) rfl rfl (by kernel_rfl) (Nat.le_of_ble_eq_true rfl) (Nat.le_refl _) fun hwf hlt => ?_
  refine awp_begin _ _ _ _ _ (cc := _) (by conv => lhs; simp only [push_cast, seval, Tryz.f59]) ?_
  simp only [push_cast, seval, hP]
  refine wloop_by (fun m sl σ' nx' => ∃ i : Nat, i ≤ es.length ∧ (∀ j x, j < i → es[j]? = some x → p x = false) ∧ m = es.length - i ∧ sl 0 = .list es ∧ sl 1 = .fn g first caps ∧ sl 7 = .int .i64 es.length ∧ sl 8 = .int .i64 i ∧ σ' = σ ∧ nx1 ≤ nx') es.length ⟨0, by omega, fun j x hj => by omega, rfl, rfl, rfl, rfl, rfl, rfl, by omega⟩ ?_
  rintro m sl σ' nx' ⟨i, hi, hb, hm, h0, h1, h7, h8, rfl, hnx⟩
  simp only [push_cast, seval, hP, h0, h1, h7, h8]
  refine ⟨fun hc => ?_, fun hc => ?_⟩
  · have hlt2 : i < es.length := by omega
    have he : es[i]? = some es[i] := List.getElem?_eq_getElem hlt2
    have hmem : es[i] ∈ es := List.getElem_mem hlt2
    have hl7 : es[i].length = 7 := hlen _ hmem
    have ht : es[i].take 7 = es[i] := List.take_of_length_le (by omega)
    have hi0 : (0 : Int) ≤ i := by omega
    have hw : IntKind.i64.wrap ((i : Int) + 1) = (i : Int) + 1 := wrap_small (by omega) (by omega)
    simp only [Int.toNat_natCast, he, Option.getD_some, hl7, ht, hc, hi0, and_self, true_and, Nat.le_refl]
    cases hp : p es[i] with
    | true =>
      have hf := h _ hmem
      rw [hp] at hf
      refine wcall_of _ _ _ _ _ _ (hf _ (by omega)) ?_
      simp only [push_cast, seval, hP]
      refine ends_tmp ?_ (Keeps.refl _) (.int _ _)
      show PV.int _ _ = _
      rw [idx_here he hp hb]
    | false =>
      have hf := h _ hmem
      rw [hp] at hf
      refine wcall_of _ _ _ _ _ _ (hf _ (by omega)) ?_
      simp only [push_cast, seval, hP, h0, h1, h7, h8, hw]
      refine ⟨es.length - (i + 1), by omega, i + 1, by omega, fun j x hj hx => ?_, rfl, by simp, by omega⟩
      by_cases hji : j = i
      · subst hji
        rw [he] at hx
        cases hx
        exact hp
      · exact hb j x (by omega) hx
  · refine ends_tmp ?_ (Keeps.refl _) (.int _ _)
    show PV.int _ _ = _
    rw [idx_none (fun j x hj hx => hb j x (by omega) hx)]
theorem containsFunc_line {σ : Store} {nx : Nat} {g : FuncId} {first caps : List PV} {es : List (List PV)} {p : List PV → Bool} (hlen : ∀ e ∈ es, e.length = 7) (hbig : es.length ≤ 4611686018427387904) (h : ∀ e ∈ es, At E σ nx g (first ++ [.agg e] ++ caps) (.bool (p e))) :
    At E σ nx 31 [.list es, .fn g first caps] (.bool (es.any p)) := by
  intro nx1 hn1
  refine fn_of_body hE (by rw [hP]; exact Tryz.func31) rfl rfl (by kernel_rfl) (Nat.le_of_ble_eq_true rfl) (Nat.le_refl _) fun hwf hlt => ?_
  refine awp_begin _ _ _ _ _ (cc := _) (by conv => lhs; simp only [push_cast, seval, Tryz.f31]) ?_
  simp only [push_cast, seval, hP]
  refine wcall_of _ _ _ _ _ _ (indexFunc_line hE hP hlen hbig h _ (by omega)) ?_
  simp only [push_cast, seval, hP]
  exact ends_tmp (by show PV.bool _ = _; rw [← idx_any]) (Keeps.refl _) (.bool _)
end
end Go.Proofs.YtdajoilaakiinaaGreatDoor.Awp

/- Comparing structs. -/
namespace Go.Proofs.YtdajoilaakiinaaGreatDoor.Awp
open Go Go.Proofs
set_option linter.unusedSimpArgs false
set_option maxRecDepth 10000
theorem seq_frac (xs ys : Array Value) (r : Bool) (h1 : xs.toList.map vk = [.int, .int]) (h2 : ys.toList.map vk = [.int, .int]) (hv : veq xs.toList ys.toList = some r) (x y : Operand) (w : World) :
    (do eqGuard .eql 27 x y (.agg xs) (.agg ys); binOp .eql 27 (.agg xs) (.agg ys) : Sem Value).run Tryz.prog w = .ok (.bool r) w ∧
    (do eqGuard .neq 27 x y (.agg xs) (.agg ys); binOp .neq 27 (.agg xs) (.agg ys) : Sem Value).run Tryz.prog w = .ok (.bool (!r)) w := by
  obtain ⟨xs⟩ := xs
  obtain ⟨ys⟩ := ys
  rcases xs with _ | ⟨x1, _ | ⟨x2, _ | ⟨x3, xs⟩⟩⟩ <;> simp only [List.map_cons, List.map_nil, reduceCtorEq, List.cons.injEq, and_false, false_and] at h1
  rcases ys with _ | ⟨y1, _ | ⟨y2, _ | ⟨y3, ys⟩⟩⟩ <;> simp only [List.map_cons, List.map_nil, reduceCtorEq, List.cons.injEq, and_false, false_and] at h2
  · skip
    cases x1 <;> simp [vk] at h1
    cases x2 <;> simp [vk] at h1
    cases y1 <;> simp [vk] at h2
    cases y2 <;> simp [vk] at h2
    rename_i k1 a1 k2 a2 k3 b1 k4 b2
    simp only [veq] at hv
    split at hv
    · rename_i hk
      subst hk
      split at hv
      · rename_i hk
        subst hk
        simp only [Option.map_some, Option.some.injEq, Bool.and_true] at hv
        subst hv
        have he : ∀ w : World, (Op.equalIn 10000 27 (Value.agg #[Value.int k1 a1, Value.int k2 a2]) (Value.agg #[Value.int k1 b1, Value.int k2 b2])).run Tryz.prog w = .ok (decide (a1 = b1) && decide (a2 = b2)) w := by
          intro w
          rw [run_equalIn_agg w 9999 27 _ _ (by simp only [Program.fieldsOf, Tryz.underlying27]) Tryz.stoodInHeld27]
          simp only [Program.fieldsOf, Tryz.underlying27]
          simp [go_sem, Op.eqFields, Tryz.underlying3]
          by_cases e1 : a1 = b1 <;> by_cases e2 : a2 = b2 <;> simp [e1, e2]
        constructor
        · simp only [Sem.run_bind, run_eqGuard_agg _ _ _ _ _ _ _ Tryz.eqGuardType27, Result.andThen_ok, run_eql_struct]
          erw [he w]
          rfl
        · simp only [Sem.run_bind, run_eqGuard_agg _ _ _ _ _ _ _ Tryz.eqGuardType27, Result.andThen_ok, run_neq_struct]
          erw [he w]
          rfl
      · simp at hv
    · cases hv
theorem seq_part (xs ys : Array Value) (r : Bool) (h1 : xs.toList.map vk = [.str, .int, .int]) (h2 : ys.toList.map vk = [.str, .int, .int]) (hv : veq xs.toList ys.toList = some r) (x y : Operand) (w : World) :
    (do eqGuard .eql 50 x y (.agg xs) (.agg ys); binOp .eql 50 (.agg xs) (.agg ys) : Sem Value).run Tryz.prog w = .ok (.bool r) w ∧
    (do eqGuard .neq 50 x y (.agg xs) (.agg ys); binOp .neq 50 (.agg xs) (.agg ys) : Sem Value).run Tryz.prog w = .ok (.bool (!r)) w := by
  obtain ⟨xs⟩ := xs
  obtain ⟨ys⟩ := ys
  rcases xs with _ | ⟨x1, _ | ⟨x2, _ | ⟨x3, _ | ⟨x4, xs⟩⟩⟩⟩ <;> simp only [List.map_cons, List.map_nil, reduceCtorEq, List.cons.injEq, and_false, false_and] at h1
  rcases ys with _ | ⟨y1, _ | ⟨y2, _ | ⟨y3, _ | ⟨y4, ys⟩⟩⟩⟩ <;> simp only [List.map_cons, List.map_nil, reduceCtorEq, List.cons.injEq, and_false, false_and] at h2
  cases x1 <;> simp [vk] at h1
  cases x2 <;> simp [vk] at h1
  cases x3 <;> simp [vk] at h1
  cases y1 <;> simp [vk] at h2
  cases y2 <;> simp [vk] at h2
  cases y3 <;> simp [vk] at h2
  rename_i s1 k1 a1 k2 a2 s2 k3 b1 k4 b2
  simp only [veq] at hv
  split at hv
  · rename_i hk
    subst hk
    split at hv
    · rename_i hk
      subst hk
      simp only [Option.map_some, Option.some.injEq, Bool.and_true] at hv
      subst hv
      have he : ∀ w : World, (Op.equalIn 10000 50 (Value.agg #[Value.string s1, Value.int k1 a1, Value.int k2 a2]) (Value.agg #[Value.string s2, Value.int k1 b1, Value.int k2 b2])).run Tryz.prog w = .ok (decide (s1 = s2) && (decide (a1 = b1) && decide (a2 = b2))) w := by
        intro w
        rw [run_equalIn_agg w 9999 50 _ _ (by simp only [Program.fieldsOf, Tryz.underlying50]) Tryz.stoodInHeld50]
        simp only [Program.fieldsOf, Tryz.underlying50]
        simp [go_sem, Op.eqFields, Tryz.underlying9, Tryz.underlying27]
        by_cases e : s1 = s2
        · subst e
          by_cases e1 : a1 = b1 <;> by_cases e2 : a2 = b2 <;> simp [e1, e2]
        · have hne : ¬ s1.toList = s2.toList := fun h => by
            have hb := bytes_eq s1 s2
            rw [h] at hb
            simp [e] at hb
          simp [e, hne]
      have hx : ∀ w : World, (Op.equalIn 10000 50 (Value.agg #[Value.string s1, Value.int k1 a1, Value.int k2 a2]) (Value.agg #[Value.string s2, Value.int k1 b1, Value.int k2 b2])).run Tryz.prog w = .ok (decide (s1 = s2) && (decide (a1 = b1) && decide (a2 = b2))) w := he
      constructor
      · simp only [Sem.run_bind, run_eqGuard_agg _ _ _ _ _ _ _ Tryz.eqGuardType50, Result.andThen_ok, run_eql_struct]
        erw [he w]
        rfl
      · simp only [Sem.run_bind, run_eqGuard_agg _ _ _ _ _ _ _ Tryz.eqGuardType50, Result.andThen_ok, run_neq_struct]
        erw [he w]
        rfl
    · simp at hv
  · cases hv
/-- The seat's environment: the variable credit.zero, and the structs that are compared. -/
noncomputable def EE : Env := { P := Tryz.prog, G := fun g => if g = 0 then some [.int .i64 0, .int .i64 1] else if g = 1 then some (Lib.pow10Tab.map fun z => .int .u64 z) else none, seq := fun t => if t = 27 then some [.int, .int] else if t = 50 then some [.str, .int, .int] else none }
theorem goodEE : Good EE := by
  refine ⟨⟨by kernel_rfl, fun t sh h xs ys r h1 h2 hv x y w => ?_⟩, fun g cs h n => ?_⟩
  · simp only [EE] at h
    split at h
    · rename_i ht
      cases h
      subst ht
      exact seq_frac xs ys r h1 h2 hv x y w
    · split at h
      · rename_i ht
        cases h
        subst ht
        exact seq_part xs ys r h1 h2 hv x y w
      · cases h
  · simp only [EE] at h
    split at h
    · cases h
      refine .cells _ fun c hc => ?_
      simp only [List.mem_cons, List.not_mem_nil, or_false] at hc
      rcases hc with rfl | rfl
      · exact .int _ _
      · exact .int _ _
    · split at h
      · cases h
        refine .cells _ fun c hc => ?_
        obtain ⟨z, _, rfl⟩ := List.mem_map.1 hc
        exact .int _ _
      · cases h
theorem EE_P : EE.P = Tryz.prog := rfl
theorem EE_zero : EE.G 0 = some [.int .i64 0, .int .i64 1] := rfl
theorem EE_pow10 : EE.G 1 = some (Lib.pow10Tab.map fun z => .int .u64 z) := rfl
/-- So the contracts hold. -/
theorem add_EE (n d n' d' : Int) : Pure EE 82 [fracP n d, fracP n' d'] (.tup [fracP (faddN n d n' d') (faddD n d n' d'), .int .i64 (faddE n d n' d')]) := add_fn goodEE EE_P n d n' d'
theorem EE_seq : EE.seq 27 = some [.int, .int] := by simp [EE]
theorem EE_seqP : EE.seq 50 = some [.str, .int, .int] := by simp [EE]
attribute [push_cast] fracP lineP EE_seq EE_seqP
end Go.Proofs.YtdajoilaakiinaaGreatDoor.Awp

/- Endings by freezing; names. -/
namespace Go.Proofs.YtdajoilaakiinaaGreatDoor.Awp
open Go Go.Proofs
set_option linter.unusedSimpArgs false
set_option linter.unusedVariables false
set_option maxRecDepth 10000
set_option maxHeartbeats 4000000

theorem ends_fz {E : Env} {σ σ' : Store} {nx nx' : Nat} {rs : List ResultVar} {sl : Nat → PV} {v : PV} {c : Prop} {vs : List PV} (hr : resultsOf E ⟨sl, σ', nx'⟩ rs = some (c, vs)) (hc : c) (hz : Fz σ' σ (tupOf vs) v) (hk : Keeps σ σ') (hl : Lt nx v) :
    Ends E σ nx rs (.ret v) σ nx .ret ⟨sl, σ', nx'⟩ := ⟨c, vs, v, hr, hc, rfl, ⟨Nat.le_refl _, fun k o h => .inl ⟨h, hk k o h⟩, hz, hl⟩⟩
theorem fz_row {σ σ' : Store} {k len : Nat} {es : List (List PV)} (h : σ k = some (.row es)) (h' : σ' k = none) (hl : len = es.length) : Fz σ σ' (.row k 0 len) (.list es) := by
  refine .row k 0 len es es h h' (by omega) (by omega) ?_ ?_
  · intro j cs cs' h1 h2
    rw [Nat.zero_add, h2] at h1
    cases h1
    rfl
  · intro j cs cs' i x y h1 h2 h3 h4
    rw [Nat.zero_add, h2] at h1
    cases h1
    rw [h3] at h4
    cases h4
    exact .refl _

theorem str_empty (s : ByteArray) : (s = ⟨#[]⟩) = (s.size = 0) := propext ⟨fun h => by rw [h]; rfl, fun h => by
  obtain ⟨⟨l⟩⟩ := s
  have : l.length = 0 := h
  rw [List.length_eq_zero_iff.1 this]⟩
theorem empty_str (s : ByteArray) : (⟨#[]⟩ = s) = (s.size = 0) := by rw [← str_empty]; exact propext eq_comm
theorem bsize_mk (a : Array UInt8) : (ByteArray.mk a).size = a.size := rfl
attribute [push_cast] str_empty empty_str ByteArray.size_append bsize_mk
/-! ### bytes -/
def letterS (c : Int) : Bool := decide (c ≥ 97) && decide (c ≤ 122)
def digitS (c : Int) : Bool := decide (c ≥ 48) && decide (c ≤ 57)
def inNameS (c : Int) : Bool := letterS c || digitS c || decide (c = 95)
theorem letter_fn (c : Int) : Pure EE 120 [.int .u8 c] (.bool (letterS c)) := by
  intro σ nx
  refine fn_of_body goodEE (by rw [EE_P]; exact Tryz.func120) rfl rfl (by kernel_rfl) (Nat.le_of_ble_eq_true rfl) (Nat.le_refl _) fun hwf hlt => ?_
  rw [show Tryz.f120.results.toList = [.tmp 2] from rfl]
  refine awp_begin _ _ _ _ _ (cc := _) (by conv => lhs; simp only [push_cast, seval, Tryz.f120]) ?_
  simp only [push_cast, seval, EE_P]
  repeat' (first | simp only [push_cast, seval, EE_P] | simp (disch := omega) only [wrap_fits] | ((first | with_reducible apply wcall_pure | with_reducible apply wdcall_pure); focus (first | assumption | fail)) | (with_reducible refine wguard_split_t (fun h => ?_) (fun h => ?_)) | (with_reducible refine wguard_split_f (fun h => ?_) (fun h => ?_)) | (with_reducible refine wcond_split (fun h => ?_) (fun h => ?_)) | (with_reducible refine wdguard_split_t (fun h => ?_) (fun h => ?_)) | (with_reducible refine wdguard_split_f (fun h => ?_) (fun h => ?_)) | (with_reducible refine And.intro (fun h => ?_) (fun h => ?_)) | (with_reducible apply And.intro; focus omega))
  all_goals ((refine ends_ret (by simp only [resultsOf, resOf, push_cast, seval, EE_P]; rfl) (by simp only [push_cast, seval, EE_P]) ?_ (by repeat' (first | exact Keeps.refl _ | assumption | exact (hwf.keep1 _) | refine Keeps.new hwf ?_ (by omega) _)) (by simp only [lt_int, lt_bool, lt_str, lt_nil, lt_empty, lt_agg, lt_tup, lt_list, lt_cells, lt_fn, lt_nilp, lt_nilfn, lt_nili, List.mem_cons, List.not_mem_nil, or_false, forall_eq_or_imp, forall_eq, and_true, true_and, and_self, implies_true, *]; try omega)); (try simp only [tupOf, push_cast, seval, EE_P]))
  all_goals simp [letterS, *]
theorem digit_fn (c : Int) : Pure EE 142 [.int .u8 c] (.bool (digitS c)) := by
  intro σ nx
  refine fn_of_body goodEE (by rw [EE_P]; exact Tryz.func142) rfl rfl (by kernel_rfl) (Nat.le_of_ble_eq_true rfl) (Nat.le_refl _) fun hwf hlt => ?_
  rw [show Tryz.f142.results.toList = [.tmp 2] from rfl]
  refine awp_begin _ _ _ _ _ (cc := _) (by conv => lhs; simp only [push_cast, seval, Tryz.f142]) ?_
  simp only [push_cast, seval, EE_P]
  repeat' (first | simp only [push_cast, seval, EE_P] | simp (disch := omega) only [wrap_fits] | ((first | with_reducible apply wcall_pure | with_reducible apply wdcall_pure); focus (first | assumption | fail)) | (with_reducible refine wguard_split_t (fun h => ?_) (fun h => ?_)) | (with_reducible refine wguard_split_f (fun h => ?_) (fun h => ?_)) | (with_reducible refine wcond_split (fun h => ?_) (fun h => ?_)) | (with_reducible refine wdguard_split_t (fun h => ?_) (fun h => ?_)) | (with_reducible refine wdguard_split_f (fun h => ?_) (fun h => ?_)) | (with_reducible refine And.intro (fun h => ?_) (fun h => ?_)) | (with_reducible apply And.intro; focus omega))
  all_goals ((refine ends_ret (by simp only [resultsOf, resOf, push_cast, seval, EE_P]; rfl) (by simp only [push_cast, seval, EE_P]) ?_ (by repeat' (first | exact Keeps.refl _ | assumption | exact (hwf.keep1 _) | refine Keeps.new hwf ?_ (by omega) _)) (by simp only [lt_int, lt_bool, lt_str, lt_nil, lt_empty, lt_agg, lt_tup, lt_list, lt_cells, lt_fn, lt_nilp, lt_nilfn, lt_nili, List.mem_cons, List.not_mem_nil, or_false, forall_eq_or_imp, forall_eq, and_true, true_and, and_self, implies_true, *]; try omega)); (try simp only [tupOf, push_cast, seval, EE_P]))
  all_goals simp [digitS, *]
theorem inName_fn (c : Int) : Pure EE 122 [.int .u8 c] (.bool (inNameS c)) := by
  intro σ nx
  refine fn_of_body goodEE (by rw [EE_P]; exact Tryz.func122) rfl rfl (by kernel_rfl) (Nat.le_of_ble_eq_true rfl) (Nat.le_refl _) fun hwf hlt => ?_
  rw [show Tryz.f122.results.toList = [.tmp 2] from rfl]
  refine awp_begin _ _ _ _ _ (cc := _) (by conv => lhs; simp only [push_cast, seval, Tryz.f122]) ?_
  simp only [push_cast, seval, EE_P]
  repeat' (first | simp only [push_cast, seval, EE_P] | simp (disch := omega) only [wrap_fits] | ((first | with_reducible apply wcall_pure | with_reducible apply wdcall_pure); focus (first | assumption | exact digit_fn _ | exact letter_fn _)) | (with_reducible refine wguard_split_t (fun h => ?_) (fun h => ?_)) | (with_reducible refine wguard_split_f (fun h => ?_) (fun h => ?_)) | (with_reducible refine wcond_split (fun h => ?_) (fun h => ?_)) | (with_reducible refine wdguard_split_t (fun h => ?_) (fun h => ?_)) | (with_reducible refine wdguard_split_f (fun h => ?_) (fun h => ?_)) | (with_reducible refine And.intro (fun h => ?_) (fun h => ?_)) | (with_reducible apply And.intro; focus omega))
  all_goals ((refine ends_ret (by simp only [resultsOf, resOf, push_cast, seval, EE_P]; rfl) (by simp only [push_cast, seval, EE_P]) ?_ (by repeat' (first | exact Keeps.refl _ | assumption | exact (hwf.keep1 _) | refine Keeps.new hwf ?_ (by omega) _)) (by simp only [lt_int, lt_bool, lt_str, lt_nil, lt_empty, lt_agg, lt_tup, lt_list, lt_cells, lt_fn, lt_nilp, lt_nilfn, lt_nili, List.mem_cons, List.not_mem_nil, or_false, forall_eq_or_imp, forall_eq, and_true, true_and, and_self, implies_true, *]; try omega)); (try simp only [tupOf, push_cast, seval, EE_P]))
  all_goals simp [inNameS, *]

/-- How many bytes at the front of a string are of a kind, from an index on. -/
def runS (p : Int → Bool) (s : ByteArray) : Nat := (s.data.toList.takeWhile fun b => p (b.toNat : Int)).length
theorem bAt_get {s : ByteArray} {i : Nat} (h : i < s.size) : bAt s i = ((s.data.toList[i]'(by simpa using h)).toNat : Int) := by
  unfold bAt
  simp only [Int.toNat_natCast]
  have : s[i]? = some s[i] := by rw [getElem?_pos s i h]
  rw [this]
  rfl
theorem bAt_range (s : ByteArray) (i : Int) : 0 ≤ bAt s i ∧ bAt s i < 256 := by
  unfold bAt
  generalize s[i.toNat]?.getD 0 = b
  have := b.toNat_lt
  omega
theorem takeWhile_all {α : Type} {p : α → Bool} {l : List α} {n : Nat} (hn : n ≤ l.length) (h : ∀ i (hi : i < l.length), i < n → p l[i] = true) (h' : ∀ hi : n < l.length, p l[n] = false) : (l.takeWhile p).length = n := by
  induction l generalizing n with
  | nil => simp at hn; simp [hn]
  | cons a l ih =>
    cases n with
    | zero =>
      have := h' (by simp)
      simp only [List.getElem_cons_zero] at this
      rw [List.takeWhile_cons, this]
      rfl
    | succ n =>
      have h0 := h 0 (by simp) (by omega)
      simp only [List.getElem_cons_zero] at h0
      rw [List.takeWhile_cons, h0]
      simp only [if_true, List.length_cons]
      rw [ih (n := n) (by simpa using hn) (fun i hi hlt => by have := h (i + 1) (by simp; omega) (by omega); rwa [List.getElem_cons_succ] at this) (fun hi => by have := h' (by simp; omega); rwa [List.getElem_cons_succ] at this)]
theorem runS_eq {p : Int → Bool} {s : ByteArray} {n : Nat} (hn : n ≤ s.size) (h : ∀ i, i < n → p (bAt s i) = true) (h' : n < s.size → p (bAt s n) = false) : runS p s = n := by
  refine takeWhile_all (by simpa using hn) (fun i hi hlt => ?_) (fun hi => ?_)
  · rw [← bAt_get (by simpa using hi)]; exact h i hlt
  · rw [← bAt_get (by simpa using hi)]; exact h' (by simpa using hi)
theorem run_fn (s : ByteArray) (hs : s.size ≤ 4611686018427387904) (g : FuncId) (first caps : List PV) (p : Int → Bool) (h : ∀ b, 0 ≤ b → b < 256 → Pure EE g (first ++ [.int .u8 b] ++ caps) (.bool (p b))) : Pure EE 121 [.str s, .fn g first caps] (.int .i64 (runS p s)) := by
  intro σ nx
  refine fn_of_body goodEE (by rw [EE_P]; exact Tryz.func121) rfl rfl (by kernel_rfl) (Nat.le_of_ble_eq_true rfl) (Nat.le_refl _) fun hwf hlt => ?_
  rw [show Tryz.f121.results.toList = [.tmp 4] from rfl]
  refine awp_begin _ _ _ _ _ (cc := _) (by conv => lhs; simp only [push_cast, seval, Tryz.f121]) ?_
  simp only [push_cast, seval, EE_P]
  refine wloop_by (fun m sl σ' nx' => ∃ i : Nat, i ≤ s.size ∧ (∀ j, j < i → p (bAt s j) = true) ∧ m = s.size - i ∧ sl 0 = .str s ∧ sl 1 = .fn g first caps ∧ sl 5 = .int .i64 i ∧ σ' = σ ∧ nx ≤ nx') s.size ⟨0, by omega, fun j h => by omega, rfl, rfl, rfl, rfl, rfl, by omega⟩ ?_
  rintro m sl σ' nx' ⟨i, hi, hb, hm, h0, h1, h5, rfl, hnx⟩
  have hi0 : (0 : Int) ≤ i := by omega
  have hw : i < s.size → IntKind.i64.wrap ((i : Int) + 1) = (i : Int) + 1 := fun _ => wrap_small (by omega) (by omega)
  simp only [push_cast, seval, EE_P, h0, h1, h5]
  refine ⟨fun hc => ⟨⟨hi0, hc⟩, ?_⟩, fun hc => ?_⟩
  · have hpc := h (bAt s i) (bAt_range s i).1 (bAt_range s i).2
    have hlt' : i < s.size := by omega
    refine wcall_pure _ _ _ _ _ _ (v := ?v) ?h ?_
    case h => exact hpc
    cases hp : p (bAt s i)
    · simp only [push_cast, seval, EE_P, h0, h1, h5]
      ((refine ends_ret (by simp only [resultsOf, resOf, push_cast, seval, EE_P]; rfl) (by simp only [push_cast, seval, EE_P]) ?_ (by repeat' (first | exact Keeps.refl _ | assumption | exact (hwf.keep1 _) | refine Keeps.new hwf ?_ (by omega) _)) (by simp only [lt_int, lt_bool, lt_str, lt_nil, lt_empty, lt_agg, lt_tup, lt_list, lt_cells, lt_fn, lt_nilp, lt_nilfn, lt_nili, List.mem_cons, List.not_mem_nil, or_false, forall_eq_or_imp, forall_eq, and_true, true_and, and_self, implies_true, *]; try omega)); (try simp only [tupOf, push_cast, seval, EE_P]))
      rw [runS_eq hi hb (fun _ => hp)]
    · simp only [push_cast, seval, EE_P, h0, h1, h5, hw hlt']
      refine ⟨s.size - (i + 1), by omega, i + 1, by omega, fun j hj => ?_, rfl, by simp, by omega⟩
      by_cases hji : j = i
      · subst hji; exact hp
      · exact hb j (by omega)
  · repeat (first | simp only [push_cast, seval, EE_P, h0, h1, h5] | simp (disch := omega) only [wrap_fits])
    ((refine ends_ret (by simp only [resultsOf, resOf, push_cast, seval, EE_P]; rfl) (by simp only [push_cast, seval, EE_P]) ?_ (by repeat' (first | exact Keeps.refl _ | assumption | exact (hwf.keep1 _) | refine Keeps.new hwf ?_ (by omega) _)) (by simp only [lt_int, lt_bool, lt_str, lt_nil, lt_empty, lt_agg, lt_tup, lt_list, lt_cells, lt_fn, lt_nilp, lt_nilfn, lt_nili, List.mem_cons, List.not_mem_nil, or_false, forall_eq_or_imp, forall_eq, and_true, true_and, and_self, implies_true, *]; try omega)); (try simp only [tupOf, push_cast, seval, EE_P]))
    rw [runS_eq hi hb (fun h => by omega)]

/-! ### lists of strings -/
def strsP (l : List ByteArray) : PV := .list (l.map fun s => [.str s])
theorem strsP_get {l : List ByteArray} {i : Nat} (h : i < l.length) : (l.map fun s => [PV.str s])[i]? = some [.str l[i]] := by simp [h]
def idxS (l : List ByteArray) (s : ByteArray) : Int := match l.findIdx? (fun x => decide (s = x)) with
  | some i => i
  | none => -1
theorem idxS_here {l : List ByteArray} {s : ByteArray} {i : Nat} (hi : i < l.length) (h : s = l[i]) (hb : ∀ j (hj : j < l.length), j < i → s ≠ l[j]) : idxS l s = i := by
  unfold idxS
  have : l.findIdx? (fun x => decide (s = x)) = some i := by
    rw [List.findIdx?_eq_some_iff_getElem]
    exact ⟨hi, by simpa using h, fun j hj => by simpa using hb j (by omega) hj⟩
  rw [this]
theorem idxS_none {l : List ByteArray} {s : ByteArray} (hb : ∀ j (hj : j < l.length), s ≠ l[j]) : idxS l s = -1 := by
  unfold idxS
  have : l.findIdx? (fun x => decide (s = x)) = none := by
    rw [List.findIdx?_eq_none_iff]
    intro x hx
    obtain ⟨j, hj, rfl⟩ := List.getElem_of_mem hx
    simpa using hb j hj
  rw [this]
def hasS (l : List ByteArray) (s : ByteArray) : Bool := l.any fun x => decide (s = x)
theorem hasS_iff {l : List ByteArray} {s : ByteArray} : hasS l s = true ↔ s ∈ l := by simp [hasS]
theorem idxS_has (l : List ByteArray) (s : ByteArray) : decide (idxS l s ≥ 0) = hasS l s := by
  unfold idxS hasS
  cases hf : l.findIdx? (fun x => decide (s = x)) with
  | none =>
    rw [List.findIdx?_eq_none_iff] at hf
    have : (l.any fun x => decide (s = x)) = false := by rw [List.any_eq_false]; intro x hx; rw [hf x hx]; simp
    rw [this]; rfl
  | some i =>
    rw [List.findIdx?_eq_some_iff_getElem] at hf
    obtain ⟨hi, hp, _⟩ := hf
    have : (l.any fun x => decide (s = x)) = true := List.any_eq_true.2 ⟨_, List.getElem_mem hi, hp⟩
    rw [this]
    exact decide_eq_true (by simp only; omega)
theorem lt_strs {n : Nat} (l : List ByteArray) : Lt n (strsP l) := .list _ fun cs hcs c hc => by
  obtain ⟨s, _, rfl⟩ := List.mem_map.1 hcs
  obtain rfl : c = .str s := by simpa using hc
  exact .str _
theorem index_fn (l : List ByteArray) (hl : l.length ≤ 4611686018427387904) (s : ByteArray) : Pure EE 143 [strsP l, .str s] (.int .i64 (idxS l s)) := by
  intro σ nx
  refine fn_of_body goodEE (by rw [EE_P]; exact Tryz.func143) rfl rfl (by kernel_rfl) (Nat.le_of_ble_eq_true rfl) (Nat.le_refl _) fun hwf hlt => ?_
  rw [show Tryz.f143.results.toList = [.tmp 4] from rfl]
  refine awp_begin _ _ _ _ _ (cc := _) (by conv => lhs; simp only [push_cast, seval, Tryz.f143]) ?_
  simp only [push_cast, seval, EE_P, strsP]
  refine wloop_by (fun m sl σ' nx' => ∃ i : Nat, i ≤ l.length ∧ (∀ j (hj : j < l.length), j < i → s ≠ l[j]) ∧ m = l.length - i ∧ sl 0 = strsP l ∧ sl 1 = .str s ∧ sl 7 = .int .i64 l.length ∧ sl 8 = .int .i64 i ∧ σ' = σ ∧ nx ≤ nx') l.length ⟨0, by omega, fun j h => by omega, rfl, rfl, rfl, by simp [initSl, upd_at], rfl, rfl, by omega⟩ ?_
  rintro m sl σ' nx' ⟨i, hi, hb, hm, h0, h1, h7, h8, rfl, hnx⟩
  have hi0 : (0 : Int) ≤ i := by omega
  have hw : i < l.length → IntKind.i64.wrap ((i : Int) + 1) = (i : Int) + 1 := fun _ => wrap_small (by omega) (by omega)
  repeat (first | simp only [push_cast, seval, EE_P, strsP, h0, h1, h7, h8] | simp (disch := omega) only [wrap_fits])
  refine ⟨fun hc => ?_, fun hc => ?_⟩
  · have hlt' : i < l.length := by omega
    have hget := strsP_get hlt'
    repeat (first | simp only [push_cast, seval, EE_P, h0, h1, h7, h8, Int.toNat_natCast, hget, hi0, List.length_map, hc] | simp (disch := omega) only [wrap_fits])
    refine ⟨fun he => ?_, fun he => ?_⟩
    · ((refine ends_ret (by simp only [resultsOf, resOf, push_cast, seval, EE_P]; rfl) (by simp only [push_cast, seval, EE_P]) ?_ (by repeat' (first | exact Keeps.refl _ | assumption | exact (hwf.keep1 _) | refine Keeps.new hwf ?_ (by omega) _)) (by simp only [lt_int, lt_bool, lt_str, lt_nil, lt_empty, lt_agg, lt_tup, lt_list, lt_cells, lt_fn, lt_nilp, lt_nilfn, lt_nili, List.mem_cons, List.not_mem_nil, or_false, forall_eq_or_imp, forall_eq, and_true, true_and, and_self, implies_true, *]; try omega)); (try simp only [tupOf, push_cast, seval, EE_P]))
      rw [idxS_here hlt' he hb]
    · have hw := hw hlt'
      repeat (first | simp only [push_cast, seval, EE_P, h0, h1, h7, h8, hw] | simp (disch := omega) only [wrap_fits])
      refine ⟨l.length - (i + 1), by omega, i + 1, by omega, fun j hj hji => ?_, rfl, rfl, by simp, by omega⟩
      by_cases hji' : j = i
      · subst hji'; exact he
      · exact hb j hj (by omega)
  · repeat (first | simp only [push_cast, seval, EE_P, h0, h1, h7, h8] | simp (disch := omega) only [wrap_fits])
    ((refine ends_ret (by simp only [resultsOf, resOf, push_cast, seval, EE_P]; rfl) (by simp only [push_cast, seval, EE_P]) ?_ (by repeat' (first | exact Keeps.refl _ | assumption | exact (hwf.keep1 _) | refine Keeps.new hwf ?_ (by omega) _)) (by simp only [lt_int, lt_bool, lt_str, lt_nil, lt_empty, lt_agg, lt_tup, lt_list, lt_cells, lt_fn, lt_nilp, lt_nilfn, lt_nili, List.mem_cons, List.not_mem_nil, or_false, forall_eq_or_imp, forall_eq, and_true, true_and, and_self, implies_true, *]; try omega)); (try simp only [tupOf, push_cast, seval, EE_P]))
    rw [idxS_none (fun j hj => hb j hj (by omega))]
theorem contains_fn (l : List ByteArray) (hl : l.length ≤ 4611686018427387904) (s : ByteArray) : Pure EE 123 [strsP l, .str s] (.bool (hasS l s)) := by
  intro σ nx
  refine fn_of_body goodEE (by rw [EE_P]; exact Tryz.func123) rfl rfl (by kernel_rfl) (Nat.le_of_ble_eq_true rfl) (Nat.le_refl _) fun hwf hlt => ?_
  rw [show Tryz.f123.results.toList = [.tmp 4] from rfl]
  refine awp_begin _ _ _ _ _ (cc := _) (by conv => lhs; simp only [push_cast, seval, Tryz.f123]) ?_
  simp only [push_cast, seval, EE_P, strsP]
  apply wcall_pure
  focus exact index_fn l hl s
  repeat (first | simp only [push_cast, seval, EE_P] | simp (disch := omega) only [wrap_fits])
  ((refine ends_ret (by simp only [resultsOf, resOf, push_cast, seval, EE_P]; rfl) (by simp only [push_cast, seval, EE_P]) ?_ (by repeat' (first | exact Keeps.refl _ | assumption | exact (hwf.keep1 _) | refine Keeps.new hwf ?_ (by omega) _)) (by simp only [lt_int, lt_bool, lt_str, lt_nil, lt_empty, lt_agg, lt_tup, lt_list, lt_cells, lt_fn, lt_nilp, lt_nilfn, lt_nili, List.mem_cons, List.not_mem_nil, or_false, forall_eq_or_imp, forall_eq, and_true, true_and, and_self, implies_true, *]; try omega)); (try simp only [tupOf, push_cast, seval, EE_P]))
  rw [idxS_has]

def kwS : List ByteArray := [(⟨#[112, 111, 105, 110, 116, 115]⟩ : ByteArray), (⟨#[112, 101, 110, 97, 108, 116, 121]⟩ : ByteArray), (⟨#[99, 97, 112]⟩ : ByteArray), (⟨#[102, 108, 111, 111, 114]⟩ : ByteArray), (⟨#[105, 110]⟩ : ByteArray), (⟨#[105, 102]⟩ : ByteArray), (⟨#[97, 110, 100]⟩ : ByteArray), (⟨#[111, 114]⟩ : ByteArray), (⟨#[110, 111, 116]⟩ : ByteArray), (⟨#[116, 114, 117, 101]⟩ : ByteArray), (⟨#[102, 97, 108, 115, 101]⟩ : ByteArray), (⟨#[109, 105, 110]⟩ : ByteArray), (⟨#[109, 97, 120]⟩ : ByteArray)]
theorem keywords_fn : Pure EE 124 [] (strsP kwS) := by
  intro σ nx
  refine fn_of_body goodEE (by rw [EE_P]; exact Tryz.func124) rfl rfl (by kernel_rfl) (Nat.le_of_ble_eq_true rfl) (Nat.le_refl _) fun hwf hlt => ?_
  rw [show Tryz.f124.results.toList = [.tmp 0] from rfl]
  refine awp_begin _ _ _ _ _ (cc := _) (by conv => lhs; simp only [push_cast, seval, Tryz.f124]) ?_
  simp only [push_cast, seval, EE_P]
  exact ends_fz (by simp only [resultsOf, resOf, push_cast, seval, EE_P]; rfl) (by simp only [push_cast, seval, and_self]) (fz_row (k := nx + 1) (upd_same ..) (hwf.none (by omega)) rfl) (by repeat' (first | exact Keeps.refl _ | assumption | exact (hwf.keep1 _) | refine Keeps.new hwf ?_ (by omega) _)) (lt_strs _)
/-- Is a string a name? -/
def nameS (s : ByteArray) : Bool := decide (s.size ≠ 0) && decide ((s.size : Int) ≤ 16) && letterS (bAt s 0) && decide ((runS inNameS s : Int) = s.size) && !(hasS kwS s)
theorem name_fn (s : ByteArray) : Pure EE 105 [.str s] (.bool (nameS s)) := by
  intro σ nx
  refine fn_of_body goodEE (by rw [EE_P]; exact Tryz.func105) rfl rfl (by kernel_rfl) (Nat.le_of_ble_eq_true rfl) (Nat.le_refl _) fun hwf hlt => ?_
  rw [show Tryz.f105.results.toList = [.tmp 2] from rfl]
  refine awp_begin _ _ _ _ _ (cc := _) (by conv => lhs; simp only [push_cast, seval, Tryz.f105]) ?_
  simp only [push_cast, seval, EE_P]
  repeat' (first | simp only [push_cast, seval, EE_P] | simp (disch := omega) only [wrap_fits] | ((first | with_reducible apply wcall_pure | with_reducible apply wdcall_pure); focus (first | assumption | exact run_fn _ (by omega) _ [] [] _ (fun b _ _ => inName_fn b) | exact keywords_fn | exact contains_fn kwS (by decide) _ | exact letter_fn _)) | (with_reducible refine wguard_split_t (fun h => ?_) (fun h => ?_)) | (with_reducible refine wguard_split_f (fun h => ?_) (fun h => ?_)) | (with_reducible refine wcond_split (fun h => ?_) (fun h => ?_)) | (with_reducible refine wdguard_split_t (fun h => ?_) (fun h => ?_)) | (with_reducible refine wdguard_split_f (fun h => ?_) (fun h => ?_)) | (with_reducible refine And.intro (fun h => ?_) (fun h => ?_)) | (with_reducible apply And.intro; focus omega))
  all_goals ((refine ends_ret (by simp only [resultsOf, resOf, push_cast, seval, EE_P]; rfl) (by simp only [push_cast, seval, EE_P]) ?_ (by repeat' (first | exact Keeps.refl _ | assumption | exact (hwf.keep1 _) | refine Keeps.new hwf ?_ (by omega) _)) (by simp only [lt_int, lt_bool, lt_str, lt_nil, lt_empty, lt_agg, lt_tup, lt_list, lt_cells, lt_fn, lt_nilp, lt_nilfn, lt_nili, List.mem_cons, List.not_mem_nil, or_false, forall_eq_or_imp, forall_eq, and_true, true_and, and_self, implies_true, *]; try omega)); (try simp only [tupOf, push_cast, seval, EE_P]))
  all_goals simp [nameS, bAt, *]
end Go.Proofs.YtdajoilaakiinaaGreatDoor.Awp

/- Names as expressions: rubrictext.FormatExpression at a name; isName. -/
namespace Go.Proofs.YtdajoilaakiinaaGreatDoor.Awp
open Go Go.Proofs
set_option linter.unusedSimpArgs false
set_option linter.unusedVariables false
set_option maxRecDepth 10000
set_option maxHeartbeats 4000000

/-- The expression that is a name. -/
def nameP (s : ByteArray) : PV := .agg [.int .i64 2, .str s, .int .i64 0, .int .i64 0, .int .i64 0, .nil]
attribute [push_cast] nameP
theorem tzero_expr : tzero Tryz.prog 94 = some [.int .i64 0, .str ⟨#[]⟩, .int .i64 0, .int .i64 0, .int .i64 0, .nil] := by kernel_rfl
attribute [push_cast] tzero_expr
theorem depth_name (s : ByteArray) : Pure EE 92 [nameP s] (.int .i64 1) := by
  intro σ nx
  refine fn_of_body goodEE (by rw [EE_P]; exact Tryz.func92) rfl rfl (by kernel_rfl) (Nat.le_of_ble_eq_true rfl) (Nat.le_refl _) fun hwf hlt => ?_
  rw [show Tryz.f92.results.toList = [.tmp 2] from rfl]
  refine awp_begin _ _ _ _ _ (cc := _) (by conv => lhs; simp only [push_cast, seval, Tryz.f92]) ?_
  simp only [push_cast, seval, EE_P]
  apply wloop_once
  repeat' (first | simp only [push_cast, seval, EE_P] | simp (disch := omega) only [wrap_fits] | ((first | with_reducible apply wcall_pure | with_reducible apply wdcall_pure); focus (first | assumption | fail)) | (with_reducible refine wguard_split_t (fun h => ?_) (fun h => ?_)) | (with_reducible refine wguard_split_f (fun h => ?_) (fun h => ?_)) | (with_reducible refine wcond_split (fun h => ?_) (fun h => ?_)) | (with_reducible refine wdguard_split_t (fun h => ?_) (fun h => ?_)) | (with_reducible refine wdguard_split_f (fun h => ?_) (fun h => ?_)) | (with_reducible refine And.intro (fun h => ?_) (fun h => ?_)) | (with_reducible apply And.intro; focus omega))
  ((refine ends_ret (by simp only [resultsOf, resOf, push_cast, seval, EE_P]; rfl) (by simp only [push_cast, seval, EE_P]) ?_ (by repeat' (first | exact Keeps.refl _ | assumption | exact (hwf.keep1 _) | refine Keeps.new hwf ?_ (by omega) _)) (by simp only [lt_int, lt_bool, lt_str, lt_nil, lt_empty, lt_agg, lt_tup, lt_list, lt_cells, lt_fn, lt_nilp, lt_nilfn, lt_nili, List.mem_cons, List.not_mem_nil, or_false, forall_eq_or_imp, forall_eq, and_true, true_and, and_self, implies_true, *]; try omega)); (try simp only [tupOf, push_cast, seval, EE_P]))
theorem right_name (s : ByteArray) : Pure EE 93 [nameP s] (.bool (nameS s)) := by
  intro σ nx
  refine fn_of_body goodEE (by rw [EE_P]; exact Tryz.func93) rfl rfl (by kernel_rfl) (Nat.le_of_ble_eq_true rfl) (Nat.le_refl _) fun hwf hlt => ?_
  rw [show Tryz.f93.results.toList = [.tmp 2] from rfl]
  refine awp_begin _ _ _ _ _ (cc := _) (by conv => lhs; simp only [push_cast, seval, Tryz.f93]) ?_
  simp only [push_cast, seval, EE_P]
  repeat' (first | simp only [push_cast, seval, EE_P] | simp (disch := omega) only [wrap_fits] | ((first | with_reducible apply wcall_pure | with_reducible apply wdcall_pure); focus (first | assumption | exact name_fn _)) | (with_reducible refine wguard_split_t (fun h => ?_) (fun h => ?_)) | (with_reducible refine wguard_split_f (fun h => ?_) (fun h => ?_)) | (with_reducible refine wcond_split (fun h => ?_) (fun h => ?_)) | (with_reducible refine wdguard_split_t (fun h => ?_) (fun h => ?_)) | (with_reducible refine wdguard_split_f (fun h => ?_) (fun h => ?_)) | (with_reducible refine And.intro (fun h => ?_) (fun h => ?_)) | (with_reducible apply And.intro; focus omega))
  all_goals ((refine ends_ret (by simp only [resultsOf, resOf, push_cast, seval, EE_P]; rfl) (by simp only [push_cast, seval, EE_P]) ?_ (by repeat' (first | exact Keeps.refl _ | assumption | exact (hwf.keep1 _) | refine Keeps.new hwf ?_ (by omega) _)) (by simp only [lt_int, lt_bool, lt_str, lt_nil, lt_empty, lt_agg, lt_tup, lt_list, lt_cells, lt_fn, lt_nilp, lt_nilfn, lt_nili, List.mem_cons, List.not_mem_nil, or_false, forall_eq_or_imp, forall_eq, and_true, true_and, and_self, implies_true, *]; try omega)); (try simp only [tupOf, push_cast, seval, EE_P]))
  all_goals simp [*]
theorem format_name (s : ByteArray) : Pure EE 94 [nameP s] (.str s) := by
  intro σ nx
  refine fn_of_body goodEE (by rw [EE_P]; exact Tryz.func94) rfl rfl (by kernel_rfl) (Nat.le_of_ble_eq_true rfl) (Nat.le_refl _) fun hwf hlt => ?_
  rw [show Tryz.f94.results.toList = [.tmp 2] from rfl]
  refine awp_begin _ _ _ _ _ (cc := _) (by conv => lhs; simp only [push_cast, seval, Tryz.f94]) ?_
  simp only [push_cast, seval, EE_P]
  repeat' (first | simp only [push_cast, seval, EE_P] | simp (disch := omega) only [wrap_fits] | ((first | with_reducible apply wcall_pure | with_reducible apply wdcall_pure); focus (first | assumption | fail)) | (with_reducible refine wguard_split_t (fun h => ?_) (fun h => ?_)) | (with_reducible refine wguard_split_f (fun h => ?_) (fun h => ?_)) | (with_reducible refine wcond_split (fun h => ?_) (fun h => ?_)) | (with_reducible refine wdguard_split_t (fun h => ?_) (fun h => ?_)) | (with_reducible refine wdguard_split_f (fun h => ?_) (fun h => ?_)) | (with_reducible refine And.intro (fun h => ?_) (fun h => ?_)) | (with_reducible apply And.intro; focus omega))
  all_goals ((refine ends_ret (by simp only [resultsOf, resOf, push_cast, seval, EE_P]; rfl) (by simp only [push_cast, seval, EE_P]) ?_ (by repeat' (first | exact Keeps.refl _ | assumption | exact (hwf.keep1 _) | refine Keeps.new hwf ?_ (by omega) _)) (by simp only [lt_int, lt_bool, lt_str, lt_nil, lt_empty, lt_agg, lt_tup, lt_list, lt_cells, lt_fn, lt_nilp, lt_nilfn, lt_nili, List.mem_cons, List.not_mem_nil, or_false, forall_eq_or_imp, forall_eq, and_true, true_and, and_self, implies_true, *]; try omega)); (try simp only [tupOf, push_cast, seval, EE_P]))
theorem nameS_size {s : ByteArray} (h : nameS s = true) : 0 < s.size ∧ s.size ≤ 16 := by
  simp only [nameS, Bool.and_eq_true, decide_eq_true_eq] at h
  omega
theorem formatExpr_name (s : ByteArray) : Pure EE 74 [nameP s] (.str (if nameS s then s else ⟨#[]⟩)) := by
  intro σ nx
  refine fn_of_body goodEE (by rw [EE_P]; exact Tryz.func74) rfl rfl (by kernel_rfl) (Nat.le_of_ble_eq_true rfl) (Nat.le_refl _) fun hwf hlt => ?_
  rw [show Tryz.f74.results.toList = [.tmp 2] from rfl]
  refine awp_begin _ _ _ _ _ (cc := _) (by conv => lhs; simp only [push_cast, seval, Tryz.f74]) ?_
  simp only [push_cast, seval, EE_P]
  repeat' (first | simp only [push_cast, seval, EE_P] | simp (disch := omega) only [wrap_fits] | ((first | with_reducible apply wcall_pure | with_reducible apply wdcall_pure); focus (first | assumption | exact format_name _ | exact right_name _ | exact depth_name _)) | (with_reducible refine wguard_split_t (fun h => ?_) (fun h => ?_)) | (with_reducible refine wguard_split_f (fun h => ?_) (fun h => ?_)) | (with_reducible refine wcond_split (fun h => ?_) (fun h => ?_)) | (with_reducible refine wdguard_split_t (fun h => ?_) (fun h => ?_)) | (with_reducible refine wdguard_split_f (fun h => ?_) (fun h => ?_)) | (with_reducible refine And.intro (fun h => ?_) (fun h => ?_)) | (with_reducible apply And.intro; focus omega))
  all_goals ((refine ends_ret (by simp only [resultsOf, resOf, push_cast, seval, EE_P]; rfl) (by simp only [push_cast, seval, EE_P]) ?_ (by repeat' (first | exact Keeps.refl _ | assumption | exact (hwf.keep1 _) | refine Keeps.new hwf ?_ (by omega) _)) (by simp only [lt_int, lt_bool, lt_str, lt_nil, lt_empty, lt_agg, lt_tup, lt_list, lt_cells, lt_fn, lt_nilp, lt_nilfn, lt_nili, List.mem_cons, List.not_mem_nil, or_false, forall_eq_or_imp, forall_eq, and_true, true_and, and_self, implies_true, *]; try omega)); (try simp only [tupOf, push_cast, seval, EE_P]))
  · have h' : nameS s = false := by simpa using h
    rw [h']; rfl
  · rename_i h1
    have := nameS_size (s := s) (by simpa using h1)
    omega
  · rename_i h1
    rw [if_pos (by simpa using h1)]
theorem isName_fn (s : ByteArray) : Pure EE 42 [.str s] (.bool (nameS s)) := by
  intro σ nx
  refine fn_of_body goodEE (by rw [EE_P]; exact Tryz.func42) rfl rfl (by kernel_rfl) (Nat.le_of_ble_eq_true rfl) (Nat.le_refl _) fun hwf hlt => ?_
  rw [show Tryz.f42.results.toList = [.tmp 2] from rfl]
  refine awp_begin _ _ _ _ _ (cc := _) (by conv => lhs; simp only [push_cast, seval, Tryz.f42]) ?_
  simp only [push_cast, seval, EE_P]
  repeat' (first | simp only [push_cast, seval, EE_P] | simp (disch := omega) only [wrap_fits] | ((first | with_reducible apply wcall_pure | with_reducible apply wdcall_pure); focus (first | assumption | exact formatExpr_name _)) | (with_reducible refine wguard_split_t (fun h => ?_) (fun h => ?_)) | (with_reducible refine wguard_split_f (fun h => ?_) (fun h => ?_)) | (with_reducible refine wcond_split (fun h => ?_) (fun h => ?_)) | (with_reducible refine wdguard_split_t (fun h => ?_) (fun h => ?_)) | (with_reducible refine wdguard_split_f (fun h => ?_) (fun h => ?_)) | (with_reducible refine And.intro (fun h => ?_) (fun h => ?_)) | (with_reducible apply And.intro; focus omega))
  all_goals ((refine ends_ret (by simp only [resultsOf, resOf, push_cast, seval, EE_P]; rfl) (by simp only [push_cast, seval, EE_P]) ?_ (by repeat' (first | exact Keeps.refl _ | assumption | exact (hwf.keep1 _) | refine Keeps.new hwf ?_ (by omega) _)) (by simp only [lt_int, lt_bool, lt_str, lt_nil, lt_empty, lt_agg, lt_tup, lt_list, lt_cells, lt_fn, lt_nilp, lt_nilfn, lt_nili, List.mem_cons, List.not_mem_nil, or_false, forall_eq_or_imp, forall_eq, and_true, true_and, and_self, implies_true, *]; try omega)); (try simp only [tupOf, push_cast, seval, EE_P]))
  cases h : nameS s
  · rfl
  · have := nameS_size h
    have h' : ¬ s.size = 0 := by omega
    simp [h']
end Go.Proofs.YtdajoilaakiinaaGreatDoor.Awp

/- credit: lines, right, few. -/
namespace Go.Proofs.YtdajoilaakiinaaGreatDoor.Awp
open Go Go.Proofs
set_option linter.unusedSimpArgs false
set_option linter.unusedVariables false
set_option maxRecDepth 10000
set_option maxHeartbeats 4000000

structure Line where
  name : ByteArray
  group : ByteArray
  kind : Int
  app : Bool
  num : Int
  den : Int
  err : Int
  deriving DecidableEq
def Line.cs (l : Line) : List PV := [.str l.name, .str l.group, .int .i64 l.kind, .bool l.app, .int .i64 l.num, .int .i64 l.den, .int .i64 l.err]
def Line.pv (l : Line) : PV := .agg l.cs
attribute [push_cast] Line.pv Line.cs
def rightS (l : Line) : Bool := decide (0 ≤ l.kind) && decide (l.kind ≤ 3) && nameS l.name && (decide (l.group.size = 0) || (decide (l.kind = 0) && nameS l.group)) && (!l.app || (decide (FV l.num l.den) && decide (l.err = 0)))
theorem right_fn (l : Line) : Pure EE 33 [l.pv] (.bool (rightS l)) := by
  intro σ nx
  refine fn_of_body goodEE (by rw [EE_P]; exact Tryz.func33) rfl rfl (by kernel_rfl) (Nat.le_of_ble_eq_true rfl) (Nat.le_refl _) fun hwf hlt => ?_
  rw [show Tryz.f33.results.toList = [.tmp 2] from rfl]
  refine awp_begin _ _ _ _ _ (cc := _) (by conv => lhs; simp only [push_cast, seval, Tryz.f33]) ?_
  simp only [push_cast, seval, EE_P]
  repeat' (first | simp only [push_cast, seval, EE_P] | simp (disch := omega) only [wrap_fits] | ((first | with_reducible apply wcall_pure | with_reducible apply wdcall_pure); focus (first | assumption | exact isName_fn _ | exact valid_fn goodEE EE_P _ _)) | (with_reducible refine wguard_split_t (fun h => ?_) (fun h => ?_)) | (with_reducible refine wguard_split_f (fun h => ?_) (fun h => ?_)) | (with_reducible refine wcond_split (fun h => ?_) (fun h => ?_)) | (with_reducible refine wdguard_split_t (fun h => ?_) (fun h => ?_)) | (with_reducible refine wdguard_split_f (fun h => ?_) (fun h => ?_)) | (with_reducible refine And.intro (fun h => ?_) (fun h => ?_)) | (with_reducible apply And.intro; focus omega))
  all_goals ((refine ends_ret (by simp only [resultsOf, resOf, push_cast, seval, EE_P]; rfl) (by simp only [push_cast, seval, EE_P]) ?_ (by repeat' (first | exact Keeps.refl _ | assumption | exact (hwf.keep1 _) | refine Keeps.new hwf ?_ (by omega) _)) (by simp only [lt_int, lt_bool, lt_str, lt_nil, lt_empty, lt_agg, lt_tup, lt_list, lt_cells, lt_fn, lt_nilp, lt_nilfn, lt_nili, List.mem_cons, List.not_mem_nil, or_false, forall_eq_or_imp, forall_eq, and_true, true_and, and_self, implies_true, *]; try omega)); (try simp only [tupOf, push_cast, seval, EE_P]))
  all_goals (first | (simp_all [rightS]; done) | (simp_all [rightS]; omega) | (simp [rightS, *]; done) | (simp [rightS, *]; omega))
theorem wrong_fn (l : Line) : Pure EE 32 [l.pv] (.bool (!rightS l)) := by
  intro σ nx
  refine fn_of_body goodEE (by rw [EE_P]; exact Tryz.func32) rfl rfl (by kernel_rfl) (Nat.le_of_ble_eq_true rfl) (Nat.le_refl _) fun hwf hlt => ?_
  rw [show Tryz.f32.results.toList = [.tmp 2] from rfl]
  refine awp_begin _ _ _ _ _ (cc := _) (by conv => lhs; simp only [push_cast, seval, Tryz.f32]) ?_
  simp only [push_cast, seval, EE_P]
  repeat' (first | simp only [push_cast, seval, EE_P] | simp (disch := omega) only [wrap_fits] | ((first | with_reducible apply wcall_pure | with_reducible apply wdcall_pure); focus (first | assumption | exact right_fn _)) | (with_reducible refine wguard_split_t (fun h => ?_) (fun h => ?_)) | (with_reducible refine wguard_split_f (fun h => ?_) (fun h => ?_)) | (with_reducible refine wcond_split (fun h => ?_) (fun h => ?_)) | (with_reducible refine wdguard_split_t (fun h => ?_) (fun h => ?_)) | (with_reducible refine wdguard_split_f (fun h => ?_) (fun h => ?_)) | (with_reducible refine And.intro (fun h => ?_) (fun h => ?_)) | (with_reducible apply And.intro; focus omega))
  all_goals ((refine ends_ret (by simp only [resultsOf, resOf, push_cast, seval, EE_P]; rfl) (by simp only [push_cast, seval, EE_P]) ?_ (by repeat' (first | exact Keeps.refl _ | assumption | exact (hwf.keep1 _) | refine Keeps.new hwf ?_ (by omega) _)) (by simp only [lt_int, lt_bool, lt_str, lt_nil, lt_empty, lt_agg, lt_tup, lt_list, lt_cells, lt_fn, lt_nilp, lt_nilfn, lt_nili, List.mem_cons, List.not_mem_nil, or_false, forall_eq_or_imp, forall_eq, and_true, true_and, and_self, implies_true, *]; try omega)); (try simp only [tupOf, push_cast, seval, EE_P]))
end Go.Proofs.YtdajoilaakiinaaGreatDoor.Awp

/- credit.maker: become. -/
namespace Go.Proofs.YtdajoilaakiinaaGreatDoor.Awp
open Go Go.Proofs
set_option linter.unusedSimpArgs false
set_option linter.unusedVariables false
set_option maxRecDepth 10000
set_option maxHeartbeats 4000000

theorem Lt.mono {n m : Nat} (hnm : n ≤ m) {p : PV} (hp : Lt n p) : Lt m p := by
  induction hp with
  | list es h ih => exact .list es ih
  | row k off len h => exact .row k off len (Nat.lt_of_lt_of_le h hnm)
  | agg cs h ih => exact .agg cs ih
  | tup cs h ih => exact .tup cs ih
  | ptr k i off h => exact .ptr k i off (Nat.lt_of_lt_of_le h hnm)
  | cells cs h ih => exact .cells cs ih
  | fn f a b h h' ih ih' => exact .fn f a b ih ih'
  | map k h => exact .map k (Nat.lt_of_lt_of_le h hnm)
  | imap es h h' ih ih' => exact .imap es ih ih'
  | iface t v h ih => exact .iface t v ih
  | int k m => exact .int k m
  | bool b => exact .bool b
  | str s => exact .str s
  | nil => exact .nil
  | empty => exact .empty
  | nilp => exact .nilp
  | nilfn => exact .nilfn
  | nilmap => exact .nilmap
  | nili => exact .nili
  | junk => exact .junk
theorem lt_void {n : Nat} : Lt n (.tup []) := .tup _ (fun c hc => by cases hc)
/-- Is it an ending? -/
def isEnd : AExit → Prop
  | .ret => True
  | .normal => True
  | _ => False
theorem ends_of {E : Env} {σ σ' : Store} {nx nx' : Nat} {rs : List ResultVar} {e : AExit} {st : St} {v : PV} {c : Prop} {vs : List PV} (he : isEnd e) (hr : resultsOf E st rs = some (c, vs)) (hc : c) (L : Leaves σ nx st (tupOf vs) σ' nx' v) : Ends E σ nx rs (.ret v) σ' nx' e st := by
  cases e with
  | ret => exact ⟨c, vs, v, hr, hc, rfl, L⟩
  | normal => exact ⟨c, vs, v, hr, hc, rfl, L⟩
  | exit id => exact he.elim
  | panic v => exact he.elim
/-- One object has changed. -/
theorem leaves1 {σ σs : Store} {nx nxs k : Nat} {sl : Nat → PV} {v : PV} {ok : AObj} (hwf : Wf σ nx) (hk : k < nx) (hok : ObjLt nx ok) (h1 : σs k = some ok) (h3 : ∀ j, j < nx → j ≠ k → σs j = σ j) (hv : Lt nx v) : Leaves σ nx ⟨sl, σs, nxs⟩ v (upd σ k (some ok)) nx v := by
  refine ⟨Nat.le_refl _, fun j o hj => ?_, .refl _, hv⟩
  by_cases hjk : j = k
  · subst hjk
    rw [upd_same] at hj
    cases hj
    exact .inr ⟨hk, hok, h1⟩
  · rw [upd_other _ _ hjk] at hj
    exact .inl ⟨hj, by show σs j = some o; rw [h3 j (hwf j o hj).1 hjk]; exact hj⟩
/-- One object has changed, one was given up for a new one. -/
theorem leaves2 {σ σs : Store} {nx nxs k kp kn : Nat} {sl : Nat → PV} {v : PV} {ok on : AObj} (hwf : Wf σ nx) (hk : k < nx) (hkn : nx ≤ kn) (hok : ObjLt (kn + 1) ok) (hon : ObjLt (kn + 1) on) (h1 : σs k = some ok) (h2 : σs kn = some on)
    (h3 : ∀ j, j < nx → j ≠ k → j ≠ kp → σs j = σ j) (hv : Lt (kn + 1) v) : Leaves σ nx ⟨sl, σs, nxs⟩ v (upd (upd (upd σ kp none) kn (some on)) k (some ok)) (kn + 1) v := by
  refine ⟨by omega, fun j o hj => ?_, .refl _, hv⟩
  by_cases hjk : j = k
  · subst hjk
    rw [upd_same] at hj
    cases hj
    exact .inr ⟨by omega, hok, h1⟩
  · rw [upd_other _ _ hjk] at hj
    by_cases hjn : j = kn
    · subst hjn
      rw [upd_same] at hj
      cases hj
      exact .inr ⟨by omega, hon, h2⟩
    · rw [upd_other _ _ hjn] at hj
      by_cases hjp : j = kp
      · subst hjp
        rw [upd_same] at hj
        cases hj
      · rw [upd_other _ _ hjp] at hj
        exact .inl ⟨hj, by show σs j = some o; rw [h3 j (hwf j o hj).1 hjk hjp]; exact hj⟩

structure Frac where
  n : Int
  d : Int
  deriving DecidableEq
def Frac.pv (f : Frac) : PV := .agg [.int .i64 f.n, .int .i64 f.d]
attribute [push_cast] Frac.pv
def fadd (a b : Frac) : Frac := ⟨faddN a.n a.d b.n b.d, faddD a.n a.d b.n b.d⟩
def faddErr (a b : Frac) : Int := faddE a.n a.d b.n b.d
def fsub (a b : Frac) : Frac := ⟨fsubN a.n a.d b.n b.d, fsubD a.n a.d b.n b.d⟩
def fsubErr (a b : Frac) : Int := fsubE a.n a.d b.n b.d
def Line.amt (l : Line) : Frac := ⟨l.num, l.den⟩
def weightS (l : Line) : Frac := ⟨weightN l.num l.den, weightD l.num l.den⟩
def lessS (a b : Frac) : Bool := decide (flt a.n a.d b.n b.d)

structure Part where
  name : ByteArray
  eff : Frac
  deriving DecidableEq
def Part.cs (p : Part) : List PV := [.str p.name, .int .i64 p.eff.n, .int .i64 p.eff.d]
structure MK where
  parts : List Part
  pts : Frac
  hund : Int
  wrong : Bool
  deriving DecidableEq
def MK.row (m : MK) (lv pv : PV) : List PV := [lv, pv, .int .i64 m.pts.n, .int .i64 m.pts.d, .int .i64 m.hund, .bool m.wrong]
/-- Where a maker's parts lie. -/
inductive PartsAt (σ : Store) (k : Nat) (ps : List Part) : PV → Prop
  | nil (h : ps = []) : PartsAt σ k ps .nil
  | row (kp : Nat) (hk : kp ≠ k) (h : σ kp = some (.row (ps.map Part.cs))) (hn : ps ≠ []) : PartsAt σ k ps (.row kp 0 ps.length)
def MkAt (σ : Store) (k : Nat) (lv : PV) (m : MK) : Prop := ∃ pv, σ k = some (.row [m.row lv pv]) ∧ PartsAt σ k m.parts pv
/-- The keys of a maker. -/
def Own (σ : Store) (k j : Nat) : Prop := j = k ∨ ∃ lv m off len, σ k = some (.row [MK.row m lv (.row j off len)])
def becomeS (m : MK) (name : ByteArray) (p : Frac) (e : Int) : MK :=
  if m.wrong = true ∨ e ≠ 0 ∨ fsubErr p m.pts ≠ 0 then { m with wrong := true } else { m with parts := m.parts ++ [Part.mk name (fsub p m.pts)], pts := p }
theorem MkAt.upd {σ : Store} {k : Nat} {lv pv : PV} {m m' : MK} (hp : PartsAt σ k m.parts pv) (h : m'.parts = m.parts) : MkAt (upd σ k (some (.row [m'.row lv pv]))) k lv m' := by
  refine ⟨pv, upd_same .., ?_⟩
  rw [h]
  cases hp with
  | nil h => exact .nil h
  | row kp hk hr hn => exact .row kp hk (by rw [upd_other _ _ hk]; exact hr) hn
theorem row_lt {σ : Store} {nx k : Nat} {lv pv : PV} {m : MK} (hwf : Wf σ nx) (h : σ k = some (.row [m.row lv pv])) : k < nx ∧ Lt nx lv ∧ Lt nx pv := by
  obtain ⟨h1, h2⟩ := hwf k _ h
  exact ⟨h1, h2 _ (List.mem_cons_self ..) _ (by simp [MK.row]), h2 _ (List.mem_cons_self ..) _ (by simp [MK.row])⟩
theorem objlt_row {n : Nat} {lv pv : PV} {m : MK} (h : Lt n lv) (h' : Lt n pv) : ObjLt n (.row [m.row lv pv]) := by
  intro cs hcs c hc
  simp only [List.mem_cons, List.not_mem_nil, or_false] at hcs
  subst hcs
  simp only [MK.row, List.mem_cons, List.not_mem_nil, or_false] at hc
  rcases hc with rfl | rfl | rfl | rfl | rfl | rfl
  · exact h
  · exact h'
  · exact .int _ _
  · exact .int _ _
  · exact .int _ _
  · exact .bool _
theorem objlt_parts {n : Nat} (ps : List Part) : ObjLt n (.row (ps.map Part.cs)) := by
  intro cs hcs c hc
  obtain ⟨p, _, rfl⟩ := List.mem_map.1 hcs
  simp only [Part.cs, List.mem_cons, List.not_mem_nil, or_false] at hc
  rcases hc with rfl | rfl | rfl
  · exact .str _
  · exact .int _ _
  · exact .int _ _
theorem become_wrong {σ : Store} {nx k : Nat} {lv pv : PV} {m : MK} (hk : σ k = some (.row [m.row lv pv])) (name : ByteArray) (p : Frac) (e : Int) (hw : m.wrong = true ∨ e ≠ 0 ∨ fsubErr p m.pts ≠ 0) :
    Fn EE 47 σ nx [.ptr k 0 0, .str name, p.pv, .int .i64 e] (.ret (.tup [])) (upd σ k (some (.row [{ m with wrong := true }.row lv pv]))) nx := by
  refine fn_of_body goodEE (by rw [EE_P]; exact Tryz.func47) rfl rfl (by kernel_rfl) (Nat.le_of_ble_eq_true rfl) ?_ fun hwf hlt => ?_
  rotate_left
  rw [show Tryz.f47.results.toList = [] from rfl]
  refine awp_begin _ _ _ _ _ (cc := _) (by conv => lhs; simp only [push_cast, seval, Tryz.f47]) ?_
  simp only [push_cast, seval, EE_P]
  · obtain ⟨hkn, l1, l2⟩ := row_lt hwf hk
    simp only [MK.row] at hk
    repeat' (first | simp only [push_cast, seval, EE_P, hk, (key_ne hkn).1, (key_ne hkn).2.1, (key_ne hkn).2.2.1, (key_ne hkn).2.2.2] | simp (disch := omega) only [wrap_fits] | ((first | with_reducible apply wcall_pure | with_reducible apply wdcall_pure); focus (first | assumption | exact sub_fn goodEE EE_P _ _ _ _)) | (with_reducible refine wguard_split_t (fun h => ?_) (fun h => ?_)) | (with_reducible refine wguard_split_f (fun h => ?_) (fun h => ?_)) | (with_reducible refine wcond_split (fun h => ?_) (fun h => ?_)) | (with_reducible refine wdguard_split_t (fun h => ?_) (fun h => ?_)) | (with_reducible refine wdguard_split_f (fun h => ?_) (fun h => ?_)) | (with_reducible refine And.intro (fun h => ?_) (fun h => ?_)) | (with_reducible apply And.intro; focus omega))
    case refine_2.a.refine_1.refine_1.refine_2 => exfalso; simp_all [fsubErr]
    all_goals refine ends_of trivial rfl ⟨⟩ (leaves1 hwf hkn (objlt_row (m := { m with wrong := true }) l1 l2) (by simp only [upd_at, push_cast, seval, (key_ne hkn).1, (key_ne hkn).2.1, (key_ne hkn).2.2.1, (key_ne hkn).2.2.2, MK.row]) (fun j hj hjk => by simp only [upd_at, push_cast, seval, (key_ne hj).1, (key_ne hj).2.1, (key_ne hj).2.2.1, (key_ne hj).2.2.2, hjk]) lt_void)
  · omega
theorem become_right {σ : Store} {nx k : Nat} {lv pv : PV} {m : MK} (hk : σ k = some (.row [m.row lv pv])) (hp : PartsAt σ k m.parts pv) (hl : m.parts.length ≤ 1000000) (name : ByteArray) (p : Frac) (e : Int) (hw : ¬ (m.wrong = true ∨ e ≠ 0 ∨ fsubErr p m.pts ≠ 0)) :
    ∃ kp kn, nx ≤ kn ∧ (kp = kn ∨ pv = .row kp 0 m.parts.length) ∧ Fn EE 47 σ nx [.ptr k 0 0, .str name, p.pv, .int .i64 e] (.ret (.tup []))
      (upd (upd (upd σ kp none) kn (some (.row ((m.parts ++ [Part.mk name (fsub p m.pts)]).map Part.cs)))) k (some (.row [{ m with parts := m.parts ++ [Part.mk name (fsub p m.pts)], pts := p }.row lv (.row kn 0 (m.parts.length + 1))]))) (kn + 1) := by
  cases hp with
  | nil h =>
    refine ⟨nx + 36, nx + 36, by omega, .inl rfl, ?_⟩
    refine fn_of_body goodEE (by rw [EE_P]; exact Tryz.func47) rfl rfl (by kernel_rfl) (Nat.le_of_ble_eq_true rfl) ?_ fun hwf hlt => ?_
    rotate_left
    rw [show Tryz.f47.results.toList = [] from rfl]
    refine awp_begin _ _ _ _ _ (cc := _) (by conv => lhs; simp only [push_cast, seval, Tryz.f47]) ?_
    simp only [push_cast, seval, EE_P]
    · obtain ⟨hkn, l1, l2⟩ := row_lt hwf hk
      simp only [MK.row] at hk
      repeat' (first | simp only [push_cast, seval, EE_P, hk, (key_ne hkn).1, (key_ne hkn).2.1, (key_ne hkn).2.2.1, (key_ne hkn).2.2.2] | simp (disch := omega) only [wrap_fits] | ((first | with_reducible apply wcall_pure | with_reducible apply wdcall_pure); focus (first | assumption | exact sub_fn goodEE EE_P _ _ _ _)) | (with_reducible refine wguard_split_t (fun h => ?_) (fun h => ?_)) | (with_reducible refine wguard_split_f (fun h => ?_) (fun h => ?_)) | (with_reducible refine wcond_split (fun h => ?_) (fun h => ?_)) | (with_reducible refine wdguard_split_t (fun h => ?_) (fun h => ?_)) | (with_reducible refine wdguard_split_f (fun h => ?_) (fun h => ?_)) | (with_reducible refine And.intro (fun h => ?_) (fun h => ?_)) | (with_reducible apply And.intro; focus omega))
      all_goals (try (exfalso; simp_all [fsubErr]; done))
      rename_i hps hwr he
      refine ⟨by simp only [roomFor, push_cast, seval]; try decide, ends_of trivial rfl ⟨⟩ (leaves2 hwf hkn (by omega) (objlt_row (l1.mono (by omega)) (.row _ _ _ (by omega))) (objlt_parts _) ?_ ?_ (fun j hj hjk hjp => by simp only [upd_at, push_cast, seval, (key_ne hj).1, (key_ne hj).2.1, (key_ne hj).2.2.1, (key_ne hj).2.2.2, hjk]) lt_void)⟩
      · simp only [upd_at, push_cast, seval, (key_ne hkn).1, (key_ne hkn).2.1, (key_ne hkn).2.2.1, (key_ne hkn).2.2.2, MK.row, hps, hwr]
      · simp only [upd_at, push_cast, seval, (key_ne hkn).1, (key_ne hkn).2.1, (key_ne hkn).2.2.1, (key_ne hkn).2.2.2, Part.cs, hps, fsub]
    · omega
  | row kp hkp hr hn =>
    refine ⟨kp, nx + 36, by omega, .inr rfl, ?_⟩
    refine fn_of_body goodEE (by rw [EE_P]; exact Tryz.func47) rfl rfl (by kernel_rfl) (Nat.le_of_ble_eq_true rfl) ?_ fun hwf hlt => ?_
    rotate_left
    rw [show Tryz.f47.results.toList = [] from rfl]
    refine awp_begin _ _ _ _ _ (cc := _) (by conv => lhs; simp only [push_cast, seval, Tryz.f47]) ?_
    simp only [push_cast, seval, EE_P]
    · obtain ⟨hkn, l1, l2⟩ := row_lt hwf hk
      simp only [MK.row] at hk
      have hkpn : kp < nx := (hwf kp _ hr).1
      have hlen : ¬ m.parts.length = 0 := fun e => hn (List.length_eq_zero_iff.1 e)
      repeat' (first | simp only [push_cast, seval, EE_P, hk, (key_ne hkn).1, (key_ne hkn).2.1, (key_ne hkn).2.2.1, (key_ne hkn).2.2.2, (key_ne hkpn).1, (key_ne hkpn).2.1, (key_ne hkpn).2.2.1, (key_ne hkpn).2.2.2, (ne_keys hkp).1, (ne_keys hkp).2, hr, List.length_map, hlen] | simp (disch := omega) only [wrap_fits] | ((first | with_reducible apply wcall_pure | with_reducible apply wdcall_pure); focus (first | assumption | exact sub_fn goodEE EE_P _ _ _ _)) | (with_reducible refine wguard_split_t (fun h => ?_) (fun h => ?_)) | (with_reducible refine wguard_split_f (fun h => ?_) (fun h => ?_)) | (with_reducible refine wcond_split (fun h => ?_) (fun h => ?_)) | (with_reducible refine wdguard_split_t (fun h => ?_) (fun h => ?_)) | (with_reducible refine wdguard_split_f (fun h => ?_) (fun h => ?_)) | (with_reducible refine And.intro (fun h => ?_) (fun h => ?_)) | (with_reducible apply And.intro; focus omega))
      all_goals (try (exfalso; simp_all [fsubErr]; done))
      rename_i hwr he
      refine ⟨⟨.inl trivial, by simp only [roomFor, push_cast, seval]; omega, fun c hc => ?_⟩, ends_of trivial rfl ⟨⟩ (leaves2 hwf hkn (by omega) (objlt_row (l1.mono (by omega)) (.row _ _ _ (by omega))) (objlt_parts _) ?_ ?_ (fun j hj hjk hjp => by simp only [upd_at, push_cast, seval, (key_ne hj).1, (key_ne hj).2.1, (key_ne hj).2.2.1, (key_ne hj).2.2.2, hjk, hjp]) lt_void)⟩
      · obtain ⟨q, _, rfl⟩ := List.mem_map.1 hc
        rfl
      · simp only [upd_at, push_cast, seval, (key_ne hkn).1, (key_ne hkn).2.1, (key_ne hkn).2.2.1, (key_ne hkn).2.2.2, (ne_keys hkp).1, (ne_keys hkp).2, MK.row, hwr]
      · simp only [upd_at, push_cast, seval, (key_ne hkn).1, (key_ne hkn).2.1, (key_ne hkn).2.2.1, (key_ne hkn).2.2.2, Part.cs, fsub, List.map_append]
    · omega
theorem Wf.set {σ : Store} {n m k : Nat} {v : Option AObj} (h : Wf σ n) (hnm : n ≤ m) (hk : k < m) (hv : ∀ o, v = some o → ObjLt m o) : Wf (upd σ k v) m := by
  intro j o hj
  by_cases hjk : j = k
  · subst hjk
    rw [upd_same] at hj
    exact ⟨hk, hv o hj⟩
  · rw [upd_other _ _ hjk] at hj
    obtain ⟨h1, h2⟩ := h j o hj
    refine ⟨by omega, ?_⟩
    cases o with
    | row es => exact fun cs hcs c hc => (h2 cs hcs c hc).mono hnm
    | map es => exact ⟨fun p hp => (h2.1 p hp).mono hnm, fun p hp => (h2.2 p hp).mono hnm⟩
theorem Wf.mono {σ : Store} {n m : Nat} (h : Wf σ n) (hnm : n ≤ m) : Wf σ m := by
  intro j o hj
  obtain ⟨h1, h2⟩ := h j o hj
  refine ⟨by omega, ?_⟩
  cases o with
  | row es => exact fun cs hcs c hc => (h2 cs hcs c hc).mono hnm
  | map es => exact ⟨fun p hp => (h2.1 p hp).mono hnm, fun p hp => (h2.2 p hp).mono hnm⟩
/-- What a method of a maker may do to the store. -/
structure MkStep (σ : Store) (nx k : Nat) (σ' : Store) (nx' : Nat) : Prop where
  le : nx ≤ nx'
  wf : Wf σ' nx'
  frame : ∀ j, j < nx → ¬ Own σ k j → σ' j = σ j
  own : ∀ j, Own σ' k j → j < nx → Own σ k j
theorem MkStep.refl {σ : Store} {nx k : Nat} (h : Wf σ nx) : MkStep σ nx k σ nx := ⟨Nat.le_refl _, h, fun _ _ _ => rfl, fun _ h _ => h⟩
theorem MkStep.trans {σ σ1 σ2 : Store} {nx nx1 nx2 k : Nat} (h : MkStep σ nx k σ1 nx1) (h' : MkStep σ1 nx1 k σ2 nx2) : MkStep σ nx k σ2 nx2 :=
  ⟨Nat.le_trans h.le h'.le, h'.wf, fun j hj ho => (h'.frame j (Nat.lt_of_lt_of_le hj h.le) fun hn => ho (h.own j hn hj)).trans (h.frame j hj ho), fun j ho hj => h.own j (h'.own j ho (Nat.lt_of_lt_of_le hj h.le)) hj⟩
theorem MkStep.base {σ : Store} {nx nx' k : Nat} (h : Wf σ nx) (hle : nx ≤ nx') : MkStep σ nx k σ nx' := ⟨hle, h.mono hle, fun _ _ _ => rfl, fun _ h _ => h⟩
theorem MkStep.new {σ σ1 : Store} {nx nx2 k kn : Nat} {o : AObj} (h : MkStep σ nx k σ1 nx2) (hk : k < nx) (hkn : nx ≤ kn) (hlt : kn < nx2) (ho : ObjLt nx2 o) : MkStep σ nx k (upd σ1 kn (some o)) nx2 := by
  have hne : k ≠ kn := by omega
  refine ⟨h.le, h.wf.set (Nat.le_refl _) hlt (fun o' e => by cases e; exact ho), fun j hj hn => ?_, fun j hj hjn => ?_⟩
  · rw [upd_other _ _ (by omega)]
    exact h.frame j hj hn
  · refine h.own j ?_ hjn
    rcases hj with rfl | ⟨lv, m, off, len, hj⟩
    · exact .inl rfl
    · rw [upd_other _ _ hne] at hj
      exact .inr ⟨lv, m, off, len, hj⟩
theorem MkStep.mono {σ σ1 : Store} {nx nx1 nx2 k : Nat} (h : MkStep σ nx k σ1 nx1) (hle : nx1 ≤ nx2) : MkStep σ nx k σ1 nx2 := ⟨Nat.le_trans h.le hle, h.wf.mono hle, h.frame, h.own⟩
theorem MkAt.new {σ : Store} {k kn nx : Nat} {lv : PV} {m : MK} {o : Option AObj} (h : MkAt σ k lv m) (hwf : Wf σ nx) (hkn : nx ≤ kn) : MkAt (Awp.upd σ kn o) k lv m := by
  obtain ⟨pv, h1, h2⟩ := h
  have hk : k ≠ kn := by have := (hwf k _ h1).1; omega
  refine ⟨pv, by rw [upd_other _ _ hk]; exact h1, ?_⟩
  cases h2 with
  | nil h => exact .nil h
  | row kp hkp hr hn => exact .row kp hkp (by rw [upd_other _ _ (by have := (hwf kp _ hr).1; omega)]; exact hr) hn
theorem become_fn {σ : Store} {nx k : Nat} {lv : PV} {m : MK} (hwf : Wf σ nx) (h : MkAt σ k lv m) (hl : m.parts.length ≤ 1000000) (name : ByteArray) (p : Frac) (e : Int) :
    ∃ σ' nx', Fn EE 47 σ nx [.ptr k 0 0, .str name, p.pv, .int .i64 e] (.ret (.tup [])) σ' nx' ∧ MkAt σ' k lv (becomeS m name p e) ∧ MkStep σ nx k σ' nx' := by
  obtain ⟨pv, hk, hp⟩ := h
  obtain ⟨hkn, l1, l2⟩ := row_lt hwf hk
  by_cases hw : m.wrong = true ∨ e ≠ 0 ∨ fsubErr p m.pts ≠ 0
  · refine ⟨_, _, become_wrong hk name p e hw, ?_, Nat.le_refl _, hwf.set (Nat.le_refl _) hkn (fun o e => by cases e; exact objlt_row l1 l2), fun j _ hj => upd_other _ _ (fun e => hj (.inl e)), fun j hj _ => ?_⟩
    · unfold becomeS
      rw [if_pos hw]
      exact MkAt.upd hp rfl
    · rcases hj with rfl | ⟨lv', m', off, len, hj⟩
      · exact .inl rfl
      · rw [upd_same] at hj
        simp only [MK.row, Option.some.injEq, AObj.row.injEq, List.cons.injEq, and_true] at hj
        obtain ⟨_, rfl, _⟩ := hj
        exact .inr ⟨lv, m, off, len, hk⟩
  · obtain ⟨kp, kn, hkn', hkp, hf⟩ := become_right (nx := nx) hk hp hl name p e hw
    have hkk : kn ≠ k := by omega
    refine ⟨_, _, hf, ?_, by omega, ((hwf.set (v := none) (m := kn + 1) (by omega) (k := kp) ?_ (fun o e => by cases e)).set (Nat.le_refl _) (Nat.lt_succ_self _) (fun o e => by cases e; exact objlt_parts _)).set (Nat.le_refl _) (by omega) (fun o e => by cases e; exact objlt_row (l1.mono (by omega)) (.row _ _ _ (by omega))), fun j hjn hj => ?_, fun j hj hjn => ?_⟩
    · unfold becomeS
      rw [if_neg hw]
      refine ⟨.row kn 0 (m.parts.length + 1), upd_same .., ?_⟩
      have := PartsAt.row (σ := Awp.upd (Awp.upd (Awp.upd σ kp none) kn (some (.row ((m.parts ++ [Part.mk name (fsub p m.pts)]).map Part.cs)))) k (some (.row [{ m with parts := m.parts ++ [Part.mk name (fsub p m.pts)], pts := p }.row lv (.row kn 0 (m.parts.length + 1))]))) (k := k) (ps := m.parts ++ [Part.mk name (fsub p m.pts)]) kn hkk (by rw [upd_other _ _ hkk, upd_same]) (by simp)
      simpa using this
    · rcases hkp with rfl | rfl
      · omega
      · rw [lt_row] at l2
        omega
    · have h1 : j ≠ k := fun e => hj (.inl e)
      have h2 : j ≠ kn := by omega
      have h3 : j ≠ kp := by
        rcases hkp with rfl | hkp
        · exact h2
        · intro e
          subst e
          exact hj (.inr ⟨lv, m, 0, m.parts.length, by rw [hkp] at hk; exact hk⟩)
      rw [upd_other _ _ h1, upd_other _ _ h2, upd_other _ _ h3]
    · rcases hj with rfl | ⟨lv', m', off, len, hj⟩
      · exact .inl rfl
      · rw [upd_same] at hj
        simp only [MK.row, Option.some.injEq, AObj.row.injEq, List.cons.injEq, and_true] at hj
        obtain ⟨_, hj, _⟩ := hj
        cases hj
        omega
end Go.Proofs.YtdajoilaakiinaaGreatDoor.Awp

/- credit.maker: add. -/
namespace Go.Proofs.YtdajoilaakiinaaGreatDoor.Awp
open Go Go.Proofs
set_option linter.unusedSimpArgs false
set_option linter.unusedVariables false
set_option maxRecDepth 10000
set_option maxHeartbeats 4000000

theorem fn_ex' {E : Env} (hE : Good E) {f : FuncId} {fn : Func} {code : Code} {σ : Store} {nx : Nat} {args : List PV} {v : PV} {P : Store → Nat → Prop} (hf : E.P.funcs[f]? = some fn) (hb : fn.body = some code) (hname : (fn.name == "runtime.NumGoroutine") = false)
    (hok : okC fn.ntmps code = true) (hargs : args.length ≤ fn.ntmps) (hwf : Wf σ nx) (hlt : ∀ a ∈ args, Lt nx a) (h : awp E code (EndsEx E σ nx fn.results.toList (fun out σ' nx' => out = .ret v ∧ P σ' nx')) ⟨initSl args, σ, nx⟩) :
    ∃ σ' nx', Fn E f σ nx args (.ret v) σ' nx' ∧ P σ' nx' := by
  obtain ⟨out, σ', nx', h1, h2⟩ := fn_ex hE hf hb hname hok hargs (P := fun out σ' nx' => out = .ret v ∧ P σ' nx') fun _ _ => h
  obtain ⟨rfl, h3⟩ := h2 hwf hlt
  exact ⟨σ', nx', h1, h3⟩
section
variable {E : Env} {Q : AExit → St → Prop} {k : List Fr} {sl : Nat → PV} {σ : Store} {nx : Nat}
theorem wcall_ex {kb : Nat} {dst : Option Tmp} {rest : List CO} {i : Nat} {g : FuncId} {args : List PV} {v : PV} {P : Store → Nat → Prop} (h : ∃ σ' nx', Fn E g σ nx args (.ret v) σ' nx' ∧ P σ' nx')
    (hw : ∀ σ' nx', P σ' nx' → WOps E Q k kb rest (i + 1) (putSl sl dst v) σ' nx') : WCall E Q k kb dst rest i sl σ nx g args := by
  obtain ⟨σ', nx', h1, h2⟩ := h
  exact ⟨_, σ', nx', h1, hw σ' nx' h2⟩
theorem wdcall_ex {kb : Nat} {dst : Option Tmp} {un : List Nat} {rest : List CO} {i : Nat} {acc : List (Nat × Mem)} {g : FuncId} {args : List PV} {v : PV} {P : Store → Nat → Prop} (h : ∃ σ' nx', Fn E g σ nx args (.ret v) σ' nx' ∧ P σ' nx')
    (hacc : ∀ p ∈ acc, un.contains p.1 = false) (hw : ∀ σ' nx', P σ' nx' → WD E Q k kb rest (i + 1) ((i, { imp := true }) :: acc) (putSl sl dst v) σ' nx') : WDCall E Q k kb dst un rest i acc sl σ nx g args := by
  obtain ⟨σ', nx', h1, h2⟩ := h
  exact .inr ⟨v, σ', nx', h1, hacc, hw σ' nx' h2⟩
end
/-- A maker whose keys are old. -/
def MkAtN (nx : Nat) (σ : Store) (k : Nat) (lv : PV) (m : MK) : Prop := k < nx ∧ ∃ pv, Lt nx pv ∧ σ k = some (.row [m.row lv pv]) ∧ PartsAt σ k m.parts pv
theorem MkAt.old {σ : Store} {nx k : Nat} {lv : PV} {m : MK} (h : MkAt σ k lv m) (hwf : Wf σ nx) : MkAtN nx σ k lv m := by
  obtain ⟨pv, hk, hp⟩ := h
  obtain ⟨h1, h2, h3⟩ := row_lt hwf hk
  exact ⟨h1, pv, h3, hk, hp⟩
theorem MkAtN.at {σ : Store} {nx k : Nat} {lv : PV} {m : MK} (h : MkAtN nx σ k lv m) : MkAt σ k lv m := by
  obtain ⟨_, pv, _, hk, hp⟩ := h
  exact ⟨pv, hk, hp⟩
theorem MkAtN.new {σ : Store} {nx k kn : Nat} {lv : PV} {m : MK} {o : Option AObj} (h : MkAtN nx σ k lv m) (hkn : nx ≤ kn) : MkAtN nx (upd σ kn o) k lv m := by
  obtain ⟨h1, pv, h2, h3, h4⟩ := h
  refine ⟨h1, pv, h2, by rw [upd_other _ _ (by omega)]; exact h3, ?_⟩
  cases h4 with
  | nil h => exact .nil h
  | row kp hkp hr hn =>
    rw [lt_row] at h2
    exact .row kp hkp (by rw [upd_other _ _ (by omega)]; exact hr) hn
section
variable {E : Env} {Q : AExit → St → Prop} {k : List Fr} {sl : Nat → PV} {σ : Store} {nx : Nat}
theorem wcall_mk {σ0 : Store} {nx0 km : Nat} {lv : PV} {m m' : MK} {kb : Nat} {dst : Option Tmp} {rest : List CO} {i : Nat} {g : FuncId} {args : List PV} {v : PV}
    (hc : ∀ σ nx, Wf σ nx → MkAt σ km lv m → ∃ σ' nx', Fn E g σ nx args (.ret v) σ' nx' ∧ MkAt σ' km lv m' ∧ MkStep σ nx km σ' nx') (hs : MkStep σ0 nx0 km σ nx) (hm : MkAtN nx0 σ km lv m)
    (hw : ∀ σ' nx', MkAt σ' km lv m' → MkStep σ0 nx0 km σ' nx' → WOps E Q k kb rest (i + 1) (putSl sl dst v) σ' nx') : WCall E Q k kb dst rest i sl σ nx g args :=
  wcall_ex (hc σ nx hs.wf hm.at) fun σ' nx' h => hw σ' nx' h.1 (hs.trans h.2)
theorem wdcall_mk {σ0 : Store} {nx0 km : Nat} {lv : PV} {m m' : MK} {kb : Nat} {dst : Option Tmp} {un : List Nat} {rest : List CO} {i : Nat} {acc : List (Nat × Mem)} {g : FuncId} {args : List PV} {v : PV}
    (hc : ∀ σ nx, Wf σ nx → MkAt σ km lv m → ∃ σ' nx', Fn E g σ nx args (.ret v) σ' nx' ∧ MkAt σ' km lv m' ∧ MkStep σ nx km σ' nx') (hs : MkStep σ0 nx0 km σ nx) (hm : MkAtN nx0 σ km lv m) (hacc : ∀ p ∈ acc, un.contains p.1 = false)
    (hw : ∀ σ' nx', MkAt σ' km lv m' → MkStep σ0 nx0 km σ' nx' → WD E Q k kb rest (i + 1) ((i, { imp := true }) :: acc) (putSl sl dst v) σ' nx') : WDCall E Q k kb dst un rest i acc sl σ nx g args :=
  wdcall_ex (hc σ nx hs.wf hm.at) hacc fun σ' nx' h => hw σ' nx' h.1 (hs.trans h.2)
theorem ends_mk {σ0 : Store} {nx0 km : Nat} {lv : PV} {m : MK} {e : AExit} (he : isEnd e) (hm : MkAt σ km lv m) (hs : MkStep σ0 nx0 km σ nx) : EndsEx E σ0 nx0 [] (fun out σ' nx' => out = .ret (.tup []) ∧ MkAt σ' km lv m ∧ MkStep σ0 nx0 km σ' nx') e ⟨sl, σ, nx⟩ :=
  endsEx (.ret (.tup [])) σ nx hs.le ⟨rfl, hm, hs⟩ (ends_of he rfl ⟨⟩ (leaves_all hs.le hs.wf lt_void))
end

theorem madd_fn {σ : Store} {nx k : Nat} {lv : PV} {m : MK} (hwf : Wf σ nx) (h : MkAt σ k lv m) (hl : m.parts.length ≤ 1000000) (name : ByteArray) (w : Frac) :
    ∃ σ' nx', Fn EE 90 σ nx [.ptr k 0 0, .str name, w.pv] (.ret (.tup [])) σ' nx' ∧ MkAt σ' k lv (becomeS m name (fadd m.pts w) (faddErr m.pts w)) ∧ MkStep σ nx k σ' nx' := by
  have hN := h.old hwf
  obtain ⟨hkn, pv, l2, hk, hp⟩ := id hN
  simp only [MK.row] at hk
  have hlt : ∀ a ∈ [PV.ptr k 0 0, PV.str name, w.pv], Lt nx a := by
    (simp only [push_cast, seval, lt_int, lt_bool, lt_str, lt_nil, lt_empty, lt_agg, lt_tup, lt_list, lt_cells, lt_fn, lt_ptr, lt_row, lt_nilp, lt_nilfn, lt_nili, List.mem_cons, List.not_mem_nil, or_false, forall_eq_or_imp, forall_eq, and_true, true_and, and_self, implies_true, false_implies]; try omega)
  refine fn_ex' goodEE (by rw [EE_P]; exact Tryz.func90) rfl rfl (by kernel_rfl) (Nat.le_of_ble_eq_true rfl) hwf hlt ?_
  rw [show Tryz.f90.results.toList = [] from rfl]
  refine awp_begin _ _ _ _ _ (cc := _) (by conv => lhs; simp only [push_cast, seval, Tryz.f90]) ?_
  simp only [push_cast, seval, EE_P]
  repeat' (first | simp only [push_cast, seval, EE_P, hk, (key_ne hkn).1, (key_ne hkn).2.1, (key_ne hkn).2.2.1, (key_ne hkn).2.2.2] | simp (disch := omega) only [wrap_fits] | ((first | with_reducible apply wcall_pure | with_reducible apply wdcall_pure); focus (first | assumption | exact add_fn goodEE EE_P _ _ _ _)) | (with_reducible refine wguard_split_t (fun h => ?_) (fun h => ?_)) | (with_reducible refine wguard_split_f (fun h => ?_) (fun h => ?_)) | (with_reducible refine wcond_split (fun h => ?_) (fun h => ?_)) | (with_reducible refine wdguard_split_t (fun h => ?_) (fun h => ?_)) | (with_reducible refine wdguard_split_f (fun h => ?_) (fun h => ?_)) | (with_reducible refine And.intro (fun h => ?_) (fun h => ?_)) | (with_reducible apply And.intro; focus omega))
  refine wcall_mk (fun σ nx hw hm => become_fn hw hm hl name (fadd m.pts w) (faddErr m.pts w)) (σ0 := σ) (nx0 := nx) (lv := lv) ?_ ?_ ?_
  · (repeat' (first | exact MkStep.base hwf (by omega) | exact MkStep.mono (by assumption) (by omega) | refine MkStep.new ?_ hkn (by omega) (by omega) (by simp only [ObjLt, push_cast, seval, lt_int, lt_bool, lt_str, lt_nil, lt_empty, lt_agg, lt_tup, lt_list, lt_cells, lt_fn, lt_ptr, lt_row, lt_nilp, lt_nilfn, lt_nili, List.mem_cons, List.not_mem_nil, or_false, forall_eq_or_imp, forall_eq, and_true, true_and, and_self, implies_true, false_implies]; try omega)))
  · (repeat' (first | exact hN | assumption | refine MkAtN.new ?_ (by omega)))
  · intro σ' nx' hm hs
    repeat' (first | simp only [push_cast, seval, EE_P] | simp (disch := omega) only [wrap_fits] | ((first | with_reducible apply wcall_pure | with_reducible apply wdcall_pure); focus (first | assumption | exact add_fn goodEE EE_P _ _ _ _)) | (with_reducible refine wguard_split_t (fun h => ?_) (fun h => ?_)) | (with_reducible refine wguard_split_f (fun h => ?_) (fun h => ?_)) | (with_reducible refine wcond_split (fun h => ?_) (fun h => ?_)) | (with_reducible refine wdguard_split_t (fun h => ?_) (fun h => ?_)) | (with_reducible refine wdguard_split_f (fun h => ?_) (fun h => ?_)) | (with_reducible refine And.intro (fun h => ?_) (fun h => ?_)) | (with_reducible apply And.intro; focus omega))
    exact ends_mk trivial hm hs
end Go.Proofs.YtdajoilaakiinaaGreatDoor.Awp

/- credit.maker: points. -/
namespace Go.Proofs.YtdajoilaakiinaaGreatDoor.Awp
open Go Go.Proofs
set_option linter.unusedSimpArgs false
set_option linter.unusedVariables false
set_option maxRecDepth 10000
set_option maxHeartbeats 4000000

def lineOf : List PV → Line
  | [.str a, .str b, .int _ k, .bool p, .int _ n, .int _ d, .int _ e] => ⟨a, b, k, p, n, d, e⟩
  | _ => ⟨⟨#[]⟩, ⟨#[]⟩, 0, false, 0, 0, 0⟩
theorem lineOf_cs (l : Line) : lineOf l.cs = l := rfl
theorem any_map {α β : Type} (f : α → β) (p : β → Bool) (l : List α) : (l.map f).any p = l.any fun a => p (f a) := by simp [List.any_map, Function.comp_def]
theorem containsFunc_lines {σ : Store} {nx : Nat} {g : FuncId} {first caps : List PV} {ls : List Line} {p : Line → Bool} (hbig : ls.length ≤ 4611686018427387904) (h : ∀ l ∈ ls, At EE σ nx g (first ++ [l.pv] ++ caps) (.bool (p l))) :
    At EE σ nx 31 [.list (ls.map Line.cs), .fn g first caps] (.bool (ls.any p)) := by
  have := containsFunc_line goodEE EE_P (σ := σ) (nx := nx) (g := g) (first := first) (caps := caps) (es := ls.map Line.cs) (p := fun e => p (lineOf e)) (fun e he => by
      obtain ⟨l, _, rfl⟩ := List.mem_map.1 he
      rfl) (by simpa using hbig) (fun e he => by
      obtain ⟨l, hl, rfl⟩ := List.mem_map.1 he
      exact h l hl)
  rw [any_map] at this
  exact this

def memberS (g : ByteArray) (l : Line) : Bool := decide (l.kind = 0) && l.app && decide (l.group = g)
theorem member_fn {σ : Store} {nx kb : Nat} {g : ByteArray} (hb : σ kb = some (.row [[.str g]])) (l : Line) : At EE σ nx 91 [l.pv, .ptr kb 0 0] (.bool (memberS g l)) := by
  intro nx hnx
  refine fn_of_body goodEE (by rw [EE_P]; exact Tryz.func91) rfl rfl (by kernel_rfl) (Nat.le_of_ble_eq_true rfl) ?_ fun hwf hlt => ?_
  rotate_left
  rw [show Tryz.f91.results.toList = [.tmp 3] from rfl]
  refine awp_begin _ _ _ _ _ (cc := _) (by conv => lhs; simp only [push_cast, seval, Tryz.f91]) ?_
  simp only [push_cast, seval, EE_P]
  · have hkn : kb < nx := (hwf kb _ hb).1
    repeat' (first | simp only [push_cast, seval, EE_P, hb, (key_ne hkn).1, (key_ne hkn).2.1, (key_ne hkn).2.2.1, (key_ne hkn).2.2.2] | simp (disch := omega) only [wrap_fits] | ((first | with_reducible apply wcall_pure | with_reducible apply wdcall_pure); focus (first | assumption | fail)) | (with_reducible refine wguard_split_t (fun h => ?_) (fun h => ?_)) | (with_reducible refine wguard_split_f (fun h => ?_) (fun h => ?_)) | (with_reducible refine wcond_split (fun h => ?_) (fun h => ?_)) | (with_reducible refine wdguard_split_t (fun h => ?_) (fun h => ?_)) | (with_reducible refine wdguard_split_f (fun h => ?_) (fun h => ?_)) | (with_reducible refine And.intro (fun h => ?_) (fun h => ?_)) | (with_reducible apply And.intro; focus omega))
    all_goals ((refine ends_ret (by simp only [resultsOf, resOf, push_cast, seval, EE_P]; rfl) (by simp only [push_cast, seval, EE_P]) ?_ (by repeat' (first | exact Keeps.refl _ | assumption | exact (hwf.keep1 _) | refine Keeps.new hwf ?_ (by omega) _)) (by simp only [lt_int, lt_bool, lt_str, lt_nil, lt_empty, lt_agg, lt_tup, lt_list, lt_cells, lt_fn, lt_nilp, lt_nilfn, lt_nili, List.mem_cons, List.not_mem_nil, or_false, forall_eq_or_imp, forall_eq, and_true, true_and, and_self, implies_true, *]; try omega)); (try simp only [tupOf, push_cast, seval, EE_P]))
    all_goals (first | (simp_all [memberS]; done) | (simp_all [memberS]; omega) | (simp [memberS, *]; done) | (simp [memberS, *]; omega))
  · omega
def addS (m : MK) (name : ByteArray) (w : Frac) : MK := becomeS m name (fadd m.pts w) (faddErr m.pts w)
def bestS (g : ByteArray) (b : Line) (ls : List Line) : Line := ls.foldl (fun b l => if (memberS g l && lessS (weightS b) (weightS l)) = true then l else b) b
def pointsS (ls : List Line) (i : Nat) (l : Line) (m : MK) : MK :=
  if l.group.size = 0 then addS m l.name (weightS l) else if ls.take i |>.any (memberS l.group) then m else addS m (bestS l.group l (ls.drop i)).name (weightS (bestS l.group l (ls.drop i)))
theorem bestS_step (g : ByteArray) (l : Line) {rest : List Line} {j : Nat} (h : j < rest.length) : bestS g l (rest.take (j + 1)) = if (memberS g rest[j] && lessS (weightS (bestS g l (rest.take j))) (weightS rest[j])) = true then rest[j] else bestS g l (rest.take j) := by
  unfold bestS
  rw [List.take_succ_eq_append_getElem h, List.foldl_append]
  rfl
theorem lines7 (ls : List Line) : (∀ c ∈ ls.map Line.cs, c.length = 7) = True := eq_true fun c hc => by
  obtain ⟨l, _, rfl⟩ := List.mem_map.1 hc
  rfl
theorem points_fn {σ : Store} {nx k : Nat} {ls : List Line} {m : MK} (hwf : Wf σ nx) (h : MkAt σ k (.list (ls.map Line.cs)) m) (hl : m.parts.length ≤ 1000000) (hls : ls.length ≤ 1000000) {i : Nat} {l : Line} (hi : ls[i]? = some l) :
    ∃ σ' nx', Fn EE 66 σ nx [.ptr k 0 0, .int .i64 i] (.ret (.tup [])) σ' nx' ∧ MkAt σ' k (.list (ls.map Line.cs)) (pointsS ls i l m) ∧ MkStep σ nx k σ' nx' := by
  have hN := h.old hwf
  obtain ⟨hkn, pv, l2, hk, hp⟩ := id hN
  simp only [MK.row] at hk
  have hlt : ∀ a ∈ [PV.ptr k 0 0, PV.int .i64 i], Lt nx a := by
    (simp only [push_cast, seval, lt_int, lt_bool, lt_str, lt_nil, lt_empty, lt_agg, lt_tup, lt_list, lt_cells, lt_fn, lt_ptr, lt_row, lt_nilp, lt_nilfn, lt_nili, List.mem_cons, List.not_mem_nil, or_false, forall_eq_or_imp, forall_eq, and_true, true_and, and_self, implies_true, false_implies]; try omega)
  have hget : (ls.map Line.cs)[i]? = some l.cs := by rw [List.getElem?_map, hi]; rfl
  have hil : i < ls.length := (List.getElem?_eq_some_iff.1 hi).1
  have hi0 : (0 : Int) ≤ i := by omega
  have hi1 : (i : Int) < ls.length := by omega
  have hi2 : (i : Int) ≤ ls.length := by omega
  have hc7 := lines7 ls
  refine fn_ex' goodEE (by rw [EE_P]; exact Tryz.func66) rfl rfl (by kernel_rfl) (Nat.le_of_ble_eq_true rfl) hwf hlt ?_
  rw [show Tryz.f66.results.toList = [] from rfl]
  refine awp_begin _ _ _ _ _ (cc := _) (by conv => lhs; simp only [push_cast, seval, Tryz.f66]) ?_
  simp only [push_cast, seval, EE_P]
  repeat' (first | simp only [push_cast, seval, EE_P, hk, (key_ne hkn).1, (key_ne hkn).2.1, (key_ne hkn).2.2.1, (key_ne hkn).2.2.2, hget, hi0, hi1, hi2, hc7, List.length_map, Int.toNat_natCast] | simp (disch := omega) only [wrap_fits] | ((first | with_reducible apply wcall_pure | with_reducible apply wdcall_pure); focus (first | assumption | exact wrong_fn _ | exact right_fn _ | exact isName_fn _ | exact formatExpr_name _ | exact format_name _ | exact right_name _ | exact depth_name _ | exact name_fn _ | exact run_fn _ (by omega) _ [] [] _ (fun b _ _ => inName_fn b) | exact keywords_fn | exact contains_fn kwS (by decide) _ | exact inName_fn _ | exact digit_fn _ | exact letter_fn _ | exact hundredths_fn goodEE EE_P _ _ | exact mul_fn goodEE EE_P _ _ _ _ | exact sub_fn goodEE EE_P _ _ _ _ | exact add_fn goodEE EE_P _ _ _ _ | exact weight_fn goodEE EE_P EE_zero _ _ _ _ _ _ _ | exact less_fn goodEE EE_P _ _ _ _ | exact compare_fn goodEE EE_P _ _ _ _ | exact cmp_fn goodEE EE_P _ _ | exact isNaN_fn goodEE EE_P _ | exact valid_fn goodEE EE_P _ _ | exact abs_fn goodEE EE_P (by omega) (by omega))) | (with_reducible refine wguard_split_t (fun h => ?_) (fun h => ?_)) | (with_reducible refine wguard_split_f (fun h => ?_) (fun h => ?_)) | (with_reducible refine wcond_split (fun h => ?_) (fun h => ?_)) | (with_reducible refine wdguard_split_t (fun h => ?_) (fun h => ?_)) | (with_reducible refine wdguard_split_f (fun h => ?_) (fun h => ?_)) | (with_reducible refine And.intro (fun h => ?_) (fun h => ?_)) | (with_reducible apply And.intro; focus omega))
  · rename_i hg
    refine wdcall_mk (fun σ nx hw hm => madd_fn hw hm hl l.name (weightS l)) (σ0 := σ) (nx0 := nx) (lv := .list (ls.map Line.cs)) ?_ ?_ ?_ ?_
    · (repeat' (first | exact MkStep.base hwf (by omega) | exact MkStep.mono (by assumption) (by omega) | refine MkStep.new ?_ hkn (by omega) (by omega) (by simp only [ObjLt, push_cast, seval, lt_int, lt_bool, lt_str, lt_nil, lt_empty, lt_agg, lt_tup, lt_list, lt_cells, lt_fn, lt_ptr, lt_row, lt_nilp, lt_nilfn, lt_nili, List.mem_cons, List.not_mem_nil, or_false, forall_eq_or_imp, forall_eq, and_true, true_and, and_self, implies_true, false_implies]; try omega)))
    · (repeat' (first | exact hN | assumption | refine MkAtN.new ?_ (by omega)))
    · simp
    · intro σ' nx' hm hs
      repeat' (first | simp only [push_cast, seval, EE_P] | simp (disch := omega) only [wrap_fits] | ((first | with_reducible apply wcall_pure | with_reducible apply wdcall_pure); focus (first | assumption | exact wrong_fn _ | exact right_fn _ | exact isName_fn _ | exact formatExpr_name _ | exact format_name _ | exact right_name _ | exact depth_name _ | exact name_fn _ | exact run_fn _ (by omega) _ [] [] _ (fun b _ _ => inName_fn b) | exact keywords_fn | exact contains_fn kwS (by decide) _ | exact inName_fn _ | exact digit_fn _ | exact letter_fn _ | exact hundredths_fn goodEE EE_P _ _ | exact mul_fn goodEE EE_P _ _ _ _ | exact sub_fn goodEE EE_P _ _ _ _ | exact add_fn goodEE EE_P _ _ _ _ | exact weight_fn goodEE EE_P EE_zero _ _ _ _ _ _ _ | exact less_fn goodEE EE_P _ _ _ _ | exact compare_fn goodEE EE_P _ _ _ _ | exact cmp_fn goodEE EE_P _ _ | exact isNaN_fn goodEE EE_P _ | exact valid_fn goodEE EE_P _ _ | exact abs_fn goodEE EE_P (by omega) (by omega))) | (with_reducible refine wguard_split_t (fun h => ?_) (fun h => ?_)) | (with_reducible refine wguard_split_f (fun h => ?_) (fun h => ?_)) | (with_reducible refine wcond_split (fun h => ?_) (fun h => ?_)) | (with_reducible refine wdguard_split_t (fun h => ?_) (fun h => ?_)) | (with_reducible refine wdguard_split_f (fun h => ?_) (fun h => ?_)) | (with_reducible refine And.intro (fun h => ?_) (fun h => ?_)) | (with_reducible apply And.intro; focus omega))
      rw [show pointsS ls i l m = addS m l.name (weightS l) from if_pos (by assumption)]
      exact ends_mk trivial hm hs
  · simp only [← List.map_take, ← List.map_drop]
    refine wcall_of _ _ _ _ _ _ (containsFunc_lines (p := memberS l.group) (first := []) (caps := [.ptr (nx + 8) 0 0]) ?_ (fun x hx => member_fn ?_ x) _ (Nat.le_refl _)) ?_
    · exact Nat.le_trans (List.length_take_le ..) (by omega)
    · simp only [upd_at, push_cast, seval]
    have ht1 : ((i : Int) - 0).toNat = i := by omega
    have ht2 : List.take ((ls.length : Int) - i).toNat (List.drop i (List.map Line.cs ls)) = (ls.drop i).map Line.cs := by
      rw [← List.map_drop]
      exact List.take_of_length_le (by simp)
    repeat' (first | simp only [push_cast, seval, EE_P, hk, (key_ne hkn).1, (key_ne hkn).2.1, (key_ne hkn).2.2.1, (key_ne hkn).2.2.2, hget, hi0, hi1, hi2, hc7, List.length_map, Int.toNat_natCast, ht1, ht2] | simp (disch := omega) only [wrap_fits] | ((first | with_reducible apply wcall_pure | with_reducible apply wdcall_pure); focus (first | assumption | exact wrong_fn _ | exact right_fn _ | exact isName_fn _ | exact formatExpr_name _ | exact format_name _ | exact right_name _ | exact depth_name _ | exact name_fn _ | exact run_fn _ (by omega) _ [] [] _ (fun b _ _ => inName_fn b) | exact keywords_fn | exact contains_fn kwS (by decide) _ | exact inName_fn _ | exact digit_fn _ | exact letter_fn _ | exact hundredths_fn goodEE EE_P _ _ | exact mul_fn goodEE EE_P _ _ _ _ | exact sub_fn goodEE EE_P _ _ _ _ | exact add_fn goodEE EE_P _ _ _ _ | exact weight_fn goodEE EE_P EE_zero _ _ _ _ _ _ _ | exact less_fn goodEE EE_P _ _ _ _ | exact compare_fn goodEE EE_P _ _ _ _ | exact cmp_fn goodEE EE_P _ _ | exact isNaN_fn goodEE EE_P _ | exact valid_fn goodEE EE_P _ _ | exact abs_fn goodEE EE_P (by omega) (by omega))) | (with_reducible refine wguard_split_t (fun h => ?_) (fun h => ?_)) | (with_reducible refine wguard_split_f (fun h => ?_) (fun h => ?_)) | (with_reducible refine wcond_split (fun h => ?_) (fun h => ?_)) | (with_reducible refine wdguard_split_t (fun h => ?_) (fun h => ?_)) | (with_reducible refine wdguard_split_f (fun h => ?_) (fun h => ?_)) | (with_reducible refine And.intro (fun h => ?_) (fun h => ?_)) | (with_reducible apply And.intro; focus omega))
    · rw [show pointsS ls i l m = m from by unfold pointsS; rw [if_neg (by assumption), if_pos (by assumption)]]
      refine ends_mk trivial (MkAtN.at (nx := nx) ?_) ?_
      · (repeat' (first | exact hN | assumption | refine MkAtN.new ?_ (by omega)))
      · (repeat' (first | exact MkStep.base hwf (by omega) | exact MkStep.mono (by assumption) (by omega) | refine MkStep.new ?_ hkn (by omega) (by omega) (by simp only [ObjLt, push_cast, seval, lt_int, lt_bool, lt_str, lt_nil, lt_empty, lt_agg, lt_tup, lt_list, lt_cells, lt_fn, lt_ptr, lt_row, lt_nilp, lt_nilfn, lt_nili, List.mem_cons, List.not_mem_nil, or_false, forall_eq_or_imp, forall_eq, and_true, true_and, and_self, implies_true, false_implies]; try omega)))
    · have hany : (ls.take i).any (memberS l.group) = false := by assumption
      have hpt : pointsS ls i l m = addS m (bestS l.group l (ls.drop i)).name (weightS (bestS l.group l (ls.drop i))) := by
        unfold pointsS
        rw [if_neg (by assumption), if_neg (by rw [hany]; simp)]
      rw [hpt]
      generalize hrest : ls.drop i = rest
      have hrl : rest.length ≤ 1000000 := by rw [← hrest]; simp; omega
      refine wloop_by (fun mm sl σ' nx' => ∃ (j : Nat) (kb kg : Nat), j ≤ rest.length ∧ mm = rest.length - j ∧ nx ≤ kb ∧ kb < nx' ∧ nx ≤ kg ∧ kg < nx' ∧ kb ≠ kg ∧ sl 0 = .ptr k 0 0 ∧ sl 5 = .fn 91 [] [.ptr kg 0 0] ∧ sl 6 = .ptr kb 0 0 ∧ sl 58 = .list (rest.map Line.cs) ∧ sl 59 = .int .i64 rest.length ∧ sl 60 = .int .i64 j ∧
        σ' kb = some (.row [(bestS l.group l (rest.take j)).cs]) ∧ σ' kg = some (.row [[.str l.group]]) ∧ MkStep σ nx k σ' nx' ∧ MkAtN nx σ' k (.list (ls.map Line.cs)) m) rest.length ⟨0, nx + 29, nx + 8, by omega, rfl, by omega, by omega, by omega, by omega, by omega, rfl, rfl, rfl, rfl, by simp only [upd_at, push_cast, seval], rfl, ?_, ?_, ?_, ?_⟩ ?_
      · simp only [upd_at, push_cast, seval, bestS, List.take_zero, List.foldl_nil]
      · simp only [upd_at, push_cast, seval]
      · (repeat' (first | exact MkStep.base hwf (by omega) | exact MkStep.mono (by assumption) (by omega) | refine MkStep.new ?_ hkn (by omega) (by omega) (by simp only [ObjLt, push_cast, seval, lt_int, lt_bool, lt_str, lt_nil, lt_empty, lt_agg, lt_tup, lt_list, lt_cells, lt_fn, lt_ptr, lt_row, lt_nilp, lt_nilfn, lt_nili, List.mem_cons, List.not_mem_nil, or_false, forall_eq_or_imp, forall_eq, and_true, true_and, and_self, implies_true, false_implies]; try omega)))
      · (repeat' (first | exact hN | assumption | refine MkAtN.new ?_ (by omega)))
      rintro mm sl σ' nx' ⟨j, kb, kg, hj, hmm, hb1, hb2, hg1, hg2, hbg, h0, h5, h6, h58, h59, h60, hkb, hkg, hs, hm⟩
      have hj0 : (0 : Int) ≤ j := by omega
      by_cases hjr : j < rest.length
      · have hjl : (j : Int) < rest.length := by omega
        have hw : IntKind.i64.wrap ((j : Int) + 1) = (j : Int) + 1 := wrap_small (by omega) (by omega)
        have hgj : (rest.map Line.cs)[j]? = some rest[j].cs := by rw [List.getElem?_map, List.getElem?_eq_getElem hjr]; rfl
        have hstep := bestS_step l.group l hjr
        generalize hb : bestS l.group l (rest.take j) = b at hstep hkb
        generalize hr : rest[j] = r at hstep hgj
        repeat' (first | simp only [push_cast, seval, EE_P, h0, h5, h6, h58, h59, h60, (key_ne hb2).1, (key_ne hb2).2.1, (key_ne hb2).2.2.1, (key_ne hb2).2.2.2, (key_ne hg2).1, (key_ne hg2).2.1, (key_ne hg2).2.2.1, (key_ne hg2).2.2.2, (ne_keys hbg).1, (ne_keys hbg).2, hkb, hkg, hgj, hj0, hjl, List.length_map, Int.toNat_natCast] | simp (disch := omega) only [wrap_fits] | ((first | with_reducible apply wcall_pure | with_reducible apply wdcall_pure); focus (first | assumption | exact wrong_fn _ | exact right_fn _ | exact isName_fn _ | exact formatExpr_name _ | exact format_name _ | exact right_name _ | exact depth_name _ | exact name_fn _ | exact run_fn _ (by omega) _ [] [] _ (fun b _ _ => inName_fn b) | exact keywords_fn | exact contains_fn kwS (by decide) _ | exact inName_fn _ | exact digit_fn _ | exact letter_fn _ | exact hundredths_fn goodEE EE_P _ _ | exact mul_fn goodEE EE_P _ _ _ _ | exact sub_fn goodEE EE_P _ _ _ _ | exact add_fn goodEE EE_P _ _ _ _ | exact weight_fn goodEE EE_P EE_zero _ _ _ _ _ _ _ | exact less_fn goodEE EE_P _ _ _ _ | exact compare_fn goodEE EE_P _ _ _ _ | exact cmp_fn goodEE EE_P _ _ | exact isNaN_fn goodEE EE_P _ | exact valid_fn goodEE EE_P _ _ | exact abs_fn goodEE EE_P (by omega) (by omega))) | (with_reducible refine wguard_split_t (fun h => ?_) (fun h => ?_)) | (with_reducible refine wguard_split_f (fun h => ?_) (fun h => ?_)) | (with_reducible refine wcond_split (fun h => ?_) (fun h => ?_)) | (with_reducible refine wdguard_split_t (fun h => ?_) (fun h => ?_)) | (with_reducible refine wdguard_split_f (fun h => ?_) (fun h => ?_)) | (with_reducible refine And.intro (fun h => ?_) (fun h => ?_)) | (with_reducible apply And.intro; focus omega))
        refine wdcall_of _ _ _ _ _ _ (member_fn (g := l.group) ?_ r _ (Nat.le_refl _)) ?_ ?_
        · simp only [upd_at, push_cast, seval, (key_ne hg2).1, (key_ne hg2).2.1, (key_ne hg2).2.2.1, (key_ne hg2).2.2.2, hkg]
        · simp
        repeat' (first | simp only [push_cast, seval, EE_P, h0, h5, h6, h58, h59, h60, (key_ne hb2).1, (key_ne hb2).2.1, (key_ne hb2).2.2.1, (key_ne hb2).2.2.2, (key_ne hg2).1, (key_ne hg2).2.1, (key_ne hg2).2.2.1, (key_ne hg2).2.2.2, (ne_keys hbg).1, (ne_keys hbg).2, hkb, hkg, hgj, hj0, hjl, List.length_map, Int.toNat_natCast] | simp (disch := omega) only [wrap_fits] | ((first | with_reducible apply wcall_pure | with_reducible apply wdcall_pure); focus (first | assumption | exact wrong_fn _ | exact right_fn _ | exact isName_fn _ | exact formatExpr_name _ | exact format_name _ | exact right_name _ | exact depth_name _ | exact name_fn _ | exact run_fn _ (by omega) _ [] [] _ (fun b _ _ => inName_fn b) | exact keywords_fn | exact contains_fn kwS (by decide) _ | exact inName_fn _ | exact digit_fn _ | exact letter_fn _ | exact hundredths_fn goodEE EE_P _ _ | exact mul_fn goodEE EE_P _ _ _ _ | exact sub_fn goodEE EE_P _ _ _ _ | exact add_fn goodEE EE_P _ _ _ _ | exact weight_fn goodEE EE_P EE_zero _ _ _ _ _ _ _ | exact less_fn goodEE EE_P _ _ _ _ | exact compare_fn goodEE EE_P _ _ _ _ | exact cmp_fn goodEE EE_P _ _ | exact isNaN_fn goodEE EE_P _ | exact valid_fn goodEE EE_P _ _ | exact abs_fn goodEE EE_P (by omega) (by omega))) | (with_reducible refine wguard_split_t (fun h => ?_) (fun h => ?_)) | (with_reducible refine wguard_split_f (fun h => ?_) (fun h => ?_)) | (with_reducible refine wcond_split (fun h => ?_) (fun h => ?_)) | (with_reducible refine wdguard_split_t (fun h => ?_) (fun h => ?_)) | (with_reducible refine wdguard_split_f (fun h => ?_) (fun h => ?_)) | (with_reducible refine And.intro (fun h => ?_) (fun h => ?_)) | (with_reducible apply And.intro; focus omega))
        all_goals refine ⟨rest.length - (j + 1), by omega, j + 1, kb, kg, by omega, rfl, hb1, by omega, hg1, by omega, hbg, rfl, rfl, by simp, ?_, ?_, ?_, ?_⟩
        all_goals (try (case _ => (repeat' (first | exact MkStep.base hwf (by omega) | exact MkStep.mono (by assumption) (by omega) | refine MkStep.new ?_ hkn (by omega) (by omega) (by simp only [ObjLt, push_cast, seval, lt_int, lt_bool, lt_str, lt_nil, lt_empty, lt_agg, lt_tup, lt_list, lt_cells, lt_fn, lt_ptr, lt_row, lt_nilp, lt_nilfn, lt_nili, List.mem_cons, List.not_mem_nil, or_false, forall_eq_or_imp, forall_eq, and_true, true_and, and_self, implies_true, false_implies]; try omega))); done))
        all_goals (try (case _ => (repeat' (first | exact hN | assumption | refine MkAtN.new ?_ (by omega))); done))
        all_goals (try (simp only [push_cast, seval, (key_ne hg2).1, (key_ne hg2).2.1, (key_ne hg2).2.2.1, (key_ne hg2).2.2.2, (ne_keys hbg).1, (ne_keys hbg).2, hkg]; done))
        · have hst : bestS l.group l (rest.take (j + 1)) = r := by simp [hstep, lessS, weightS, *]
          simp only [push_cast, seval, (key_ne hb2).1, (key_ne hb2).2.1, (key_ne hb2).2.2.1, (key_ne hb2).2.2.2, hst]
        · have hst : bestS l.group l (rest.take (j + 1)) = b := by simp [hstep, lessS, weightS, *]
          simp only [push_cast, seval, (key_ne hb2).1, (key_ne hb2).2.1, (key_ne hb2).2.2.1, (key_ne hb2).2.2.2, hkb, hst]
        · have hst : bestS l.group l (rest.take (j + 1)) = b := by simp [hstep, lessS, weightS, *]
          simp only [push_cast, seval, (key_ne hb2).1, (key_ne hb2).2.1, (key_ne hb2).2.2.1, (key_ne hb2).2.2.2, hkb, hst]
      · have hjl : ¬ (j : Int) < rest.length := by omega
        have hst : rest.take j = rest := List.take_of_length_le (by omega)
        rw [hst] at hkb
        generalize bestS l.group l rest = b at hkb ⊢
        repeat' (first | simp only [push_cast, seval, EE_P, h0, h5, h6, h58, h59, h60, (key_ne hb2).1, (key_ne hb2).2.1, (key_ne hb2).2.2.1, (key_ne hb2).2.2.2, (key_ne hg2).1, (key_ne hg2).2.1, (key_ne hg2).2.2.1, (key_ne hg2).2.2.2, (ne_keys hbg).1, (ne_keys hbg).2, hkb, hkg, hj0, hjl, List.length_map, Int.toNat_natCast] | simp (disch := omega) only [wrap_fits] | ((first | with_reducible apply wcall_pure | with_reducible apply wdcall_pure); focus (first | assumption | exact wrong_fn _ | exact right_fn _ | exact isName_fn _ | exact formatExpr_name _ | exact format_name _ | exact right_name _ | exact depth_name _ | exact name_fn _ | exact run_fn _ (by omega) _ [] [] _ (fun b _ _ => inName_fn b) | exact keywords_fn | exact contains_fn kwS (by decide) _ | exact inName_fn _ | exact digit_fn _ | exact letter_fn _ | exact hundredths_fn goodEE EE_P _ _ | exact mul_fn goodEE EE_P _ _ _ _ | exact sub_fn goodEE EE_P _ _ _ _ | exact add_fn goodEE EE_P _ _ _ _ | exact weight_fn goodEE EE_P EE_zero _ _ _ _ _ _ _ | exact less_fn goodEE EE_P _ _ _ _ | exact compare_fn goodEE EE_P _ _ _ _ | exact cmp_fn goodEE EE_P _ _ | exact isNaN_fn goodEE EE_P _ | exact valid_fn goodEE EE_P _ _ | exact abs_fn goodEE EE_P (by omega) (by omega))) | (with_reducible refine wguard_split_t (fun h => ?_) (fun h => ?_)) | (with_reducible refine wguard_split_f (fun h => ?_) (fun h => ?_)) | (with_reducible refine wcond_split (fun h => ?_) (fun h => ?_)) | (with_reducible refine wdguard_split_t (fun h => ?_) (fun h => ?_)) | (with_reducible refine wdguard_split_f (fun h => ?_) (fun h => ?_)) | (with_reducible refine And.intro (fun h => ?_) (fun h => ?_)) | (with_reducible apply And.intro; focus omega))
        refine wdcall_mk (fun σ nx hw hm => madd_fn hw hm hl b.name (weightS b)) (σ0 := σ) (nx0 := nx) (lv := .list (ls.map Line.cs)) ?_ ?_ ?_ ?_
        · (repeat' (first | exact MkStep.base hwf (by omega) | exact MkStep.mono (by assumption) (by omega) | refine MkStep.new ?_ hkn (by omega) (by omega) (by simp only [ObjLt, push_cast, seval, lt_int, lt_bool, lt_str, lt_nil, lt_empty, lt_agg, lt_tup, lt_list, lt_cells, lt_fn, lt_ptr, lt_row, lt_nilp, lt_nilfn, lt_nili, List.mem_cons, List.not_mem_nil, or_false, forall_eq_or_imp, forall_eq, and_true, true_and, and_self, implies_true, false_implies]; try omega)))
        · (repeat' (first | exact hN | assumption | refine MkAtN.new ?_ (by omega)))
        · simp
        · intro σ' nx' hm hs
          repeat' (first | simp only [push_cast, seval, EE_P] | simp (disch := omega) only [wrap_fits] | ((first | with_reducible apply wcall_pure | with_reducible apply wdcall_pure); focus (first | assumption | exact wrong_fn _ | exact right_fn _ | exact isName_fn _ | exact formatExpr_name _ | exact format_name _ | exact right_name _ | exact depth_name _ | exact name_fn _ | exact run_fn _ (by omega) _ [] [] _ (fun b _ _ => inName_fn b) | exact keywords_fn | exact contains_fn kwS (by decide) _ | exact inName_fn _ | exact digit_fn _ | exact letter_fn _ | exact hundredths_fn goodEE EE_P _ _ | exact mul_fn goodEE EE_P _ _ _ _ | exact sub_fn goodEE EE_P _ _ _ _ | exact add_fn goodEE EE_P _ _ _ _ | exact weight_fn goodEE EE_P EE_zero _ _ _ _ _ _ _ | exact less_fn goodEE EE_P _ _ _ _ | exact compare_fn goodEE EE_P _ _ _ _ | exact cmp_fn goodEE EE_P _ _ | exact isNaN_fn goodEE EE_P _ | exact valid_fn goodEE EE_P _ _ | exact abs_fn goodEE EE_P (by omega) (by omega))) | (with_reducible refine wguard_split_t (fun h => ?_) (fun h => ?_)) | (with_reducible refine wguard_split_f (fun h => ?_) (fun h => ?_)) | (with_reducible refine wcond_split (fun h => ?_) (fun h => ?_)) | (with_reducible refine wdguard_split_t (fun h => ?_) (fun h => ?_)) | (with_reducible refine wdguard_split_f (fun h => ?_) (fun h => ?_)) | (with_reducible refine And.intro (fun h => ?_) (fun h => ?_)) | (with_reducible apply And.intro; focus omega))
          exact ends_mk trivial hm hs
end Go.Proofs.YtdajoilaakiinaaGreatDoor.Awp

/- credit.maker: the other steps; finish. -/
namespace Go.Proofs.YtdajoilaakiinaaGreatDoor.Awp
open Go Go.Proofs
set_option linter.unusedSimpArgs false
set_option linter.unusedVariables false
set_option maxRecDepth 10000
set_option maxHeartbeats 4000000

def penaltyS (l : Line) (m : MK) : MK :=
  let w := if lessS m.pts (weightS l) = true then m.pts else weightS l
  becomeS m l.name (fsub m.pts w) (fsubErr m.pts w)
theorem penalty_fn {σ : Store} {nx k : Nat} {ls : List Line} {m : MK} (hwf : Wf σ nx) (h : MkAt σ k (.list (ls.map Line.cs)) m) (hl : m.parts.length ≤ 1000000) (hls : ls.length ≤ 1000000) {i : Nat} {l : Line} (hi : ls[i]? = some l) :
    ∃ σ' nx', Fn EE 60 σ nx [.int .i64 i, .cells [.ptr k 0 0]] (.ret (.tup [])) σ' nx' ∧ MkAt σ' k (.list (ls.map Line.cs)) (penaltyS l m) ∧ MkStep σ nx k σ' nx' := by
  have hN := h.old hwf
  obtain ⟨hkn, pv, l2, hk, hp⟩ := id hN
  simp only [MK.row] at hk
  have hlt : ∀ a ∈ [PV.int .i64 i, PV.cells [.ptr k 0 0]], Lt nx a := by
    (simp only [push_cast, seval, lt_int, lt_bool, lt_str, lt_nil, lt_empty, lt_agg, lt_tup, lt_list, lt_cells, lt_fn, lt_ptr, lt_row, lt_nilp, lt_nilfn, lt_nili, List.mem_cons, List.not_mem_nil, or_false, forall_eq_or_imp, forall_eq, and_true, true_and, and_self, implies_true, false_implies]; try omega)
  have hget : (ls.map Line.cs)[i]? = some l.cs := by rw [List.getElem?_map, hi]; rfl
  have hil : i < ls.length := (List.getElem?_eq_some_iff.1 hi).1
  have hi0 : (0 : Int) ≤ i := by omega
  have hi1 : (i : Int) < ls.length := by omega
  refine fn_ex' goodEE (by rw [EE_P]; exact Tryz.func60) rfl rfl (by kernel_rfl) (Nat.le_of_ble_eq_true rfl) hwf hlt ?_
  rw [show Tryz.f60.results.toList = [] from rfl]
  refine awp_begin _ _ _ _ _ (cc := _) (by conv => lhs; simp only [push_cast, seval, Tryz.f60]) ?_
  simp only [push_cast, seval, EE_P]
  repeat' (first | simp only [push_cast, seval, EE_P, hk, (key_ne hkn).1, (key_ne hkn).2.1, (key_ne hkn).2.2.1, (key_ne hkn).2.2.2, hget, hi0, hi1, List.length_map, Int.toNat_natCast] | simp (disch := omega) only [wrap_fits] | ((first | with_reducible apply wcall_pure | with_reducible apply wdcall_pure); focus (first | assumption | exact sub_fn goodEE EE_P _ _ _ _ | exact weight_fn goodEE EE_P EE_zero _ _ _ _ _ _ _ | exact less_fn goodEE EE_P _ _ _ _)) | (with_reducible refine wguard_split_t (fun h => ?_) (fun h => ?_)) | (with_reducible refine wguard_split_f (fun h => ?_) (fun h => ?_)) | (with_reducible refine wcond_split (fun h => ?_) (fun h => ?_)) | (with_reducible refine wdguard_split_t (fun h => ?_) (fun h => ?_)) | (with_reducible refine wdguard_split_f (fun h => ?_) (fun h => ?_)) | (with_reducible refine And.intro (fun h => ?_) (fun h => ?_)) | (with_reducible apply And.intro; focus omega))
  · refine wdcall_mk (fun σ nx hw hm => become_fn hw hm hl l.name (fsub m.pts m.pts) (fsubErr m.pts m.pts)) (σ0 := σ) (nx0 := nx) (lv := .list (ls.map Line.cs)) ?_ ?_ ?_ ?_
    · (repeat' (first | exact MkStep.base hwf (by omega) | exact MkStep.mono (by assumption) (by omega) | refine MkStep.new ?_ hkn (by omega) (by omega) (by simp only [ObjLt, push_cast, seval, lt_int, lt_bool, lt_str, lt_nil, lt_empty, lt_agg, lt_tup, lt_list, lt_cells, lt_fn, lt_ptr, lt_row, lt_nilp, lt_nilfn, lt_nili, List.mem_cons, List.not_mem_nil, or_false, forall_eq_or_imp, forall_eq, and_true, true_and, and_self, implies_true, false_implies]; try omega)))
    · (repeat' (first | exact hN | assumption | refine MkAtN.new ?_ (by omega)))
    · simp
    · intro σ' nx' hm hs
      repeat' (first | simp only [push_cast, seval, EE_P] | simp (disch := omega) only [wrap_fits] | ((first | with_reducible apply wcall_pure | with_reducible apply wdcall_pure); focus (first | assumption | exact sub_fn goodEE EE_P _ _ _ _ | exact weight_fn goodEE EE_P EE_zero _ _ _ _ _ _ _ | exact less_fn goodEE EE_P _ _ _ _)) | (with_reducible refine wguard_split_t (fun h => ?_) (fun h => ?_)) | (with_reducible refine wguard_split_f (fun h => ?_) (fun h => ?_)) | (with_reducible refine wcond_split (fun h => ?_) (fun h => ?_)) | (with_reducible refine wdguard_split_t (fun h => ?_) (fun h => ?_)) | (with_reducible refine wdguard_split_f (fun h => ?_) (fun h => ?_)) | (with_reducible refine And.intro (fun h => ?_) (fun h => ?_)) | (with_reducible apply And.intro; focus omega))
      rw [show penaltyS l m = _ from by unfold penaltyS; rw [if_pos (by simp [lessS, weightS, *])]]
      exact ends_mk trivial hm hs
  · refine wdcall_mk (fun σ nx hw hm => become_fn hw hm hl l.name (fsub m.pts (weightS l)) (fsubErr m.pts (weightS l))) (σ0 := σ) (nx0 := nx) (lv := .list (ls.map Line.cs)) ?_ ?_ ?_ ?_
    · (repeat' (first | exact MkStep.base hwf (by omega) | exact MkStep.mono (by assumption) (by omega) | refine MkStep.new ?_ hkn (by omega) (by omega) (by simp only [ObjLt, push_cast, seval, lt_int, lt_bool, lt_str, lt_nil, lt_empty, lt_agg, lt_tup, lt_list, lt_cells, lt_fn, lt_ptr, lt_row, lt_nilp, lt_nilfn, lt_nili, List.mem_cons, List.not_mem_nil, or_false, forall_eq_or_imp, forall_eq, and_true, true_and, and_self, implies_true, false_implies]; try omega)))
    · (repeat' (first | exact hN | assumption | refine MkAtN.new ?_ (by omega)))
    · simp
    · intro σ' nx' hm hs
      repeat' (first | simp only [push_cast, seval, EE_P] | simp (disch := omega) only [wrap_fits] | ((first | with_reducible apply wcall_pure | with_reducible apply wdcall_pure); focus (first | assumption | exact sub_fn goodEE EE_P _ _ _ _ | exact weight_fn goodEE EE_P EE_zero _ _ _ _ _ _ _ | exact less_fn goodEE EE_P _ _ _ _)) | (with_reducible refine wguard_split_t (fun h => ?_) (fun h => ?_)) | (with_reducible refine wguard_split_f (fun h => ?_) (fun h => ?_)) | (with_reducible refine wcond_split (fun h => ?_) (fun h => ?_)) | (with_reducible refine wdguard_split_t (fun h => ?_) (fun h => ?_)) | (with_reducible refine wdguard_split_f (fun h => ?_) (fun h => ?_)) | (with_reducible refine And.intro (fun h => ?_) (fun h => ?_)) | (with_reducible apply And.intro; focus omega))
      rw [show penaltyS l m = _ from by unfold penaltyS; rw [if_neg (by simp [lessS, weightS, *])]]
      exact ends_mk trivial hm hs
def chooseS (better : Frac → Frac → Bool) (l : Line) (m : MK) : MK := becomeS m l.name (if better (weightS l) m.pts = true then weightS l else m.pts) 0
theorem choose_fn {σ : Store} {nx k : Nat} {ls : List Line} {m : MK} (hwf : Wf σ nx) (h : MkAt σ k (.list (ls.map Line.cs)) m) (hl : m.parts.length ≤ 1000000) (hls : ls.length ≤ 1000000) {i : Nat} {l : Line} (hi : ls[i]? = some l) {g : FuncId} {better : Frac → Frac → Bool}
    (hg : ∀ a b : Frac, Pure EE g [a.pv, b.pv] (.bool (better a b))) :
    ∃ σ' nx', Fn EE 64 σ nx [.int .i64 i, .cells [.ptr k 0 0], .cells [.fn g [] []]] (.ret (.tup [])) σ' nx' ∧ MkAt σ' k (.list (ls.map Line.cs)) (chooseS better l m) ∧ MkStep σ nx k σ' nx' := by
  have hN := h.old hwf
  obtain ⟨hkn, pv, l2, hk, hp⟩ := id hN
  simp only [MK.row] at hk
  have hlt : ∀ a ∈ [PV.int .i64 i, PV.cells [.ptr k 0 0], PV.cells [.fn g [] []]], Lt nx a := by
    (simp only [push_cast, seval, lt_int, lt_bool, lt_str, lt_nil, lt_empty, lt_agg, lt_tup, lt_list, lt_cells, lt_fn, lt_ptr, lt_row, lt_nilp, lt_nilfn, lt_nili, List.mem_cons, List.not_mem_nil, or_false, forall_eq_or_imp, forall_eq, and_true, true_and, and_self, implies_true, false_implies]; try omega)
  have hget : (ls.map Line.cs)[i]? = some l.cs := by rw [List.getElem?_map, hi]; rfl
  have hil : i < ls.length := (List.getElem?_eq_some_iff.1 hi).1
  have hi0 : (0 : Int) ≤ i := by omega
  have hi1 : (i : Int) < ls.length := by omega
  have hgc := hg (weightS l) m.pts
  refine fn_ex' goodEE (by rw [EE_P]; exact Tryz.func64) rfl rfl (by kernel_rfl) (Nat.le_of_ble_eq_true rfl) hwf hlt ?_
  rw [show Tryz.f64.results.toList = [] from rfl]
  refine awp_begin _ _ _ _ _ (cc := _) (by conv => lhs; simp only [push_cast, seval, Tryz.f64]) ?_
  simp only [push_cast, seval, EE_P]
  repeat' (first | simp only [push_cast, seval, EE_P, hk, (key_ne hkn).1, (key_ne hkn).2.1, (key_ne hkn).2.2.1, (key_ne hkn).2.2.2, hget, hi0, hi1, List.length_map, Int.toNat_natCast] | simp (disch := omega) only [wrap_fits] | ((first | with_reducible apply wcall_pure | with_reducible apply wdcall_pure); focus (first | assumption | exact wrong_fn _ | exact right_fn _ | exact isName_fn _ | exact formatExpr_name _ | exact format_name _ | exact right_name _ | exact depth_name _ | exact name_fn _ | exact run_fn _ (by omega) _ [] [] _ (fun b _ _ => inName_fn b) | exact keywords_fn | exact contains_fn kwS (by decide) _ | exact inName_fn _ | exact digit_fn _ | exact letter_fn _ | exact hundredths_fn goodEE EE_P _ _ | exact mul_fn goodEE EE_P _ _ _ _ | exact sub_fn goodEE EE_P _ _ _ _ | exact add_fn goodEE EE_P _ _ _ _ | exact weight_fn goodEE EE_P EE_zero _ _ _ _ _ _ _ | exact less_fn goodEE EE_P _ _ _ _ | exact compare_fn goodEE EE_P _ _ _ _ | exact cmp_fn goodEE EE_P _ _ | exact isNaN_fn goodEE EE_P _ | exact valid_fn goodEE EE_P _ _ | exact abs_fn goodEE EE_P (by omega) (by omega))) | (with_reducible refine wguard_split_t (fun h => ?_) (fun h => ?_)) | (with_reducible refine wguard_split_f (fun h => ?_) (fun h => ?_)) | (with_reducible refine wcond_split (fun h => ?_) (fun h => ?_)) | (with_reducible refine wdguard_split_t (fun h => ?_) (fun h => ?_)) | (with_reducible refine wdguard_split_f (fun h => ?_) (fun h => ?_)) | (with_reducible refine And.intro (fun h => ?_) (fun h => ?_)) | (with_reducible apply And.intro; focus omega))
  · have hb : better (weightS l) m.pts = false := by simpa using ‹(!better (weightS l) m.pts) = true›
    refine wdcall_mk (fun σ nx hw hm => become_fn hw hm hl l.name m.pts 0) (σ0 := σ) (nx0 := nx) (lv := .list (ls.map Line.cs)) ?_ ?_ ?_ ?_
    · (repeat' (first | exact MkStep.base hwf (by omega) | exact MkStep.mono (by assumption) (by omega) | refine MkStep.new ?_ hkn (by omega) (by omega) (by simp only [ObjLt, push_cast, seval, lt_int, lt_bool, lt_str, lt_nil, lt_empty, lt_agg, lt_tup, lt_list, lt_cells, lt_fn, lt_ptr, lt_row, lt_nilp, lt_nilfn, lt_nili, List.mem_cons, List.not_mem_nil, or_false, forall_eq_or_imp, forall_eq, and_true, true_and, and_self, implies_true, false_implies]; try omega)))
    · (repeat' (first | exact hN | assumption | refine MkAtN.new ?_ (by omega)))
    · simp
    · intro σ' nx' hm hs
      repeat' (first | simp only [push_cast, seval, EE_P] | simp (disch := omega) only [wrap_fits] | ((first | with_reducible apply wcall_pure | with_reducible apply wdcall_pure); focus (first | assumption | exact wrong_fn _ | exact right_fn _ | exact isName_fn _ | exact formatExpr_name _ | exact format_name _ | exact right_name _ | exact depth_name _ | exact name_fn _ | exact run_fn _ (by omega) _ [] [] _ (fun b _ _ => inName_fn b) | exact keywords_fn | exact contains_fn kwS (by decide) _ | exact inName_fn _ | exact digit_fn _ | exact letter_fn _ | exact hundredths_fn goodEE EE_P _ _ | exact mul_fn goodEE EE_P _ _ _ _ | exact sub_fn goodEE EE_P _ _ _ _ | exact add_fn goodEE EE_P _ _ _ _ | exact weight_fn goodEE EE_P EE_zero _ _ _ _ _ _ _ | exact less_fn goodEE EE_P _ _ _ _ | exact compare_fn goodEE EE_P _ _ _ _ | exact cmp_fn goodEE EE_P _ _ | exact isNaN_fn goodEE EE_P _ | exact valid_fn goodEE EE_P _ _ | exact abs_fn goodEE EE_P (by omega) (by omega))) | (with_reducible refine wguard_split_t (fun h => ?_) (fun h => ?_)) | (with_reducible refine wguard_split_f (fun h => ?_) (fun h => ?_)) | (with_reducible refine wcond_split (fun h => ?_) (fun h => ?_)) | (with_reducible refine wdguard_split_t (fun h => ?_) (fun h => ?_)) | (with_reducible refine wdguard_split_f (fun h => ?_) (fun h => ?_)) | (with_reducible refine And.intro (fun h => ?_) (fun h => ?_)) | (with_reducible apply And.intro; focus omega))
      rw [show chooseS better l m = _ from by unfold chooseS; rw [if_neg (by rw [hb]; simp)]]
      exact ends_mk trivial hm hs
  · have hb : better (weightS l) m.pts = true := by simpa using ‹(!better (weightS l) m.pts) = false›
    refine wdcall_mk (fun σ nx hw hm => become_fn hw hm hl l.name (weightS l) 0) (σ0 := σ) (nx0 := nx) (lv := .list (ls.map Line.cs)) ?_ ?_ ?_ ?_
    · (repeat' (first | exact MkStep.base hwf (by omega) | exact MkStep.mono (by assumption) (by omega) | refine MkStep.new ?_ hkn (by omega) (by omega) (by simp only [ObjLt, push_cast, seval, lt_int, lt_bool, lt_str, lt_nil, lt_empty, lt_agg, lt_tup, lt_list, lt_cells, lt_fn, lt_ptr, lt_row, lt_nilp, lt_nilfn, lt_nili, List.mem_cons, List.not_mem_nil, or_false, forall_eq_or_imp, forall_eq, and_true, true_and, and_self, implies_true, false_implies]; try omega)))
    · (repeat' (first | exact hN | assumption | refine MkAtN.new ?_ (by omega)))
    · simp
    · intro σ' nx' hm hs
      repeat' (first | simp only [push_cast, seval, EE_P] | simp (disch := omega) only [wrap_fits] | ((first | with_reducible apply wcall_pure | with_reducible apply wdcall_pure); focus (first | assumption | exact wrong_fn _ | exact right_fn _ | exact isName_fn _ | exact formatExpr_name _ | exact format_name _ | exact right_name _ | exact depth_name _ | exact name_fn _ | exact run_fn _ (by omega) _ [] [] _ (fun b _ _ => inName_fn b) | exact keywords_fn | exact contains_fn kwS (by decide) _ | exact inName_fn _ | exact digit_fn _ | exact letter_fn _ | exact hundredths_fn goodEE EE_P _ _ | exact mul_fn goodEE EE_P _ _ _ _ | exact sub_fn goodEE EE_P _ _ _ _ | exact add_fn goodEE EE_P _ _ _ _ | exact weight_fn goodEE EE_P EE_zero _ _ _ _ _ _ _ | exact less_fn goodEE EE_P _ _ _ _ | exact compare_fn goodEE EE_P _ _ _ _ | exact cmp_fn goodEE EE_P _ _ | exact isNaN_fn goodEE EE_P _ | exact valid_fn goodEE EE_P _ _ | exact abs_fn goodEE EE_P (by omega) (by omega))) | (with_reducible refine wguard_split_t (fun h => ?_) (fun h => ?_)) | (with_reducible refine wguard_split_f (fun h => ?_) (fun h => ?_)) | (with_reducible refine wcond_split (fun h => ?_) (fun h => ?_)) | (with_reducible refine wdguard_split_t (fun h => ?_) (fun h => ?_)) | (with_reducible refine wdguard_split_f (fun h => ?_) (fun h => ?_)) | (with_reducible refine And.intro (fun h => ?_) (fun h => ?_)) | (with_reducible apply And.intro; focus omega))
      rw [show chooseS better l m = _ from by unfold chooseS; rw [if_pos hb]]
      exact ends_mk trivial hm hs
theorem floorless_fn (a b : Frac) : Pure EE 65 [a.pv, b.pv] (.bool (lessS b a)) := by
  intro σ nx
  refine fn_of_body goodEE (by rw [EE_P]; exact Tryz.func65) rfl rfl (by kernel_rfl) (Nat.le_of_ble_eq_true rfl) (Nat.le_refl _) fun hwf hlt => ?_
  rw [show Tryz.f65.results.toList = [.tmp 4] from rfl]
  refine awp_begin _ _ _ _ _ (cc := _) (by conv => lhs; simp only [push_cast, seval, Tryz.f65]) ?_
  simp only [push_cast, seval, EE_P]
  repeat' (first | simp only [push_cast, seval, EE_P] | simp (disch := omega) only [wrap_fits] | ((first | with_reducible apply wcall_pure | with_reducible apply wdcall_pure); focus (first | assumption | exact less_fn goodEE EE_P _ _ _ _)) | (with_reducible refine wguard_split_t (fun h => ?_) (fun h => ?_)) | (with_reducible refine wguard_split_f (fun h => ?_) (fun h => ?_)) | (with_reducible refine wcond_split (fun h => ?_) (fun h => ?_)) | (with_reducible refine wdguard_split_t (fun h => ?_) (fun h => ?_)) | (with_reducible refine wdguard_split_f (fun h => ?_) (fun h => ?_)) | (with_reducible refine And.intro (fun h => ?_) (fun h => ?_)) | (with_reducible apply And.intro; focus omega))
  all_goals ((refine ends_ret (by simp only [resultsOf, resOf, push_cast, seval, EE_P]; rfl) (by simp only [push_cast, seval, EE_P]) ?_ (by repeat' (first | exact Keeps.refl _ | assumption | exact (hwf.keep1 _) | refine Keeps.new hwf ?_ (by omega) _)) (by simp only [lt_int, lt_bool, lt_str, lt_nil, lt_empty, lt_agg, lt_tup, lt_list, lt_cells, lt_fn, lt_nilp, lt_nilfn, lt_nili, List.mem_cons, List.not_mem_nil, or_false, forall_eq_or_imp, forall_eq, and_true, true_and, and_self, implies_true, *]; try omega)); (try simp only [tupOf, push_cast, seval, EE_P]))
  all_goals (first | (simp_all [lessS]; done) | (simp_all [lessS]; omega) | (simp [lessS, *]; done) | (simp [lessS, *]; omega))
theorem fz_ptr {σ σ' : Store} {k : Nat} {cs : List PV} (h : σ k = some (.row [cs])) (h' : σ' k = none) : Fz σ σ' (.ptr k 0 0) (.cells cs) := by
  refine .ptr k 0 0 [cs] cs cs h h' rfl (by simp) fun j x y hx hy => ?_
  rw [Nat.zero_add, hy] at hx
  cases hx
  exact .refl _
theorem fz_fn {σ σ' : Store} {f : FuncId} {a b b' : List PV} (hl : b'.length = b.length) (h : ∀ (j : Nat) (x y : PV), b[j]? = some x → b'[j]? = some y → Fz σ σ' x y) : Fz σ σ' (.fn f a b) (.fn f a b') :=
  .fn f a b a b' rfl hl (fun j x y hx hy => by rw [hx] at hy; cases hy; exact .refl _) h
def FzL (σ σ' : Store) : List PV → List PV → Prop
  | [], [] => True
  | x :: xs, y :: ys => Fz σ σ' x y ∧ FzL σ σ' xs ys
  | _, _ => False
theorem FzL.get {σ σ' : Store} : ∀ {xs ys : List PV}, FzL σ σ' xs ys → ys.length = xs.length ∧ ∀ (j : Nat) (x y : PV), xs[j]? = some x → ys[j]? = some y → Fz σ σ' x y
  | [], [], _ => ⟨rfl, fun j x y h => by simp at h⟩
  | x :: xs, y :: ys, h => by
    obtain ⟨h1, h2⟩ := FzL.get h.2
    refine ⟨by simp [h1], fun j a b ha hb => ?_⟩
    cases j with
    | zero => simp at ha hb; subst ha; subst hb; exact h.1
    | succ j => exact h2 j a b (by simpa using ha) (by simpa using hb)
theorem fz_agg {σ σ' : Store} {xs ys : List PV} (h : FzL σ σ' xs ys) : Fz σ σ' (.agg xs) (.agg ys) := .agg _ _ h.get.1 h.get.2
theorem fz_tup {σ σ' : Store} {xs ys : List PV} (h : FzL σ σ' xs ys) : Fz σ σ' (.tup xs) (.tup ys) := .tup _ _ h.get.1 h.get.2
theorem fz_caps {σ σ' : Store} {f : FuncId} {a b b' : List PV} (h : FzL σ σ' b b') : Fz σ σ' (.fn f a b) (.fn f a b') := fz_fn h.get.1 h.get.2
theorem choosef_fn (c : PV) (g : FuncId) : Pure EE 63 [.fn g [] [], c] (.fn 64 [] [c, .cells [.fn g [] []]]) := by
  intro σ nx
  refine fn_of_body goodEE (by rw [EE_P]; exact Tryz.func63) rfl rfl (by kernel_rfl) (Nat.le_of_ble_eq_true rfl) (Nat.le_refl _) fun hwf hlt => ?_
  rw [show Tryz.f63.results.toList = [.tmp 3] from rfl]
  refine awp_begin _ _ _ _ _ (cc := _) (by conv => lhs; simp only [push_cast, seval, Tryz.f63]) ?_
  simp only [push_cast, seval, EE_P]
  have hc : Lt nx c := hlt c (by simp)
  refine ends_fz (by simp only [resultsOf, resOf, push_cast, seval, EE_P]; rfl) (by simp only [push_cast, seval]) (fz_fn (b := [c, .ptr nx 0 0]) (b' := [c, .cells [.fn g [] []]]) rfl fun j x y hx hy => ?_) (by repeat' (first | exact Keeps.refl _ | assumption | exact (hwf.keep1 _) | refine Keeps.new hwf ?_ (by omega) _)) (.fn _ _ _ (by simp) (by simp [lt_cells, lt_fn, hc]))
  match j with
  | 0 => simp at hx hy; subst hx; subst hy; exact .refl _
  | 1 =>
    simp at hx hy
    subst hx; subst hy
    exact fz_ptr (by simp only [upd_at, push_cast, seval]) (hwf.none (Nat.le_refl _))
  | j + 2 => simp at hx
theorem tpl_steps : tpl Tryz.prog 63 = none := by kernel_rfl
attribute [push_cast] tpl_steps
def stepsP (k : Nat) : List PV := [.int .i64 0, .fn 66 [.ptr k 0 0] [], .int .i64 1, .fn 60 [] [.cells [.ptr k 0 0]], .int .i64 3, .fn 64 [] [.cells [.ptr k 0 0], .cells [.fn 65 [] []]],
  .int .i64 2, .fn 64 [] [.cells [.ptr k 0 0], .cells [.fn 44 [] []]]]
theorem steps_fn (k : Nat) : Pure EE 34 [.ptr k 0 0] (.agg (stepsP k)) := by
  intro σ nx
  refine fn_of_body goodEE (by rw [EE_P]; exact Tryz.func34) rfl rfl (by kernel_rfl) (Nat.le_of_ble_eq_true rfl) (Nat.le_refl _) fun hwf hlt => ?_
  rw [show Tryz.f34.results.toList = [.cell 2 63] from rfl]
  refine awp_begin _ _ _ _ _ (cc := _) (by conv => lhs; simp only [push_cast, seval, Tryz.f34]) ?_
  simp only [push_cast, seval, EE_P]
  have hkn : k < nx := by have := hlt (.ptr k 0 0) (by simp); rwa [lt_ptr] at this
  repeat' (first | simp only [push_cast, seval, EE_P, (key_ne hkn).1, (key_ne hkn).2.1, (key_ne hkn).2.2.1, (key_ne hkn).2.2.2] | simp (disch := omega) only [wrap_fits] | ((first | with_reducible apply wcall_pure | with_reducible apply wdcall_pure); focus (first | assumption | exact choosef_fn _ _ | exact wrong_fn _ | exact right_fn _ | exact isName_fn _ | exact formatExpr_name _ | exact format_name _ | exact right_name _ | exact depth_name _ | exact name_fn _ | exact run_fn _ (by omega) _ [] [] _ (fun b _ _ => inName_fn b) | exact keywords_fn | exact contains_fn kwS (by decide) _ | exact inName_fn _ | exact digit_fn _ | exact letter_fn _ | exact hundredths_fn goodEE EE_P _ _ | exact mul_fn goodEE EE_P _ _ _ _ | exact sub_fn goodEE EE_P _ _ _ _ | exact add_fn goodEE EE_P _ _ _ _ | exact weight_fn goodEE EE_P EE_zero _ _ _ _ _ _ _ | exact less_fn goodEE EE_P _ _ _ _ | exact compare_fn goodEE EE_P _ _ _ _ | exact cmp_fn goodEE EE_P _ _ | exact isNaN_fn goodEE EE_P _ | exact valid_fn goodEE EE_P _ _ | exact abs_fn goodEE EE_P (by omega) (by omega))) | (with_reducible refine wguard_split_t (fun h => ?_) (fun h => ?_)) | (with_reducible refine wguard_split_f (fun h => ?_) (fun h => ?_)) | (with_reducible refine wcond_split (fun h => ?_) (fun h => ?_)) | (with_reducible refine wdguard_split_t (fun h => ?_) (fun h => ?_)) | (with_reducible refine wdguard_split_f (fun h => ?_) (fun h => ?_)) | (with_reducible refine And.intro (fun h => ?_) (fun h => ?_)) | (with_reducible apply And.intro; focus omega))
  have h0 : Fz (upd (upd (upd σ nx (some (.row [[.ptr k 0 0]]))) (nx + 1) (some (.row [[.int .i64 0, .nilfn, .int .i64 0, .nilfn, .int .i64 0, .nilfn, .int .i64 0, .nilfn]]))) (nx + 1)
      (some (.row [[.int .i64 0, .fn 66 [.ptr k 0 0] [], .int .i64 1, .fn 60 [] [.ptr nx 0 0], .int .i64 3, .fn 64 [] [.ptr nx 0 0, .cells [.fn 65 [] []]], .int .i64 2, .fn 64 [] [.ptr nx 0 0, .cells [.fn 44 [] []]]]]))) σ
      (.ptr nx 0 0) (.cells [.ptr k 0 0]) := fz_ptr (by simp only [upd_at, push_cast, seval]) (hwf.none (Nat.le_refl _))
  refine ends_fz (by simp only [resultsOf, resOf, push_cast, seval, EE_P]; rfl) (by simp only [push_cast, seval]) ?_ (by repeat' (first | exact Keeps.refl _ | assumption | exact (hwf.keep1 _) | refine Keeps.new hwf ?_ (by omega) _)) ?_
  · exact fz_agg ⟨.refl _, .refl _, .refl _, fz_caps ⟨h0, trivial⟩, .refl _, fz_caps ⟨h0, .refl _, trivial⟩, .refl _, fz_caps ⟨h0, .refl _, trivial⟩, trivial⟩
  · simp only [stepsP]
    (simp only [push_cast, seval, lt_int, lt_bool, lt_str, lt_nil, lt_empty, lt_agg, lt_tup, lt_list, lt_cells, lt_fn, lt_ptr, lt_row, lt_nilp, lt_nilfn, lt_nili, List.mem_cons, List.not_mem_nil, or_false, forall_eq_or_imp, forall_eq, and_true, true_and, and_self, implies_true, false_implies]; try omega)
structure Credit where
  parts : List Part
  pts : Frac
  hund : Int
  deriving DecidableEq
def Credit.pv (c : Credit) (pv : PV) : PV := .agg [pv, .int .i64 c.pts.n, .int .i64 c.pts.d, .int .i64 c.hund]
attribute [push_cast] Credit.pv
def hundS (f : Frac) : Int := if FV f.n f.d then (200 * f.n + f.d) / (2 * f.d) else 0
def zeroCredit : Credit := ⟨[], ⟨0, 0⟩, 0⟩
def finishS (m : MK) : Credit × Int := if m.wrong = true ∨ ¬ FV m.pts.n m.pts.d ∨ hundS m.pts > 100000000 then (zeroCredit, 2) else (⟨m.parts, m.pts, hundS m.pts⟩, 0)
theorem leaves_drop2 {σ σs : Store} {nx nxs k kp : Nat} {sl : Nat → PV} {v v' : PV} (hwf : Wf σ nx) (h3 : ∀ j, j < nx → j ≠ k → σs j = σ j) (hz : Fz σs (upd (upd σ kp none) k none) v v') (hv : Lt nx v') : Leaves σ nx ⟨sl, σs, nxs⟩ v (upd (upd σ kp none) k none) nx v' := by
  refine ⟨Nat.le_refl _, fun j o hj => ?_, hz, hv⟩
  by_cases hjk : j = k
  · subst hjk
    rw [upd_same] at hj
    cases hj
  · rw [upd_other _ _ hjk] at hj
    by_cases hjp : j = kp
    · subst hjp
      rw [upd_same] at hj
      cases hj
    · rw [upd_other _ _ hjp] at hj
      exact .inl ⟨hj, by show σs j = some o; rw [h3 j (hwf j o hj).1 hjk]; exact hj⟩
theorem slice_lt {n : Nat} (ps : List Part) : Lt n (.list (ps.map Part.cs)) := .list _ fun cs hcs c hc => objlt_parts (n := n) ps cs hcs c hc
def badS (m : MK) : Prop := m.wrong = true ∨ ¬ FV m.pts.n m.pts.d ∨ hundS m.pts > 100000000
theorem finish_bad {σ : Store} {nx k kp : Nat} {lv pv : PV} {m : MK} (hk : σ k = some (.row [m.row lv pv])) (hc : badS m) :
    Fn EE 35 σ nx [.ptr k 0 0] (.ret (.tup [zeroCredit.pv .nil, .int .i64 2])) (upd (upd σ kp none) k none) nx := by
  refine fn_of_body goodEE (by rw [EE_P]; exact Tryz.func35) rfl rfl (by kernel_rfl) (Nat.le_of_ble_eq_true rfl) ?_ fun hwf hlt => ?_
  rotate_left
  rw [show Tryz.f35.results.toList = [.cell 2 29, .tmp 3] from rfl]
  refine awp_begin _ _ _ _ _ (cc := _) (by conv => lhs; simp only [push_cast, seval, Tryz.f35]) ?_
  simp only [push_cast, seval, EE_P]
  · obtain ⟨hkn, l1, l2⟩ := row_lt hwf hk
    simp only [MK.row] at hk
    unfold badS hundS at hc
    repeat' (first | simp only [push_cast, seval, EE_P, hk, (key_ne hkn).1, (key_ne hkn).2.1, (key_ne hkn).2.2.1, (key_ne hkn).2.2.2] | simp (disch := omega) only [wrap_fits] | ((first | with_reducible apply wcall_pure | with_reducible apply wdcall_pure); focus (first | assumption | exact hundredths_fn goodEE EE_P _ _)) | (with_reducible refine wguard_split_t (fun h => ?_) (fun h => ?_)) | (with_reducible refine wguard_split_f (fun h => ?_) (fun h => ?_)) | (with_reducible refine wcond_split (fun h => ?_) (fun h => ?_)) | (with_reducible refine wdguard_split_t (fun h => ?_) (fun h => ?_)) | (with_reducible refine wdguard_split_f (fun h => ?_) (fun h => ?_)) | (with_reducible refine And.intro (fun h => ?_) (fun h => ?_)) | (with_reducible apply And.intro; focus omega))
    all_goals (try (exfalso; simp_all; done))
    all_goals refine ends_of trivial (by simp only [resultsOf, resOf, push_cast, seval, EE_P]; rfl) (by simp only [push_cast, seval]) (leaves_drop2 hwf (fun j hj hjk => by simp only [upd_at, push_cast, seval, (key_ne hj).1, (key_ne hj).2.1, (key_ne hj).2.2.1, (key_ne hj).2.2.2, hjk]) (by exact .refl _) ?_)
    all_goals (simp only [push_cast, seval, lt_int, lt_bool, lt_str, lt_nil, lt_empty, lt_agg, lt_tup, lt_list, lt_cells, lt_fn, lt_ptr, lt_row, lt_nilp, lt_nilfn, lt_nili, List.mem_cons, List.not_mem_nil, or_false, forall_eq_or_imp, forall_eq, and_true, true_and, and_self, implies_true, false_implies]; try omega)
  · omega
theorem not_bad {m : MK} (h : ¬ badS m) : m.wrong = false ∧ FV m.pts.n m.pts.d ∧ ¬ (200 * m.pts.n + m.pts.d) / (2 * m.pts.d) > 100000000 ∧ hundS m.pts = (200 * m.pts.n + m.pts.d) / (2 * m.pts.d) := by
  unfold badS at h
  have h1 : m.wrong = false := by cases hw : m.wrong <;> simp_all
  have h2 : FV m.pts.n m.pts.d := Decidable.byContradiction fun hn => h (.inr (.inl hn))
  have h3 : hundS m.pts = (200 * m.pts.n + m.pts.d) / (2 * m.pts.d) := if_pos h2
  exact ⟨h1, h2, fun hn => h (.inr (.inr (by rw [h3]; exact hn))), h3⟩
theorem finish_nil {σ : Store} {nx k : Nat} {lv : PV} {m : MK} (hk : σ k = some (.row [m.row lv .nil])) (hp : m.parts = []) (hc : ¬ badS m) :
    Fn EE 35 σ nx [.ptr k 0 0] (.ret (.tup [(Credit.mk m.parts m.pts (hundS m.pts)).pv .nil, .int .i64 0])) (upd (upd σ k none) k none) nx := by
  obtain ⟨hc1, hc2, hc3, hc4⟩ := not_bad hc
  rw [hc4]
  refine fn_of_body goodEE (by rw [EE_P]; exact Tryz.func35) rfl rfl (by kernel_rfl) (Nat.le_of_ble_eq_true rfl) ?_ fun hwf hlt => ?_
  rotate_left
  rw [show Tryz.f35.results.toList = [.cell 2 29, .tmp 3] from rfl]
  refine awp_begin _ _ _ _ _ (cc := _) (by conv => lhs; simp only [push_cast, seval, Tryz.f35]) ?_
  simp only [push_cast, seval, EE_P]
  · obtain ⟨hkn, l1, l2⟩ := row_lt hwf hk
    simp only [MK.row] at hk
    repeat' (first | simp only [push_cast, seval, EE_P, hk, (key_ne hkn).1, (key_ne hkn).2.1, (key_ne hkn).2.2.1, (key_ne hkn).2.2.2, hc1, hc2, hc3, decide_true, decide_false] | simp (disch := omega) only [wrap_fits] | ((first | with_reducible apply wcall_pure | with_reducible apply wdcall_pure); focus (first | assumption | exact hundredths_fn goodEE EE_P _ _)) | (with_reducible refine wguard_split_t (fun h => ?_) (fun h => ?_)) | (with_reducible refine wguard_split_f (fun h => ?_) (fun h => ?_)) | (with_reducible refine wcond_split (fun h => ?_) (fun h => ?_)) | (with_reducible refine wdguard_split_t (fun h => ?_) (fun h => ?_)) | (with_reducible refine wdguard_split_f (fun h => ?_) (fun h => ?_)) | (with_reducible refine And.intro (fun h => ?_) (fun h => ?_)) | (with_reducible apply And.intro; focus omega))
    refine ends_of trivial (by simp only [resultsOf, resOf, push_cast, seval, EE_P]; rfl) (by simp only [push_cast, seval]) (leaves_drop2 hwf (fun j hj hjk => by simp only [upd_at, push_cast, seval, (key_ne hj).1, (key_ne hj).2.1, (key_ne hj).2.2.1, (key_ne hj).2.2.2, hjk]) (by simp only [tupOf]; exact .refl _) ?_)
    (simp only [push_cast, seval, lt_int, lt_bool, lt_str, lt_nil, lt_empty, lt_agg, lt_tup, lt_list, lt_cells, lt_fn, lt_ptr, lt_row, lt_nilp, lt_nilfn, lt_nili, List.mem_cons, List.not_mem_nil, or_false, forall_eq_or_imp, forall_eq, and_true, true_and, and_self, implies_true, false_implies]; try omega)
  · omega
theorem finish_row {σ : Store} {nx k kp : Nat} {lv : PV} {m : MK} (hk : σ k = some (.row [m.row lv (.row kp 0 m.parts.length)])) (hkk : kp ≠ k) (hkp : σ kp = some (.row (m.parts.map Part.cs))) (hc : ¬ badS m) :
    Fn EE 35 σ nx [.ptr k 0 0] (.ret (.tup [(Credit.mk m.parts m.pts (hundS m.pts)).pv (.list (m.parts.map Part.cs)), .int .i64 0])) (upd (upd σ kp none) k none) nx := by
  obtain ⟨hc1, hc2, hc3, hc4⟩ := not_bad hc
  rw [hc4]
  refine fn_of_body goodEE (by rw [EE_P]; exact Tryz.func35) rfl rfl (by kernel_rfl) (Nat.le_of_ble_eq_true rfl) ?_ fun hwf hlt => ?_
  rotate_left
  rw [show Tryz.f35.results.toList = [.cell 2 29, .tmp 3] from rfl]
  refine awp_begin _ _ _ _ _ (cc := _) (by conv => lhs; simp only [push_cast, seval, Tryz.f35]) ?_
  simp only [push_cast, seval, EE_P]
  · obtain ⟨hkn, l1, l2⟩ := row_lt hwf hk
    have hkpn : kp < nx := (hwf kp _ hkp).1
    simp only [MK.row] at hk
    repeat' (first | simp only [push_cast, seval, EE_P, hk, (key_ne hkn).1, (key_ne hkn).2.1, (key_ne hkn).2.2.1, (key_ne hkn).2.2.2, (key_ne hkpn).1, (key_ne hkpn).2.1, (key_ne hkpn).2.2.1, (key_ne hkpn).2.2.2, (ne_keys hkk).1, (ne_keys hkk).2, hc1, hc2, hc3, decide_true, decide_false] | simp (disch := omega) only [wrap_fits] | ((first | with_reducible apply wcall_pure | with_reducible apply wdcall_pure); focus (first | assumption | exact hundredths_fn goodEE EE_P _ _)) | (with_reducible refine wguard_split_t (fun h => ?_) (fun h => ?_)) | (with_reducible refine wguard_split_f (fun h => ?_) (fun h => ?_)) | (with_reducible refine wcond_split (fun h => ?_) (fun h => ?_)) | (with_reducible refine wdguard_split_t (fun h => ?_) (fun h => ?_)) | (with_reducible refine wdguard_split_f (fun h => ?_) (fun h => ?_)) | (with_reducible refine And.intro (fun h => ?_) (fun h => ?_)) | (with_reducible apply And.intro; focus omega))
    refine ends_of trivial (by simp only [resultsOf, resOf, push_cast, seval, EE_P]; rfl) (by simp only [push_cast, seval]) (leaves_drop2 hwf (fun j hj hjk => by simp only [upd_at, push_cast, seval, (key_ne hj).1, (key_ne hj).2.1, (key_ne hj).2.2.1, (key_ne hj).2.2.2, hjk]) ?_ ?_)
    · show Fz _ _ (.tup [.agg [.row kp 0 m.parts.length, _, _, _], _]) (.tup [.agg [.list (m.parts.map Part.cs), _, _, _], _])
      refine fz_tup (And.intro (fz_agg (And.intro (fz_row ?_ ?_ (by simp)) ⟨.refl _, .refl _, .refl _, trivial⟩)) ⟨.refl _, trivial⟩)
      · simp only [upd_at, push_cast, seval, (key_ne hkpn).1, (key_ne hkpn).2.1, (key_ne hkpn).2.2.1, (key_ne hkpn).2.2.2, (ne_keys hkk).1, (ne_keys hkk).2, hkp]
      · simp only [upd_at, push_cast, seval, (ne_keys hkk).1, (ne_keys hkk).2]
    · refine .tup _ fun c hc => ?_
      simp only [Credit.pv, List.mem_cons, List.not_mem_nil, or_false] at hc
      rcases hc with rfl | rfl
      · refine .agg _ fun c hc => ?_
        simp only [List.mem_cons, List.not_mem_nil, or_false] at hc
        rcases hc with rfl | rfl | rfl | rfl
        · exact slice_lt _
        · exact .int _ _
        · exact .int _ _
        · exact .int _ _
      · exact .int _ _
  · omega
/-- A credit's parts, as finish hands them back. -/
def partsV (ps : List Part) : PV := if ps = [] then .nil else .list (ps.map Part.cs)
theorem partsV_slice (ps : List Part) : SliceP (ps.map Part.cs) (partsV ps) := by
  unfold partsV
  split
  · rename_i h; exact .nil (by simp [h])
  · exact .list
def Credit.val (c : Credit) : PV := c.pv (partsV c.parts)
theorem parts_lt (n : Nat) (ps : List Part) : Lt n (partsV ps) := by
  unfold partsV
  split
  · exact .nil
  · exact slice_lt _
theorem credit_lt (n : Nat) (c : Credit) : Lt n c.val := .agg _ fun x hx => by
  simp only [List.mem_cons, List.not_mem_nil, or_false] at hx
  rcases hx with rfl | rfl | rfl | rfl
  · exact parts_lt n _
  · exact .int _ _
  · exact .int _ _
  · exact .int _ _
theorem finish_fn {σ : Store} {nx k : Nat} {lv : PV} {m : MK} (h : MkAt σ k lv m) : ∃ σ', Fn EE 35 σ nx [.ptr k 0 0] (.ret (.tup [(finishS m).1.val, .int .i64 (finishS m).2])) σ' nx ∧ (∀ j, ¬ Own σ k j → σ' j = σ j) ∧ (Wf σ nx → Wf σ' nx) := by
  obtain ⟨pv, hk, hp⟩ := h
  have wf2 : ∀ kp, kp < nx ∨ kp = k → Wf σ nx → Wf (upd (upd σ kp none) k none) nx := fun kp hkp hwf => by
    have hkn := (hwf k _ hk).1
    exact (hwf.set (Nat.le_refl _) (by omega) (fun o e => by cases e)).set (Nat.le_refl _) hkn (fun o e => by cases e)
  by_cases hc : badS m
  · have e : finishS m = (zeroCredit, 2) := if_pos hc
    rw [e]
    refine ⟨_, finish_bad (kp := k) hk hc, fun j hj => ?_, wf2 k (.inr rfl)⟩
    have : j ≠ k := fun e => hj (.inl e)
    rw [upd_other _ _ this, upd_other _ _ this]
  · have e : finishS m = (⟨m.parts, m.pts, hundS m.pts⟩, 0) := if_neg hc
    rw [e]
    cases hp with
    | nil h =>
      have hv : (Credit.mk m.parts m.pts (hundS m.pts)).val = (Credit.mk m.parts m.pts (hundS m.pts)).pv .nil := by unfold Credit.val partsV; rw [if_pos h]
      rw [hv]
      refine ⟨_, finish_nil hk h hc, fun j hj => ?_, wf2 k (.inr rfl)⟩
      have : j ≠ k := fun e => hj (.inl e)
      rw [upd_other _ _ this, upd_other _ _ this]
    | row kp hkp hr hn =>
      have hv : (Credit.mk m.parts m.pts (hundS m.pts)).val = (Credit.mk m.parts m.pts (hundS m.pts)).pv (.list (m.parts.map Part.cs)) := by unfold Credit.val partsV; rw [if_neg hn]
      rw [hv]
      refine ⟨_, finish_row hk hkp hr hc, fun j hj => ?_, fun hwf => wf2 kp (.inl (hwf kp _ hr).1) hwf⟩
      have h1 : j ≠ k := fun e => hj (.inl e)
      have h2 : j ≠ kp := fun e => hj (.inr ⟨lv, m, 0, m.parts.length, by rw [e]; exact hk⟩)
      rw [upd_other _ _ h1, upd_other _ _ h2]
end Go.Proofs.YtdajoilaakiinaaGreatDoor.Awp

/- credit.Combine. -/
namespace Go.Proofs.YtdajoilaakiinaaGreatDoor.Awp
open Go Go.Proofs
set_option linter.unusedSimpArgs false
set_option linter.unusedVariables false
set_option maxRecDepth 10000
set_option maxHeartbeats 4000000

/-- A step's lines, up to an index. -/
def stepsTo (kind : Int) (f : Nat → Line → MK → MK) (ls : List Line) (m : MK) : Nat → MK
  | 0 => m
  | j + 1 => match ls[j]? with
    | some l => if (l.app && decide (l.kind = kind)) = true then f j l (stepsTo kind f ls m j) else stepsTo kind f ls m j
    | none => stepsTo kind f ls m j
def kindAt : Nat → Int
  | 0 => 0
  | 1 => 1
  | 2 => 3
  | _ => 2
def funAt (ls : List Line) : Nat → Nat → Line → MK → MK
  | 0 => pointsS ls
  | 1 => fun _ => penaltyS
  | 2 => fun _ => chooseS fun w p => lessS p w
  | _ => fun _ => chooseS lessS
def phase (ls : List Line) (m : MK) : Nat → MK
  | 0 => m
  | t + 1 => stepsTo (kindAt t) (funAt ls t) ls (phase ls m t) ls.length
def m0S : MK := ⟨[], ⟨0, 1⟩, 0, false⟩
def combineS (ls : List Line) : Credit × Int := if ls.length > 32 ∨ ls.any (fun l => !rightS l) = true then (zeroCredit, 1) else finishS (phase ls m0S 4)

theorem become_len (m : MK) (n : ByteArray) (p : Frac) (e : Int) : (becomeS m n p e).parts.length ≤ m.parts.length + 1 := by
  unfold becomeS
  split <;> simp
theorem funAt_len (ls : List Line) (t i : Nat) (l : Line) (m : MK) : (funAt ls t i l m).parts.length ≤ m.parts.length + 1 := by
  unfold funAt
  split
  · unfold pointsS
    split
    · exact become_len ..
    · split
      · omega
      · exact become_len ..
  · exact become_len ..
  · exact become_len ..
  · exact become_len ..
theorem stepsTo_len {kind : Int} {f : Nat → Line → MK → MK} (hf : ∀ i l m, (f i l m).parts.length ≤ m.parts.length + 1) (ls : List Line) (m : MK) : ∀ j, (stepsTo kind f ls m j).parts.length ≤ m.parts.length + j
  | 0 => by simp [stepsTo]
  | j + 1 => by
    have ih := stepsTo_len hf ls m j (kind := kind)
    unfold stepsTo
    split
    · split
      · have := hf j (by assumption) (stepsTo kind f ls m j)
        omega
      · omega
    · omega
theorem phase_len (ls : List Line) (m : MK) : ∀ t, (phase ls m t).parts.length ≤ m.parts.length + t * ls.length
  | 0 => by simp [phase]
  | t + 1 => by
    have ih := phase_len ls m t
    have := stepsTo_len (kind := kindAt t) (funAt_len ls t) ls (phase ls m t) ls.length
    simp only [phase, Nat.succ_mul]
    omega

theorem less_frac (a b : Frac) : Pure EE 44 [a.pv, b.pv] (.bool (lessS a b)) := less_fn goodEE EE_P a.n a.d b.n b.d
/-- Each of the four steps. -/
theorem step_at (k : Nat) (ls : List Line) (hls : ls.length ≤ 32) (v : PV) (hv : SliceP (ls.map Line.cs) v) {t : Nat} (ht : t < 4) :
    ∃ g first caps, (((stepsP k).drop (t * 2)).take 2 = [.int .i64 (kindAt t), .fn g first caps]) ∧ (∀ c ∈ first, c = .ptr k 0 0) ∧ (∀ nx, k < nx → ∀ c ∈ caps, Lt nx c) ∧
      ∀ (σ : Store) (nx : Nat) (m : MK) (i : Nat) (l : Line), Wf σ nx → MkAt σ k v m → m.parts.length ≤ 1000000 → ls[i]? = some l → ∃ σ' nx', Fn EE g σ nx (first ++ [.int .i64 i] ++ caps) (.ret (.tup [])) σ' nx' ∧ MkAt σ' k v (funAt ls t i l m) ∧ MkStep σ nx k σ' nx' := by
  have hlist : ∀ i l, ls[i]? = some l → v = .list (ls.map Line.cs) := fun i l h => hv.lt (i := i) (by simpa using (List.getElem?_eq_some_iff.1 h).1)
  match t, ht with
  | 0, _ =>
    refine ⟨_, _, _, rfl, fun c hc => by simpa using hc, fun nx _ c hc => by simp at hc, fun σ nx m i l hw hm hl hi => ?_⟩
    obtain rfl := hlist i l hi
    exact points_fn hw hm hl (by omega) hi
  | 1, _ =>
    refine ⟨_, _, _, rfl, fun c hc => by simp at hc, fun nx h c hc => ?_, fun σ nx m i l hw hm hl hi => ?_⟩
    · simp at hc; subst hc; simp [lt_cells, lt_ptr, h]
    · obtain rfl := hlist i l hi
      exact penalty_fn hw hm hl (by omega) hi
  | 2, _ =>
    refine ⟨_, _, _, rfl, fun c hc => by simp at hc, fun nx h c hc => ?_, fun σ nx m i l hw hm hl hi => ?_⟩
    · simp at hc; rcases hc with rfl | rfl <;> simp [lt_cells, lt_ptr, lt_fn, h]
    · obtain rfl := hlist i l hi
      exact choose_fn hw hm hl (by omega) hi floorless_fn
  | 3, _ =>
    refine ⟨_, _, _, rfl, fun c hc => by simp at hc, fun nx h c hc => ?_, fun σ nx m i l hw hm hl hi => ?_⟩
    · simp at hc; rcases hc with rfl | rfl <;> simp [lt_cells, lt_ptr, lt_fn, h]
    · obtain rfl := hlist i l hi
      exact choose_fn hw hm hl (by omega) hi less_frac
theorem indexFunc_none {v : PV} (hv : SliceP [] v) (fv : PV) : Pure EE 59 [v, fv] (.int .i64 (-1)) := by
  intro σ nx
  refine fn_of_body goodEE (by rw [EE_P]; exact Tryz.func59) rfl rfl (by kernel_rfl) (Nat.le_of_ble_eq_true rfl) (Nat.le_refl _) fun hwf hlt => ?_
  rw [show Tryz.f59.results.toList = [.tmp 4] from rfl]
  refine awp_begin _ _ _ _ _ (cc := _) (by conv => lhs; simp only [push_cast, seval, Tryz.f59]) ?_
  simp only [push_cast, seval, EE_P]
  repeat' (first | simp only [push_cast, seval, EE_P, hv.len, hv.str] | simp (disch := omega) only [wrap_fits] | ((first | with_reducible apply wcall_pure | with_reducible apply wdcall_pure); focus (first | assumption | exact steps_fn _ | exact choosef_fn _ _ | exact wrong_fn _ | exact right_fn _ | exact isName_fn _ | exact formatExpr_name _ | exact format_name _ | exact right_name _ | exact depth_name _ | exact name_fn _ | exact run_fn _ (by omega) _ [] [] _ (fun b _ _ => inName_fn b) | exact keywords_fn | exact contains_fn kwS (by decide) _ | exact inName_fn _ | exact digit_fn _ | exact letter_fn _ | exact hundredths_fn goodEE EE_P _ _ | exact mul_fn goodEE EE_P _ _ _ _ | exact sub_fn goodEE EE_P _ _ _ _ | exact add_fn goodEE EE_P _ _ _ _ | exact weight_fn goodEE EE_P EE_zero _ _ _ _ _ _ _ | exact less_fn goodEE EE_P _ _ _ _ | exact compare_fn goodEE EE_P _ _ _ _ | exact cmp_fn goodEE EE_P _ _ | exact isNaN_fn goodEE EE_P _ | exact valid_fn goodEE EE_P _ _ | exact abs_fn goodEE EE_P (by omega) (by omega))) | (with_reducible refine wguard_split_t (fun h => ?_) (fun h => ?_)) | (with_reducible refine wguard_split_f (fun h => ?_) (fun h => ?_)) | (with_reducible refine wcond_split (fun h => ?_) (fun h => ?_)) | (with_reducible refine wdguard_split_t (fun h => ?_) (fun h => ?_)) | (with_reducible refine wdguard_split_f (fun h => ?_) (fun h => ?_)) | (with_reducible refine And.intro (fun h => ?_) (fun h => ?_)) | (with_reducible apply And.intro; focus omega))
  apply wloop_once
  repeat' (first | simp only [push_cast, seval, EE_P, hv.len, hv.str] | simp (disch := omega) only [wrap_fits] | ((first | with_reducible apply wcall_pure | with_reducible apply wdcall_pure); focus (first | assumption | exact steps_fn _ | exact choosef_fn _ _ | exact wrong_fn _ | exact right_fn _ | exact isName_fn _ | exact formatExpr_name _ | exact format_name _ | exact right_name _ | exact depth_name _ | exact name_fn _ | exact run_fn _ (by omega) _ [] [] _ (fun b _ _ => inName_fn b) | exact keywords_fn | exact contains_fn kwS (by decide) _ | exact inName_fn _ | exact digit_fn _ | exact letter_fn _ | exact hundredths_fn goodEE EE_P _ _ | exact mul_fn goodEE EE_P _ _ _ _ | exact sub_fn goodEE EE_P _ _ _ _ | exact add_fn goodEE EE_P _ _ _ _ | exact weight_fn goodEE EE_P EE_zero _ _ _ _ _ _ _ | exact less_fn goodEE EE_P _ _ _ _ | exact compare_fn goodEE EE_P _ _ _ _ | exact cmp_fn goodEE EE_P _ _ | exact isNaN_fn goodEE EE_P _ | exact valid_fn goodEE EE_P _ _ | exact abs_fn goodEE EE_P (by omega) (by omega))) | (with_reducible refine wguard_split_t (fun h => ?_) (fun h => ?_)) | (with_reducible refine wguard_split_f (fun h => ?_) (fun h => ?_)) | (with_reducible refine wcond_split (fun h => ?_) (fun h => ?_)) | (with_reducible refine wdguard_split_t (fun h => ?_) (fun h => ?_)) | (with_reducible refine wdguard_split_f (fun h => ?_) (fun h => ?_)) | (with_reducible refine And.intro (fun h => ?_) (fun h => ?_)) | (with_reducible apply And.intro; focus omega))
  ((refine ends_ret (by simp only [resultsOf, resOf, push_cast, seval, EE_P]; rfl) (by simp only [push_cast, seval, EE_P]) ?_ (by repeat' (first | exact Keeps.refl _ | assumption | exact (hwf.keep1 _) | refine Keeps.new hwf ?_ (by omega) _)) (by simp only [lt_int, lt_bool, lt_str, lt_nil, lt_empty, lt_agg, lt_tup, lt_list, lt_cells, lt_fn, lt_nilp, lt_nilfn, lt_nili, List.mem_cons, List.not_mem_nil, or_false, forall_eq_or_imp, forall_eq, and_true, true_and, and_self, implies_true, *]; try omega)); (try simp only [tupOf, push_cast, seval, EE_P]))
theorem containsFunc_none {v : PV} (hv : SliceP [] v) (fv : PV) : Pure EE 31 [v, fv] (.bool false) := by
  intro σ nx
  refine fn_of_body goodEE (by rw [EE_P]; exact Tryz.func31) rfl rfl (by kernel_rfl) (Nat.le_of_ble_eq_true rfl) (Nat.le_refl _) fun hwf hlt => ?_
  rw [show Tryz.f31.results.toList = [.tmp 4] from rfl]
  refine awp_begin _ _ _ _ _ (cc := _) (by conv => lhs; simp only [push_cast, seval, Tryz.f31]) ?_
  simp only [push_cast, seval, EE_P]
  apply wcall_pure
  focus exact indexFunc_none hv fv
  repeat' (first | simp only [push_cast, seval, EE_P] | simp (disch := omega) only [wrap_fits] | ((first | with_reducible apply wcall_pure | with_reducible apply wdcall_pure); focus (first | assumption | fail)) | (with_reducible refine wguard_split_t (fun h => ?_) (fun h => ?_)) | (with_reducible refine wguard_split_f (fun h => ?_) (fun h => ?_)) | (with_reducible refine wcond_split (fun h => ?_) (fun h => ?_)) | (with_reducible refine wdguard_split_t (fun h => ?_) (fun h => ?_)) | (with_reducible refine wdguard_split_f (fun h => ?_) (fun h => ?_)) | (with_reducible refine And.intro (fun h => ?_) (fun h => ?_)) | (with_reducible apply And.intro; focus omega))
  ((refine ends_ret (by simp only [resultsOf, resOf, push_cast, seval, EE_P]; rfl) (by simp only [push_cast, seval, EE_P]) ?_ (by repeat' (first | exact Keeps.refl _ | assumption | exact (hwf.keep1 _) | refine Keeps.new hwf ?_ (by omega) _)) (by simp only [lt_int, lt_bool, lt_str, lt_nil, lt_empty, lt_agg, lt_tup, lt_list, lt_cells, lt_fn, lt_nilp, lt_nilfn, lt_nili, List.mem_cons, List.not_mem_nil, or_false, forall_eq_or_imp, forall_eq, and_true, true_and, and_self, implies_true, *]; try omega)); (try simp only [tupOf, push_cast, seval, EE_P]))
  simp
theorem contains_wrong {ls : List Line} (hls : ls.length ≤ 32) {v : PV} (hv : SliceP (ls.map Line.cs) v) : Pure EE 31 [v, .fn 32 [] []] (.bool (ls.any fun l => !rightS l)) := by
  cases hv with
  | list =>
    intro σ nx
    exact containsFunc_lines (first := []) (caps := []) (by omega) (fun l _ m _ => wrong_fn l σ m) nx (Nat.le_refl _)
  | nil h =>
    have : ls = [] := by simpa using h
    subst this
    exact containsFunc_none (.nil rfl) _
  | empty h =>
    have : ls = [] := by simpa using h
    subst this
    exact containsFunc_none (.empty rfl) _
theorem combine_big {ls : List Line} {v : PV} (hv : SliceP (ls.map Line.cs) v) (h : ¬ ls.length ≤ 32) : Pure EE 12 [v] (.tup [zeroCredit.val, .int .i64 1]) := by
  have hl : ((ls.length : Int) > 32) := by omega
  have hvl := hv.len
  simp only [List.length_map] at hvl
  intro σ nx
  refine fn_of_body goodEE (by rw [EE_P]; exact Tryz.func12) rfl rfl (by kernel_rfl) (Nat.le_of_ble_eq_true rfl) (Nat.le_refl _) fun hwf hlt => ?_
  rw [show Tryz.f12.results.toList = [.cell 2 29, .tmp 3] from rfl]
  refine awp_begin _ _ _ _ _ (cc := _) (by conv => lhs; simp only [push_cast, seval, Tryz.f12]) ?_
  simp only [push_cast, seval, EE_P]
  have hzl := credit_lt nx zeroCredit
  repeat' (first | simp only [push_cast, seval, EE_P, hvl, hv.str, hl, decide_true] | simp (disch := omega) only [wrap_fits] | ((first | with_reducible apply wcall_pure | with_reducible apply wdcall_pure); focus (first | assumption | exact steps_fn _ | exact choosef_fn _ _ | exact wrong_fn _ | exact right_fn _ | exact isName_fn _ | exact formatExpr_name _ | exact format_name _ | exact right_name _ | exact depth_name _ | exact name_fn _ | exact run_fn _ (by omega) _ [] [] _ (fun b _ _ => inName_fn b) | exact keywords_fn | exact contains_fn kwS (by decide) _ | exact inName_fn _ | exact digit_fn _ | exact letter_fn _ | exact hundredths_fn goodEE EE_P _ _ | exact mul_fn goodEE EE_P _ _ _ _ | exact sub_fn goodEE EE_P _ _ _ _ | exact add_fn goodEE EE_P _ _ _ _ | exact weight_fn goodEE EE_P EE_zero _ _ _ _ _ _ _ | exact less_fn goodEE EE_P _ _ _ _ | exact compare_fn goodEE EE_P _ _ _ _ | exact cmp_fn goodEE EE_P _ _ | exact isNaN_fn goodEE EE_P _ | exact valid_fn goodEE EE_P _ _ | exact abs_fn goodEE EE_P (by omega) (by omega))) | (with_reducible refine wguard_split_t (fun h => ?_) (fun h => ?_)) | (with_reducible refine wguard_split_f (fun h => ?_) (fun h => ?_)) | (with_reducible refine wcond_split (fun h => ?_) (fun h => ?_)) | (with_reducible refine wdguard_split_t (fun h => ?_) (fun h => ?_)) | (with_reducible refine wdguard_split_f (fun h => ?_) (fun h => ?_)) | (with_reducible refine And.intro (fun h => ?_) (fun h => ?_)) | (with_reducible apply And.intro; focus omega))
  ((refine ends_ret (by simp only [resultsOf, resOf, push_cast, seval, EE_P]; rfl) (by simp only [push_cast, seval, EE_P]) ?_ (by repeat' (first | exact Keeps.refl _ | assumption | exact (hwf.keep1 _) | refine Keeps.new hwf ?_ (by omega) _)) (by simp only [lt_int, lt_bool, lt_str, lt_nil, lt_empty, lt_agg, lt_tup, lt_list, lt_cells, lt_fn, lt_nilp, lt_nilfn, lt_nili, List.mem_cons, List.not_mem_nil, or_false, forall_eq_or_imp, forall_eq, and_true, true_and, and_self, implies_true, *]; try omega)); (try simp only [tupOf, push_cast, seval, EE_P]))
  simp [zeroCredit, Credit.val, Credit.pv, partsV]
theorem combine_wrong {ls : List Line} {v : PV} (hv : SliceP (ls.map Line.cs) v) (h : ls.length ≤ 32) (h' : (ls.any fun l => !rightS l) = true) : Pure EE 12 [v] (.tup [zeroCredit.val, .int .i64 1]) := by
  have hl : ¬ ((ls.length : Int) > 32) := by omega
  have hvl := hv.len
  simp only [List.length_map] at hvl
  have hc := contains_wrong h hv
  rw [h'] at hc
  intro σ nx
  refine fn_of_body goodEE (by rw [EE_P]; exact Tryz.func12) rfl rfl (by kernel_rfl) (Nat.le_of_ble_eq_true rfl) (Nat.le_refl _) fun hwf hlt => ?_
  rw [show Tryz.f12.results.toList = [.cell 2 29, .tmp 3] from rfl]
  refine awp_begin _ _ _ _ _ (cc := _) (by conv => lhs; simp only [push_cast, seval, Tryz.f12]) ?_
  simp only [push_cast, seval, EE_P]
  have hzl := credit_lt nx zeroCredit
  repeat' (first | simp only [push_cast, seval, EE_P, hvl, hv.str, hl, decide_false] | simp (disch := omega) only [wrap_fits] | ((first | with_reducible apply wcall_pure | with_reducible apply wdcall_pure); focus (first | assumption | exact steps_fn _ | exact choosef_fn _ _ | exact wrong_fn _ | exact right_fn _ | exact isName_fn _ | exact formatExpr_name _ | exact format_name _ | exact right_name _ | exact depth_name _ | exact name_fn _ | exact run_fn _ (by omega) _ [] [] _ (fun b _ _ => inName_fn b) | exact keywords_fn | exact contains_fn kwS (by decide) _ | exact inName_fn _ | exact digit_fn _ | exact letter_fn _ | exact hundredths_fn goodEE EE_P _ _ | exact mul_fn goodEE EE_P _ _ _ _ | exact sub_fn goodEE EE_P _ _ _ _ | exact add_fn goodEE EE_P _ _ _ _ | exact weight_fn goodEE EE_P EE_zero _ _ _ _ _ _ _ | exact less_fn goodEE EE_P _ _ _ _ | exact compare_fn goodEE EE_P _ _ _ _ | exact cmp_fn goodEE EE_P _ _ | exact isNaN_fn goodEE EE_P _ | exact valid_fn goodEE EE_P _ _ | exact abs_fn goodEE EE_P (by omega) (by omega))) | (with_reducible refine wguard_split_t (fun h => ?_) (fun h => ?_)) | (with_reducible refine wguard_split_f (fun h => ?_) (fun h => ?_)) | (with_reducible refine wcond_split (fun h => ?_) (fun h => ?_)) | (with_reducible refine wdguard_split_t (fun h => ?_) (fun h => ?_)) | (with_reducible refine wdguard_split_f (fun h => ?_) (fun h => ?_)) | (with_reducible refine And.intro (fun h => ?_) (fun h => ?_)) | (with_reducible apply And.intro; focus omega))
  ((refine ends_ret (by simp only [resultsOf, resOf, push_cast, seval, EE_P]; rfl) (by simp only [push_cast, seval, EE_P]) ?_ (by repeat' (first | exact Keeps.refl _ | assumption | exact (hwf.keep1 _) | refine Keeps.new hwf ?_ (by omega) _)) (by simp only [lt_int, lt_bool, lt_str, lt_nil, lt_empty, lt_agg, lt_tup, lt_list, lt_cells, lt_fn, lt_nilp, lt_nilfn, lt_nili, List.mem_cons, List.not_mem_nil, or_false, forall_eq_or_imp, forall_eq, and_true, true_and, and_self, implies_true, *]; try omega)); (try simp only [tupOf, push_cast, seval, EE_P]))
  simp [zeroCredit, Credit.val, Credit.pv, partsV]
theorem not_own {σ : Store} {k j : Nat} {lv : PV} {m : MK} (h : MkAt σ k lv m) (hj : j ≠ k) (hr : ∀ p rest, σ j ≠ some (.row (Part.cs p :: rest))) : ¬ Own σ k j := by
  rintro (rfl | ⟨lv', m', off, len, ho⟩)
  · exact hj rfl
  · obtain ⟨pv, hk, hp⟩ := h
    rw [hk] at ho
    simp only [MK.row, Option.some.injEq, AObj.row.injEq, List.cons.injEq, and_true] at ho
    obtain ⟨_, rfl, _⟩ := ho
    cases hp with
    | row kp hkp h' hn =>
      cases hps : m.parts with
      | nil => exact hn hps
      | cons p ps =>
        rw [hps] at h'
        exact hr p (ps.map Part.cs) h'
theorem stepsTo_succ {kind : Int} {f : Nat → Line → MK → MK} {ls : List Line} {m : MK} {j : Nat} (h : j < ls.length) :
    stepsTo kind f ls m (j + 1) = if (ls[j].app && decide (ls[j].kind = kind)) = true then f j ls[j] (stepsTo kind f ls m j) else stepsTo kind f ls m j := by
  conv => lhs; unfold stepsTo
  rw [List.getElem?_eq_getElem h]
theorem combine_right {ls : List Line} {v : PV} (hv : SliceP (ls.map Line.cs) v) (h : ls.length ≤ 32) (h' : (ls.any fun l => !rightS l) = false) : Pure EE 12 [v] (.tup [(finishS (phase ls m0S 4)).1.val, .int .i64 (finishS (phase ls m0S 4)).2]) := by
  have hl : ¬ ((ls.length : Int) > 32) := by omega
  have hvl := hv.len
  simp only [List.length_map] at hvl
  have hc := contains_wrong h hv
  rw [h'] at hc
  intro σ nx
  refine fn_of_body goodEE (by rw [EE_P]; exact Tryz.func12) rfl rfl (by kernel_rfl) (Nat.le_of_ble_eq_true rfl) (Nat.le_refl _) fun hwf hlt => ?_
  rw [show Tryz.f12.results.toList = [.cell 2 29, .tmp 3] from rfl]
  refine awp_begin _ _ _ _ _ (cc := _) (by conv => lhs; simp only [push_cast, seval, Tryz.f12]) ?_
  simp only [push_cast, seval, EE_P]
  repeat' (first | simp only [push_cast, seval, EE_P, hvl, hv.str, hv.one, hv.cells, hl, decide_false, EE_zero] | simp (disch := omega) only [wrap_fits] | ((first | with_reducible apply wcall_pure | with_reducible apply wdcall_pure); focus (first | assumption | exact steps_fn _ | exact choosef_fn _ _ | exact wrong_fn _ | exact right_fn _ | exact isName_fn _ | exact formatExpr_name _ | exact format_name _ | exact right_name _ | exact depth_name _ | exact name_fn _ | exact run_fn _ (by omega) _ [] [] _ (fun b _ _ => inName_fn b) | exact keywords_fn | exact contains_fn kwS (by decide) _ | exact inName_fn _ | exact digit_fn _ | exact letter_fn _ | exact hundredths_fn goodEE EE_P _ _ | exact mul_fn goodEE EE_P _ _ _ _ | exact sub_fn goodEE EE_P _ _ _ _ | exact add_fn goodEE EE_P _ _ _ _ | exact weight_fn goodEE EE_P EE_zero _ _ _ _ _ _ _ | exact less_fn goodEE EE_P _ _ _ _ | exact compare_fn goodEE EE_P _ _ _ _ | exact cmp_fn goodEE EE_P _ _ | exact isNaN_fn goodEE EE_P _ | exact valid_fn goodEE EE_P _ _ | exact abs_fn goodEE EE_P (by omega) (by omega))) | (with_reducible refine wguard_split_t (fun h => ?_) (fun h => ?_)) | (with_reducible refine wguard_split_f (fun h => ?_) (fun h => ?_)) | (with_reducible refine wcond_split (fun h => ?_) (fun h => ?_)) | (with_reducible refine wdguard_split_t (fun h => ?_) (fun h => ?_)) | (with_reducible refine wdguard_split_f (fun h => ?_) (fun h => ?_)) | (with_reducible refine And.intro (fun h => ?_) (fun h => ?_)) | (with_reducible apply And.intro; focus omega))
  obtain ⟨k, hk⟩ : ∃ k, k = nx + 13 := ⟨_, rfl⟩
  rw [← hk]
  have hkx : nx ≤ k := by omega
  have hvlt : Lt nx v := hlt v (by simp)
  have hwf1 : Wf (upd (upd σ nx (some (.row [[.nil, .int .i64 0, .int .i64 0, .int .i64 0]]))) k (some (.row [[v, .nil, .int .i64 0, .int .i64 1, .int .i64 0, .bool false]]))) (nx + 18) := by
    refine (hwf.set (m := nx + 18) (by omega) (by omega) (fun o e => ?_)).set (Nat.le_refl _) (by omega) (fun o e => ?_)
    · cases e; (simp only [ObjLt, push_cast, seval, lt_int, lt_bool, lt_str, lt_nil, lt_empty, lt_agg, lt_tup, lt_list, lt_cells, lt_fn, lt_ptr, lt_row, lt_nilp, lt_nilfn, lt_nili, List.mem_cons, List.not_mem_nil, or_false, forall_eq_or_imp, forall_eq, and_true, true_and, and_self, implies_true, false_implies]; try omega)
    · cases e; exact objlt_row (m := m0S) (hvlt.mono (by omega)) .nil
  have hm1 : MkAt (upd (upd σ nx (some (.row [[.nil, .int .i64 0, .int .i64 0, .int .i64 0]]))) k (some (.row [[v, .nil, .int .i64 0, .int .i64 1, .int .i64 0, .bool false]]))) k v m0S := ⟨.nil, upd_same .., .nil rfl⟩
  generalize hσ1 : upd (upd σ nx (some (.row [[.nil, .int .i64 0, .int .i64 0, .int .i64 0]]))) k (some (.row [[v, .nil, .int .i64 0, .int .i64 1, .int .i64 0, .bool false]])) = σ1 at hwf1 hm1 ⊢
  refine wloop_by (fun mm sl σ' nx' => ∃ t : Nat, t ≤ 4 ∧ mm = 4 - t ∧ sl 0 = v ∧ sl 2 = .ptr nx 0 0 ∧ sl 4 = .ptr k 0 0 ∧ sl 23 = .agg (stepsP k) ∧ sl 24 = .int .i64 t ∧ MkAt σ' k v (phase ls m0S t) ∧ MkStep σ1 (nx + 18) k σ' nx') 4
    ⟨0, by omega, rfl, rfl, rfl, rfl, rfl, rfl, hm1, .refl hwf1⟩ ?_
  rintro mm sl σ' nx' ⟨t, ht, hmm, h0, h2, h4, h23, h24, hm, hs⟩
  have ht0 : (0 : Int) ≤ t := by omega
  by_cases ht4 : t < 4
  · have ht4' : (t : Int) < 4 := by omega
    have hw : IntKind.i64.wrap ((t : Int) + 1) = (t : Int) + 1 := wrap_small (by omega) (by omega)
    obtain ⟨g, first, caps, hpk, hfirst, hcaps, hstep⟩ := step_at k ls h v hv ht4
    have hsl : (stepsP k).length = 8 := rfl
    repeat' (first | simp only [push_cast, seval, EE_P, h0, h2, h4, h23, h24, ht0, ht4', hw, hpk, hvl, hv.str, hsl, Int.toNat_natCast] | simp (disch := omega) only [wrap_fits] | ((first | with_reducible apply wcall_pure | with_reducible apply wdcall_pure); focus (first | assumption | exact steps_fn _ | exact choosef_fn _ _ | exact wrong_fn _ | exact right_fn _ | exact isName_fn _ | exact formatExpr_name _ | exact format_name _ | exact right_name _ | exact depth_name _ | exact name_fn _ | exact run_fn _ (by omega) _ [] [] _ (fun b _ _ => inName_fn b) | exact keywords_fn | exact contains_fn kwS (by decide) _ | exact inName_fn _ | exact digit_fn _ | exact letter_fn _ | exact hundredths_fn goodEE EE_P _ _ | exact mul_fn goodEE EE_P _ _ _ _ | exact sub_fn goodEE EE_P _ _ _ _ | exact add_fn goodEE EE_P _ _ _ _ | exact weight_fn goodEE EE_P EE_zero _ _ _ _ _ _ _ | exact less_fn goodEE EE_P _ _ _ _ | exact compare_fn goodEE EE_P _ _ _ _ | exact cmp_fn goodEE EE_P _ _ | exact isNaN_fn goodEE EE_P _ | exact valid_fn goodEE EE_P _ _ | exact abs_fn goodEE EE_P (by omega) (by omega))) | (with_reducible refine wguard_split_t (fun h => ?_) (fun h => ?_)) | (with_reducible refine wguard_split_f (fun h => ?_) (fun h => ?_)) | (with_reducible refine wcond_split (fun h => ?_) (fun h => ?_)) | (with_reducible refine wdguard_split_t (fun h => ?_) (fun h => ?_)) | (with_reducible refine wdguard_split_f (fun h => ?_) (fun h => ?_)) | (with_reducible refine And.intro (fun h => ?_) (fun h => ?_)) | (with_reducible apply And.intro; focus omega))
    have hle := hs.le
    have hkn : k < nx + 18 := by omega
    refine wloop_by (fun m2 sl σ2 nx2 => ∃ j k6 : Nat, j ≤ ls.length ∧ m2 = ls.length - j ∧ nx + 18 ≤ k6 ∧ k6 < nx2 ∧ sl 0 = v ∧ sl 2 = .ptr nx 0 0 ∧ sl 4 = .ptr k 0 0 ∧ sl 23 = .agg (stepsP k) ∧ sl 24 = .int .i64 t ∧ sl 6 = .ptr k6 0 0 ∧ sl 27 = v ∧ sl 28 = .int .i64 ls.length ∧ sl 29 = .int .i64 j ∧
      σ2 k6 = some (.row [[.int .i64 (kindAt t), .fn g first caps]]) ∧ MkAt σ2 k v (stepsTo (kindAt t) (funAt ls t) ls (phase ls m0S t) j) ∧ MkStep σ1 (nx + 18) k σ2 nx2) ls.length
      ⟨0, nx' + 2, by omega, rfl, by omega, by omega, ?_, ?_, ?_, ?_, ?_, rfl, rfl, rfl, rfl, ?_, ?_, ?_⟩ ?_
    · simp only [upd_at, push_cast, seval, h0]
    · simp only [upd_at, push_cast, seval, h2]
    · simp only [upd_at, push_cast, seval, h4]
    · simp only [upd_at, push_cast, seval, h23]
    · simp only [upd_at, push_cast, seval, h24]
    · simp only [upd_at, push_cast, seval]
    · exact (((hm.old hs.wf).new (by omega)).new (by omega)).at
    · refine MkStep.new (MkStep.new (hs.mono (by omega)) hkn (by omega) (by omega) ?_) hkn (by omega) (by omega) ?_
      · (simp only [ObjLt, push_cast, seval, lt_int, lt_bool, lt_str, lt_nil, lt_empty, lt_agg, lt_tup, lt_list, lt_cells, lt_fn, lt_ptr, lt_row, lt_nilp, lt_nilfn, lt_nili, List.mem_cons, List.not_mem_nil, or_false, forall_eq_or_imp, forall_eq, and_true, true_and, and_self, implies_true, false_implies]; try omega)
      · simp only [ObjLt, List.mem_cons, List.not_mem_nil, or_false, forall_eq, forall_eq_or_imp, lt_int, true_and, lt_fn]
        exact ⟨fun c hc => by rw [hfirst c hc, lt_ptr]; omega, hcaps _ (by omega)⟩
    clear hm hs h0 h2 h4 h23 h24 hle
    rintro m2 sl σ2 nx2 ⟨j, k6, hj, hm2, hk6, hk62, h0, h2, h4, h23, h24, h6, h27, h28, h29, hs6, hm, hs⟩
    have hj0 : (0 : Int) ≤ j := by omega
    have hle := hs.le
    by_cases hjl : j < ls.length
    · have hjl' : (j : Int) < ls.length := by omega
      have hwj : IntKind.i64.wrap ((j : Int) + 1) = (j : Int) + 1 := wrap_small (by omega) (by omega)
      have hvl' : v = .list (ls.map Line.cs) := hv.lt (i := j) (by simpa using hjl)
      have h27' : sl 27 = .list (ls.map Line.cs) := h27.trans hvl'
      have hgj : (ls.map Line.cs)[j]? = some ls[j].cs := by rw [List.getElem?_map, List.getElem?_eq_getElem hjl]; rfl
      have hst := stepsTo_succ (kind := kindAt t) (f := funAt ls t) (m := phase ls m0S t) hjl
      have hgl : ls[j]? = some ls[j] := List.getElem?_eq_getElem hjl
      generalize ls[j] = l at hgj hst hgl
      repeat' (first | simp only [push_cast, seval, EE_P, h0, h2, h4, h23, h24, h6, h27', h28, h29, hs6, (key_ne hk62).1, (key_ne hk62).2.1, (key_ne hk62).2.2.1, (key_ne hk62).2.2.2, hj0, hjl', hgj, List.length_map, Int.toNat_natCast] | simp (disch := omega) only [wrap_fits] | ((first | with_reducible apply wcall_pure | with_reducible apply wdcall_pure); focus (first | assumption | exact steps_fn _ | exact choosef_fn _ _ | exact wrong_fn _ | exact right_fn _ | exact isName_fn _ | exact formatExpr_name _ | exact format_name _ | exact right_name _ | exact depth_name _ | exact name_fn _ | exact run_fn _ (by omega) _ [] [] _ (fun b _ _ => inName_fn b) | exact keywords_fn | exact contains_fn kwS (by decide) _ | exact inName_fn _ | exact digit_fn _ | exact letter_fn _ | exact hundredths_fn goodEE EE_P _ _ | exact mul_fn goodEE EE_P _ _ _ _ | exact sub_fn goodEE EE_P _ _ _ _ | exact add_fn goodEE EE_P _ _ _ _ | exact weight_fn goodEE EE_P EE_zero _ _ _ _ _ _ _ | exact less_fn goodEE EE_P _ _ _ _ | exact compare_fn goodEE EE_P _ _ _ _ | exact cmp_fn goodEE EE_P _ _ | exact isNaN_fn goodEE EE_P _ | exact valid_fn goodEE EE_P _ _ | exact abs_fn goodEE EE_P (by omega) (by omega))) | (with_reducible refine wguard_split_t (fun h => ?_) (fun h => ?_)) | (with_reducible refine wguard_split_f (fun h => ?_) (fun h => ?_)) | (with_reducible refine wcond_split (fun h => ?_) (fun h => ?_)) | (with_reducible refine wdguard_split_t (fun h => ?_) (fun h => ?_)) | (with_reducible refine wdguard_split_f (fun h => ?_) (fun h => ?_)) | (with_reducible refine And.intro (fun h => ?_) (fun h => ?_)) | (with_reducible apply And.intro; focus omega))
      · have hlen : (stepsTo (kindAt t) (funAt ls t) ls (phase ls m0S t) j).parts.length ≤ 1000000 := by
          have h1 := stepsTo_len (kind := kindAt t) (funAt_len ls t) ls (phase ls m0S t) j
          have h2 := phase_len ls m0S t
          have h3 : t * ls.length ≤ 3 * 32 := Nat.mul_le_mul (by omega) (by omega)
          have h4 : m0S.parts.length = 0 := rfl
          rw [h4] at h2
          omega
        have hno : ¬ Own σ2 k k6 := not_own hm (by omega) (fun p rest e => by rw [hs6] at e; simp [Part.cs] at e)
        have hN := hm.old hs.wf
        have hkn2 : k < nx2 := by omega
        refine wcall_mk (σ0 := σ2) (nx0 := nx2) (lv := v) (fun σ nx hw hm => hstep σ nx _ j l hw hm hlen hgl) ?_ ?_ ?_
        · refine MkStep.new (MkStep.new (MkStep.base hs.wf (by omega)) hkn2 (by omega) (by omega) ?_) hkn2 (by omega) (by omega) ?_
          · (simp only [ObjLt, push_cast, seval, lt_int, lt_bool, lt_str, lt_nil, lt_empty, lt_agg, lt_tup, lt_list, lt_cells, lt_fn, lt_ptr, lt_row, lt_nilp, lt_nilfn, lt_nili, List.mem_cons, List.not_mem_nil, or_false, forall_eq_or_imp, forall_eq, and_true, true_and, and_self, implies_true, false_implies]; try omega)
          · (simp only [ObjLt, push_cast, seval, lt_int, lt_bool, lt_str, lt_nil, lt_empty, lt_agg, lt_tup, lt_list, lt_cells, lt_fn, lt_ptr, lt_row, lt_nilp, lt_nilfn, lt_nili, List.mem_cons, List.not_mem_nil, or_false, forall_eq_or_imp, forall_eq, and_true, true_and, and_self, implies_true, false_implies]; try omega)
        · (repeat' (first | exact hN | assumption | refine MkAtN.new ?_ (by omega)))
        · intro σ3 nx3 hm3 hs3
          have hle3 := hs3.le
          repeat' (first | simp only [push_cast, seval, EE_P, h0, h2, h4, h23, h24, h6, h27, h28, h29, hwj] | simp (disch := omega) only [wrap_fits] | ((first | with_reducible apply wcall_pure | with_reducible apply wdcall_pure); focus (first | assumption | exact steps_fn _ | exact choosef_fn _ _ | exact wrong_fn _ | exact right_fn _ | exact isName_fn _ | exact formatExpr_name _ | exact format_name _ | exact right_name _ | exact depth_name _ | exact name_fn _ | exact run_fn _ (by omega) _ [] [] _ (fun b _ _ => inName_fn b) | exact keywords_fn | exact contains_fn kwS (by decide) _ | exact inName_fn _ | exact digit_fn _ | exact letter_fn _ | exact hundredths_fn goodEE EE_P _ _ | exact mul_fn goodEE EE_P _ _ _ _ | exact sub_fn goodEE EE_P _ _ _ _ | exact add_fn goodEE EE_P _ _ _ _ | exact weight_fn goodEE EE_P EE_zero _ _ _ _ _ _ _ | exact less_fn goodEE EE_P _ _ _ _ | exact compare_fn goodEE EE_P _ _ _ _ | exact cmp_fn goodEE EE_P _ _ | exact isNaN_fn goodEE EE_P _ | exact valid_fn goodEE EE_P _ _ | exact abs_fn goodEE EE_P (by omega) (by omega))) | (with_reducible refine wguard_split_t (fun h => ?_) (fun h => ?_)) | (with_reducible refine wguard_split_f (fun h => ?_) (fun h => ?_)) | (with_reducible refine wcond_split (fun h => ?_) (fun h => ?_)) | (with_reducible refine wdguard_split_t (fun h => ?_) (fun h => ?_)) | (with_reducible refine wdguard_split_f (fun h => ?_) (fun h => ?_)) | (with_reducible refine And.intro (fun h => ?_) (fun h => ?_)) | (with_reducible apply And.intro; focus omega))
          refine ⟨ls.length - (j + 1), by omega, j + 1, k6, by omega, rfl, hk6, by omega, rfl, by simp, ?_, ?_, (hs.trans hs3).mono (by omega)⟩
          · rw [hs3.frame k6 hk62 hno, hs6]
          · rw [hst, if_pos (by simp [*])]
            exact hm3
      all_goals refine ⟨ls.length - (j + 1), by omega, j + 1, k6, by omega, rfl, hk6, by omega, rfl, hvl'.symm, by simp, ?_, ?_, ?_⟩
      · simp only [push_cast, seval, (key_ne hk62).1, (key_ne hk62).2.1, (key_ne hk62).2.2.1, (key_ne hk62).2.2.2, hs6]
      · rw [hst, if_neg (by simp [*])]
        exact (((hm.old hs.wf).new (by omega)).new (by omega)).at
      · refine MkStep.new (MkStep.new (hs.mono (by omega)) hkn (by omega) (by omega) ?_) hkn (by omega) (by omega) ?_
        · (simp only [ObjLt, push_cast, seval, lt_int, lt_bool, lt_str, lt_nil, lt_empty, lt_agg, lt_tup, lt_list, lt_cells, lt_fn, lt_ptr, lt_row, lt_nilp, lt_nilfn, lt_nili, List.mem_cons, List.not_mem_nil, or_false, forall_eq_or_imp, forall_eq, and_true, true_and, and_self, implies_true, false_implies]; try omega)
        · (simp only [ObjLt, push_cast, seval, lt_int, lt_bool, lt_str, lt_nil, lt_empty, lt_agg, lt_tup, lt_list, lt_cells, lt_fn, lt_ptr, lt_row, lt_nilp, lt_nilfn, lt_nili, List.mem_cons, List.not_mem_nil, or_false, forall_eq_or_imp, forall_eq, and_true, true_and, and_self, implies_true, false_implies]; try omega)
      · simp only [push_cast, seval, (key_ne hk62).1, (key_ne hk62).2.1, (key_ne hk62).2.2.1, (key_ne hk62).2.2.2, hs6]
      · rw [hst, if_neg (by simp [*])]
        exact (((hm.old hs.wf).new (by omega)).new (by omega)).at
      · refine MkStep.new (MkStep.new (hs.mono (by omega)) hkn (by omega) (by omega) ?_) hkn (by omega) (by omega) ?_
        · (simp only [ObjLt, push_cast, seval, lt_int, lt_bool, lt_str, lt_nil, lt_empty, lt_agg, lt_tup, lt_list, lt_cells, lt_fn, lt_ptr, lt_row, lt_nilp, lt_nilfn, lt_nili, List.mem_cons, List.not_mem_nil, or_false, forall_eq_or_imp, forall_eq, and_true, true_and, and_self, implies_true, false_implies]; try omega)
        · (simp only [ObjLt, push_cast, seval, lt_int, lt_bool, lt_str, lt_nil, lt_empty, lt_agg, lt_tup, lt_list, lt_cells, lt_fn, lt_ptr, lt_row, lt_nilp, lt_nilfn, lt_nili, List.mem_cons, List.not_mem_nil, or_false, forall_eq_or_imp, forall_eq, and_true, true_and, and_self, implies_true, false_implies]; try omega)
    · have hjl' : ¬ (j : Int) < ls.length := by omega
      have hje : j = ls.length := by omega
      subst hje
      repeat' (first | simp only [push_cast, seval, EE_P, h0, h2, h4, h23, h24, h6, h28, h29, hjl', hw] | simp (disch := omega) only [wrap_fits] | ((first | with_reducible apply wcall_pure | with_reducible apply wdcall_pure); focus (first | assumption | exact steps_fn _ | exact choosef_fn _ _ | exact wrong_fn _ | exact right_fn _ | exact isName_fn _ | exact formatExpr_name _ | exact format_name _ | exact right_name _ | exact depth_name _ | exact name_fn _ | exact run_fn _ (by omega) _ [] [] _ (fun b _ _ => inName_fn b) | exact keywords_fn | exact contains_fn kwS (by decide) _ | exact inName_fn _ | exact digit_fn _ | exact letter_fn _ | exact hundredths_fn goodEE EE_P _ _ | exact mul_fn goodEE EE_P _ _ _ _ | exact sub_fn goodEE EE_P _ _ _ _ | exact add_fn goodEE EE_P _ _ _ _ | exact weight_fn goodEE EE_P EE_zero _ _ _ _ _ _ _ | exact less_fn goodEE EE_P _ _ _ _ | exact compare_fn goodEE EE_P _ _ _ _ | exact cmp_fn goodEE EE_P _ _ | exact isNaN_fn goodEE EE_P _ | exact valid_fn goodEE EE_P _ _ | exact abs_fn goodEE EE_P (by omega) (by omega))) | (with_reducible refine wguard_split_t (fun h => ?_) (fun h => ?_)) | (with_reducible refine wguard_split_f (fun h => ?_) (fun h => ?_)) | (with_reducible refine wcond_split (fun h => ?_) (fun h => ?_)) | (with_reducible refine wdguard_split_t (fun h => ?_) (fun h => ?_)) | (with_reducible refine wdguard_split_f (fun h => ?_) (fun h => ?_)) | (with_reducible refine And.intro (fun h => ?_) (fun h => ?_)) | (with_reducible apply And.intro; focus omega))
      exact ⟨4 - (t + 1), by omega, t + 1, by omega, rfl, by simp, hm, hs.mono (by omega)⟩
  · have ht4' : ¬ (t : Int) < 4 := by omega
    have hte : t = 4 := by omega
    subst hte
    have hle := hs.le
    have hno1 : ∀ j, j < nx + 18 → j ≠ k → ¬ Own σ' k j := by
      intro j hj hjk ho
      rcases hs.own j ho hj with rfl | ⟨lv, m, off, len, he⟩
      · exact hjk rfl
      · rw [← hσ1, upd_same] at he
        simp [MK.row] at he
    obtain ⟨σ3, hfn, hfr, hwf3⟩ := finish_fn (nx := nx' + 7) hm
    have hσn : σ3 nx = some (.row [[.nil, .int .i64 0, .int .i64 0, .int .i64 0]]) := by
      have hnk : nx ≠ k := by omega
      rw [hfr nx (hno1 nx (by omega) hnk), hs.frame nx (by omega) (fun ho => hno1 nx (by omega) hnk (by
        rcases ho with rfl | ⟨lv, m, off, len, he⟩
        · exact (hnk rfl).elim
        · rw [← hσ1, upd_same] at he
          simp [MK.row] at he)), ← hσ1, upd_other _ _ hnk, upd_same]
    have hkeep : Keeps σ σ3 := by
      intro j o hj
      have hjn := (hwf j o hj).1
      have hjk : j ≠ k := by omega
      rw [hfr j (hno1 j (by omega) hjk), hs.frame j (by omega) (fun ho => by
        rcases ho with rfl | ⟨lv, m, off, len, he⟩
        · exact (hjk rfl).elim
        · rw [← hσ1, upd_same] at he
          simp [MK.row] at he), ← hσ1, upd_other _ _ hjk, upd_other _ _ (by omega)]
      exact hj
    repeat' (first | simp only [push_cast, seval, EE_P, h0, h2, h4, h23, h24, ht0, ht4'] | simp (disch := omega) only [wrap_fits] | ((first | with_reducible apply wcall_pure | with_reducible apply wdcall_pure); focus (first | assumption | exact steps_fn _ | exact choosef_fn _ _ | exact wrong_fn _ | exact right_fn _ | exact isName_fn _ | exact formatExpr_name _ | exact format_name _ | exact right_name _ | exact depth_name _ | exact name_fn _ | exact run_fn _ (by omega) _ [] [] _ (fun b _ _ => inName_fn b) | exact keywords_fn | exact contains_fn kwS (by decide) _ | exact inName_fn _ | exact digit_fn _ | exact letter_fn _ | exact hundredths_fn goodEE EE_P _ _ | exact mul_fn goodEE EE_P _ _ _ _ | exact sub_fn goodEE EE_P _ _ _ _ | exact add_fn goodEE EE_P _ _ _ _ | exact weight_fn goodEE EE_P EE_zero _ _ _ _ _ _ _ | exact less_fn goodEE EE_P _ _ _ _ | exact compare_fn goodEE EE_P _ _ _ _ | exact cmp_fn goodEE EE_P _ _ | exact isNaN_fn goodEE EE_P _ | exact valid_fn goodEE EE_P _ _ | exact abs_fn goodEE EE_P (by omega) (by omega))) | (with_reducible refine wguard_split_t (fun h => ?_) (fun h => ?_)) | (with_reducible refine wguard_split_f (fun h => ?_) (fun h => ?_)) | (with_reducible refine wcond_split (fun h => ?_) (fun h => ?_)) | (with_reducible refine wdguard_split_t (fun h => ?_) (fun h => ?_)) | (with_reducible refine wdguard_split_f (fun h => ?_) (fun h => ?_)) | (with_reducible refine And.intro (fun h => ?_) (fun h => ?_)) | (with_reducible apply And.intro; focus omega))
    refine wcall_of _ _ _ _ _ _ hfn ?_
    simp only [Credit.val]
    have hlt2 := parts_lt nx (finishS (phase ls m0S 4)).1.parts
    have hone := (partsV_slice (finishS (phase ls m0S 4)).1.parts).one
    generalize partsV (finishS (phase ls m0S 4)).1.parts = pvv at hlt2 hone ⊢
    repeat' (first | simp only [push_cast, seval, EE_P, h0, h2, h4, hσn, hone] | simp (disch := omega) only [wrap_fits] | ((first | with_reducible apply wcall_pure | with_reducible apply wdcall_pure); focus (first | assumption | exact steps_fn _ | exact choosef_fn _ _ | exact wrong_fn _ | exact right_fn _ | exact isName_fn _ | exact formatExpr_name _ | exact format_name _ | exact right_name _ | exact depth_name _ | exact name_fn _ | exact run_fn _ (by omega) _ [] [] _ (fun b _ _ => inName_fn b) | exact keywords_fn | exact contains_fn kwS (by decide) _ | exact inName_fn _ | exact digit_fn _ | exact letter_fn _ | exact hundredths_fn goodEE EE_P _ _ | exact mul_fn goodEE EE_P _ _ _ _ | exact sub_fn goodEE EE_P _ _ _ _ | exact add_fn goodEE EE_P _ _ _ _ | exact weight_fn goodEE EE_P EE_zero _ _ _ _ _ _ _ | exact less_fn goodEE EE_P _ _ _ _ | exact compare_fn goodEE EE_P _ _ _ _ | exact cmp_fn goodEE EE_P _ _ | exact isNaN_fn goodEE EE_P _ | exact valid_fn goodEE EE_P _ _ | exact abs_fn goodEE EE_P (by omega) (by omega))) | (with_reducible refine wguard_split_t (fun h => ?_) (fun h => ?_)) | (with_reducible refine wguard_split_f (fun h => ?_) (fun h => ?_)) | (with_reducible refine wcond_split (fun h => ?_) (fun h => ?_)) | (with_reducible refine wdguard_split_t (fun h => ?_) (fun h => ?_)) | (with_reducible refine wdguard_split_f (fun h => ?_) (fun h => ?_)) | (with_reducible refine And.intro (fun h => ?_) (fun h => ?_)) | (with_reducible apply And.intro; focus omega))
    refine ends_ret (by simp only [resultsOf, resOf, push_cast, seval, EE_P, h2]; rfl) (by simp only [push_cast, seval, EE_P]) rfl (Keeps.new hwf hkeep (Nat.le_refl _) _) ?_
    simp only [lt_tup, lt_agg, List.mem_cons, List.not_mem_nil, or_false, forall_eq_or_imp, forall_eq, lt_int, and_self, and_true]
    exact hlt2
theorem combine_fn {ls : List Line} {v : PV} (hv : SliceP (ls.map Line.cs) v) : Pure EE 12 [v] (.tup [(combineS ls).1.val, .int .i64 (combineS ls).2]) := by
  unfold combineS
  by_cases h : ls.length ≤ 32
  · cases h' : ls.any fun l => !rightS l with
    | true =>
      rw [if_pos (.inr rfl)]
      exact combine_wrong hv h h'
    | false =>
      rw [if_neg (by simp; omega)]
      exact combine_right hv h h'
  · rw [if_pos (.inl (by omega))]
    exact combine_big hv h
end Go.Proofs.YtdajoilaakiinaaGreatDoor.Awp

/- strconv.Itoa; texts of fractions. -/
namespace Go.Proofs.YtdajoilaakiinaaGreatDoor.Awp
open Go Go.Proofs
set_option linter.unusedSimpArgs false
set_option linter.unusedVariables false
set_option maxRecDepth 10000
set_option maxHeartbeats 4000000

def itoaS (n : Int) : ByteArray := ⟨(Lib.itoa n).toArray⟩
theorem globalNamed_pow10 : Tryz.prog.globalNamed "internal/strconv.uint64pow10" = some 1 := by kernel_rfl
theorem tab_of_sim {σ : Store} {μ : Mu} {w : World} (S : Sim EE σ μ w) : Lib.TabIs Tryz.prog w "internal/strconv.uint64pow10" .u64 Lib.pow10Tab := by
  obtain ⟨h1, c, t, fr, h2, h3⟩ := S.glob _ _ EE_pow10
  unfold Lib.TabIs World.var?
  rw [globalNamed_pow10]
  simp only [Option.bind_some, h2, Option.some.injEq]
  have hcell : ∀ i, w.cell? ⟨1, 0 + i, none⟩ = c[i]? := by
    intro i
    simp [World.cell?, h2]
  cases h1 with
  | cells cs b off vs hu hv hr =>
    apply Array.ext'
    apply List.ext_getElem?
    intro i
    simp only [Array.getElem?_toList]
    simp only [List.length_map] at h3
    by_cases hi : i < Lib.pow10Tab.length
    · have hp : (Lib.pow10Tab.map fun z => PV.int .u64 z)[i]? = some (.int .u64 Lib.pow10Tab[i]) := by simp [hi]
      have e1 := hv i _ hp
      have e2 := hr i _ hp
      rw [hcell] at e1
      rw [e1]
      generalize vs i = x at e2 ⊢
      cases e2
      simp [hi]
    · have : ¬ i < c.size := by omega
      rw [Array.getElem?_eq_none (by omega)]
      simp [hi]
theorem itoa_fn {n : Int} (h0 : -9223372036854775808 ≤ n) (h1 : n ≤ 9223372036854775807) : Pure EE 85 [.int .i64 n] (.str (itoaS n)) := by
  refine pure_of_calls ⟨Tryz.f85, by rw [EE_P]; exact Tryz.func85, rfl, by kernel_rfl⟩ fun σ μ w vs S hvs => ?_
  have hargs : vs = #[.int .i64 n] := by
    obtain ⟨hl, hr⟩ := hvs
    obtain ⟨vs⟩ := vs
    match vs, hl with
    | [x], _ =>
      have := hr 0 _ x rfl rfl
      cases this
      rfl
  subst hargs
  refine (Tryz.strconv_Itoa n h0 h1 w (tab_of_sim S)).mono fun e w' ⟨he, k, os, hw⟩ => ?_
  subst he; subst hw
  refine ⟨_, rfl, fun U μ w => .str _, ?_, fun b hb => ?_, rfl, rfl, rfl⟩
  · rw [Sort.size_grow]; exact Nat.le_add_right _ _
  · exact Sort.heap_grow_old _ _ hb
end Go.Proofs.YtdajoilaakiinaaGreatDoor.Awp
