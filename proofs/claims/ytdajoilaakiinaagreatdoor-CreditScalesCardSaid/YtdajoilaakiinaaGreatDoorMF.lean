/- The reference's Scale and Explain; CreditScales. -/
import Derived.Test.YtdajoilaakiinaaGreatDoorME
set_option linter.unusedSimpArgs false
set_option linter.unusedVariables false
namespace Go.Proofs.YtdajoilaakiinaaGreatDoor.Awp
open Go Go.Proofs
set_option linter.unusedSimpArgs false
set_option linter.unusedVariables false
set_option maxRecDepth 10000
set_option maxHeartbeats 4000000

theorem valid_parts {c : Credit} (h : validS c = true) : partNames c.parts = true ∧ (sumS (effs c.parts)).2 = 0 ∧ Fok c.pts ∧ 0 ≤ c.pts.n ∧ hundS c.pts ≤ 100000000 ∧ c.parts.length ≤ 1024 ∧ allS (effs c.parts) = true := by
  unfold validS at h
  simp only [Bool.and_eq_true, decide_eq_true_eq, Bool.not_eq_true'] at h
  obtain ⟨⟨⟨⟨⟨⟨h1, h2⟩, h3⟩, h4⟩, h5⟩, h6⟩, h7⟩ := h
  have hs : ¬ ((effs c.parts).length > 1024 ∨ allS (effs c.parts) = false) := fun hb => by
    unfold sumS at h2
    rw [if_pos hb] at h2
    exact absurd h2 (by decide)
  rw [effs_length] at hs
  exact ⟨h1, h2, h4, (zero_le_iff h4).1 h5, h7, by omega, by cases h : allS (effs c.parts); exact (hs (.inr h)).elim; rfl⟩
theorem one_le_iff {p : Frac} (h : Fok p) : lessS ⟨1, 1⟩ p = true ↔ p.n > p.d := by
  rw [less_iff one_ok h]
  unfold Fle
  simp
theorem bad_iff {c : Credit} {name : ByteArray} {f : Frac} : scaleBad c name f ↔ ¬ (validS c = true ∧ ¬ (c.parts.length : Int) = 1024 ∧ nameS name = true ∧ FV f.n f.d ∧ ¬ f.n < 0 ∧ ¬ f.n > f.d) := by
  have key : FV f.n f.d → (lessS f ⟨0, 1⟩ = true ↔ f.n < 0) ∧ (lessS ⟨1, 1⟩ f = true ↔ f.n > f.d) := fun hf => by
    refine ⟨?_, one_le_iff hf⟩
    have := zero_le_iff (p := f) hf
    constructor
    · intro h
      exact Int.lt_of_not_ge fun hn => by rw [this.2 hn] at h; cases h
    · intro h
      cases hl : lessS f ⟨0, 1⟩
      · have := this.1 hl; omega
      · rfl
  unfold scaleBad
  constructor
  · rintro h ⟨a1, a2, a3, a4, a5, a6⟩
    have hlen := (valid_parts a1).2.2.2.2.2.1
    obtain ⟨k1, k2⟩ := key a4
    rcases h with h | h | h | h | h | h
    · rw [a1] at h; cases h
    · omega
    · rw [a3] at h; cases h
    · exact h a4
    · exact a5 (k1.1 h)
    · exact a6 (k2.1 h)
  · intro h
    apply Decidable.byContradiction
    intro hn
    refine h ⟨?_, ?_, ?_, ?_, ?_, ?_⟩
    · cases hv : validS c
      · exact (hn (.inl hv)).elim
      · rfl
    · exact fun e => hn (.inr (.inl (by omega)))
    · cases hv : nameS name
      · exact (hn (.inr (.inr (.inl hv)))).elim
      · rfl
    · exact Decidable.byContradiction fun e => hn (.inr (.inr (.inr (.inl e))))
    · intro e
      by_cases hf : FV f.n f.d
      · exact hn (.inr (.inr (.inr (.inr (.inl ((key hf).1.2 e))))))
      · exact hn (.inr (.inr (.inr (.inl hf))))
    · intro e
      by_cases hf : FV f.n f.d
      · exact hn (.inr (.inr (.inr (.inr (.inr ((key hf).2.2 e))))))
      · exact hn (.inr (.inr (.inr (.inl hf))))
theorem scale_err {c : Credit} {name : ByteArray} {f : Frac} (hb : ¬ scaleBad c name f) (h : fmulErr c.pts f ≠ 0 ∨ fsubErr (fmulS c.pts f) c.pts ≠ 0) : scaleS c name f = (zeroCredit, 2) := by
  unfold scaleS
  rw [if_neg hb]
  have : (becomeS ⟨c.parts, c.pts, c.hund, false⟩ name (fmulS c.pts f) (fmulErr c.pts f)).wrong = true := by
    unfold becomeS
    rw [if_pos (.inr h)]
  exact if_pos (.inl this)
theorem scale_fine {c : Credit} {name : ByteArray} {f : Frac} (hb : ¬ scaleBad c name f) (h1 : fmulErr c.pts f = 0) (h2 : fsubErr (fmulS c.pts f) c.pts = 0) : scaleS c name f = (⟨c.parts ++ [⟨name, fsub (fmulS c.pts f) c.pts⟩], fmulS c.pts f, hundS (fmulS c.pts f)⟩, 0) := by
  have hg := Decidable.byContradiction fun hn => hb (bad_iff.2 hn)
  obtain ⟨a1, a2, a3, a4, a5, a6⟩ := hg
  obtain ⟨b1, b2, b3, b4, b5, b6, b7⟩ := valid_parts a1
  obtain ⟨c1, c2, c3, c4⟩ := fmul_val h1
  have v0 : 0 ≤ val c.pts := (val_nonneg b3).1 b4
  have v1 : 0 ≤ val f := (val_nonneg a4).1 (by omega)
  have v2 : val f ≤ 1 := by
    rw [← val_one, ← val_le a4 one_ok]
    unfold Fle
    simp
    omega
  have hle : val (fmulS c.pts f) ≤ val c.pts := by
    rw [c4]
    calc val c.pts * val f ≤ val c.pts * 1 := Rat.mul_le_mul_of_nonneg_left v2 v0
      _ = val c.pts := Rat.mul_one _
  have hm := hund_mono c3 b3 hle
  unfold scaleS
  rw [if_neg hb]
  have e : becomeS ⟨c.parts, c.pts, c.hund, false⟩ name (fmulS c.pts f) (fmulErr c.pts f) = ⟨c.parts ++ [⟨name, fsub (fmulS c.pts f) c.pts⟩], fmulS c.pts f, c.hund, false⟩ := by
    unfold becomeS
    rw [if_neg (by simp [h1, h2])]
  rw [e]
  exact finish_of rfl c3 (show hundS (fmulS c.pts f) ≤ 100000000 by omega)
theorem refscale_fn {c : Credit} {v : PV} (hv : SliceP (c.parts.map Part.cs) v) (hl : c.parts.length ≤ 1000000) (name : ByteArray) (f : Frac) : Pure EE 23 [c.pv v, .str name, f.pv] (.tup [(scaleS c name f).1.val, .int .i64 (scaleS c name f).2]) := by
  have hvl := hv.len
  simp only [List.length_map] at hvl
  have hval := refvalid_credit_fn c hv hl
  have hmul := refmul_fn c.pts f
  have hsub := refsub_fn (fmulS c.pts f) c.pts
  have hhu := refhund_fn (fmulS c.pts f)
  have zero_val : zeroCredit.val = .agg [.nil, .int .i64 0, .int .i64 0, .int .i64 0] := by
    simp [zeroCredit, Credit.val, Credit.pv, partsV]
  by_cases hb : scaleBad c name f
  · rw [show scaleS c name f = (zeroCredit, 1) from if_pos hb, zero_val]
    rw [bad_iff] at hb
    intro σ nx
    refine fn_of_body goodEE (by rw [EE_P]; exact Tryz.func23) rfl rfl (by kernel_rfl) (Nat.le_of_ble_eq_true rfl) (Nat.le_refl _) fun hwf hlt => ?_
    rw [show Tryz.f23.results.toList = [.cell 6 29, .tmp 7] from rfl]
    refine awp_begin _ _ _ _ _ (cc := _) (by conv => lhs; simp only [push_cast, seval, Tryz.f23]) ?_
    simp only [push_cast, seval, EE_P]
    repeat' (first | simp only [push_cast, seval, EE_P, hvl, hv.str, hv.one, hv.cells] | simp (disch := omega) only [wrap_fits] | ((first | with_reducible apply wcall_pure | with_reducible apply wdcall_pure); focus (first | assumption | exact refvalid_credit_fn _ (by assumption) (by omega) | exact refmul_fn ⟨_, _⟩ ⟨_, _⟩ | exact refhund_fn ⟨_, _⟩ | exact refsub_fn ⟨_, _⟩ ⟨_, _⟩ | exact isName50_fn _ | exact refvalid_fn ⟨_, _⟩)) | (with_reducible refine wguard_split_t (fun h => ?_) (fun h => ?_)) | (with_reducible refine wguard_split_f (fun h => ?_) (fun h => ?_)) | (with_reducible refine wcond_split (fun h => ?_) (fun h => ?_)) | (with_reducible refine wdguard_split_t (fun h => ?_) (fun h => ?_)) | (with_reducible refine wdguard_split_f (fun h => ?_) (fun h => ?_)) | (with_reducible refine And.intro (fun h => ?_) (fun h => ?_)) | (with_reducible apply And.intro; focus omega))
    all_goals (try (exfalso; simp_all; done))
    all_goals ((refine ends_ret (by simp only [resultsOf, resOf, push_cast, seval, EE_P]; rfl) (by simp only [push_cast, seval, EE_P]) ?_ (by repeat' (first | exact Keeps.refl _ | assumption | exact (hwf.keep1 _) | refine Keeps.new hwf ?_ (by omega) _)) (by simp only [lt_int, lt_bool, lt_str, lt_nil, lt_empty, lt_agg, lt_tup, lt_list, lt_cells, lt_fn, lt_nilp, lt_nilfn, lt_nili, List.mem_cons, List.not_mem_nil, or_false, forall_eq_or_imp, forall_eq, and_true, true_and, and_self, implies_true, *]; try omega)); (try simp only [tupOf, push_cast, seval, EE_P]))
  obtain ⟨a1, a2, a3, a4, a5, a6⟩ := Decidable.byContradiction fun hn => hb (bad_iff.2 hn)
  rw [a1] at hval
  by_cases he : fmulErr c.pts f ≠ 0 ∨ fsubErr (fmulS c.pts f) c.pts ≠ 0
  · rw [scale_err hb he, zero_val]
    intro σ nx
    refine fn_of_body goodEE (by rw [EE_P]; exact Tryz.func23) rfl rfl (by kernel_rfl) (Nat.le_of_ble_eq_true rfl) (Nat.le_refl _) fun hwf hlt => ?_
    rw [show Tryz.f23.results.toList = [.cell 6 29, .tmp 7] from rfl]
    refine awp_begin _ _ _ _ _ (cc := _) (by conv => lhs; simp only [push_cast, seval, Tryz.f23]) ?_
    simp only [push_cast, seval, EE_P]
    repeat' (first | simp only [push_cast, seval, EE_P, hvl, hv.str, hv.one, hv.cells, a2, a3, a4, a5, a6, decide_true, decide_false] | simp (disch := omega) only [wrap_fits] | ((first | with_reducible apply wcall_pure | with_reducible apply wdcall_pure); focus (first | assumption | exact refvalid_credit_fn _ (by assumption) (by omega) | exact refmul_fn ⟨_, _⟩ ⟨_, _⟩ | exact refhund_fn ⟨_, _⟩ | exact refsub_fn ⟨_, _⟩ ⟨_, _⟩ | exact isName50_fn _ | exact refvalid_fn ⟨_, _⟩)) | (with_reducible refine wguard_split_t (fun h => ?_) (fun h => ?_)) | (with_reducible refine wguard_split_f (fun h => ?_) (fun h => ?_)) | (with_reducible refine wcond_split (fun h => ?_) (fun h => ?_)) | (with_reducible refine wdguard_split_t (fun h => ?_) (fun h => ?_)) | (with_reducible refine wdguard_split_f (fun h => ?_) (fun h => ?_)) | (with_reducible refine And.intro (fun h => ?_) (fun h => ?_)) | (with_reducible apply And.intro; focus omega))
    all_goals (try (exfalso; simp_all; done))
    all_goals ((refine ends_ret (by simp only [resultsOf, resOf, push_cast, seval, EE_P]; rfl) (by simp only [push_cast, seval, EE_P]) ?_ (by repeat' (first | exact Keeps.refl _ | assumption | exact (hwf.keep1 _) | refine Keeps.new hwf ?_ (by omega) _)) (by simp only [lt_int, lt_bool, lt_str, lt_nil, lt_empty, lt_agg, lt_tup, lt_list, lt_cells, lt_fn, lt_nilp, lt_nilfn, lt_nili, List.mem_cons, List.not_mem_nil, or_false, forall_eq_or_imp, forall_eq, and_true, true_and, and_self, implies_true, *]; try omega)); (try simp only [tupOf, push_cast, seval, EE_P]))
  · have he1 : fmulErr c.pts f = 0 := Decidable.byContradiction fun h => he (.inl h)
    have he2 : fsubErr (fmulS c.pts f) c.pts = 0 := Decidable.byContradiction fun h => he (.inr h)
    rw [scale_fine hb he1 he2]
    have hel := hv.elems
    have h3 := parts3' c.parts
    generalize fmulS c.pts f = p at *
    generalize hq : fsub p c.pts = q at *
    have hpv : (Credit.mk (c.parts ++ [⟨name, q⟩]) p (hundS p)).val = .agg [.list (c.parts.map Part.cs ++ [[.str name, .int .i64 q.n, .int .i64 q.d]]), .int .i64 p.n, .int .i64 p.d, .int .i64 (hundS p)] := by
      simp [Credit.val, Credit.pv, partsV, Part.cs]
    rw [hpv]
    intro σ nx
    refine fn_of_body goodEE (by rw [EE_P]; exact Tryz.func23) rfl rfl (by kernel_rfl) (Nat.le_of_ble_eq_true rfl) (Nat.le_refl _) fun hwf hlt => ?_
    rw [show Tryz.f23.results.toList = [.cell 6 29, .tmp 7] from rfl]
    refine awp_begin _ _ _ _ _ (cc := _) (by conv => lhs; simp only [push_cast, seval, Tryz.f23]) ?_
    simp only [push_cast, seval, EE_P]
    repeat' (first | simp only [push_cast, seval, EE_P, hvl, hv.str, hv.one, hv.cells, a2, a3, a4, a5, a6, he1, he2, hel, decide_true, decide_false] | simp (disch := omega) only [wrap_fits] | ((first | with_reducible apply wcall_pure | with_reducible apply wdcall_pure); focus (first | assumption | exact refvalid_credit_fn _ (by assumption) (by omega) | exact refmul_fn ⟨_, _⟩ ⟨_, _⟩ | exact refhund_fn ⟨_, _⟩ | exact refsub_fn ⟨_, _⟩ ⟨_, _⟩ | exact isName50_fn _ | exact refvalid_fn ⟨_, _⟩)) | (with_reducible refine wguard_split_t (fun h => ?_) (fun h => ?_)) | (with_reducible refine wguard_split_f (fun h => ?_) (fun h => ?_)) | (with_reducible refine wcond_split (fun h => ?_) (fun h => ?_)) | (with_reducible refine wdguard_split_t (fun h => ?_) (fun h => ?_)) | (with_reducible refine wdguard_split_f (fun h => ?_) (fun h => ?_)) | (with_reducible refine And.intro (fun h => ?_) (fun h => ?_)) | (with_reducible apply And.intro; focus omega))
    refine ⟨⟨by simp only [roomFor, push_cast, seval, List.length_map]; omega, h3⟩, ⟨by cases c.parts <;> simp, by simp only [roomFor, push_cast, seval, List.length_map]; omega, fun c hc => (h3 c hc).1⟩, ?_⟩
    repeat' (first | simp only [push_cast, seval, EE_P, hvl, hv.str, hv.one, hv.cells] | simp (disch := omega) only [wrap_fits] | ((first | with_reducible apply wcall_pure | with_reducible apply wdcall_pure); focus (first | assumption | exact refvalid_credit_fn _ (by assumption) (by omega) | exact refmul_fn ⟨_, _⟩ ⟨_, _⟩ | exact refhund_fn ⟨_, _⟩ | exact refsub_fn ⟨_, _⟩ ⟨_, _⟩ | exact isName50_fn _ | exact refvalid_fn ⟨_, _⟩)) | (with_reducible refine wguard_split_t (fun h => ?_) (fun h => ?_)) | (with_reducible refine wguard_split_f (fun h => ?_) (fun h => ?_)) | (with_reducible refine wcond_split (fun h => ?_) (fun h => ?_)) | (with_reducible refine wdguard_split_t (fun h => ?_) (fun h => ?_)) | (with_reducible refine wdguard_split_f (fun h => ?_) (fun h => ?_)) | (with_reducible refine And.intro (fun h => ?_) (fun h => ?_)) | (with_reducible apply And.intro; focus omega))
    have hlc := credit_lt nx ⟨c.parts ++ [⟨name, q⟩], p, hundS p⟩
    rw [hpv] at hlc
    refine ends_fz (by simp only [resultsOf, resOf, push_cast, seval, EE_P]; rfl) trivial ?_ (by repeat' (first | exact Keeps.refl _ | assumption | exact (hwf.keep1 _) | refine Keeps.new hwf ?_ (by omega) _)) (.tup _ fun c hc => ?_)
    · refine fz_tup (And.intro (fz_agg (And.intro (fz_row (k := nx + 69) ?_ ?_ ?_) ⟨.refl _, .refl _, .refl _, trivial⟩)) ⟨.refl _, trivial⟩)
      · simp only [upd_at, push_cast, seval]
      · exact hwf.none (by omega)
      · simp
    · simp only [List.mem_cons, List.not_mem_nil, or_false] at hc
      rcases hc with rfl | rfl
      · exact hlc
      · exact .int _ _

/-! ### Explain -/
theorem numS_head (m : Nat) : ∃ b l, numS m = ⟨(b :: l).toArray⟩ ∧ b ≠ 45 := by
  induction m using Nat.strongRecOn with
  | _ m ih =>
    by_cases h : m < 10
    · rw [numS_small h]
      refine ⟨UInt8.ofNat (48 + m % 10), [], rfl, fun e => ?_⟩
      have := congrArg UInt8.toNat e
      simp at this
      omega
    · rw [numS_big h]
      obtain ⟨b, l, h1, h2⟩ := ih (m / 10) (by omega)
      refine ⟨b, l ++ [UInt8.ofNat (48 + m % 10)], ?_, h2⟩
      rw [h1]
      unfold digS
      rw [bytes_append]
      simp
theorem format_sign {f : Frac} (h : FV f.n f.d) : ∃ b l, formatS f = signS f.n ++ ⟨(b :: l).toArray⟩ ∧ b ≠ 45 := by
  obtain ⟨b, l, h1, h2⟩ := numS_head f.n.natAbs
  unfold formatS
  rw [if_pos h, itoaS_sign, h1]
  split
  · exact ⟨b, l, rfl, h2⟩
  · refine ⟨b, l ++ ((⟨#[47]⟩ : ByteArray) ++ itoaS f.d).data.toList, ?_, h2⟩
    rw [ByteArray.append_assoc, ByteArray.append_assoc]
    congr 1
theorem partText_ref {p : Part} (h : FV p.eff.n p.eff.d) : partText p = p.name ++ (if p.eff.n < 0 then (⟨#[32]⟩ : ByteArray) ++ formatS p.eff else (⟨#[32, 43]⟩ : ByteArray) ++ formatS p.eff) := by
  obtain ⟨b, l, h1, h2⟩ := format_sign h
  unfold partText
  rw [h1]
  by_cases hn : p.eff.n < 0
  · have hs : signS p.eff.n = ⟨#[45]⟩ := by unfold signS; rw [if_pos hn]
    have hd : (⟨#[45]⟩ : ByteArray) ++ ⟨(b :: l).toArray⟩ = ⟨(45 :: b :: l).toArray⟩ := by
      rw [ByteArray.ext_iff]
      simp
    have hx : ∀ n, (⟨(45 :: b :: l).toArray⟩ : ByteArray).extract 0 1 = ⟨#[45]⟩ ∧ (⟨(45 :: b :: l).toArray⟩ : ByteArray).extract 1 ((b :: l).length + 1 + n) = ⟨(b :: l).toArray⟩ := fun n => by
      constructor
      · rw [ByteArray.ext_iff]
        simp
      · rw [ByteArray.ext_iff]
        simp [List.take_of_length_le]
    have hp : hasPrefixS ⟨(45 :: b :: l).toArray⟩ ⟨#[45]⟩ = true := by
      unfold hasPrefixS
      rw [Bool.and_eq_true]
      refine ⟨decide_eq_true ?_, decide_eq_true (hx 0).1⟩
      show (((45 :: b :: l).toArray.size : Nat) : Int) ≥ 1
      simp
      omega
    have hc : cutPrefixS ⟨(45 :: b :: l).toArray⟩ ⟨#[45]⟩ = ⟨(b :: l).toArray⟩ := by
      unfold cutPrefixS
      rw [if_pos hp]
      have := (hx 0).2
      have e : (⟨(45 :: b :: l).toArray⟩ : ByteArray).size = (b :: l).length + 1 + 0 := rfl
      rw [e]
      exact this
    rw [hs, if_pos hn, hd, if_pos hp, hc, ← hd, ByteArray.append_assoc, ByteArray.append_assoc]
  · have hs : signS p.eff.n = ⟨#[]⟩ := by unfold signS; rw [if_neg hn]
    have hd : (⟨#[]⟩ : ByteArray) ++ ⟨(b :: l).toArray⟩ = ⟨(b :: l).toArray⟩ := ByteArray.empty_append
    have hx : (⟨(b :: l).toArray⟩ : ByteArray).extract 0 1 = ⟨#[b]⟩ := by
      rw [ByteArray.ext_iff]
      simp
    have hp : hasPrefixS ⟨(b :: l).toArray⟩ ⟨#[45]⟩ = false := by
      unfold hasPrefixS
      rw [Bool.and_eq_false_iff]
      refine .inr (decide_eq_false ?_)
      show ¬ (⟨(b :: l).toArray⟩ : ByteArray).extract 0 1 = ⟨#[45]⟩
      rw [hx, ByteArray.ext_iff]
      simp
      exact h2
    have hc : cutPrefixS ⟨(b :: l).toArray⟩ ⟨#[45]⟩ = ⟨(b :: l).toArray⟩ := by
      unfold cutPrefixS
      rw [hp, if_neg (by simp)]
    rw [hs, if_neg hn, hd, hp, if_neg (by simp), hc, ByteArray.append_assoc, ByteArray.append_assoc]
    congr 1
theorem refexplain_fn (c : Credit) {v : PV} (hv : SliceP (c.parts.map Part.cs) v) (hl : c.parts.length ≤ 1000000) : Pure EE 27 [c.pv v] (strsP (if validS c = true then explainS c else [])) := by
  have hvl := hv.len
  simp only [List.length_map] at hvl
  have hval := refvalid_credit_fn c hv hl
  cases hvs : validS c
  · rw [hvs] at hval
    rw [if_neg (by simp), show strsP [] = .list [] from rfl]
    intro σ nx
    refine fn_of_body goodEE (by rw [EE_P]; exact Tryz.func27) rfl rfl (by kernel_rfl) (Nat.le_of_ble_eq_true rfl) (Nat.le_refl _) fun hwf hlt => ?_
    rw [show Tryz.f27.results.toList = [.tmp 2] from rfl]
    refine awp_begin _ _ _ _ _ (cc := _) (by conv => lhs; simp only [push_cast, seval, Tryz.f27]) ?_
    simp only [push_cast, seval, EE_P]
    repeat' (first | simp only [push_cast, seval, EE_P, hvl, hv.str, hv.one, hv.cells] | simp (disch := omega) only [wrap_fits] | ((first | with_reducible apply wcall_pure | with_reducible apply wdcall_pure); focus (first | assumption | exact refpoints_fn _ | exact refformat_fn ⟨_, _⟩ | exact refvalid_credit_fn _ (by assumption) (by omega))) | (with_reducible refine wguard_split_t (fun h => ?_) (fun h => ?_)) | (with_reducible refine wguard_split_f (fun h => ?_) (fun h => ?_)) | (with_reducible refine wcond_split (fun h => ?_) (fun h => ?_)) | (with_reducible refine wdguard_split_t (fun h => ?_) (fun h => ?_)) | (with_reducible refine wdguard_split_f (fun h => ?_) (fun h => ?_)) | (with_reducible refine And.intro (fun h => ?_) (fun h => ?_)) | (with_reducible apply And.intro; focus omega))
    refine ends_fz (by simp only [resultsOf, resOf, push_cast, seval, EE_P]; rfl) trivial ?_ (by repeat' (first | exact Keeps.refl _ | assumption | exact (hwf.keep1 _) | refine Keeps.new hwf ?_ (by omega) _)) (.list _ fun cs hcs => by cases hcs)
    refine fz_row (k := nx + 2) ?_ ?_ rfl
    · simp only [upd_at, push_cast, seval]
    · exact hwf.none (by omega)
  rw [if_pos rfl]
  rw [hvs] at hval
  obtain ⟨q1, q2, q3, q4, q5, q6, q7⟩ := valid_parts hvs
  intro σ nx
  refine fn_of_body goodEE (by rw [EE_P]; exact Tryz.func27) rfl rfl (by kernel_rfl) (Nat.le_of_ble_eq_true rfl) (Nat.le_refl _) fun hwf hlt => ?_
  rw [show Tryz.f27.results.toList = [.tmp 2] from rfl]
  refine awp_begin _ _ _ _ _ (cc := _) (by conv => lhs; simp only [push_cast, seval, Tryz.f27]) ?_
  simp only [push_cast, seval, EE_P]
  repeat' (first | simp only [push_cast, seval, EE_P, hvl, hv.str, hv.one, hv.cells] | simp (disch := omega) only [wrap_fits] | ((first | with_reducible apply wcall_pure | with_reducible apply wdcall_pure); focus (first | assumption | exact refpoints_fn _ | exact refformat_fn ⟨_, _⟩ | exact refvalid_credit_fn _ (by assumption) (by omega))) | (with_reducible refine wguard_split_t (fun h => ?_) (fun h => ?_)) | (with_reducible refine wguard_split_f (fun h => ?_) (fun h => ?_)) | (with_reducible refine wcond_split (fun h => ?_) (fun h => ?_)) | (with_reducible refine wdguard_split_t (fun h => ?_) (fun h => ?_)) | (with_reducible refine wdguard_split_f (fun h => ?_) (fun h => ?_)) | (with_reducible refine And.intro (fun h => ?_) (fun h => ?_)) | (with_reducible apply And.intro; focus omega))
  refine wloop_by (fun m sl σ' nx' => ∃ i k3 : Nat, i ≤ c.parts.length ∧ m = c.parts.length - i ∧ nx < k3 ∧ k3 < nx' ∧ sl 3 = .row k3 0 i ∧ sl 1 = .ptr nx 0 0 ∧ sl 4 = .int .i64 i ∧ σ' nx = some (.row [[v, .int .i64 c.pts.n, .int .i64 c.pts.d, .int .i64 c.hund]]) ∧ σ' k3 = some (.row (((c.parts.take i).map partText).map strC)) ∧ Keeps σ σ') c.parts.length
    ⟨0, nx + 2, by omega, rfl, by omega, by omega, rfl, rfl, rfl, ?_, ?_, (by repeat' (first | exact Keeps.refl _ | assumption | exact (hwf.keep1 _) | refine Keeps.new hwf ?_ (by omega) _))⟩ ?_
  · simp only [upd_at, push_cast, seval]
  · simp only [upd_at, push_cast, seval, List.take_zero, List.map_nil]
  rintro m sl σ' nx' ⟨i, k3, hi, hm, a3, b3, h3, h1, h4, hs, hs3, hk⟩
  have hnx : nx < nx' := by omega
  have hkk : k3 ≠ nx := by omega
  have hi0 : (0 : Int) ≤ i := by omega
  have hen : ((c.parts.take i).map partText).length = i := by rw [List.length_map, List.length_take]; omega
  by_cases hil : i < c.parts.length
  · have hil' : (i : Int) < c.parts.length := by omega
    obtain rfl := hv.lt (i := i) (by simpa using hil)
    have hw : IntKind.i64.wrap ((i : Int) + 1) = (i : Int) + 1 := wrap_small (by omega) (by omega)
    have hget : (c.parts.map Part.cs)[i]? = some c.parts[i].cs := by rw [List.getElem?_map, List.getElem?_eq_getElem hil]; rfl
    have hget' : c.parts[i]? = some c.parts[i] := List.getElem?_eq_getElem hil
    have hfv : FV c.parts[i].eff.n c.parts[i].eff.d := by
      have h := List.all_eq_true.1 q7 c.parts[i].eff (by unfold effs; exact List.mem_map_of_mem (List.getElem_mem hil))
      simpa using h
    have hnz := nameS_size (partNames_get q1 hget')
    have hz1 := formatS_size c.parts[i].eff
    generalize hf : c.parts[i] = f at hget hget' hnz hz1 hfv
    have he := texts_succ hget'
    have hpt := partText_ref hfv
    generalize ht : (c.parts.take i).map partText = es at hs3 he hen
    have hlm : (es.map strC).length = i := by rw [List.length_map, hen]
    have hone : ∀ cs ∈ es.map strC, cs.length = 1 := fun cs hcs => by obtain ⟨q, _, rfl⟩ := List.mem_map.1 hcs; rfl
    have hroom : (i ≠ 0 ∨ es.map strC = []) := by
      by_cases h0 : i = 0
      · right
        have : es = [] := List.length_eq_zero_iff.1 (by omega)
        rw [this]; rfl
      · exact .inl h0
    generalize hes : es.map strC = ec at hs3 hlm hone hroom
    by_cases hneg : f.eff.n < 0
    · repeat' (first | simp only [push_cast, seval, EE_P, h1, h3, h4, hvl, hi0, hil', hget, hw, hlm, hneg, List.length_map, Int.toNat_natCast, (key_ne hnx).1, (key_ne hnx).2.1, (key_ne hnx).2.2.1, (key_ne hnx).2.2.2, (key_ne b3).1, (key_ne b3).2.1, (key_ne b3).2.2.1, (key_ne b3).2.2.2, (ne_keys hkk).1, (ne_keys hkk).2, hs, hs3] | simp (disch := omega) only [wrap_fits] | ((first | with_reducible apply wcall_pure | with_reducible apply wdcall_pure); focus (first | assumption | exact refpoints_fn _ | exact refformat_fn ⟨_, _⟩ | exact refvalid_credit_fn _ (by assumption) (by omega))) | (with_reducible refine wguard_split_t (fun h => ?_) (fun h => ?_)) | (with_reducible refine wguard_split_f (fun h => ?_) (fun h => ?_)) | (with_reducible refine wcond_split (fun h => ?_) (fun h => ?_)) | (with_reducible refine wdguard_split_t (fun h => ?_) (fun h => ?_)) | (with_reducible refine wdguard_split_f (fun h => ?_) (fun h => ?_)) | (with_reducible refine And.intro (fun h => ?_) (fun h => ?_)) | (with_reducible apply And.intro; focus omega))
      refine ⟨by rw [show Frac.mk f.2.n f.2.d = f.eff from rfl]; omega, ?_⟩
      repeat' (first | simp only [push_cast, seval, EE_P, h1, h3, h4, hvl, hi0, hil', hget, hw, hlm, hneg, List.length_map, Int.toNat_natCast, (key_ne hnx).1, (key_ne hnx).2.1, (key_ne hnx).2.2.1, (key_ne hnx).2.2.2, (key_ne b3).1, (key_ne b3).2.1, (key_ne b3).2.2.1, (key_ne b3).2.2.2, (ne_keys hkk).1, (ne_keys hkk).2, hs, hs3] | simp (disch := omega) only [wrap_fits] | ((first | with_reducible apply wcall_pure | with_reducible apply wdcall_pure); focus (first | assumption | exact refpoints_fn _ | exact refformat_fn ⟨_, _⟩ | exact refvalid_credit_fn _ (by assumption) (by omega))) | (with_reducible refine wguard_split_t (fun h => ?_) (fun h => ?_)) | (with_reducible refine wguard_split_f (fun h => ?_) (fun h => ?_)) | (with_reducible refine wcond_split (fun h => ?_) (fun h => ?_)) | (with_reducible refine wdguard_split_t (fun h => ?_) (fun h => ?_)) | (with_reducible refine wdguard_split_f (fun h => ?_) (fun h => ?_)) | (with_reducible refine And.intro (fun h => ?_) (fun h => ?_)) | (with_reducible apply And.intro; focus omega))
      refine ⟨by rw [show Frac.mk f.2.n f.2.d = f.eff from rfl]; omega, by rw [show Frac.mk f.2.n f.2.d = f.eff from rfl]; omega, ⟨hroom, by simp only [roomFor, push_cast, seval]; omega, hone⟩, c.parts.length - (i + 1), by omega, i + 1, nx' + 32, by omega, rfl, by omega, by omega, rfl, by simp, ?_, (by repeat' (first | exact Keeps.refl _ | assumption | exact (hwf.keep1 _) | refine Keeps.new hwf ?_ (by omega) _))⟩
      rw [if_pos rfl, he, List.map_append, hes]
      show _ = some (AObj.row (ec ++ [strC (partText f)]))
      rw [hpt, if_pos hneg]
      rfl
    · repeat' (first | simp only [push_cast, seval, EE_P, h1, h3, h4, hvl, hi0, hil', hget, hw, hlm, hneg, List.length_map, Int.toNat_natCast, (key_ne hnx).1, (key_ne hnx).2.1, (key_ne hnx).2.2.1, (key_ne hnx).2.2.2, (key_ne b3).1, (key_ne b3).2.1, (key_ne b3).2.2.1, (key_ne b3).2.2.2, (ne_keys hkk).1, (ne_keys hkk).2, hs, hs3] | simp (disch := omega) only [wrap_fits] | ((first | with_reducible apply wcall_pure | with_reducible apply wdcall_pure); focus (first | assumption | exact refpoints_fn _ | exact refformat_fn ⟨_, _⟩ | exact refvalid_credit_fn _ (by assumption) (by omega))) | (with_reducible refine wguard_split_t (fun h => ?_) (fun h => ?_)) | (with_reducible refine wguard_split_f (fun h => ?_) (fun h => ?_)) | (with_reducible refine wcond_split (fun h => ?_) (fun h => ?_)) | (with_reducible refine wdguard_split_t (fun h => ?_) (fun h => ?_)) | (with_reducible refine wdguard_split_f (fun h => ?_) (fun h => ?_)) | (with_reducible refine And.intro (fun h => ?_) (fun h => ?_)) | (with_reducible apply And.intro; focus omega))
      refine ⟨by rw [show Frac.mk f.2.n f.2.d = f.eff from rfl]; omega, ?_⟩
      repeat' (first | simp only [push_cast, seval, EE_P, h1, h3, h4, hvl, hi0, hil', hget, hw, hlm, hneg, List.length_map, Int.toNat_natCast, (key_ne hnx).1, (key_ne hnx).2.1, (key_ne hnx).2.2.1, (key_ne hnx).2.2.2, (key_ne b3).1, (key_ne b3).2.1, (key_ne b3).2.2.1, (key_ne b3).2.2.2, (ne_keys hkk).1, (ne_keys hkk).2, hs, hs3] | simp (disch := omega) only [wrap_fits] | ((first | with_reducible apply wcall_pure | with_reducible apply wdcall_pure); focus (first | assumption | exact refpoints_fn _ | exact refformat_fn ⟨_, _⟩ | exact refvalid_credit_fn _ (by assumption) (by omega))) | (with_reducible refine wguard_split_t (fun h => ?_) (fun h => ?_)) | (with_reducible refine wguard_split_f (fun h => ?_) (fun h => ?_)) | (with_reducible refine wcond_split (fun h => ?_) (fun h => ?_)) | (with_reducible refine wdguard_split_t (fun h => ?_) (fun h => ?_)) | (with_reducible refine wdguard_split_f (fun h => ?_) (fun h => ?_)) | (with_reducible refine And.intro (fun h => ?_) (fun h => ?_)) | (with_reducible apply And.intro; focus omega))
      refine ⟨by rw [show Frac.mk f.2.n f.2.d = f.eff from rfl]; omega, ⟨hroom, by simp only [roomFor, push_cast, seval]; omega, hone⟩, c.parts.length - (i + 1), by omega, i + 1, nx' + 27, by omega, rfl, by omega, by omega, rfl, by simp, ?_, (by repeat' (first | exact Keeps.refl _ | assumption | exact (hwf.keep1 _) | refine Keeps.new hwf ?_ (by omega) _))⟩
      rw [if_pos rfl, he, List.map_append, hes]
      show _ = some (AObj.row (ec ++ [strC (partText f)]))
      rw [hpt, if_neg hneg]
      rfl
  · have hil' : ¬ (i : Int) < c.parts.length := by omega
    obtain rfl : i = c.parts.length := by omega
    rw [List.take_length] at hs3
    have hz1 := pointsTextS_size c.hund
    repeat' (first | simp only [push_cast, seval, EE_P, h1, h3, h4, hvl, hv.str, hv.one, hil', (key_ne hnx).1, (key_ne hnx).2.1, (key_ne hnx).2.2.1, (key_ne hnx).2.2.2, (key_ne b3).1, (key_ne b3).2.1, (key_ne b3).2.2.1, (key_ne b3).2.2.2, (ne_keys hkk).1, (ne_keys hkk).2, hs, hs3, List.length_map] | simp (disch := omega) only [wrap_fits] | ((first | with_reducible apply wcall_pure | with_reducible apply wdcall_pure); focus (first | assumption | exact refpoints_fn _ | exact refformat_fn ⟨_, _⟩ | exact refvalid_credit_fn _ (by assumption) (by omega))) | (with_reducible refine wguard_split_t (fun h => ?_) (fun h => ?_)) | (with_reducible refine wguard_split_f (fun h => ?_) (fun h => ?_)) | (with_reducible refine wcond_split (fun h => ?_) (fun h => ?_)) | (with_reducible refine wdguard_split_t (fun h => ?_) (fun h => ?_)) | (with_reducible refine wdguard_split_f (fun h => ?_) (fun h => ?_)) | (with_reducible refine And.intro (fun h => ?_) (fun h => ?_)) | (with_reducible apply And.intro; focus omega))
    have e : (explainS c).map (fun s => [PV.str s]) = (c.parts.map partText).map strC ++ [[.str ((⟨#[116, 111, 116, 97, 108, 32]⟩ : ByteArray) ++ pointsTextS c.hund)]] := by
      rw [explainS, List.map_append]
      rfl
    rw [strsP, e]
    refine ⟨⟨by cases c.parts <;> simp, by simp only [roomFor, push_cast, seval]; omega, fun cs hcs => by obtain ⟨q, _, rfl⟩ := List.mem_map.1 hcs; rfl⟩, ends_fz (by simp only [resultsOf, resOf, push_cast, seval, EE_P]; rfl) (by first | exact ⟨trivial, trivial⟩ | simp only [push_cast, seval, and_self]) ?_ (by repeat' (first | exact Keeps.refl _ | assumption | exact (hwf.keep1 _) | refine Keeps.new hwf ?_ (by omega) _)) (by rw [← e]; exact lt_strs _)⟩
    refine fz_row (k := nx' + 11) (upd_same ..) (hwf.none (by omega)) ?_
    simp
end Go.Proofs.YtdajoilaakiinaaGreatDoor.Awp

/- CreditScales. -/
namespace Go.Proofs.YtdajoilaakiinaaGreatDoor.Awp
open Go Go.Proofs
set_option linter.unusedSimpArgs false
set_option linter.unusedVariables false
set_option maxRecDepth 10000
set_option maxHeartbeats 4000000

theorem fewP_len {c : Credit} (h : fewP c = true) : c.parts.length ≤ 20 := by
  unfold fewP at h
  simp only [Bool.and_eq_true, decide_eq_true_eq] at h
  exact h.2
theorem explainV_slice (c : Credit) : SliceP ((if validS c = true then explainS c else []).map strC) (explainV c) := by
  unfold explainV
  split
  · exact .list
  · exact .nil rfl
theorem scales_len (c : Credit) (name : ByteArray) (f : Frac) (h : c.parts.length ≤ 20) : (scaleS c name f).1.parts.length ≤ 1000000 := by
  unfold scaleS
  split
  · exact Nat.zero_le _
  · unfold finishS
    split
    · exact Nat.zero_le _
    · have := become_len ⟨c.parts, c.pts, c.hund, false⟩ name (fmulS c.pts f) (fmulErr c.pts f)
      show (becomeS _ _ _ _).parts.length ≤ _
      simp only at this
      omega
theorem scales_fn {c : Credit} {v : PV} (hv : SliceP (c.parts.map Part.cs) v) (hl : c.parts.length ≤ maxLen) (name : ByteArray) (f : Frac) : Pure EE 8 [c.pv v, .str name, f.pv] (.bool true) := by
  have hvl := hv.len
  simp only [List.length_map] at hvl
  have hfew := fewP_fn c hv hl
  cases hfs : fewP c
  · rw [hfs] at hfew
    intro σ nx
    refine fn_of_body goodEE (by rw [EE_P]; exact Tryz.func8) rfl rfl (by kernel_rfl) (Nat.le_of_ble_eq_true rfl) (Nat.le_refl _) fun hwf hlt => ?_
    rw [show Tryz.f8.results.toList = [.tmp 6] from rfl]
    refine awp_begin _ _ _ _ _ (cc := _) (by conv => lhs; simp only [push_cast, seval, Tryz.f8]) ?_
    simp only [push_cast, seval, EE_P]
    repeat' (first | simp only [push_cast, seval, EE_P, hv.one, hv.cells] | simp (disch := omega) only [wrap_fits] | ((first | with_reducible apply wcall_pure | with_reducible apply wdcall_pure); focus (first | assumption | exact refvalid_credit_fn _ (by assumption) (by omega) | exact awake_fn | exact explain_fn _ (by assumption) (by omega) | exact valid_credit_fn _ (by assumption) (by omega))) | (with_reducible refine wguard_split_t (fun h => ?_) (fun h => ?_)) | (with_reducible refine wguard_split_f (fun h => ?_) (fun h => ?_)) | (with_reducible refine wcond_split (fun h => ?_) (fun h => ?_)) | (with_reducible refine wdguard_split_t (fun h => ?_) (fun h => ?_)) | (with_reducible refine wdguard_split_f (fun h => ?_) (fun h => ?_)) | (with_reducible refine And.intro (fun h => ?_) (fun h => ?_)) | (with_reducible apply And.intro; focus omega))
    all_goals ((refine ends_ret (by simp only [resultsOf, resOf, push_cast, seval, EE_P]; rfl) (by simp only [push_cast, seval, EE_P]) ?_ (by repeat' (first | exact Keeps.refl _ | assumption | exact (hwf.keep1 _) | refine Keeps.new hwf ?_ (by omega) _)) (by simp only [lt_int, lt_bool, lt_str, lt_nil, lt_empty, lt_agg, lt_tup, lt_list, lt_cells, lt_fn, lt_nilp, lt_nilfn, lt_nili, List.mem_cons, List.not_mem_nil, or_false, forall_eq_or_imp, forall_eq, and_true, true_and, and_self, implies_true, *]; try omega)); (try simp only [tupOf, push_cast, seval, EE_P]))
  rw [hfs] at hfew
  have hlen := fewP_len hfs
  have h1 := scale_any hv (by omega) name f
  have h2 := refscale_fn hv (by omega) name f
  have h3 := valid_credit_fn c hv (by omega)
  have h4 := refvalid_credit_fn c hv (by omega)
  have h5 := explain_fn c hv (by omega)
  have h6 := refexplain_fn c hv (by omega)
  have h7 := strings_fn (explainV_slice c) (strsP_slice (if validS c = true then explainS c else [])) (by
    split
    · simp [explainS]; omega
    · simp)
  rw [decide_eq_true rfl] at h7
  have h8 := same_fn _ (scales_len c name f hlen)
  generalize hx : scaleS c name f = x at *
  obtain ⟨⟨ps, pts, hd⟩, e⟩ := x
  have o1 := (partsV_slice ps).one
  have ce1 := (partsV_slice ps).cells
  simp only [Credit.val, Credit.pv] at h1 h2 h8
  generalize partsV ps = pv at *
  generalize explainV c = ev at *
  generalize strsP (if validS c = true then explainS c else []) = sv at *
  by_cases hn : (name.size : Int) > 40
  · intro σ nx
    refine fn_of_body goodEE (by rw [EE_P]; exact Tryz.func8) rfl rfl (by kernel_rfl) (Nat.le_of_ble_eq_true rfl) (Nat.le_refl _) fun hwf hlt => ?_
    rw [show Tryz.f8.results.toList = [.tmp 6] from rfl]
    refine awp_begin _ _ _ _ _ (cc := _) (by conv => lhs; simp only [push_cast, seval, Tryz.f8]) ?_
    simp only [push_cast, seval, EE_P]
    repeat' (first | simp only [push_cast, seval, EE_P, hv.one, hv.cells, hn] | simp (disch := omega) only [wrap_fits] | ((first | with_reducible apply wcall_pure | with_reducible apply wdcall_pure); focus (first | assumption | exact refvalid_credit_fn _ (by assumption) (by omega) | exact awake_fn | exact explain_fn _ (by assumption) (by omega) | exact valid_credit_fn _ (by assumption) (by omega))) | (with_reducible refine wguard_split_t (fun h => ?_) (fun h => ?_)) | (with_reducible refine wguard_split_f (fun h => ?_) (fun h => ?_)) | (with_reducible refine wcond_split (fun h => ?_) (fun h => ?_)) | (with_reducible refine wdguard_split_t (fun h => ?_) (fun h => ?_)) | (with_reducible refine wdguard_split_f (fun h => ?_) (fun h => ?_)) | (with_reducible refine And.intro (fun h => ?_) (fun h => ?_)) | (with_reducible apply And.intro; focus omega))
    all_goals ((refine ends_ret (by simp only [resultsOf, resOf, push_cast, seval, EE_P]; rfl) (by simp only [push_cast, seval, EE_P]) ?_ (by repeat' (first | exact Keeps.refl _ | assumption | exact (hwf.keep1 _) | refine Keeps.new hwf ?_ (by omega) _)) (by simp only [lt_int, lt_bool, lt_str, lt_nil, lt_empty, lt_agg, lt_tup, lt_list, lt_cells, lt_fn, lt_nilp, lt_nilfn, lt_nili, List.mem_cons, List.not_mem_nil, or_false, forall_eq_or_imp, forall_eq, and_true, true_and, and_self, implies_true, *]; try omega)); (try simp only [tupOf, push_cast, seval, EE_P]))
  · intro σ nx
    refine fn_of_body goodEE (by rw [EE_P]; exact Tryz.func8) rfl rfl (by kernel_rfl) (Nat.le_of_ble_eq_true rfl) (Nat.le_refl _) fun hwf hlt => ?_
    rw [show Tryz.f8.results.toList = [.tmp 6] from rfl]
    refine awp_begin _ _ _ _ _ (cc := _) (by conv => lhs; simp only [push_cast, seval, Tryz.f8]) ?_
    simp only [push_cast, seval, EE_P]
    repeat' (first | simp only [push_cast, seval, EE_P, hv.one, hv.cells, hn, o1, ce1] | simp (disch := omega) only [wrap_fits] | ((first | with_reducible apply wcall_pure | with_reducible apply wdcall_pure); focus (first | assumption | exact refvalid_credit_fn _ (by assumption) (by omega) | exact awake_fn | exact explain_fn _ (by assumption) (by omega) | exact valid_credit_fn _ (by assumption) (by omega))) | (with_reducible refine wguard_split_t (fun h => ?_) (fun h => ?_)) | (with_reducible refine wguard_split_f (fun h => ?_) (fun h => ?_)) | (with_reducible refine wcond_split (fun h => ?_) (fun h => ?_)) | (with_reducible refine wdguard_split_t (fun h => ?_) (fun h => ?_)) | (with_reducible refine wdguard_split_f (fun h => ?_) (fun h => ?_)) | (with_reducible refine And.intro (fun h => ?_) (fun h => ?_)) | (with_reducible apply And.intro; focus omega))
    all_goals ((refine ends_ret (by simp only [resultsOf, resOf, push_cast, seval, EE_P]; rfl) (by simp only [push_cast, seval, EE_P]) ?_ (by repeat' (first | exact Keeps.refl _ | assumption | exact (hwf.keep1 _) | refine Keeps.new hwf ?_ (by omega) _)) (by simp only [lt_int, lt_bool, lt_str, lt_nil, lt_empty, lt_agg, lt_tup, lt_list, lt_cells, lt_fn, lt_nilp, lt_nilfn, lt_nili, List.mem_cons, List.not_mem_nil, or_false, forall_eq_or_imp, forall_eq, and_true, true_and, and_self, implies_true, *]; try omega)); (try simp only [tupOf, push_cast, seval, EE_P]))
theorem cells_part {c : List PV} (h : Cells EE.P 50 c) : ∃ p : Part, c = p.cs := by
  rw [EE_P] at h
  obtain ⟨parts, rfl, hl, hc⟩ := cells_struct (ts := [9, 27]) (by kernel_rfl) (by kernel_rfl) h
  match parts, hl with
  | [a, b], _ =>
    obtain ⟨s1, rfl, _⟩ := cells_str (by kernel_rfl) (hc 0 _ a rfl rfl)
    obtain ⟨q, rfl⟩ := cells_frac (by rw [EE_P]; exact hc 1 _ b rfl rfl)
    exact ⟨⟨s1, q⟩, rfl⟩
theorem cells_parts {c : List PV} (h : Cells EE.P 25 c) : ∃ (ls : List Part) (v : PV), c = [v] ∧ SliceP (ls.map Part.cs) v ∧ ls.length ≤ maxLen := by
  obtain ⟨es, v, rfl, hv, hl, he⟩ := cells_slice (e := 50) (by rw [EE_P]; kernel_rfl) h
  have : ∀ (es : List (List PV)), (∀ x ∈ es, Cells EE.P 50 x) → ∃ ls : List Part, es = ls.map Part.cs := by
    intro es
    induction es with
    | nil => intro _; exact ⟨[], rfl⟩
    | cons x xs ih =>
      intro h
      obtain ⟨l, rfl⟩ := cells_part (h x (List.mem_cons_self ..))
      obtain ⟨ls, rfl⟩ := ih fun y hy => h y (List.mem_cons_of_mem _ hy)
      exact ⟨l :: ls, rfl⟩
  obtain ⟨ls, rfl⟩ := this es he
  exact ⟨ls, v, rfl, hv, by simpa using hl⟩
theorem args_credit {ts : List TypeId} {pvs : List PV} (h : Args EE.P (29 :: ts) pvs) : ∃ (c : Credit) (v : PV) (rest : List PV), pvs = c.pv v :: rest ∧ SliceP (c.parts.map Part.cs) v ∧ c.parts.length ≤ maxLen ∧ Args EE.P ts rest := by
  match pvs, h with
  | p :: ps, ⟨⟨c, hc, hp⟩, h2⟩ =>
    rw [EE_P] at hc
    obtain ⟨parts, rfl, hl, hc⟩ := cells_struct (ts := [25, 27, 3]) (by kernel_rfl) (by kernel_rfl) hc
    match parts, hl with
    | [a, b, d], _ =>
      obtain ⟨ls, v, rfl, hv, hl⟩ := cells_parts (by rw [EE_P]; exact hc 0 _ a rfl rfl)
      obtain ⟨q, rfl⟩ := cells_frac (by rw [EE_P]; exact hc 1 _ b rfl rfl)
      obtain ⟨n, rfl⟩ := cells_int (k := .i64) (by kernel_rfl) (hc 2 _ d rfl rfl)
      refine ⟨⟨ls, q, n⟩, v, ps, ?_, hv, hl, h2⟩
      rw [hp, mk, if_pos (by rw [EE_P]; kernel_rfl)]
      rfl
theorem args_str {ts : List TypeId} {pvs : List PV} (h : Args EE.P (9 :: ts) pvs) : ∃ (s : ByteArray) (rest : List PV), pvs = .str s :: rest ∧ s.size ≤ maxLen ∧ Args EE.P ts rest := by
  match pvs, h with
  | p :: ps, ⟨⟨c, hc, hp⟩, h2⟩ =>
    obtain ⟨s, rfl, hs⟩ := cells_str (by rw [EE_P]; kernel_rfl) hc
    refine ⟨s, ps, ?_, hs, h2⟩
    rw [hp, mk, if_neg (by rw [show tagg EE.P 9 = false from by rw [EE_P]; kernel_rfl]; simp)]
    rfl
theorem args_frac' {ts : List TypeId} {pvs : List PV} (h : Args EE.P (27 :: ts) pvs) : ∃ (f : Frac) (rest : List PV), pvs = f.pv :: rest ∧ Args EE.P ts rest := by
  match pvs, h with
  | p :: ps, ⟨⟨c, hc, hp⟩, h2⟩ =>
    obtain ⟨f, rfl⟩ := cells_frac hc
    refine ⟨f, ps, ?_, h2⟩
    rw [hp, mk, if_pos (by rw [EE_P]; kernel_rfl)]
    rfl
theorem scales_proved : ∀ pvs, Args EE.P Tryz.f8.params.toList pvs → Pure EE 8 pvs (.bool true) := by
  intro pvs h
  obtain ⟨c, v, rest, rfl, hv, hl, h⟩ := args_credit h
  obtain ⟨s, rest, rfl, hs, h⟩ := args_str h
  obtain ⟨f, rest, rfl, h⟩ := args_frac' h
  match rest, h with
  | [], _ => exact scales_fn hv hl s f
end Go.Proofs.YtdajoilaakiinaaGreatDoor.Awp
