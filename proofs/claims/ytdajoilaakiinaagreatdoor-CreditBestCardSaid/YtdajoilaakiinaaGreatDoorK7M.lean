/- For every slice of lines and every two places the law CreditBest returns true and leaves its arguments as they were: without a line of a group that is not better than another one that applies the points are the same, and so they are without a line that does not apply. Condition: the listed package variables hold what the program lays into them. -/
import Derived.Test.YtdajoilaakiinaaGreatDoorME
import Derived.Test.YtdajoilaakiinaaGreatDoorMD
namespace Go.Proofs.YtdajoilaakiinaaGreatDoor.Awp.creditBest
open Go Go.ChangeShapes Go.WideShapes Go.ChangeAt Go.RowKit Go.Proofs
set_option maxRecDepth 100000

theorem contract (law : ∀ pvs, Args EE.P Tryz.f7.params.toList pvs → Pure EE 7 pvs (.bool true)) (H : Type) (enc : TypeId × Value → H) (W : World) (base : Nat) (args : Array Value) (ds gs : List (DataW H)) (before : List MemPlace)
    (hval : ∀ (j : Nat) t v, Tryz.f7.params[j]? = some t → args[j]? = some v → Value.okWide Tryz.prog W .any base t v)
    (hW : DataW.Whole enc Tryz.prog Tryz.f7.params.toList Rows.creditBestSpec.vars false W args.toList ds gs before) (hL : laidMetH Tryz.prog Rows.creditLimitsRow.laid W) :
    Calls Tryz.prog 7 args W fun e W' => ∃ v, e = .returned v ∧ Rows.creditBestSpec.post enc Tryz.prog Tryz.f7 false true false false W args v W' :=
  law_calls (E := EE) (hC := fun _ => rfl) (l := [22, 34, 27, 3, 4, 9, 30, 5]) (tb := 4) (f := 7) (fn := Tryz.f7) (s := Rows.creditBestSpec) (by kernel_rfl) (by kernel_rfl) (by kernel_rfl) (by kernel_rfl) rfl
    (fun ds h => by
      have h' : ds.length = 3 := h
      match ds, h' with
      | [d0, d1, d2], _ => rfl) (by kernel_rfl) Tryz.underlying4 law W base args ds gs before (glob_EE hL) hval hW

theorem reads (os : Os) {H : Type} (enc : TypeId × Value → H) : ∃ places, DataW.whole enc Tryz.prog ((laidWorld os).forCall (fun _ _ => 0) ⟨#[], #[.slice none 0 0, .int .u8 0, .int .u8 0], []⟩).memory Tryz.f7.params.toList Rows.creditBestSpec.vars false (#[.slice none 0 0, .int .u8 0, .int .u8 0] : Array Value).toList 8 = some ([.nil, .lit (.int .u8 0), .lit (.int .u8 0)], [], places) :=
  ⟨[], by kernel_rfl⟩

theorem lifted (law : ∀ pvs, Args EE.P Tryz.f7.params.toList pvs → Pure EE 7 pvs (.bool true)) (os : Os) (started : os.Started) (H : Type) (enc : TypeId × Value → H) (F : Stop.Interp) :
    ReturnsInHanded {} Tryz.checked os 7 .any ((OpenSpec.ofChange Rows.creditBestSpec).preRow enc Tryz.prog Tryz.f7 Rows.creditBestRow.domain false Rows.creditBestRow.laid) (((OpenSpec.ofChange Rows.creditBestSpec).at F).post enc Tryz.prog Tryz.f7 false true false false) := by
  obtain ⟨places, hx⟩ := reads os enc
  refine returnsInHanded_of_row (C := Tryz.checked) (s := OpenSpec.ofChange Rows.creditBestSpec) own started (by kernel_rfl) Tryz.func7
    (witness_row_at (enc := enc) (C := Tryz.checked) false (laidWorld os) #[.slice none 0 0, .int .u8 0, .int .u8 0] rfl (by kernel_rfl) (by kernel_rfl) (by kernel_rfl)
      (OpenSpec.preRow_of_cond 8 hx (by kernel_rfl) (fun k hk => by cases hk) (by kernel_rfl) (laid_met os _))) ?_
  intro W base args ds gs before hval hW _ _ _ hL _ _
  exact contract law H enc W base args ds gs before hval hW hL

theorem said (law : ∀ pvs, Args EE.P Tryz.f7.params.toList pvs → Pure EE 7 pvs (.bool true)) : Rows.CreditBestSaid :=
  OpenClaim.holds_of_cond 7 Tryz.f7 rfl rfl rfl rfl rfl rfl rfl ⟨rfl, rfl, rfl, rfl, rfl⟩ rfl rfl rfl rfl rfl (by kernel_rfl) Tryz.func7 (by kernel_rfl)
    (of_decide_eq_true (by kernel_rfl)) (by unfold Func.isWrapper; first | (rw [if_pos (by decide +kernel)]; kernel_rfl) | (rw [if_neg (by decide +kernel)]; exact ⟨rfl, rfl⟩))
    (fun os started H enc _ F => by rw [OpenClaim.pre_eq_preRow]; exact lifted law os started H enc F)

theorem plain (f : FuncId) (fn : Func) (hf : Tryz.pinned.checked.prog.funcNamed "assessor/assessorlaw50.CreditBest" = some f) (hfn : Tryz.pinned.checked.prog.funcs[f]? = some fn) :
    false = Tryz.pinned.checked.prog.looks [] ∧ ∀ (j : Nat) t, fn.params[j]? = some t → Tryz.pinned.checked.prog.wantsStandIn t = false := by
  obtain rfl : f = 7 := Option.some.inj ((show Tryz.prog.funcNamed "assessor/assessorlaw50.CreditBest" = some 7 by kernel_rfl).symm.trans hf) |>.symm
  obtain rfl : fn = Tryz.f7 := (Option.some.inj (Tryz.func7.symm.trans hfn)).symm
  refine ⟨by kernel_rfl, fun j t ht => ?_⟩
  have hm := Array.mem_of_getElem? ht
  have hall : (Tryz.f7.params.toList.all fun u => !Tryz.prog.wantsStandIn u) = true := by kernel_rfl
  exact (show Tryz.prog.wantsStandIn t = false by simpa using List.all_eq_true.1 hall t (Array.mem_toList_iff.2 hm))

/-- The card, out of the law's contract. -/
theorem card (law : ∀ pvs, Args EE.P Tryz.f7.params.toList pvs → Pure EE 7 pvs (.bool true)) : Rows.CreditBestCardSaid :=
  Claim7.holds_tied_plain_at .later [] _ _ _ _ (said law) (fun _ h => by cases h) (by kernel_rfl) (fun _ h => by cases h) creditBest_row_tie rfl ⟨rfl, rfl⟩ (by kernel_rfl) rfl plain (by kernel_rfl)
theorem holds : Rows.CreditBestCardSaid := card best_proved
end Go.Proofs.YtdajoilaakiinaaGreatDoor.Awp.creditBest
