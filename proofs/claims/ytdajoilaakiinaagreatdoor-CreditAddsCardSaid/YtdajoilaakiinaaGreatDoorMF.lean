/- What Combine computes, in rational numbers, whatever the order of the lines. -/
import Derived.Test.YtdajoilaakiinaaGreatDoorME
set_option linter.unusedSimpArgs false
set_option linter.unusedVariables false
namespace Go.Proofs.YtdajoilaakiinaaGreatDoor.Awp
open Go Go.Proofs
set_option linter.unusedSimpArgs false
set_option linter.unusedVariables false
set_option maxHeartbeats 1000000

def wt (l : Line) : Rat := val (weightS l)
def isK (k : Int) (l : Line) : Bool := l.app && decide (l.kind = k)
theorem member_iff {g : ByteArray} {l : Line} : memberS g l = true ↔ isK 0 l = true ∧ l.group = g := by
  unfold memberS isK
  simp only [Bool.and_eq_true, decide_eq_true_eq]
  constructor
  · rintro ⟨⟨h1, h2⟩, h3⟩; exact ⟨⟨h2, h1⟩, h3⟩
  · rintro ⟨⟨h1, h2⟩, h3⟩; exact ⟨⟨h2, h1⟩, h3⟩
/-- The best weight of a group. -/
def Mx (g : ByteArray) : List Line → Rat
  | [] => 0
  | l :: ls => if memberS g l = true then max (wt l) (Mx g ls) else Mx g ls
/-- The sum of the points, but for the groups of S. -/
def TS (S : ByteArray → Bool) : List Line → Rat
  | [] => 0
  | l :: ls => TS S ls + (if isK 0 l = true then (if l.group.size = 0 then wt l else if S l.group = true then 0 else max (wt l) (Mx l.group ls) - Mx l.group ls) else 0)
/-- The number of their parts. -/
def NS (S : ByteArray → Bool) : List Line → Nat
  | [] => 0
  | l :: ls => NS S ls + (if isK 0 l = true then (if l.group.size = 0 then 1 else if S l.group = true then 0 else if ls.any (memberS l.group) = true then 0 else 1) else 0)
/-- Sums, greatest and least weights, and numbers of the lines of a kind. -/
def Sm (k : Int) : List Line → Rat
  | [] => 0
  | l :: ls => Sm k ls + (if isK k l = true then wt l else 0)
def Mk (k : Int) : List Line → Rat
  | [] => 0
  | l :: ls => if isK k l = true then max (wt l) (Mk k ls) else Mk k ls
def Mn (p : Rat) : List Line → Rat
  | [] => p
  | l :: ls => if isK 2 l = true then min (wt l) (Mn p ls) else Mn p ls
def Cn (k : Int) (ls : List Line) : Nat := ls.countP (isK k)
def noS : ByteArray → Bool := fun _ => false
def penS (ls : List Line) : Rat := max 0 (TS noS ls - Sm 1 ls)
def resS (ls : List Line) : Rat := Mn (max (penS ls) (Mk 3 ls)) ls
def cntS (ls : List Line) : Nat := NS noS ls + Cn 1 ls + Cn 3 ls + Cn 2 ls

theorem TS_cons (S : ByteArray → Bool) (l : Line) (ls : List Line) : TS S (l :: ls) = TS S ls + (if isK 0 l = true then (if l.group.size = 0 then wt l else if S l.group = true then 0 else max (wt l) (Mx l.group ls) - Mx l.group ls) else 0) := rfl
theorem NS_cons (S : ByteArray → Bool) (l : Line) (ls : List Line) : NS S (l :: ls) = NS S ls + (if isK 0 l = true then (if l.group.size = 0 then 1 else if S l.group = true then 0 else if ls.any (memberS l.group) = true then 0 else 1) else 0) := rfl
theorem Mx_cons (g : ByteArray) (l : Line) (ls : List Line) : Mx g (l :: ls) = if memberS g l = true then max (wt l) (Mx g ls) else Mx g ls := rfl
theorem ts_congr {S S' : ByteArray → Bool} (h : ∀ g, g.size ≠ 0 → S g = S' g) : ∀ ls, TS S ls = TS S' ls ∧ NS S ls = NS S' ls
  | [] => ⟨rfl, rfl⟩
  | l :: ls => by
    obtain ⟨h1, h2⟩ := ts_congr h ls
    rw [TS_cons, TS_cons, NS_cons, NS_cons, h1, h2]
    by_cases hg : l.group.size = 0
    · simp only [hg, if_true, and_self]
    · rw [h _ hg]; exact ⟨rfl, rfl⟩
def addG (S : ByteArray → Bool) (g : ByteArray) : ByteArray → Bool := fun x => S x || decide (x = g)
theorem any_mx {g : ByteArray} : ∀ {ls : List Line}, ls.any (memberS g) = false → Mx g ls = 0
  | [], _ => rfl
  | l :: ls, h => by
    rw [List.any_cons, Bool.or_eq_false_iff] at h
    unfold Mx
    rw [h.1, if_neg (by simp)]
    exact any_mx h.2
theorem ts_add {S : ByteArray → Bool} {g : ByteArray} (hS : S g = false) (hg : g.size ≠ 0) : ∀ ls, TS S ls = TS (addG S g) ls + Mx g ls ∧ NS S ls = NS (addG S g) ls + (if ls.any (memberS g) = true then 1 else 0)
  | [] => ⟨by simp [TS, Mx]; grind, rfl⟩
  | l :: ls => by
    obtain ⟨h1, h2⟩ := ts_add hS hg ls
    simp only [TS_cons, NS_cons, Mx_cons, List.any_cons]
    cases hk : isK 0 l
    · have hm : memberS g l = false := by
        cases hm : memberS g l
        · rfl
        · rw [(member_iff.1 hm).1] at hk; cases hk
      simp only [hm, Bool.false_or, Bool.false_eq_true, if_false]
      rw [h1, h2]
      exact ⟨by grind, by omega⟩
    · simp only [if_true]
      by_cases hgs : l.group.size = 0
      · have hm : memberS g l = false := by
          cases hm : memberS g l
          · rfl
          · rw [(member_iff.1 hm).2] at hgs; exact absurd hgs hg
        simp only [hm, hgs, Bool.false_or, Bool.false_eq_true, if_false, if_true]
        rw [h1, h2]
        exact ⟨by grind, by omega⟩
      · by_cases he : l.group = g
        · have hm : memberS g l = true := member_iff.2 ⟨hk, he⟩
          have hS' : addG S g g = true := by simp [addG]
          simp only [hm, he, hg, hS, hS', if_false, if_true, Bool.true_or, Bool.false_eq_true]
          rw [h1, h2]
          refine ⟨by grind, ?_⟩
          cases ls.any (memberS g)
          · simp
          · simp
        · have hm : memberS g l = false := by
            cases hm : memberS g l
            · rfl
            · exact absurd (member_iff.1 hm).2 he
          have hS' : addG S g l.group = S l.group := by simp [addG, he]
          simp only [hm, hgs, hS', Bool.false_or, Bool.false_eq_true, if_false]
          rw [h1, h2]
          exact ⟨by grind, by omega⟩

/-! ### one step -/
theorem become_get {m : MK} {name : ByteArray} {p : Frac} {e : Int} (h : (becomeS m name p e).wrong = false) : m.wrong = false ∧ e = 0 ∧ fsubErr p m.pts = 0 ∧ Fok p ∧ Fok m.pts ∧ becomeS m name p e = { m with parts := m.parts ++ [Part.mk name (fsub p m.pts)], pts := p } := by
  unfold becomeS at h ⊢
  split at h
  · cases h
  · rename_i hc
    rw [if_neg hc]
    have h3 : fsubErr p m.pts = 0 := Decidable.byContradiction fun hn => hc (.inr (.inr hn))
    obtain ⟨h4, h5, _⟩ := fsub_val h3
    exact ⟨by cases hw : m.wrong <;> simp_all, Decidable.byContradiction fun hn => hc (.inr (.inl hn)), h3, h4, h5, rfl⟩
theorem wt_nonneg {l : Line} (h : Fok l.amt) : 0 ≤ wt l := (val_nonneg (weight_ok h).1).1 (weight_ok h).2
theorem isK_app {k : Int} {l : Line} (h : isK k l = true) : l.app = true ∧ l.kind = k := by
  unfold isK at h
  simpa using h
theorem isK_ok {k : Int} {ls : List Line} (hr : AllR ls) {l : Line} (hl : l ∈ ls) (h : isK k l = true) : Fok l.amt := right_amt (hr l hl) (isK_app h).1
theorem best_val {g : ByteArray} {b : Line} (hb : Fok b.amt) : ∀ {ls : List Line}, AllR ls → val (weightS (bestS g b ls)) = max (wt b) (Mx g ls) := by
  intro ls
  induction ls generalizing b with
  | nil => intro _; have := wt_nonneg hb; show wt b = max (wt b) 0; grind
  | cons l ls ih =>
    intro h
    have h' : AllR ls := fun x hx => h x (List.mem_cons_of_mem _ hx)
    unfold bestS
    rw [List.foldl_cons]
    show val (weightS (bestS g _ ls)) = _
    cases hm : memberS g l
    · rw [if_neg (by simp), ih hb h']
      rw [Mx_cons, hm, if_neg (by simp)]
    · have hl := isK_ok h (List.mem_cons_self ..) (member_iff.1 hm).1
      rw [Mx_cons, hm, if_pos rfl]
      cases hc : lessS (weightS b) (weightS l)
      · rw [if_neg (by simp), ih hb h']
        have := (val_le (weight_ok hl).1 (weight_ok hb).1).1 (less_no (weight_ok hb).1 (weight_ok hl).1 hc)
        have e1 : wt l ≤ wt b := this
        grind
      · rw [if_pos (by simp), ih hl h']
        have e1 : wt b < wt l := (val_lt (weight_ok hb).1 (weight_ok hl).1).1 hc
        grind

/-! ### the four phases -/
def seen (ls : List Line) (j : Nat) : ByteArray → Bool := fun g => (ls.take j).any (memberS g)
theorem seen_succ {ls : List Line} {j : Nat} {l : Line} (h : ls[j]? = some l) (g : ByteArray) : seen ls (j + 1) g = (seen ls j g || memberS g l) := by
  obtain ⟨h1, h2⟩ := List.getElem?_eq_some_iff.1 h
  unfold seen
  rw [List.take_succ_eq_append_getElem h1, List.any_append, h2]
  simp
theorem drop_get {ls : List Line} {j : Nat} {l : Line} (h : ls[j]? = some l) : ls.drop j = l :: ls.drop (j + 1) := by
  obtain ⟨h1, h2⟩ := List.getElem?_eq_some_iff.1 h
  rw [List.drop_eq_getElem_cons h1, h2]
def InvP (ls : List Line) (j : Nat) (m : MK) : Prop := m.wrong = false → Fok m.pts ∧ 0 ≤ val m.pts ∧ val m.pts + TS (seen ls j) (ls.drop j) = TS noS ls ∧ m.parts.length + NS (seen ls j) (ls.drop j) = NS noS ls
theorem phase1 {ls : List Line} (hr : AllR ls) : (phase ls m0S 1).wrong = false → Fok (phase ls m0S 1).pts ∧ 0 ≤ val (phase ls m0S 1).pts ∧ val (phase ls m0S 1).pts = TS noS ls ∧ (phase ls m0S 1).parts.length = NS noS ls := by
  have key : InvP ls ls.length (stepsTo 0 (pointsS ls) ls m0S ls.length) := by
    refine stepsTo_ind (P := InvP ls) ?_ (fun j l m hj hm => ⟨fun ha hk => ?_, fun hn => ?_⟩) _ (Nat.le_refl _)
    · intro _
      refine ⟨zero_ok, by show 0 ≤ val ⟨0, 1⟩; rw [val_zero]; exact Rat.le_refl, ?_, ?_⟩
      · show val ⟨0, 1⟩ + TS (seen ls 0) ls = _
        rw [val_zero, show seen ls 0 = noS from rfl, Rat.zero_add]
      · show 0 + NS (seen ls 0) ls = _
        rw [show seen ls 0 = noS from rfl, Nat.zero_add]
    · have hk0 : isK 0 l = true := by simp [isK, ha, hk]
      have hl := isK_ok hr (List.mem_of_getElem? hj) hk0
      have hdrop : AllR (ls.drop (j + 1)) := fun x hx => hr x (List.mem_of_mem_drop hx)
      have hd := drop_get hj
      intro hw
      unfold pointsS at hw ⊢
      by_cases hg : l.group.size = 0
      · rw [if_pos hg] at hw ⊢
        obtain ⟨w1, w2, w3, w4, w5, w6⟩ := become_get hw
        obtain ⟨i1, i2, i3, i4⟩ := hm w1
        obtain ⟨_, _, a3, a4⟩ := fadd_val w2
        show Fok (becomeS _ _ _ _).pts ∧ 0 ≤ val (becomeS _ _ _ _).pts ∧ val (becomeS _ _ _ _).pts + _ = _ ∧ (becomeS _ _ _ _).parts.length + _ = _
        rw [w6]
        obtain ⟨c1, c2⟩ := ts_congr (S := seen ls (j + 1)) (S' := seen ls j) (fun g hgz => by
          rw [seen_succ hj]
          cases hmm : memberS g l
          · simp
          · rw [(member_iff.1 hmm).2] at hg; exact absurd hg hgz) (ls.drop (j + 1))
        rw [hd] at i3 i4
        simp only [TS_cons, NS_cons, hk0, hg, if_true] at i3 i4
        have hwn := wt_nonneg hl
        have a4' : val (fadd m.pts (weightS l)) = val m.pts + wt l := a4
        refine ⟨a3, ?_, ?_, ?_⟩
        · show 0 ≤ val (fadd m.pts (weightS l)); grind
        · show val (fadd m.pts (weightS l)) + _ = _; rw [c1]; grind
        · show (m.parts ++ [_]).length + _ = _; rw [c2, List.length_append, List.length_singleton]; omega
      · rw [if_neg hg] at hw ⊢
        cases hs : (ls.take j).any (memberS l.group)
        · rw [hs, if_neg (by simp)] at hw
          rw [if_neg (by simp)]
          obtain ⟨w1, w2, w3, w4, w5, w6⟩ := become_get hw
          obtain ⟨i1, i2, i3, i4⟩ := hm w1
          obtain ⟨_, _, a3, a4⟩ := fadd_val w2
          show Fok (becomeS _ _ _ _).pts ∧ 0 ≤ val (becomeS _ _ _ _).pts ∧ val (becomeS _ _ _ _).pts + _ = _ ∧ (becomeS _ _ _ _).parts.length + _ = _
          rw [w6]
          have hs' : seen ls j l.group = false := hs
          obtain ⟨c1, c2⟩ := ts_congr (S := seen ls (j + 1)) (S' := addG (seen ls j) l.group) (fun g hgz => by
            rw [seen_succ hj]
            unfold addG
            congr 1
            cases hmm : memberS g l
            · symm; rw [decide_eq_false_iff_not]; intro e; rw [member_iff.2 ⟨hk0, e.symm⟩] at hmm; cases hmm
            · symm; rw [decide_eq_true_eq]; exact (member_iff.1 hmm).2.symm) (ls.drop (j + 1))
          obtain ⟨d1, d2⟩ := ts_add hs' hg (ls.drop (j + 1))
          have hb : val (weightS (bestS l.group l (ls.drop j))) = max (wt l) (Mx l.group (ls.drop (j + 1))) := by
            rw [best_val hl (fun x hx => hr x (List.mem_of_mem_drop hx)), hd]
            rw [Mx_cons]
            rw [member_iff.2 ⟨hk0, rfl⟩, if_pos rfl]
            grind
          rw [hd] at i3 i4
          simp only [TS_cons, NS_cons, hk0, hg, hs', if_true, if_false, Bool.false_eq_true] at i3 i4
          have hwn := wt_nonneg hl
          refine ⟨a3, ?_, ?_, ?_⟩
          · show 0 ≤ val (fadd m.pts (weightS (bestS l.group l (ls.drop j)))); rw [a4, hb]; grind
          · show val (fadd m.pts (weightS (bestS l.group l (ls.drop j)))) + _ = _; rw [a4, hb, c1]; grind
          · show (m.parts ++ [_]).length + _ = _
            rw [c2, List.length_append, List.length_singleton]
            cases hany : (ls.drop (j + 1)).any (memberS l.group) <;> simp only [hany, if_true, if_false, Bool.false_eq_true] at i4 d2 <;> omega
        · rw [hs, if_pos rfl] at hw
          rw [if_pos rfl]
          obtain ⟨i1, i2, i3, i4⟩ := hm hw
          have hs' : seen ls j l.group = true := hs
          obtain ⟨c1, c2⟩ := ts_congr (S := seen ls (j + 1)) (S' := seen ls j) (fun g hgz => by
            rw [seen_succ hj]
            cases hmm : memberS g l
            · simp
            · rw [← (member_iff.1 hmm).2, hs']; rfl) (ls.drop (j + 1))
          rw [hd] at i3 i4
          simp only [TS_cons, NS_cons, hk0, hg, hs', if_true, if_false] at i3 i4
          refine ⟨i1, i2, ?_, ?_⟩
          · rw [c1]; grind
          · rw [c2]; omega
    · have hk0 : isK 0 l = false := by
        cases hk : isK 0 l
        · rfl
        · exact absurd (isK_app hk) hn
      intro hw
      obtain ⟨i1, i2, i3, i4⟩ := hm hw
      have hd := drop_get hj
      obtain ⟨c1, c2⟩ := ts_congr (S := seen ls (j + 1)) (S' := seen ls j) (fun g hgz => by
        rw [seen_succ hj]
        cases hmm : memberS g l
        · simp
        · rw [(member_iff.1 hmm).1] at hk0; cases hk0) (ls.drop (j + 1))
      rw [hd] at i3 i4
      simp only [TS_cons, NS_cons, hk0, if_false, Bool.false_eq_true] at i3 i4
      refine ⟨i1, i2, ?_, ?_⟩
      · rw [c1]; grind
      · rw [c2]; omega
  intro hw
  obtain ⟨i1, i2, i3, i4⟩ := key hw
  rw [List.drop_length] at i3 i4
  exact ⟨i1, i2, by have : val (phase ls m0S 1).pts + 0 = TS noS ls := i3; grind, i4⟩

theorem Sm_snoc (k : Int) (l : Line) : ∀ xs : List Line, Sm k (xs ++ [l]) = Sm k xs + (if isK k l = true then wt l else 0)
  | [] => by show (0 : Rat) + _ = 0 + _; rfl
  | x :: xs => by
    show Sm k (xs ++ [l]) + _ = Sm k xs + _ + _
    rw [Sm_snoc k l xs]
    grind
theorem Mk_snoc (k : Int) (l : Line) (hl : isK k l = true → 0 ≤ wt l) : ∀ xs : List Line, Mk k (xs ++ [l]) = if isK k l = true then max (wt l) (Mk k xs) else Mk k xs
  | [] => by
    show (if _ then max (wt l) (0 : Rat) else 0) = if _ then max (wt l) (0 : Rat) else 0
    rfl
  | x :: xs => by
    show (if isK k x = true then max (wt x) (Mk k (xs ++ [l])) else Mk k (xs ++ [l])) = if isK k l = true then max (wt l) (if isK k x = true then max (wt x) (Mk k xs) else Mk k xs) else (if isK k x = true then max (wt x) (Mk k xs) else Mk k xs)
    rw [Mk_snoc k l hl xs]
    split <;> split <;> grind
theorem Mn_snoc (p : Rat) (l : Line) : ∀ xs : List Line, Mn p (xs ++ [l]) = if isK 2 l = true then min (wt l) (Mn p xs) else Mn p xs
  | [] => rfl
  | x :: xs => by
    show (if isK 2 x = true then min (wt x) (Mn p (xs ++ [l])) else Mn p (xs ++ [l])) = if isK 2 l = true then min (wt l) (if isK 2 x = true then min (wt x) (Mn p xs) else Mn p xs) else (if isK 2 x = true then min (wt x) (Mn p xs) else Mn p xs)
    rw [Mn_snoc p l xs]
    split <;> split <;> grind
theorem Cn_snoc (k : Int) (l : Line) (xs : List Line) : Cn k (xs ++ [l]) = Cn k xs + (if isK k l = true then 1 else 0) := by
  unfold Cn
  rw [List.countP_append, List.countP_singleton]
theorem take_snoc {ls : List Line} {j : Nat} {l : Line} (h : ls[j]? = some l) : ls.take (j + 1) = ls.take j ++ [l] := by
  obtain ⟨h1, h2⟩ := List.getElem?_eq_some_iff.1 h
  rw [List.take_succ_eq_append_getElem h1, h2]
/-- A phase that goes line by line. -/
theorem phase_of {ls : List Line} {kind : Int} {f : Nat → Line → MK → MK} {m0 : MK} {V : List Line → Rat} {c0 : Nat} (hr : AllR ls)
    (h0 : m0.wrong = false → Fok m0.pts ∧ 0 ≤ val m0.pts ∧ val m0.pts = V [] ∧ m0.parts.length = c0)
    (hf : ∀ (j : Nat) (l : Line) (m : MK) (xs : List Line), isK kind l = true → Fok l.amt → (m.wrong = false → Fok m.pts ∧ 0 ≤ val m.pts ∧ val m.pts = V xs) → (f j l m).wrong = false →
      m.wrong = false ∧ Fok (f j l m).pts ∧ 0 ≤ val (f j l m).pts ∧ val (f j l m).pts = V (xs ++ [l]) ∧ (f j l m).parts.length = m.parts.length + 1)
    (hn : ∀ (l : Line) (xs : List Line), isK kind l = false → V (xs ++ [l]) = V xs) :
    (stepsTo kind f ls m0 ls.length).wrong = false → Fok (stepsTo kind f ls m0 ls.length).pts ∧ 0 ≤ val (stepsTo kind f ls m0 ls.length).pts ∧ val (stepsTo kind f ls m0 ls.length).pts = V ls ∧ (stepsTo kind f ls m0 ls.length).parts.length = c0 + Cn kind ls := by
  have key := stepsTo_ind (kind := kind) (f := f) (ls := ls) (m0 := m0) (P := fun j m => m.wrong = false → Fok m.pts ∧ 0 ≤ val m.pts ∧ val m.pts = V (ls.take j) ∧ m.parts.length = c0 + Cn kind (ls.take j)) h0 (fun j l m hj hm => ⟨fun ha hk => ?_, fun hk => ?_⟩) ls.length (Nat.le_refl _)
  · rw [List.take_length] at key
    exact key
  · have hk0 : isK kind l = true := by simp [isK, ha, hk]
    intro hw
    obtain ⟨w1, w2, w3, w4, w5⟩ := hf j l m (ls.take j) hk0 (isK_ok hr (List.mem_of_getElem? hj) hk0) (fun h => by obtain ⟨a, b, c, _⟩ := hm h; exact ⟨a, b, c⟩) hw
    obtain ⟨_, _, _, i4⟩ := hm w1
    rw [take_snoc hj]
    refine ⟨w2, w3, w4, ?_⟩
    rw [w5, i4, Cn_snoc, if_pos hk0]
    omega
  · have hk0 : isK kind l = false := by
      cases hk' : isK kind l
      · rfl
      · exact absurd (isK_app hk') hk
    intro hw
    obtain ⟨i1, i2, i3, i4⟩ := hm hw
    rw [take_snoc hj, hn l _ hk0, Cn_snoc, hk0]
    exact ⟨i1, i2, i3, i4⟩
theorem phase2 {ls : List Line} (hr : AllR ls) : (phase ls m0S 2).wrong = false → Fok (phase ls m0S 2).pts ∧ 0 ≤ val (phase ls m0S 2).pts ∧ val (phase ls m0S 2).pts = penS ls ∧ (phase ls m0S 2).parts.length = NS noS ls + Cn 1 ls := by
  refine phase_of (kind := 1) (f := fun _ => penaltyS) (m0 := phase ls m0S 1) (V := fun xs => max 0 (TS noS ls - Sm 1 xs)) hr ?_ ?_ ?_
  · intro h
    obtain ⟨a, b, c, d⟩ := phase1 hr h
    refine ⟨a, b, ?_, d⟩
    show _ = max 0 (TS noS ls - 0)
    rw [c] at b ⊢
    grind
  · intro j l m xs hk hl hm hw
    have hwn := wt_nonneg hl
    have hwo := weight_ok hl
    unfold penaltyS at hw ⊢
    obtain ⟨w1, w2, w3, w4, w5, w6⟩ := become_get hw
    obtain ⟨i1, i2, i3⟩ := hm w1
    simp only at w2 w6 ⊢
    rw [w6]
    refine ⟨w1, w4, ?_⟩
    show 0 ≤ val (fsub m.pts _) ∧ val (fsub m.pts _) = max 0 (TS noS ls - Sm 1 (xs ++ [l])) ∧ (m.parts ++ [_]).length = _
    rw [Sm_snoc, if_pos hk, List.length_append, List.length_singleton, (fsub_val w2).2.2.2]
    have i3' : val m.pts = max 0 (TS noS ls - Sm 1 xs) := i3
    cases hc : lessS m.pts (weightS l)
    · have e1 : wt l ≤ val m.pts := (val_le hwo.1 i1).1 (less_no i1 hwo.1 hc)
      rw [if_neg (by simp)]
      have e2 : val (weightS l) = wt l := rfl
      rw [e2]
      exact ⟨by grind, by grind, rfl⟩
    · have e1 : val m.pts < wt l := (val_lt i1 hwo.1).1 hc
      rw [if_pos rfl]
      exact ⟨by grind, by grind, rfl⟩
  · intro l xs hk
    show max 0 (TS noS ls - Sm 1 (xs ++ [l])) = max 0 (TS noS ls - Sm 1 xs)
    rw [Sm_snoc, hk, if_neg (by simp), Rat.add_zero]
theorem phase3 {ls : List Line} (hr : AllR ls) : (phase ls m0S 3).wrong = false → Fok (phase ls m0S 3).pts ∧ 0 ≤ val (phase ls m0S 3).pts ∧ val (phase ls m0S 3).pts = max (penS ls) (Mk 3 ls) ∧ (phase ls m0S 3).parts.length = NS noS ls + Cn 1 ls + Cn 3 ls := by
  refine phase_of (kind := 3) (f := fun _ => chooseS fun w p => lessS p w) (m0 := phase ls m0S 2) (V := fun xs => max (penS ls) (Mk 3 xs)) hr ?_ ?_ ?_
  · intro h
    obtain ⟨a, b, c, d⟩ := phase2 hr h
    refine ⟨a, b, ?_, d⟩
    show _ = max (penS ls) 0
    rw [c] at b ⊢
    grind
  · intro j l m xs hk hl hm hw
    have hwn := wt_nonneg hl
    have hwo := weight_ok hl
    unfold chooseS at hw ⊢
    obtain ⟨w1, w2, w3, w4, w5, w6⟩ := become_get hw
    obtain ⟨i1, i2, i3⟩ := hm w1
    simp only at w6 ⊢
    rw [w6]
    refine ⟨w1, w4, ?_⟩
    show 0 ≤ val (if lessS m.pts (weightS l) = true then weightS l else m.pts) ∧ val (if lessS m.pts (weightS l) = true then weightS l else m.pts) = max (penS ls) (Mk 3 (xs ++ [l])) ∧ (m.parts ++ [_]).length = _
    rw [Mk_snoc 3 l (fun _ => hwn), if_pos hk, List.length_append, List.length_singleton]
    have i3' : val m.pts = max (penS ls) (Mk 3 xs) := i3
    have e2 : val (weightS l) = wt l := rfl
    cases hc : lessS m.pts (weightS l)
    · have e1 : wt l ≤ val m.pts := (val_le hwo.1 i1).1 (less_no i1 hwo.1 hc)
      rw [if_neg (by simp)]
      exact ⟨by grind, by grind, rfl⟩
    · have e1 : val m.pts < wt l := (val_lt i1 hwo.1).1 hc
      rw [if_pos rfl, e2]
      exact ⟨by grind, by grind, rfl⟩
  · intro l xs hk
    show max (penS ls) (Mk 3 (xs ++ [l])) = max (penS ls) (Mk 3 xs)
    rw [Mk_snoc 3 l (fun h => by rw [hk] at h; cases h), hk, if_neg (by simp)]
theorem phase4 {ls : List Line} (hr : AllR ls) : (phase ls m0S 4).wrong = false → Fok (phase ls m0S 4).pts ∧ 0 ≤ val (phase ls m0S 4).pts ∧ val (phase ls m0S 4).pts = resS ls ∧ (phase ls m0S 4).parts.length = cntS ls := by
  refine phase_of (kind := 2) (f := fun _ => chooseS lessS) (m0 := phase ls m0S 3) (V := fun xs => Mn (max (penS ls) (Mk 3 ls)) xs) hr ?_ ?_ ?_
  · intro h
    obtain ⟨a, b, c, d⟩ := phase3 hr h
    exact ⟨a, b, c, d⟩
  · intro j l m xs hk hl hm hw
    have hwn := wt_nonneg hl
    have hwo := weight_ok hl
    unfold chooseS at hw ⊢
    obtain ⟨w1, w2, w3, w4, w5, w6⟩ := become_get hw
    obtain ⟨i1, i2, i3⟩ := hm w1
    rw [w6]
    refine ⟨w1, w4, ?_⟩
    show 0 ≤ val (if lessS (weightS l) m.pts = true then weightS l else m.pts) ∧ val (if lessS (weightS l) m.pts = true then weightS l else m.pts) = Mn (max (penS ls) (Mk 3 ls)) (xs ++ [l]) ∧ (m.parts ++ [_]).length = _
    rw [Mn_snoc, if_pos hk, List.length_append, List.length_singleton]
    have i3' : val m.pts = Mn (max (penS ls) (Mk 3 ls)) xs := i3
    have e2 : val (weightS l) = wt l := rfl
    cases hc : lessS (weightS l) m.pts
    · have e1 : val m.pts ≤ wt l := (val_le i1 hwo.1).1 (less_no hwo.1 i1 hc)
      rw [if_neg (by simp)]
      exact ⟨by grind, by grind, rfl⟩
    · have e1 : wt l < val m.pts := (val_lt hwo.1 i1).1 hc
      rw [if_pos rfl, e2]
      exact ⟨by grind, by grind, rfl⟩
  · intro l xs hk
    show Mn _ (xs ++ [l]) = Mn _ xs
    rw [Mn_snoc, hk, if_neg (by simp)]
/-- Where there are points, they are resS, and their parts are cntS. -/
theorem combine_val {ls : List Line} (h : (combineS ls).2 = 0) : AllR ls ∧ Fok (combineS ls).1.pts ∧ 0 ≤ val (combineS ls).1.pts ∧ val (combineS ls).1.pts = resS ls ∧ (combineS ls).1.parts.length = cntS ls ∧ (combineS ls).1.hund = hundS (combineS ls).1.pts := by
  obtain ⟨hr, hw, hv, he⟩ := combine_ok h
  obtain ⟨a, b, c, d⟩ := phase4 hr hw
  rw [he]
  exact ⟨hr, a, b, c, d, rfl⟩
end Go.Proofs.YtdajoilaakiinaaGreatDoor.Awp

/- The order of the lines does not matter. -/
namespace Go.Proofs.YtdajoilaakiinaaGreatDoor.Awp
open Go Go.Proofs
set_option linter.unusedSimpArgs false
set_option linter.unusedVariables false
set_option maxHeartbeats 1000000

theorem Mx_perm (g : ByteArray) {a b : List Line} (h : a.Perm b) : Mx g a = Mx g b := by
  induction h with
  | nil => rfl
  | cons x _ ih => rw [Mx_cons, Mx_cons, ih]
  | swap x y l =>
    simp only [Mx_cons]
    split <;> split <;> grind
  | trans _ _ h1 h2 => rw [h1, h2]
theorem any_perm {p : Line → Bool} {a b : List Line} (h : a.Perm b) : a.any p = b.any p := by
  induction h with
  | nil => rfl
  | cons x _ ih => rw [List.any_cons, List.any_cons, ih]
  | swap x y l =>
    simp only [List.any_cons]
    cases p x <;> cases p y <;> rfl
  | trans _ _ h1 h2 => rw [h1, h2]
def cT (S : ByteArray → Bool) (l : Line) (ls : List Line) : Rat := if isK 0 l = true then (if l.group.size = 0 then wt l else if S l.group = true then 0 else max (wt l) (Mx l.group ls) - Mx l.group ls) else 0
def cN (S : ByteArray → Bool) (l : Line) (ls : List Line) : Nat := if isK 0 l = true then (if l.group.size = 0 then 1 else if S l.group = true then 0 else if ls.any (memberS l.group) = true then 0 else 1) else 0
theorem c_other (S : ByteArray → Bool) {x y : Line} (h : ¬ (isK 0 x = true ∧ isK 0 y = true ∧ x.group = y.group)) (ls : List Line) : cT S x (y :: ls) = cT S x ls ∧ cN S x (y :: ls) = cN S x ls := by
  unfold cT cN
  by_cases hx : isK 0 x = true
  · have hm : memberS x.group y = false := by
      cases hm : memberS x.group y
      · rfl
      · obtain ⟨h1, h2⟩ := member_iff.1 hm
        exact absurd ⟨hx, h1, h2.symm⟩ h
    rw [Mx_cons, List.any_cons, hm, Bool.false_or]
    simp only [Bool.false_eq_true, if_false, and_self]
  · rw [if_neg hx, if_neg hx, if_neg hx, if_neg hx]
    exact ⟨rfl, rfl⟩
theorem ts_perm (S : ByteArray → Bool) {a b : List Line} (h : a.Perm b) : TS S a = TS S b ∧ NS S a = NS S b := by
  induction h with
  | nil => exact ⟨rfl, rfl⟩
  | cons x hp ih =>
    rw [TS_cons, TS_cons, NS_cons, NS_cons, ih.1, ih.2, Mx_perm x.group hp, any_perm hp]
    exact ⟨rfl, rfl⟩
  | swap x y l =>
    show TS S l + cT S x l + cT S y (x :: l) = TS S l + cT S y l + cT S x (y :: l) ∧ NS S l + cN S x l + cN S y (x :: l) = NS S l + cN S y l + cN S x (y :: l)
    by_cases h : isK 0 x = true ∧ isK 0 y = true ∧ x.group = y.group
    · obtain ⟨h1, h2, h3⟩ := h
      have m1 : memberS y.group x = true := member_iff.2 ⟨h1, h3⟩
      have m2 : memberS x.group y = true := member_iff.2 ⟨h2, h3.symm⟩
      unfold cT cN
      simp only [Mx_cons, List.any_cons, h1, h2, m1, m2, if_true, Bool.true_or]
      rw [h3]
      by_cases hs : y.group.size = 0
      · rw [if_pos hs, if_pos hs, if_pos hs, if_pos hs]
        exact ⟨by grind, by omega⟩
      · simp only [hs, if_false]
        split
        · exact ⟨by grind, trivial⟩
        · exact ⟨by grind, trivial⟩
    · have h' : ¬ (isK 0 y = true ∧ isK 0 x = true ∧ y.group = x.group) := fun ⟨h1, h2, h3⟩ => h ⟨h2, h1, h3.symm⟩
      rw [(c_other S h' l).1, (c_other S h' l).2, (c_other S h l).1, (c_other S h l).2]
      exact ⟨by grind, by omega⟩
  | trans _ _ h1 h2 => exact ⟨h1.1.trans h2.1, h1.2.trans h2.2⟩
theorem Sm_perm (k : Int) {a b : List Line} (h : a.Perm b) : Sm k a = Sm k b := by
  induction h with
  | nil => rfl
  | cons x _ ih => show Sm k _ + _ = Sm k _ + _; rw [ih]
  | swap x y l => show Sm k l + _ + _ = Sm k l + _ + _; grind
  | trans _ _ h1 h2 => rw [h1, h2]
theorem Mk_perm (k : Int) {a b : List Line} (h : a.Perm b) : Mk k a = Mk k b := by
  induction h with
  | nil => rfl
  | cons x _ ih => show (if _ then max _ (Mk k _) else Mk k _) = if _ then max _ (Mk k _) else Mk k _; rw [ih]
  | swap x y l =>
    show (if isK k y = true then max (wt y) (if isK k x = true then max (wt x) (Mk k l) else Mk k l) else (if isK k x = true then max (wt x) (Mk k l) else Mk k l)) = (if isK k x = true then max (wt x) (if isK k y = true then max (wt y) (Mk k l) else Mk k l) else (if isK k y = true then max (wt y) (Mk k l) else Mk k l))
    split <;> split <;> grind
  | trans _ _ h1 h2 => rw [h1, h2]
theorem Mn_perm (p : Rat) {a b : List Line} (h : a.Perm b) : Mn p a = Mn p b := by
  induction h with
  | nil => rfl
  | cons x _ ih => show (if _ then min _ (Mn p _) else Mn p _) = if _ then min _ (Mn p _) else Mn p _; rw [ih]
  | swap x y l =>
    show (if isK 2 y = true then min (wt y) (if isK 2 x = true then min (wt x) (Mn p l) else Mn p l) else (if isK 2 x = true then min (wt x) (Mn p l) else Mn p l)) = (if isK 2 x = true then min (wt x) (if isK 2 y = true then min (wt y) (Mn p l) else Mn p l) else (if isK 2 y = true then min (wt y) (Mn p l) else Mn p l))
    split <;> split <;> grind
  | trans _ _ h1 h2 => rw [h1, h2]
theorem res_perm {a b : List Line} (h : a.Perm b) : resS a = resS b ∧ cntS a = cntS b := by
  unfold resS cntS penS Cn
  rw [(ts_perm noS h).1, (ts_perm noS h).2, Sm_perm 1 h, Mk_perm 3 h, Mn_perm _ h, h.countP_eq, h.countP_eq, h.countP_eq]
  exact ⟨rfl, rfl⟩
theorem finish_12 (m : MK) : (finishS m).2 ≠ 1 := by
  unfold finishS
  split
  · decide
  · show (0 : Int) ≠ 1; decide
theorem combine_one {ls : List Line} : (combineS ls).2 = 1 ↔ ls.length > 32 ∨ ls.any (fun l => !rightS l) = true := by
  unfold combineS
  split
  · rename_i h; exact ⟨fun _ => h, fun _ => rfl⟩
  · rename_i h; exact ⟨fun e => absurd e (finish_12 _), fun e => absurd e h⟩
theorem order_perm {a b : List Line} (h : a.Perm b) : ((combineS a).2 = 1 ↔ (combineS b).2 = 1) ∧
    ((combineS a).2 = 0 → (combineS b).2 = 0 → (combineS a).1.pts = (combineS b).1.pts ∧ (combineS a).1.hund = (combineS b).1.hund ∧ (combineS a).1.parts.length = (combineS b).1.parts.length) := by
  refine ⟨by rw [combine_one, combine_one, h.length_eq, any_perm h], fun ha hb => ?_⟩
  obtain ⟨_, a1, a2, a3, a4, a5⟩ := combine_val ha
  obtain ⟨_, b1, b2, b3, b4, b5⟩ := combine_val hb
  obtain ⟨r1, r2⟩ := res_perm h
  have e := val_inj a1 b1 (by rw [a3, b3, r1])
  exact ⟨e, by rw [a5, b5, e], by rw [a4, b4, r2]⟩
theorem swap_perm {ls : List Line} {x y : Nat} {a b : Line} (ha : ls[x]? = some a) (hb : ls[y]? = some b) : (swapS ls x y a b).Perm ls := by
  obtain ⟨hx, rfl⟩ := List.getElem?_eq_some_iff.1 ha
  obtain ⟨hy, rfl⟩ := List.getElem?_eq_some_iff.1 hb
  exact List.set_set_perm hx hy
theorem order_law (ls : List Line) : OrderLaw ls := ⟨fun x y a b ha hb => order_perm (swap_perm ha hb).symm⟩

theorem cells_wf {P : Program} {t : TypeId} {c : List PV} {k : IntKind} (hu : P.underlying t = some (.int k)) (h : Cells P t c) : ∃ n, c = [.int k n] ∧ (Lit.int k n).wf = true := by
  cases h with
  | int h wf => rw [hu] at h; cases h; exact ⟨_, rfl, wf⟩
  | bool h => rw [hu] at h; cases h
  | str h => rw [hu] at h; cases h
  | nil h => rw [hu] at h; cases h
  | list h => rw [hu] at h; cases h
  | struct h => rw [hu] at h; cases h
theorem args_u8 {ts : List TypeId} {pvs : List PV} (h : Args EE.P (5 :: ts) pvs) : ∃ (n : Int) (rest : List PV), pvs = .int .u8 n :: rest ∧ (0 ≤ n ∧ n ≤ 255) ∧ Args EE.P ts rest := by
  match pvs, h with
  | p :: ps, ⟨⟨c, hc, hp⟩, h2⟩ =>
    obtain ⟨n, rfl, hw⟩ := cells_wf (k := .u8) (by rw [EE_P]; kernel_rfl) hc
    refine ⟨n, ps, ?_, ?_, h2⟩
    · rw [hp, mk, if_neg (by rw [show tagg EE.P 5 = false from by rw [EE_P]; kernel_rfl]; simp)]
      rfl
    · simp [Lit.wf] at hw
      exact hw
theorem order_proved : ∀ pvs, Args EE.P Tryz.f5.params.toList pvs → Pure EE 5 pvs (.bool true) := by
  intro pvs h
  obtain ⟨ls, v, rest, rfl, hv, hl, h⟩ := args_lines h
  obtain ⟨i, rest, rfl, hi, h⟩ := args_u8 h
  obtain ⟨k, rest, rfl, hk, h⟩ := args_u8 h
  match rest, h with
  | [], _ => exact order_fn hv hl i k hi hk (order_law ls)
end Go.Proofs.YtdajoilaakiinaaGreatDoor.Awp

/- CreditRises. -/
namespace Go.Proofs.YtdajoilaakiinaaGreatDoor.Awp
open Go Go.Proofs
set_option linter.unusedSimpArgs false
set_option linter.unusedVariables false
set_option maxRecDepth 10000
set_option maxHeartbeats 4000000

theorem wt_eq {l : Line} (h : Fok l.amt) : wt l = max 0 (val l.amt) := by
  unfold wt
  rcases weight_cases h with ⟨h1, h2⟩ | ⟨h1, h2⟩
  · rw [h2]
    have h3 : 0 ≤ val l.amt := (val_nonneg h).1 h1
    grind
  · rw [h2, val_zero]
    have h3 : ¬ 0 ≤ val l.amt := fun hn => by
      have : 0 ≤ l.num := (val_nonneg h).2 hn
      omega
    grind
/-- A line that can only let the points rise. -/
def Up (l l' : Line) : Prop := l'.kind = l.kind ∧ l'.app = l.app ∧ l'.group = l.group ∧ (l.app = true → (l.kind = 1 → wt l' ≤ wt l) ∧ (l.kind ≠ 1 → wt l ≤ wt l'))
def UpL : List Line → List Line → Prop
  | [], [] => True
  | l :: ls, l' :: ls' => Up l l' ∧ UpL ls ls'
  | _, _ => False
theorem Up.same (l : Line) : Up l l := ⟨rfl, rfl, rfl, fun _ => ⟨fun _ => Rat.le_refl, fun _ => Rat.le_refl⟩⟩
theorem UpL.same : ∀ ls, UpL ls ls
  | [] => trivial
  | l :: ls => ⟨.same l, UpL.same ls⟩
theorem upl_set {a a' : Line} (h : Up a a') : ∀ {ls : List Line} {x : Nat}, ls[x]? = some a → UpL ls (ls.set x a')
  | [], x, hx => by simp at hx
  | l :: ls, 0, hx => by
    simp at hx
    subst hx
    exact ⟨h, .same ls⟩
  | l :: ls, x + 1, hx => ⟨.same l, upl_set h (by simpa using hx)⟩
theorem upl_set' {a a' : Line} (h : Up a' a) : ∀ {ls : List Line} {x : Nat}, ls[x]? = some a → UpL (ls.set x a') ls
  | [], x, hx => by simp at hx
  | l :: ls, 0, hx => by
    simp at hx
    subst hx
    exact ⟨h, .same ls⟩
  | l :: ls, x + 1, hx => ⟨.same l, upl_set' h (by simpa using hx)⟩
theorem Up.isK {l l' : Line} (h : Up l l') (k : Int) : isK k l' = isK k l := by
  unfold Awp.isK
  rw [h.1, h.2.1]
theorem Up.member {l l' : Line} (h : Up l l') (g : ByteArray) : memberS g l' = memberS g l := by
  unfold memberS
  rw [h.1, h.2.1, h.2.2.1]
theorem Up.wt {l l' : Line} (h : Up l l') {k : Int} (hk : Awp.isK k l = true) (h1 : k ≠ 1) : Awp.wt l ≤ Awp.wt l' := by
  obtain ⟨a, b⟩ := isK_app hk
  exact (h.2.2.2 a).2 (by rw [b]; exact h1)
theorem mx_up (g : ByteArray) : ∀ {ls ls' : List Line}, UpL ls ls' → Mx g ls ≤ Mx g ls'
  | [], [], _ => Rat.le_refl
  | l :: ls, l' :: ls', ⟨h1, h2⟩ => by
    have ih := mx_up g h2
    rw [Mx_cons, Mx_cons, h1.member]
    split
    · rename_i hm
      have := h1.wt (member_iff.1 hm).1 (by decide)
      grind
    · exact ih
  | [], _ :: _, h => by cases h
  | _ :: _, [], h => by cases h
theorem ts_up : ∀ {ls ls' : List Line}, UpL ls ls' → ∀ S, TS S ls ≤ TS S ls'
  | [], [], _, S => Rat.le_refl
  | l :: ls, l' :: ls', ⟨h1, h2⟩, S => by
    have ih := ts_up h2 S
    rw [TS_cons, TS_cons, h1.isK, h1.2.2.1]
    split
    · rename_i hk
      have hw := h1.wt hk (by decide)
      split
      · grind
      · rename_i hg
        split
        · grind
        · rename_i hS
          have hS' : S l.group = false := by simpa using hS
          have e1 := (ts_add hS' hg ls).1
          have e2 := (ts_add hS' hg ls').1
          have ih2 := ts_up h2 (addG S l.group)
          have ihm := mx_up l.group h2
          grind
    · grind
  | [], _ :: _, h, S => by cases h
  | _ :: _, [], h, S => by cases h
theorem sm_up : ∀ {ls ls' : List Line}, UpL ls ls' → Sm 1 ls' ≤ Sm 1 ls
  | [], [], _ => Rat.le_refl
  | l :: ls, l' :: ls', ⟨h1, h2⟩ => by
    have ih := sm_up h2
    show Sm 1 ls' + (if isK 1 l' = true then wt l' else 0) ≤ Sm 1 ls + (if isK 1 l = true then wt l else 0)
    rw [h1.isK]
    split
    · rename_i hk
      obtain ⟨a, b⟩ := isK_app hk
      have := (h1.2.2.2 a).1 b
      grind
    · grind
  | [], _ :: _, h => by cases h
  | _ :: _, [], h => by cases h
theorem mk_up : ∀ {ls ls' : List Line}, UpL ls ls' → Mk 3 ls ≤ Mk 3 ls'
  | [], [], _ => Rat.le_refl
  | l :: ls, l' :: ls', ⟨h1, h2⟩ => by
    have ih := mk_up h2
    show (if isK 3 l = true then max (wt l) (Mk 3 ls) else Mk 3 ls) ≤ (if isK 3 l' = true then max (wt l') (Mk 3 ls') else Mk 3 ls')
    rw [h1.isK]
    split
    · rename_i hk
      have := h1.wt hk (by decide)
      grind
    · exact ih
  | [], _ :: _, h => by cases h
  | _ :: _, [], h => by cases h
theorem mn_up {p p' : Rat} (hp : p ≤ p') : ∀ {ls ls' : List Line}, UpL ls ls' → Mn p ls ≤ Mn p' ls'
  | [], [], _ => hp
  | l :: ls, l' :: ls', ⟨h1, h2⟩ => by
    have ih := mn_up hp h2
    show (if isK 2 l = true then min (wt l) (Mn p ls) else Mn p ls) ≤ (if isK 2 l' = true then min (wt l') (Mn p' ls') else Mn p' ls')
    rw [h1.isK]
    split
    · rename_i hk
      have := h1.wt hk (by decide)
      grind
    · exact ih
  | [], _ :: _, h => by cases h
  | _ :: _, [], h => by cases h
theorem res_up {ls ls' : List Line} (h : UpL ls ls') : resS ls ≤ resS ls' := by
  have h1 := ts_up h noS
  have h2 := sm_up h
  have h3 := mk_up h
  refine mn_up ?_ h
  unfold penS
  grind
def moreS (ls : List Line) (x : Nat) (a : Line) (to : Frac) : List Line := ls.set x { a with num := to.n, den := to.d }
theorem rises {ls : List Line} {x : Nat} {a : Line} {to : Frac} (hx : ls[x]? = some a) (h1 : FV a.num a.den) (h2 : FV to.n to.d) (hc : ¬ fcmp a.num a.den to.n to.d > 0) (e1 : (combineS ls).2 = 0) (e2 : (combineS (moreS ls x a to)).2 = 0) :
    (FV (combineS ls).1.pts.n (combineS ls).1.pts.d ∧ FV (combineS (moreS ls x a to)).1.pts.n (combineS (moreS ls x a to)).1.pts.d) ∧
    (a.kind = 1 → fcmp (combineS ls).1.pts.n (combineS ls).1.pts.d (combineS (moreS ls x a to)).1.pts.n (combineS (moreS ls x a to)).1.pts.d ≥ 0 ∧ (combineS ls).1.hund ≥ (combineS (moreS ls x a to)).1.hund) ∧
    (¬ a.kind = 1 → fcmp (combineS ls).1.pts.n (combineS ls).1.pts.d (combineS (moreS ls x a to)).1.pts.n (combineS (moreS ls x a to)).1.pts.d ≤ 0 ∧ (combineS ls).1.hund ≤ (combineS (moreS ls x a to)).1.hund) := by
  obtain ⟨_, a1, a2, a3, a4, a5⟩ := combine_val e1
  obtain ⟨_, b1, b2, b3, b4, b5⟩ := combine_val e2
  have ha : Fok a.amt := h1
  have hle : val a.amt ≤ val to := by
    rw [← val_le ha h2]
    have := fcmp_ok ha h2
    unfold Fle
    rcases cmp_cases (a.amt.n * to.d) (to.n * a.amt.d) with ⟨c1, c2⟩ | ⟨c1, c2⟩ | ⟨c1, c2⟩
    · omega
    · omega
    · rw [c2] at this
      exact absurd (show fcmp a.num a.den to.n to.d > 0 by have : fcmp a.num a.den to.n to.d = 1 := this; omega) hc
  have hw : wt a ≤ wt { a with num := to.n, den := to.d } := by
    rw [wt_eq ha, wt_eq (l := { a with num := to.n, den := to.d }) h2]
    have : val ({ a with num := to.n, den := to.d } : Line).amt = val to := rfl
    rw [this]
    grind
  have cle : ∀ {p q : Frac}, Fok p → Fok q → val p ≤ val q → fcmp p.n p.d q.n q.d ≤ 0 ∧ fcmp q.n q.d p.n p.d ≥ 0 := fun {p q} hp hq h => by
    rw [← val_le hp hq] at h
    unfold Fle at h
    have k1 := fcmp_ok hp hq
    have k2 := fcmp_ok hq hp
    constructor
    · rcases cmp_cases (p.n * q.d) (q.n * p.d) with ⟨c1, c2⟩ | ⟨c1, c2⟩ | ⟨c1, c2⟩ <;> omega
    · rcases cmp_cases (q.n * p.d) (p.n * q.d) with ⟨c1, c2⟩ | ⟨c1, c2⟩ | ⟨c1, c2⟩ <;> omega
  refine ⟨⟨a1, b1⟩, fun hk => ?_, fun hk => ?_⟩
  · have hu : UpL (moreS ls x a to) ls := upl_set' (a := a) (a' := { a with num := to.n, den := to.d }) ⟨rfl, rfl, rfl, fun _ => ⟨fun _ => hw, fun h => absurd hk h⟩⟩ hx
    have hr := res_up hu
    rw [← a3, ← b3] at hr
    refine ⟨(cle b1 a1 hr).2, ?_⟩
    rw [a5, b5]
    exact hund_mono b1 a1 hr
  · have hu : UpL ls (moreS ls x a to) := upl_set (a := a) (a' := { a with num := to.n, den := to.d }) ⟨rfl, rfl, rfl, fun _ => ⟨fun h => absurd h hk, fun _ => hw⟩⟩ hx
    have hr := res_up hu
    rw [← a3, ← b3] at hr
    refine ⟨(cle a1 b1 hr).1, ?_⟩
    rw [a5, b5]
    exact hund_mono a1 b1 hr

/-! ### the walk -/
theorem rises_fn {ls : List Line} {v : PV} (hv : SliceP (ls.map Line.cs) v) (hl : ls.length ≤ maxLen) (i : Int) (to : Frac) (hi : 0 ≤ i ∧ i ≤ 255) : Pure EE 6 [v, .int .u8 i, to.pv] (.bool true) := by
  have hl' : ls.length ≤ 9223372036854775807 := hl
  have hvl := hv.len
  simp only [List.length_map] at hvl
  have hfew := few_fn hv hl'
  have hcom := combine_fn hv
  cases hfs : fewS ls
  · rw [hfs] at hfew
    intro σ nx
    refine fn_of_body goodEE (by rw [EE_P]; exact Tryz.func6) rfl rfl (by kernel_rfl) (Nat.le_of_ble_eq_true rfl) (Nat.le_refl _) fun hwf hlt => ?_
    rw [show Tryz.f6.results.toList = [.tmp 6] from rfl]
    refine awp_begin _ _ _ _ _ (cc := _) (by conv => lhs; simp only [push_cast, Nat.reduceEqDiff, Nat.reduceAdd, Nat.reduceMul, Nat.reduceLeDiff, Nat.reduceLT, reduceIte, reduceCtorEq, Nat.reduceShiftRight, Nat.reduceAnd, Nat.reducePow, Nat.reduceOr, Nat.reduceBNe, Nat.reduceBEq, Int.reduceToNat, Int.reduceLT, Int.reduceLE, Int.reduceGT, Int.reduceGE, Int.reduceEq, Int.reduceNe, Int.reduceNeg, Int.reduceAdd, Int.reduceSub, Int.reduceMul, Tryz.f6]) ?_
    simp only [push_cast, Nat.reduceEqDiff, Nat.reduceAdd, Nat.reduceMul, Nat.reduceLeDiff, Nat.reduceLT, reduceIte, reduceCtorEq, Nat.reduceShiftRight, Nat.reduceAnd, Nat.reducePow, Nat.reduceOr, Nat.reduceBNe, Nat.reduceBEq, Int.reduceToNat, Int.reduceLT, Int.reduceLE, Int.reduceGT, Int.reduceGE, Int.reduceEq, Int.reduceNe, Int.reduceNeg, Int.reduceAdd, Int.reduceSub, Int.reduceMul, EE_P]
    repeat' (first | simp only [push_cast, Nat.reduceEqDiff, Nat.reduceAdd, Nat.reduceMul, Nat.reduceLeDiff, Nat.reduceLT, reduceIte, reduceCtorEq, Nat.reduceShiftRight, Nat.reduceAnd, Nat.reducePow, Nat.reduceOr, Nat.reduceBNe, Nat.reduceBEq, Int.reduceToNat, Int.reduceLT, Int.reduceLE, Int.reduceGT, Int.reduceGE, Int.reduceEq, Int.reduceNe, Int.reduceNeg, Int.reduceAdd, Int.reduceSub, Int.reduceMul, EE_P] | simp (disch := omega) only [wrap_fits] | ((first | with_reducible apply wcall_pure | with_reducible apply wdcall_pure); focus (first | assumption | exact awake_fn | exact equal_fn (by simp) (by simp) | exact awake1_fn _ | exact few_fn (by assumption) (by omega) | exact refcompare_fn ⟨_, _⟩ ⟨_, _⟩ | exact refvalid_fn ⟨_, _⟩ | exact explain_fn _ (by assumption) (by omega) | exact valid_credit_fn _ (by assumption) (by omega) | exact sum_fn (by assumption) (by omega) | exact all_fn (by assumption) (by omega) | exact pointsText_fn _ | exact cutPrefix_fn _ _ | exact cutPrefix1_fn _ _ | exact hasPrefix_fn _ _ | exact format_fn ⟨_, _⟩ | exact itoa_fn (by omega) (by omega) | exact steps_fn _ | exact choosef_fn _ _ | exact wrong_fn _ | exact right_fn _ | exact isName_fn _ | exact formatExpr_name _ | exact format_name _ | exact right_name _ | exact depth_name _ | exact name_fn _ | exact run_fn _ (by omega) _ [] [] _ (fun b _ _ => inName_fn b) | exact keywords_fn | exact contains_fn kwS (by decide) _ | exact inName_fn _ | exact digit_fn _ | exact letter_fn _ | exact hundredths_fn goodEE EE_P _ _ | exact mul_fn goodEE EE_P _ _ _ _ | exact sub_fn goodEE EE_P _ _ _ _ | exact add_fn goodEE EE_P _ _ _ _ | exact weight_fn goodEE EE_P EE_zero _ _ _ _ _ _ _ | exact less_fn goodEE EE_P _ _ _ _ | exact compare_fn goodEE EE_P _ _ _ _ | exact cmp_fn goodEE EE_P _ _ | exact isNaN_fn goodEE EE_P _ | exact valid_fn goodEE EE_P _ _ | exact abs_fn goodEE EE_P (by omega) (by omega))) | (with_reducible refine wguard_split_t (fun h => ?_) (fun h => ?_)) | (with_reducible refine wguard_split_f (fun h => ?_) (fun h => ?_)) | (with_reducible refine wcond_split (fun h => ?_) (fun h => ?_)) | (with_reducible refine wdguard_split_t (fun h => ?_) (fun h => ?_)) | (with_reducible refine wdguard_split_f (fun h => ?_) (fun h => ?_)) | (with_reducible refine And.intro (fun h => ?_) (fun h => ?_)) | (with_reducible apply And.intro; focus omega))
    ((refine ends_ret (by simp only [resultsOf, resOf, push_cast, Nat.reduceEqDiff, Nat.reduceAdd, Nat.reduceMul, Nat.reduceLeDiff, Nat.reduceLT, reduceIte, reduceCtorEq, Nat.reduceShiftRight, Nat.reduceAnd, Nat.reducePow, Nat.reduceOr, Nat.reduceBNe, Nat.reduceBEq, Int.reduceToNat, Int.reduceLT, Int.reduceLE, Int.reduceGT, Int.reduceGE, Int.reduceEq, Int.reduceNe, Int.reduceNeg, Int.reduceAdd, Int.reduceSub, Int.reduceMul, EE_P]; rfl) (by simp only [push_cast, Nat.reduceEqDiff, Nat.reduceAdd, Nat.reduceMul, Nat.reduceLeDiff, Nat.reduceLT, reduceIte, reduceCtorEq, Nat.reduceShiftRight, Nat.reduceAnd, Nat.reducePow, Nat.reduceOr, Nat.reduceBNe, Nat.reduceBEq, Int.reduceToNat, Int.reduceLT, Int.reduceLE, Int.reduceGT, Int.reduceGE, Int.reduceEq, Int.reduceNe, Int.reduceNeg, Int.reduceAdd, Int.reduceSub, Int.reduceMul, EE_P]) ?_ (by repeat' (first | exact Keeps.refl _ | assumption | exact (hwf.keep1 _) | refine Keeps.new hwf ?_ (by omega) _)) (by simp only [lt_int, lt_bool, lt_str, lt_nil, lt_empty, lt_agg, lt_tup, lt_list, lt_cells, lt_fn, lt_nilp, lt_nilfn, lt_nili, List.mem_cons, List.not_mem_nil, or_false, forall_eq_or_imp, forall_eq, and_true, true_and, and_self, implies_true, *]; try omega)); (try simp only [tupOf, push_cast, Nat.reduceEqDiff, Nat.reduceAdd, Nat.reduceMul, Nat.reduceLeDiff, Nat.reduceLT, reduceIte, reduceCtorEq, Nat.reduceShiftRight, Nat.reduceAnd, Nat.reducePow, Nat.reduceOr, Nat.reduceBNe, Nat.reduceBEq, Int.reduceToNat, Int.reduceLT, Int.reduceLE, Int.reduceGT, Int.reduceGE, Int.reduceEq, Int.reduceNe, Int.reduceNeg, Int.reduceAdd, Int.reduceSub, Int.reduceMul, EE_P]))
  rw [hfs] at hfew
  have hlen := fewS_len hfs
  by_cases hn : ls = []
  · subst hn
    have hvl' : lenP v = some 0 := hvl
    intro σ nx
    refine fn_of_body goodEE (by rw [EE_P]; exact Tryz.func6) rfl rfl (by kernel_rfl) (Nat.le_of_ble_eq_true rfl) (Nat.le_refl _) fun hwf hlt => ?_
    rw [show Tryz.f6.results.toList = [.tmp 6] from rfl]
    refine awp_begin _ _ _ _ _ (cc := _) (by conv => lhs; simp only [push_cast, Nat.reduceEqDiff, Nat.reduceAdd, Nat.reduceMul, Nat.reduceLeDiff, Nat.reduceLT, reduceIte, reduceCtorEq, Nat.reduceShiftRight, Nat.reduceAnd, Nat.reducePow, Nat.reduceOr, Nat.reduceBNe, Nat.reduceBEq, Int.reduceToNat, Int.reduceLT, Int.reduceLE, Int.reduceGT, Int.reduceGE, Int.reduceEq, Int.reduceNe, Int.reduceNeg, Int.reduceAdd, Int.reduceSub, Int.reduceMul, Tryz.f6]) ?_
    simp only [push_cast, Nat.reduceEqDiff, Nat.reduceAdd, Nat.reduceMul, Nat.reduceLeDiff, Nat.reduceLT, reduceIte, reduceCtorEq, Nat.reduceShiftRight, Nat.reduceAnd, Nat.reducePow, Nat.reduceOr, Nat.reduceBNe, Nat.reduceBEq, Int.reduceToNat, Int.reduceLT, Int.reduceLE, Int.reduceGT, Int.reduceGE, Int.reduceEq, Int.reduceNe, Int.reduceNeg, Int.reduceAdd, Int.reduceSub, Int.reduceMul, EE_P]
    repeat' (first | simp only [push_cast, Nat.reduceEqDiff, Nat.reduceAdd, Nat.reduceMul, Nat.reduceLeDiff, Nat.reduceLT, reduceIte, reduceCtorEq, Nat.reduceShiftRight, Nat.reduceAnd, Nat.reducePow, Nat.reduceOr, Nat.reduceBNe, Nat.reduceBEq, Int.reduceToNat, Int.reduceLT, Int.reduceLE, Int.reduceGT, Int.reduceGE, Int.reduceEq, Int.reduceNe, Int.reduceNeg, Int.reduceAdd, Int.reduceSub, Int.reduceMul, EE_P, hvl', hv.str] | simp (disch := omega) only [wrap_fits] | ((first | with_reducible apply wcall_pure | with_reducible apply wdcall_pure); focus (first | assumption | exact awake_fn | exact equal_fn (by simp) (by simp) | exact awake1_fn _ | exact few_fn (by assumption) (by omega) | exact refcompare_fn ⟨_, _⟩ ⟨_, _⟩ | exact refvalid_fn ⟨_, _⟩ | exact explain_fn _ (by assumption) (by omega) | exact valid_credit_fn _ (by assumption) (by omega) | exact sum_fn (by assumption) (by omega) | exact all_fn (by assumption) (by omega) | exact pointsText_fn _ | exact cutPrefix_fn _ _ | exact cutPrefix1_fn _ _ | exact hasPrefix_fn _ _ | exact format_fn ⟨_, _⟩ | exact itoa_fn (by omega) (by omega) | exact steps_fn _ | exact choosef_fn _ _ | exact wrong_fn _ | exact right_fn _ | exact isName_fn _ | exact formatExpr_name _ | exact format_name _ | exact right_name _ | exact depth_name _ | exact name_fn _ | exact run_fn _ (by omega) _ [] [] _ (fun b _ _ => inName_fn b) | exact keywords_fn | exact contains_fn kwS (by decide) _ | exact inName_fn _ | exact digit_fn _ | exact letter_fn _ | exact hundredths_fn goodEE EE_P _ _ | exact mul_fn goodEE EE_P _ _ _ _ | exact sub_fn goodEE EE_P _ _ _ _ | exact add_fn goodEE EE_P _ _ _ _ | exact weight_fn goodEE EE_P EE_zero _ _ _ _ _ _ _ | exact less_fn goodEE EE_P _ _ _ _ | exact compare_fn goodEE EE_P _ _ _ _ | exact cmp_fn goodEE EE_P _ _ | exact isNaN_fn goodEE EE_P _ | exact valid_fn goodEE EE_P _ _ | exact abs_fn goodEE EE_P (by omega) (by omega))) | (with_reducible refine wguard_split_t (fun h => ?_) (fun h => ?_)) | (with_reducible refine wguard_split_f (fun h => ?_) (fun h => ?_)) | (with_reducible refine wcond_split (fun h => ?_) (fun h => ?_)) | (with_reducible refine wdguard_split_t (fun h => ?_) (fun h => ?_)) | (with_reducible refine wdguard_split_f (fun h => ?_) (fun h => ?_)) | (with_reducible refine And.intro (fun h => ?_) (fun h => ?_)) | (with_reducible apply And.intro; focus omega))
    all_goals ((refine ends_ret (by simp only [resultsOf, resOf, push_cast, Nat.reduceEqDiff, Nat.reduceAdd, Nat.reduceMul, Nat.reduceLeDiff, Nat.reduceLT, reduceIte, reduceCtorEq, Nat.reduceShiftRight, Nat.reduceAnd, Nat.reducePow, Nat.reduceOr, Nat.reduceBNe, Nat.reduceBEq, Int.reduceToNat, Int.reduceLT, Int.reduceLE, Int.reduceGT, Int.reduceGE, Int.reduceEq, Int.reduceNe, Int.reduceNeg, Int.reduceAdd, Int.reduceSub, Int.reduceMul, EE_P]; rfl) (by simp only [push_cast, Nat.reduceEqDiff, Nat.reduceAdd, Nat.reduceMul, Nat.reduceLeDiff, Nat.reduceLT, reduceIte, reduceCtorEq, Nat.reduceShiftRight, Nat.reduceAnd, Nat.reducePow, Nat.reduceOr, Nat.reduceBNe, Nat.reduceBEq, Int.reduceToNat, Int.reduceLT, Int.reduceLE, Int.reduceGT, Int.reduceGE, Int.reduceEq, Int.reduceNe, Int.reduceNeg, Int.reduceAdd, Int.reduceSub, Int.reduceMul, EE_P]) ?_ (by repeat' (first | exact Keeps.refl _ | assumption | exact (hwf.keep1 _) | refine Keeps.new hwf ?_ (by omega) _)) (by simp only [lt_int, lt_bool, lt_str, lt_nil, lt_empty, lt_agg, lt_tup, lt_list, lt_cells, lt_fn, lt_nilp, lt_nilfn, lt_nili, List.mem_cons, List.not_mem_nil, or_false, forall_eq_or_imp, forall_eq, and_true, true_and, and_self, implies_true, *]; try omega)); (try simp only [tupOf, push_cast, Nat.reduceEqDiff, Nat.reduceAdd, Nat.reduceMul, Nat.reduceLeDiff, Nat.reduceLT, reduceIte, reduceCtorEq, Nat.reduceShiftRight, Nat.reduceAnd, Nat.reducePow, Nat.reduceOr, Nat.reduceBNe, Nat.reduceBEq, Int.reduceToNat, Int.reduceLT, Int.reduceLE, Int.reduceGT, Int.reduceGE, Int.reduceEq, Int.reduceNe, Int.reduceNeg, Int.reduceAdd, Int.reduceSub, Int.reduceMul, EE_P]))
  have hpos : 0 < ls.length := List.length_pos_iff.2 hn
  have hl0 : ¬ (ls.length : Int) = 0 := by omega
  obtain rfl : v = .list (ls.map Line.cs) := hv.lt (i := 0) (by simpa using hpos)
  have ex : ∃ x : Nat, i.tmod ls.length = x ∧ x < ls.length := ⟨(i.tmod ls.length).toNat, by have := tmod_bd hi.1 (show (0 : Int) < ls.length by omega); omega, by have := tmod_bd hi.1 (show (0 : Int) < ls.length by omega); omega⟩
  obtain ⟨x, ex, hx⟩ := ex
  have wi : IntKind.i64.wrap i = i := wrap_small (by omega) (by omega)
  have wx : IntKind.i64.wrap (x : Int) = x := wrap_small (by omega) (by omega)
  have hx' : (x : Int) < ls.length := by omega
  have hx0 : (0 : Int) ≤ x := by omega
  have hgx : (ls.map Line.cs)[x]? = some ls[x].cs := by rw [List.getElem?_map, List.getElem?_eq_getElem hx]; rfl
  have hgx' : ls[x]? = some ls[x] := List.getElem?_eq_getElem hx
  have hsw : (ls.map Line.cs).set x (Line.cs { ls[x] with num := to.n, den := to.d }) = (moreS ls x ls[x] to).map Line.cs := by unfold moreS; rw [List.map_set]
  have hsl : (moreS ls x ls[x] to).length = ls.length := by simp [moreS]
  have hlw := rises (to := to) hgx'
  generalize ls[x] = a at *
  have hcom2 := combine_fn (ls := moreS ls x a to) .list
  generalize hc1 : combineS ls = c1 at *
  generalize hc2 : combineS (moreS ls x a to) = c2 at *
  obtain ⟨⟨p1, t1, h1⟩, e1⟩ := c1
  obtain ⟨⟨p2, t2, h2⟩, e2⟩ := c2
  simp only [Credit.val] at hcom hcom2
  simp only at hlw
  have o1 := (partsV_slice p1).one
  have o2 := (partsV_slice p2).one
  have ce1 := (partsV_slice p1).cells
  have ce2 := (partsV_slice p2).cells
  intro σ nx
  refine fn_of_body goodEE (by rw [EE_P]; exact Tryz.func6) rfl rfl (by kernel_rfl) (Nat.le_of_ble_eq_true rfl) (Nat.le_refl _) fun hwf hlt => ?_
  rw [show Tryz.f6.results.toList = [.tmp 6] from rfl]
  refine awp_begin _ _ _ _ _ (cc := _) (by conv => lhs; simp only [push_cast, Nat.reduceEqDiff, Nat.reduceAdd, Nat.reduceMul, Nat.reduceLeDiff, Nat.reduceLT, reduceIte, reduceCtorEq, Nat.reduceShiftRight, Nat.reduceAnd, Nat.reducePow, Nat.reduceOr, Nat.reduceBNe, Nat.reduceBEq, Int.reduceToNat, Int.reduceLT, Int.reduceLE, Int.reduceGT, Int.reduceGE, Int.reduceEq, Int.reduceNe, Int.reduceNeg, Int.reduceAdd, Int.reduceSub, Int.reduceMul, Tryz.f6]) ?_
  simp only [push_cast, Nat.reduceEqDiff, Nat.reduceAdd, Nat.reduceMul, Nat.reduceLeDiff, Nat.reduceLT, reduceIte, reduceCtorEq, Nat.reduceShiftRight, Nat.reduceAnd, Nat.reducePow, Nat.reduceOr, Nat.reduceBNe, Nat.reduceBEq, Int.reduceToNat, Int.reduceLT, Int.reduceLE, Int.reduceGT, Int.reduceGE, Int.reduceEq, Int.reduceNe, Int.reduceNeg, Int.reduceAdd, Int.reduceSub, Int.reduceMul, EE_P]
  repeat' (first | simp only [push_cast, Nat.reduceEqDiff, Nat.reduceAdd, Nat.reduceMul, Nat.reduceLeDiff, Nat.reduceLT, reduceIte, reduceCtorEq, Nat.reduceShiftRight, Nat.reduceAnd, Nat.reducePow, Nat.reduceOr, Nat.reduceBNe, Nat.reduceBEq, Int.reduceToNat, Int.reduceLT, Int.reduceLE, Int.reduceGT, Int.reduceGE, Int.reduceEq, Int.reduceNe, Int.reduceNeg, Int.reduceAdd, Int.reduceSub, Int.reduceMul, EE_P, hvl, hl0, ex, wi, wx] | simp (disch := omega) only [wrap_fits] | ((first | with_reducible apply wcall_pure | with_reducible apply wdcall_pure); focus (first | assumption | exact awake_fn | exact equal_fn (by simp) (by simp) | exact awake1_fn _ | exact few_fn (by assumption) (by omega) | exact refcompare_fn ⟨_, _⟩ ⟨_, _⟩ | exact refvalid_fn ⟨_, _⟩ | exact explain_fn _ (by assumption) (by omega) | exact valid_credit_fn _ (by assumption) (by omega) | exact sum_fn (by assumption) (by omega) | exact all_fn (by assumption) (by omega) | exact pointsText_fn _ | exact cutPrefix_fn _ _ | exact cutPrefix1_fn _ _ | exact hasPrefix_fn _ _ | exact format_fn ⟨_, _⟩ | exact itoa_fn (by omega) (by omega) | exact steps_fn _ | exact choosef_fn _ _ | exact wrong_fn _ | exact right_fn _ | exact isName_fn _ | exact formatExpr_name _ | exact format_name _ | exact right_name _ | exact depth_name _ | exact name_fn _ | exact run_fn _ (by omega) _ [] [] _ (fun b _ _ => inName_fn b) | exact keywords_fn | exact contains_fn kwS (by decide) _ | exact inName_fn _ | exact digit_fn _ | exact letter_fn _ | exact hundredths_fn goodEE EE_P _ _ | exact mul_fn goodEE EE_P _ _ _ _ | exact sub_fn goodEE EE_P _ _ _ _ | exact add_fn goodEE EE_P _ _ _ _ | exact weight_fn goodEE EE_P EE_zero _ _ _ _ _ _ _ | exact less_fn goodEE EE_P _ _ _ _ | exact compare_fn goodEE EE_P _ _ _ _ | exact cmp_fn goodEE EE_P _ _ | exact isNaN_fn goodEE EE_P _ | exact valid_fn goodEE EE_P _ _ | exact abs_fn goodEE EE_P (by omega) (by omega))) | (with_reducible refine wguard_split_t (fun h => ?_) (fun h => ?_)) | (with_reducible refine wguard_split_f (fun h => ?_) (fun h => ?_)) | (with_reducible refine wcond_split (fun h => ?_) (fun h => ?_)) | (with_reducible refine wdguard_split_t (fun h => ?_) (fun h => ?_)) | (with_reducible refine wdguard_split_f (fun h => ?_) (fun h => ?_)) | (with_reducible refine And.intro (fun h => ?_) (fun h => ?_)) | (with_reducible apply And.intro; focus omega))
  refine wcall_of _ _ _ _ _ _ (clone_fn hn (by omega)) ?_
  repeat' (first | simp only [push_cast, Nat.reduceEqDiff, Nat.reduceAdd, Nat.reduceMul, Nat.reduceLeDiff, Nat.reduceLT, reduceIte, reduceCtorEq, Nat.reduceShiftRight, Nat.reduceAnd, Nat.reducePow, Nat.reduceOr, Nat.reduceBNe, Nat.reduceBEq, Int.reduceToNat, Int.reduceLT, Int.reduceLE, Int.reduceGT, Int.reduceGE, Int.reduceEq, Int.reduceNe, Int.reduceNeg, Int.reduceAdd, Int.reduceSub, Int.reduceMul, EE_P, hvl, hl0, ex, wi, wx, Int.toNat_natCast, hx', hx0, hx, hgx, List.length_map, List.length_set, o1, ce1] | simp (disch := omega) only [wrap_fits] | ((first | with_reducible apply wcall_pure | with_reducible apply wdcall_pure); focus (first | assumption | exact awake_fn | exact equal_fn (by simp) (by simp) | exact awake1_fn _ | exact few_fn (by assumption) (by omega) | exact refcompare_fn ⟨_, _⟩ ⟨_, _⟩ | exact refvalid_fn ⟨_, _⟩ | exact explain_fn _ (by assumption) (by omega) | exact valid_credit_fn _ (by assumption) (by omega) | exact sum_fn (by assumption) (by omega) | exact all_fn (by assumption) (by omega) | exact pointsText_fn _ | exact cutPrefix_fn _ _ | exact cutPrefix1_fn _ _ | exact hasPrefix_fn _ _ | exact format_fn ⟨_, _⟩ | exact itoa_fn (by omega) (by omega) | exact steps_fn _ | exact choosef_fn _ _ | exact wrong_fn _ | exact right_fn _ | exact isName_fn _ | exact formatExpr_name _ | exact format_name _ | exact right_name _ | exact depth_name _ | exact name_fn _ | exact run_fn _ (by omega) _ [] [] _ (fun b _ _ => inName_fn b) | exact keywords_fn | exact contains_fn kwS (by decide) _ | exact inName_fn _ | exact digit_fn _ | exact letter_fn _ | exact hundredths_fn goodEE EE_P _ _ | exact mul_fn goodEE EE_P _ _ _ _ | exact sub_fn goodEE EE_P _ _ _ _ | exact add_fn goodEE EE_P _ _ _ _ | exact weight_fn goodEE EE_P EE_zero _ _ _ _ _ _ _ | exact less_fn goodEE EE_P _ _ _ _ | exact compare_fn goodEE EE_P _ _ _ _ | exact cmp_fn goodEE EE_P _ _ | exact isNaN_fn goodEE EE_P _ | exact valid_fn goodEE EE_P _ _ | exact abs_fn goodEE EE_P (by omega) (by omega))) | (with_reducible refine wguard_split_t (fun h => ?_) (fun h => ?_)) | (with_reducible refine wguard_split_f (fun h => ?_) (fun h => ?_)) | (with_reducible refine wcond_split (fun h => ?_) (fun h => ?_)) | (with_reducible refine wdguard_split_t (fun h => ?_) (fun h => ?_)) | (with_reducible refine wdguard_split_f (fun h => ?_) (fun h => ?_)) | (with_reducible refine And.intro (fun h => ?_) (fun h => ?_)) | (with_reducible apply And.intro; focus omega))
  · ((refine ends_ret (by simp only [resultsOf, resOf, push_cast, Nat.reduceEqDiff, Nat.reduceAdd, Nat.reduceMul, Nat.reduceLeDiff, Nat.reduceLT, reduceIte, reduceCtorEq, Nat.reduceShiftRight, Nat.reduceAnd, Nat.reducePow, Nat.reduceOr, Nat.reduceBNe, Nat.reduceBEq, Int.reduceToNat, Int.reduceLT, Int.reduceLE, Int.reduceGT, Int.reduceGE, Int.reduceEq, Int.reduceNe, Int.reduceNeg, Int.reduceAdd, Int.reduceSub, Int.reduceMul, EE_P]; rfl) (by simp only [push_cast, Nat.reduceEqDiff, Nat.reduceAdd, Nat.reduceMul, Nat.reduceLeDiff, Nat.reduceLT, reduceIte, reduceCtorEq, Nat.reduceShiftRight, Nat.reduceAnd, Nat.reducePow, Nat.reduceOr, Nat.reduceBNe, Nat.reduceBEq, Int.reduceToNat, Int.reduceLT, Int.reduceLE, Int.reduceGT, Int.reduceGE, Int.reduceEq, Int.reduceNe, Int.reduceNeg, Int.reduceAdd, Int.reduceSub, Int.reduceMul, EE_P]) ?_ (by repeat' (first | exact Keeps.refl _ | assumption | exact (hwf.keep1 _) | refine Keeps.new hwf ?_ (by omega) _)) (by simp only [lt_int, lt_bool, lt_str, lt_nil, lt_empty, lt_agg, lt_tup, lt_list, lt_cells, lt_fn, lt_nilp, lt_nilfn, lt_nili, List.mem_cons, List.not_mem_nil, or_false, forall_eq_or_imp, forall_eq, and_true, true_and, and_self, implies_true, *]; try omega)); (try simp only [tupOf, push_cast, Nat.reduceEqDiff, Nat.reduceAdd, Nat.reduceMul, Nat.reduceLeDiff, Nat.reduceLT, reduceIte, reduceCtorEq, Nat.reduceShiftRight, Nat.reduceAnd, Nat.reducePow, Nat.reduceOr, Nat.reduceBNe, Nat.reduceBEq, Int.reduceToNat, Int.reduceLT, Int.reduceLE, Int.reduceGT, Int.reduceGE, Int.reduceEq, Int.reduceNe, Int.reduceNeg, Int.reduceAdd, Int.reduceSub, Int.reduceMul, EE_P]))
  · refine wcall_freeze (σ' := upd _ (nx + 26) none) hcom2 ((Sub.refl _).drop _) ⟨fz_row (k := nx + 26) (by simp only [upd_at, push_cast, Nat.reduceEqDiff, Nat.reduceAdd, Nat.reduceMul, Nat.reduceLeDiff, Nat.reduceLT, reduceIte, reduceCtorEq, Nat.reduceShiftRight, Nat.reduceAnd, Nat.reducePow, Nat.reduceOr, Nat.reduceBNe, Nat.reduceBEq, Int.reduceToNat, Int.reduceLT, Int.reduceLE, Int.reduceGT, Int.reduceGE, Int.reduceEq, Int.reduceNe, Int.reduceNeg, Int.reduceAdd, Int.reduceSub, Int.reduceMul]; exact congrArg (fun e => some (AObj.row e)) hsw) (upd_same ..) (by rw [List.length_map, hsl]), trivial⟩ ?_
    have hlw2 := hlw (And.left (by assumption)) (And.right (by assumption)) (by assumption)
    repeat' (first | simp only [push_cast, Nat.reduceEqDiff, Nat.reduceAdd, Nat.reduceMul, Nat.reduceLeDiff, Nat.reduceLT, reduceIte, reduceCtorEq, Nat.reduceShiftRight, Nat.reduceAnd, Nat.reducePow, Nat.reduceOr, Nat.reduceBNe, Nat.reduceBEq, Int.reduceToNat, Int.reduceLT, Int.reduceLE, Int.reduceGT, Int.reduceGE, Int.reduceEq, Int.reduceNe, Int.reduceNeg, Int.reduceAdd, Int.reduceSub, Int.reduceMul, EE_P, o2, ce2, o1, ce1, hx', hx0, hx, hgx, List.length_map, Int.toNat_natCast] | simp (disch := omega) only [wrap_fits] | ((first | with_reducible apply wcall_pure | with_reducible apply wdcall_pure); focus (first | assumption | exact awake_fn | exact equal_fn (by simp) (by simp) | exact awake1_fn _ | exact few_fn (by assumption) (by omega) | exact refcompare_fn ⟨_, _⟩ ⟨_, _⟩ | exact refvalid_fn ⟨_, _⟩ | exact explain_fn _ (by assumption) (by omega) | exact valid_credit_fn _ (by assumption) (by omega) | exact sum_fn (by assumption) (by omega) | exact all_fn (by assumption) (by omega) | exact pointsText_fn _ | exact cutPrefix_fn _ _ | exact cutPrefix1_fn _ _ | exact hasPrefix_fn _ _ | exact format_fn ⟨_, _⟩ | exact itoa_fn (by omega) (by omega) | exact steps_fn _ | exact choosef_fn _ _ | exact wrong_fn _ | exact right_fn _ | exact isName_fn _ | exact formatExpr_name _ | exact format_name _ | exact right_name _ | exact depth_name _ | exact name_fn _ | exact run_fn _ (by omega) _ [] [] _ (fun b _ _ => inName_fn b) | exact keywords_fn | exact contains_fn kwS (by decide) _ | exact inName_fn _ | exact digit_fn _ | exact letter_fn _ | exact hundredths_fn goodEE EE_P _ _ | exact mul_fn goodEE EE_P _ _ _ _ | exact sub_fn goodEE EE_P _ _ _ _ | exact add_fn goodEE EE_P _ _ _ _ | exact weight_fn goodEE EE_P EE_zero _ _ _ _ _ _ _ | exact less_fn goodEE EE_P _ _ _ _ | exact compare_fn goodEE EE_P _ _ _ _ | exact cmp_fn goodEE EE_P _ _ | exact isNaN_fn goodEE EE_P _ | exact valid_fn goodEE EE_P _ _ | exact abs_fn goodEE EE_P (by omega) (by omega))) | (with_reducible refine wguard_split_t (fun h => ?_) (fun h => ?_)) | (with_reducible refine wguard_split_f (fun h => ?_) (fun h => ?_)) | (with_reducible refine wcond_split (fun h => ?_) (fun h => ?_)) | (with_reducible refine wdguard_split_t (fun h => ?_) (fun h => ?_)) | (with_reducible refine wdguard_split_f (fun h => ?_) (fun h => ?_)) | (with_reducible refine And.intro (fun h => ?_) (fun h => ?_)) | (with_reducible apply And.intro; focus omega))
    all_goals ((refine ends_ret (by simp only [resultsOf, resOf, push_cast, Nat.reduceEqDiff, Nat.reduceAdd, Nat.reduceMul, Nat.reduceLeDiff, Nat.reduceLT, reduceIte, reduceCtorEq, Nat.reduceShiftRight, Nat.reduceAnd, Nat.reducePow, Nat.reduceOr, Nat.reduceBNe, Nat.reduceBEq, Int.reduceToNat, Int.reduceLT, Int.reduceLE, Int.reduceGT, Int.reduceGE, Int.reduceEq, Int.reduceNe, Int.reduceNeg, Int.reduceAdd, Int.reduceSub, Int.reduceMul, EE_P]; rfl) (by simp only [push_cast, Nat.reduceEqDiff, Nat.reduceAdd, Nat.reduceMul, Nat.reduceLeDiff, Nat.reduceLT, reduceIte, reduceCtorEq, Nat.reduceShiftRight, Nat.reduceAnd, Nat.reducePow, Nat.reduceOr, Nat.reduceBNe, Nat.reduceBEq, Int.reduceToNat, Int.reduceLT, Int.reduceLE, Int.reduceGT, Int.reduceGE, Int.reduceEq, Int.reduceNe, Int.reduceNeg, Int.reduceAdd, Int.reduceSub, Int.reduceMul, EE_P]) ?_ (by repeat' (first | exact Keeps.refl _ | assumption | exact (hwf.keep1 _) | refine Keeps.new hwf ?_ (by omega) _)) (by simp only [lt_int, lt_bool, lt_str, lt_nil, lt_empty, lt_agg, lt_tup, lt_list, lt_cells, lt_fn, lt_nilp, lt_nilfn, lt_nili, List.mem_cons, List.not_mem_nil, or_false, forall_eq_or_imp, forall_eq, and_true, true_and, and_self, implies_true, *]; try omega)); (try simp only [tupOf, push_cast, Nat.reduceEqDiff, Nat.reduceAdd, Nat.reduceMul, Nat.reduceLeDiff, Nat.reduceLT, reduceIte, reduceCtorEq, Nat.reduceShiftRight, Nat.reduceAnd, Nat.reducePow, Nat.reduceOr, Nat.reduceBNe, Nat.reduceBEq, Int.reduceToNat, Int.reduceLT, Int.reduceLE, Int.reduceGT, Int.reduceGE, Int.reduceEq, Int.reduceNe, Int.reduceNeg, Int.reduceAdd, Int.reduceSub, Int.reduceMul, EE_P]))
    all_goals (obtain ⟨q1, q2, q3⟩ := hlw2 (by assumption) (by assumption))
    all_goals (first | (have q := q2 (by assumption); first | (rw [decide_eq_true q.2]; done) | (exfalso; omega) | exact absurd q1 (by assumption)) | (have q := q3 (by assumption); first | (rw [decide_eq_true q.2]; done) | (exfalso; omega) | exact absurd q1 (by assumption)))
  · ((refine ends_ret (by simp only [resultsOf, resOf, push_cast, Nat.reduceEqDiff, Nat.reduceAdd, Nat.reduceMul, Nat.reduceLeDiff, Nat.reduceLT, reduceIte, reduceCtorEq, Nat.reduceShiftRight, Nat.reduceAnd, Nat.reducePow, Nat.reduceOr, Nat.reduceBNe, Nat.reduceBEq, Int.reduceToNat, Int.reduceLT, Int.reduceLE, Int.reduceGT, Int.reduceGE, Int.reduceEq, Int.reduceNe, Int.reduceNeg, Int.reduceAdd, Int.reduceSub, Int.reduceMul, EE_P]; rfl) (by simp only [push_cast, Nat.reduceEqDiff, Nat.reduceAdd, Nat.reduceMul, Nat.reduceLeDiff, Nat.reduceLT, reduceIte, reduceCtorEq, Nat.reduceShiftRight, Nat.reduceAnd, Nat.reducePow, Nat.reduceOr, Nat.reduceBNe, Nat.reduceBEq, Int.reduceToNat, Int.reduceLT, Int.reduceLE, Int.reduceGT, Int.reduceGE, Int.reduceEq, Int.reduceNe, Int.reduceNeg, Int.reduceAdd, Int.reduceSub, Int.reduceMul, EE_P]) ?_ (by repeat' (first | exact Keeps.refl _ | assumption | exact (hwf.keep1 _) | refine Keeps.new hwf ?_ (by omega) _)) (by simp only [lt_int, lt_bool, lt_str, lt_nil, lt_empty, lt_agg, lt_tup, lt_list, lt_cells, lt_fn, lt_nilp, lt_nilfn, lt_nili, List.mem_cons, List.not_mem_nil, or_false, forall_eq_or_imp, forall_eq, and_true, true_and, and_self, implies_true, *]; try omega)); (try simp only [tupOf, push_cast, Nat.reduceEqDiff, Nat.reduceAdd, Nat.reduceMul, Nat.reduceLeDiff, Nat.reduceLT, reduceIte, reduceCtorEq, Nat.reduceShiftRight, Nat.reduceAnd, Nat.reducePow, Nat.reduceOr, Nat.reduceBNe, Nat.reduceBEq, Int.reduceToNat, Int.reduceLT, Int.reduceLE, Int.reduceGT, Int.reduceGE, Int.reduceEq, Int.reduceNe, Int.reduceNeg, Int.reduceAdd, Int.reduceSub, Int.reduceMul, EE_P]))
theorem args_frac {ts : List TypeId} {pvs : List PV} (h : Args EE.P (27 :: ts) pvs) : ∃ (f : Frac) (rest : List PV), pvs = f.pv :: rest ∧ Args EE.P ts rest := by
  match pvs, h with
  | p :: ps, ⟨⟨c, hc, hp⟩, h2⟩ =>
    obtain ⟨f, rfl⟩ := cells_frac hc
    refine ⟨f, ps, ?_, h2⟩
    rw [hp, mk, if_pos (by rw [EE_P]; kernel_rfl)]
    rfl
theorem rises_proved : ∀ pvs, Args EE.P Tryz.f6.params.toList pvs → Pure EE 6 pvs (.bool true) := by
  intro pvs h
  obtain ⟨ls, v, rest, rfl, hv, hl, h⟩ := args_lines h
  obtain ⟨i, rest, rfl, hi, h⟩ := args_u8 h
  obtain ⟨f, rest, rfl, h⟩ := args_frac h
  match rest, h with
  | [], _ => exact rises_fn hv hl i f hi
end Go.Proofs.YtdajoilaakiinaaGreatDoor.Awp

/- The reference's Add; slices.Clone of parts; credit.Scale. -/
namespace Go.Proofs.YtdajoilaakiinaaGreatDoor.Awp
open Go Go.Proofs
set_option linter.unusedSimpArgs false
set_option linter.unusedVariables false
set_option maxRecDepth 10000
set_option maxHeartbeats 4000000

theorem red_iff {a b : Int} (hb : 0 < b) : redOk a b ↔ -1000000000 ≤ a.tdiv (Int.gcd a b) ∧ a.tdiv (Int.gcd a b) ≤ 1000000000 ∧ b.tdiv (Int.gcd a b) ≤ 1000000 := by
  have hg : 0 < Int.gcd a b := Int.gcd_pos_of_ne_zero_right a (by omega)
  have h1 : (Int.gcd a b : Int) ∣ a := Int.gcd_dvd_left ..
  have h2 : (Int.gcd a b : Int) ∣ b := Int.gcd_dvd_right ..
  have e1 : a.tdiv (Int.gcd a b) = a / (Int.gcd a b) := Int.tdiv_eq_ediv_of_dvd h1
  have e2 : b.tdiv (Int.gcd a b) = b / (Int.gcd a b) := Int.tdiv_eq_ediv_of_dvd h2
  have h3 : Int.gcd (a / (Int.gcd a b)) (b / (Int.gcd a b)) = 1 := Int.gcd_ediv_gcd_ediv_gcd hg
  have h4 : 1 ≤ b / (Int.gcd a b) := Int.ediv_pos_of_pos_of_dvd hb (by omega) h2
  unfold redOk FV
  rw [e1, e2]
  constructor
  · rintro ⟨a1, a2, a3, a4, a5⟩; exact ⟨a3, a4, a2⟩
  · rintro ⟨a1, a2, a3⟩; exact ⟨h4, a3, a1, a2, h3⟩
theorem refreduce_fn {a b : Int} (ha : -1000000000000000000 ≤ a) (ha' : a ≤ 1000000000000000000) (hb : 0 < b) (hb' : b ≤ 1000000000000000000) : Pure EE 58 [.int .i64 a, .int .i64 b] (.tup [fracP (redN a b) (redD a b), .int .i64 (redE a b)]) := by
  have hg := refgcd_fn ha ha' (b := b) (by omega)
  have hg0 : 0 < Int.gcd a b := Int.gcd_pos_of_ne_zero_right a (by omega)
  have hgz : ¬ (Int.gcd a b : Int) = 0 := by omega
  have hbn : ¬ b < 0 := by omega
  have w1 := tdiv_wrap (a := a) (Int.gcd a b) ha ha'
  have w2 := tdiv_wrap (a := b) (Int.gcd a b) (by omega) hb'
  have hi := red_iff (a := a) hb
  intro σ nx
  refine fn_of_body goodEE (by rw [EE_P]; exact Tryz.func58) rfl rfl (by kernel_rfl) (Nat.le_of_ble_eq_true rfl) (Nat.le_refl _) fun hwf hlt => ?_
  rw [show Tryz.f58.results.toList = [.cell 4 27, .tmp 5] from rfl]
  refine awp_begin _ _ _ _ _ (cc := _) (by conv => lhs; simp only [push_cast, Nat.reduceEqDiff, Nat.reduceAdd, Nat.reduceMul, Nat.reduceLeDiff, Nat.reduceLT, reduceIte, reduceCtorEq, Nat.reduceShiftRight, Nat.reduceAnd, Nat.reducePow, Nat.reduceOr, Nat.reduceBNe, Nat.reduceBEq, Int.reduceToNat, Int.reduceLT, Int.reduceLE, Int.reduceGT, Int.reduceGE, Int.reduceEq, Int.reduceNe, Int.reduceNeg, Int.reduceAdd, Int.reduceSub, Int.reduceMul, Tryz.f58]) ?_
  simp only [push_cast, Nat.reduceEqDiff, Nat.reduceAdd, Nat.reduceMul, Nat.reduceLeDiff, Nat.reduceLT, reduceIte, reduceCtorEq, Nat.reduceShiftRight, Nat.reduceAnd, Nat.reducePow, Nat.reduceOr, Nat.reduceBNe, Nat.reduceBEq, Int.reduceToNat, Int.reduceLT, Int.reduceLE, Int.reduceGT, Int.reduceGE, Int.reduceEq, Int.reduceNe, Int.reduceNeg, Int.reduceAdd, Int.reduceSub, Int.reduceMul, EE_P]
  repeat' (first | simp only [push_cast, Nat.reduceEqDiff, Nat.reduceAdd, Nat.reduceMul, Nat.reduceLeDiff, Nat.reduceLT, reduceIte, reduceCtorEq, Nat.reduceShiftRight, Nat.reduceAnd, Nat.reducePow, Nat.reduceOr, Nat.reduceBNe, Nat.reduceBEq, Int.reduceToNat, Int.reduceLT, Int.reduceLE, Int.reduceGT, Int.reduceGE, Int.reduceEq, Int.reduceNe, Int.reduceNeg, Int.reduceAdd, Int.reduceSub, Int.reduceMul, EE_P, hbn, hgz, w1, w2] | simp (disch := omega) only [wrap_fits] | ((first | with_reducible apply wcall_pure | with_reducible apply wdcall_pure); focus (first | assumption | exact awake_fn | exact equal_fn (by simp) (by simp) | exact awake1_fn _ | exact few_fn (by assumption) (by omega) | exact refcompare_fn ⟨_, _⟩ ⟨_, _⟩ | exact refvalid_fn ⟨_, _⟩ | exact explain_fn _ (by assumption) (by omega) | exact valid_credit_fn _ (by assumption) (by omega) | exact sum_fn (by assumption) (by omega) | exact all_fn (by assumption) (by omega) | exact pointsText_fn _ | exact cutPrefix_fn _ _ | exact cutPrefix1_fn _ _ | exact hasPrefix_fn _ _ | exact format_fn ⟨_, _⟩ | exact itoa_fn (by omega) (by omega) | exact steps_fn _ | exact choosef_fn _ _ | exact wrong_fn _ | exact right_fn _ | exact isName_fn _ | exact formatExpr_name _ | exact format_name _ | exact right_name _ | exact depth_name _ | exact name_fn _ | exact run_fn _ (by omega) _ [] [] _ (fun b _ _ => inName_fn b) | exact keywords_fn | exact contains_fn kwS (by decide) _ | exact inName_fn _ | exact digit_fn _ | exact letter_fn _ | exact hundredths_fn goodEE EE_P _ _ | exact mul_fn goodEE EE_P _ _ _ _ | exact sub_fn goodEE EE_P _ _ _ _ | exact add_fn goodEE EE_P _ _ _ _ | exact weight_fn goodEE EE_P EE_zero _ _ _ _ _ _ _ | exact less_fn goodEE EE_P _ _ _ _ | exact compare_fn goodEE EE_P _ _ _ _ | exact cmp_fn goodEE EE_P _ _ | exact isNaN_fn goodEE EE_P _ | exact valid_fn goodEE EE_P _ _ | exact abs_fn goodEE EE_P (by omega) (by omega))) | (with_reducible refine wguard_split_t (fun h => ?_) (fun h => ?_)) | (with_reducible refine wguard_split_f (fun h => ?_) (fun h => ?_)) | (with_reducible refine wcond_split (fun h => ?_) (fun h => ?_)) | (with_reducible refine wdguard_split_t (fun h => ?_) (fun h => ?_)) | (with_reducible refine wdguard_split_f (fun h => ?_) (fun h => ?_)) | (with_reducible refine And.intro (fun h => ?_) (fun h => ?_)) | (with_reducible apply And.intro; focus omega))
  all_goals ((refine ends_ret (by simp only [resultsOf, resOf, push_cast, Nat.reduceEqDiff, Nat.reduceAdd, Nat.reduceMul, Nat.reduceLeDiff, Nat.reduceLT, reduceIte, reduceCtorEq, Nat.reduceShiftRight, Nat.reduceAnd, Nat.reducePow, Nat.reduceOr, Nat.reduceBNe, Nat.reduceBEq, Int.reduceToNat, Int.reduceLT, Int.reduceLE, Int.reduceGT, Int.reduceGE, Int.reduceEq, Int.reduceNe, Int.reduceNeg, Int.reduceAdd, Int.reduceSub, Int.reduceMul, EE_P]; rfl) (by simp only [push_cast, Nat.reduceEqDiff, Nat.reduceAdd, Nat.reduceMul, Nat.reduceLeDiff, Nat.reduceLT, reduceIte, reduceCtorEq, Nat.reduceShiftRight, Nat.reduceAnd, Nat.reducePow, Nat.reduceOr, Nat.reduceBNe, Nat.reduceBEq, Int.reduceToNat, Int.reduceLT, Int.reduceLE, Int.reduceGT, Int.reduceGE, Int.reduceEq, Int.reduceNe, Int.reduceNeg, Int.reduceAdd, Int.reduceSub, Int.reduceMul, EE_P]) ?_ (by repeat' (first | exact Keeps.refl _ | assumption | exact (hwf.keep1 _) | refine Keeps.new hwf ?_ (by omega) _)) (by simp only [lt_int, lt_bool, lt_str, lt_nil, lt_empty, lt_agg, lt_tup, lt_list, lt_cells, lt_fn, lt_nilp, lt_nilfn, lt_nili, List.mem_cons, List.not_mem_nil, or_false, forall_eq_or_imp, forall_eq, and_true, true_and, and_self, implies_true, *]; try omega)); (try simp only [tupOf, push_cast, Nat.reduceEqDiff, Nat.reduceAdd, Nat.reduceMul, Nat.reduceLeDiff, Nat.reduceLT, reduceIte, reduceCtorEq, Nat.reduceShiftRight, Nat.reduceAnd, Nat.reducePow, Nat.reduceOr, Nat.reduceBNe, Nat.reduceBEq, Int.reduceToNat, Int.reduceLT, Int.reduceLE, Int.reduceGT, Int.reduceGE, Int.reduceEq, Int.reduceNe, Int.reduceNeg, Int.reduceAdd, Int.reduceSub, Int.reduceMul, EE_P]))
  all_goals (unfold redN redD redE; simp only [hi])
  all_goals (first | (rw [if_pos (by omega), if_pos (by omega), if_pos (by omega)]) | (rw [if_neg (by omega), if_neg (by omega), if_neg (by omega)]))
theorem refadd_fn (f g : Frac) : Pure EE 28 [f.pv, g.pv] (.tup [(fadd f g).pv, .int .i64 (faddErr f g)]) := by
  by_cases hr : FV f.n f.d ∧ FV g.n g.d
  · have m1 := fv_mul hr.1 hr.2
    have m2 := fv_mul hr.2 hr.1
    obtain ⟨hr1, hr2⟩ := id hr
    obtain ⟨p1, p2, p3, p4, _⟩ := id hr1
    obtain ⟨q1, q2, q3, q4, _⟩ := id hr2
    have b1 := Int.mul_le_mul_of_nonneg_right (c := g.d) p4 (by omega)
    have b2 := Int.mul_le_mul_of_nonneg_right (c := g.d) p3 (by omega)
    have b3 := Int.mul_le_mul_of_nonneg_right (c := f.d) q4 (by omega)
    have b4 := Int.mul_le_mul_of_nonneg_right (c := f.d) q3 (by omega)
    have b5 := Int.mul_le_mul_of_nonneg_right (c := g.d) p2 (by omega)
    have b6 := Int.mul_pos (show 0 < f.d by omega) (show 0 < g.d by omega)
    have w1 := wrap_small m1.1 m1.2
    have w2 := wrap_small m2.1 m2.2
    have w3 : IntKind.i64.wrap (f.n * g.d + g.n * f.d) = f.n * g.d + g.n * f.d := wrap_small (by omega) (by omega)
    have w4 : IntKind.i64.wrap (f.d * g.d) = f.d * g.d := wrap_small (by omega) (by omega)
    have hred := refreduce_fn (a := f.n * g.d + g.n * f.d) (b := f.d * g.d) (by omega) (by omega) b6 (by omega)
    unfold fracP at hred
    intro σ nx
    refine fn_of_body goodEE (by rw [EE_P]; exact Tryz.func28) rfl rfl (by kernel_rfl) (Nat.le_of_ble_eq_true rfl) (Nat.le_refl _) fun hwf hlt => ?_
    rw [show Tryz.f28.results.toList = [.cell 4 27, .tmp 5] from rfl]
    refine awp_begin _ _ _ _ _ (cc := _) (by conv => lhs; simp only [push_cast, Nat.reduceEqDiff, Nat.reduceAdd, Nat.reduceMul, Nat.reduceLeDiff, Nat.reduceLT, reduceIte, reduceCtorEq, Nat.reduceShiftRight, Nat.reduceAnd, Nat.reducePow, Nat.reduceOr, Nat.reduceBNe, Nat.reduceBEq, Int.reduceToNat, Int.reduceLT, Int.reduceLE, Int.reduceGT, Int.reduceGE, Int.reduceEq, Int.reduceNe, Int.reduceNeg, Int.reduceAdd, Int.reduceSub, Int.reduceMul, Tryz.f28]) ?_
    simp only [push_cast, Nat.reduceEqDiff, Nat.reduceAdd, Nat.reduceMul, Nat.reduceLeDiff, Nat.reduceLT, reduceIte, reduceCtorEq, Nat.reduceShiftRight, Nat.reduceAnd, Nat.reducePow, Nat.reduceOr, Nat.reduceBNe, Nat.reduceBEq, Int.reduceToNat, Int.reduceLT, Int.reduceLE, Int.reduceGT, Int.reduceGE, Int.reduceEq, Int.reduceNe, Int.reduceNeg, Int.reduceAdd, Int.reduceSub, Int.reduceMul, EE_P]
    repeat' (first | simp only [push_cast, Nat.reduceEqDiff, Nat.reduceAdd, Nat.reduceMul, Nat.reduceLeDiff, Nat.reduceLT, reduceIte, reduceCtorEq, Nat.reduceShiftRight, Nat.reduceAnd, Nat.reducePow, Nat.reduceOr, Nat.reduceBNe, Nat.reduceBEq, Int.reduceToNat, Int.reduceLT, Int.reduceLE, Int.reduceGT, Int.reduceGE, Int.reduceEq, Int.reduceNe, Int.reduceNeg, Int.reduceAdd, Int.reduceSub, Int.reduceMul, EE_P, hr1, hr2, w1, w2, w3, w4] | simp (disch := omega) only [wrap_fits] | ((first | with_reducible apply wcall_pure | with_reducible apply wdcall_pure); focus (first | assumption | exact awake_fn | exact equal_fn (by simp) (by simp) | exact awake1_fn _ | exact few_fn (by assumption) (by omega) | exact refcompare_fn ⟨_, _⟩ ⟨_, _⟩ | exact refvalid_fn ⟨_, _⟩ | exact explain_fn _ (by assumption) (by omega) | exact valid_credit_fn _ (by assumption) (by omega) | exact sum_fn (by assumption) (by omega) | exact all_fn (by assumption) (by omega) | exact pointsText_fn _ | exact cutPrefix_fn _ _ | exact cutPrefix1_fn _ _ | exact hasPrefix_fn _ _ | exact format_fn ⟨_, _⟩ | exact itoa_fn (by omega) (by omega) | exact steps_fn _ | exact choosef_fn _ _ | exact wrong_fn _ | exact right_fn _ | exact isName_fn _ | exact formatExpr_name _ | exact format_name _ | exact right_name _ | exact depth_name _ | exact name_fn _ | exact run_fn _ (by omega) _ [] [] _ (fun b _ _ => inName_fn b) | exact keywords_fn | exact contains_fn kwS (by decide) _ | exact inName_fn _ | exact digit_fn _ | exact letter_fn _ | exact hundredths_fn goodEE EE_P _ _ | exact mul_fn goodEE EE_P _ _ _ _ | exact sub_fn goodEE EE_P _ _ _ _ | exact add_fn goodEE EE_P _ _ _ _ | exact weight_fn goodEE EE_P EE_zero _ _ _ _ _ _ _ | exact less_fn goodEE EE_P _ _ _ _ | exact compare_fn goodEE EE_P _ _ _ _ | exact cmp_fn goodEE EE_P _ _ | exact isNaN_fn goodEE EE_P _ | exact valid_fn goodEE EE_P _ _ | exact abs_fn goodEE EE_P (by omega) (by omega))) | (with_reducible refine wguard_split_t (fun h => ?_) (fun h => ?_)) | (with_reducible refine wguard_split_f (fun h => ?_) (fun h => ?_)) | (with_reducible refine wcond_split (fun h => ?_) (fun h => ?_)) | (with_reducible refine wdguard_split_t (fun h => ?_) (fun h => ?_)) | (with_reducible refine wdguard_split_f (fun h => ?_) (fun h => ?_)) | (with_reducible refine And.intro (fun h => ?_) (fun h => ?_)) | (with_reducible apply And.intro; focus omega))
    all_goals ((refine ends_ret (by simp only [resultsOf, resOf, push_cast, Nat.reduceEqDiff, Nat.reduceAdd, Nat.reduceMul, Nat.reduceLeDiff, Nat.reduceLT, reduceIte, reduceCtorEq, Nat.reduceShiftRight, Nat.reduceAnd, Nat.reducePow, Nat.reduceOr, Nat.reduceBNe, Nat.reduceBEq, Int.reduceToNat, Int.reduceLT, Int.reduceLE, Int.reduceGT, Int.reduceGE, Int.reduceEq, Int.reduceNe, Int.reduceNeg, Int.reduceAdd, Int.reduceSub, Int.reduceMul, EE_P]; rfl) (by simp only [push_cast, Nat.reduceEqDiff, Nat.reduceAdd, Nat.reduceMul, Nat.reduceLeDiff, Nat.reduceLT, reduceIte, reduceCtorEq, Nat.reduceShiftRight, Nat.reduceAnd, Nat.reducePow, Nat.reduceOr, Nat.reduceBNe, Nat.reduceBEq, Int.reduceToNat, Int.reduceLT, Int.reduceLE, Int.reduceGT, Int.reduceGE, Int.reduceEq, Int.reduceNe, Int.reduceNeg, Int.reduceAdd, Int.reduceSub, Int.reduceMul, EE_P]) ?_ (by repeat' (first | exact Keeps.refl _ | assumption | exact (hwf.keep1 _) | refine Keeps.new hwf ?_ (by omega) _)) (by simp only [lt_int, lt_bool, lt_str, lt_nil, lt_empty, lt_agg, lt_tup, lt_list, lt_cells, lt_fn, lt_nilp, lt_nilfn, lt_nili, List.mem_cons, List.not_mem_nil, or_false, forall_eq_or_imp, forall_eq, and_true, true_and, and_self, implies_true, *]; try omega)); (try simp only [tupOf, push_cast, Nat.reduceEqDiff, Nat.reduceAdd, Nat.reduceMul, Nat.reduceLeDiff, Nat.reduceLT, reduceIte, reduceCtorEq, Nat.reduceShiftRight, Nat.reduceAnd, Nat.reducePow, Nat.reduceOr, Nat.reduceBNe, Nat.reduceBEq, Int.reduceToNat, Int.reduceLT, Int.reduceLE, Int.reduceGT, Int.reduceGE, Int.reduceEq, Int.reduceNe, Int.reduceNeg, Int.reduceAdd, Int.reduceSub, Int.reduceMul, EE_P]))
    all_goals (unfold fadd faddErr faddN faddD faddE; rw [if_pos hr, if_pos hr, if_pos hr])
  · intro σ nx
    refine fn_of_body goodEE (by rw [EE_P]; exact Tryz.func28) rfl rfl (by kernel_rfl) (Nat.le_of_ble_eq_true rfl) (Nat.le_refl _) fun hwf hlt => ?_
    rw [show Tryz.f28.results.toList = [.cell 4 27, .tmp 5] from rfl]
    refine awp_begin _ _ _ _ _ (cc := _) (by conv => lhs; simp only [push_cast, Nat.reduceEqDiff, Nat.reduceAdd, Nat.reduceMul, Nat.reduceLeDiff, Nat.reduceLT, reduceIte, reduceCtorEq, Nat.reduceShiftRight, Nat.reduceAnd, Nat.reducePow, Nat.reduceOr, Nat.reduceBNe, Nat.reduceBEq, Int.reduceToNat, Int.reduceLT, Int.reduceLE, Int.reduceGT, Int.reduceGE, Int.reduceEq, Int.reduceNe, Int.reduceNeg, Int.reduceAdd, Int.reduceSub, Int.reduceMul, Tryz.f28]) ?_
    simp only [push_cast, Nat.reduceEqDiff, Nat.reduceAdd, Nat.reduceMul, Nat.reduceLeDiff, Nat.reduceLT, reduceIte, reduceCtorEq, Nat.reduceShiftRight, Nat.reduceAnd, Nat.reducePow, Nat.reduceOr, Nat.reduceBNe, Nat.reduceBEq, Int.reduceToNat, Int.reduceLT, Int.reduceLE, Int.reduceGT, Int.reduceGE, Int.reduceEq, Int.reduceNe, Int.reduceNeg, Int.reduceAdd, Int.reduceSub, Int.reduceMul, EE_P]
    repeat' (first | simp only [push_cast, Nat.reduceEqDiff, Nat.reduceAdd, Nat.reduceMul, Nat.reduceLeDiff, Nat.reduceLT, reduceIte, reduceCtorEq, Nat.reduceShiftRight, Nat.reduceAnd, Nat.reducePow, Nat.reduceOr, Nat.reduceBNe, Nat.reduceBEq, Int.reduceToNat, Int.reduceLT, Int.reduceLE, Int.reduceGT, Int.reduceGE, Int.reduceEq, Int.reduceNe, Int.reduceNeg, Int.reduceAdd, Int.reduceSub, Int.reduceMul, EE_P] | simp (disch := omega) only [wrap_fits] | ((first | with_reducible apply wcall_pure | with_reducible apply wdcall_pure); focus (first | assumption | exact awake_fn | exact equal_fn (by simp) (by simp) | exact awake1_fn _ | exact few_fn (by assumption) (by omega) | exact refcompare_fn ⟨_, _⟩ ⟨_, _⟩ | exact refvalid_fn ⟨_, _⟩ | exact explain_fn _ (by assumption) (by omega) | exact valid_credit_fn _ (by assumption) (by omega) | exact sum_fn (by assumption) (by omega) | exact all_fn (by assumption) (by omega) | exact pointsText_fn _ | exact cutPrefix_fn _ _ | exact cutPrefix1_fn _ _ | exact hasPrefix_fn _ _ | exact format_fn ⟨_, _⟩ | exact itoa_fn (by omega) (by omega) | exact steps_fn _ | exact choosef_fn _ _ | exact wrong_fn _ | exact right_fn _ | exact isName_fn _ | exact formatExpr_name _ | exact format_name _ | exact right_name _ | exact depth_name _ | exact name_fn _ | exact run_fn _ (by omega) _ [] [] _ (fun b _ _ => inName_fn b) | exact keywords_fn | exact contains_fn kwS (by decide) _ | exact inName_fn _ | exact digit_fn _ | exact letter_fn _ | exact hundredths_fn goodEE EE_P _ _ | exact mul_fn goodEE EE_P _ _ _ _ | exact sub_fn goodEE EE_P _ _ _ _ | exact add_fn goodEE EE_P _ _ _ _ | exact weight_fn goodEE EE_P EE_zero _ _ _ _ _ _ _ | exact less_fn goodEE EE_P _ _ _ _ | exact compare_fn goodEE EE_P _ _ _ _ | exact cmp_fn goodEE EE_P _ _ | exact isNaN_fn goodEE EE_P _ | exact valid_fn goodEE EE_P _ _ | exact abs_fn goodEE EE_P (by omega) (by omega))) | (with_reducible refine wguard_split_t (fun h => ?_) (fun h => ?_)) | (with_reducible refine wguard_split_f (fun h => ?_) (fun h => ?_)) | (with_reducible refine wcond_split (fun h => ?_) (fun h => ?_)) | (with_reducible refine wdguard_split_t (fun h => ?_) (fun h => ?_)) | (with_reducible refine wdguard_split_f (fun h => ?_) (fun h => ?_)) | (with_reducible refine And.intro (fun h => ?_) (fun h => ?_)) | (with_reducible apply And.intro; focus omega))
    all_goals (try (exfalso; exact hr ⟨by assumption, by assumption⟩))
    all_goals ((refine ends_ret (by simp only [resultsOf, resOf, push_cast, Nat.reduceEqDiff, Nat.reduceAdd, Nat.reduceMul, Nat.reduceLeDiff, Nat.reduceLT, reduceIte, reduceCtorEq, Nat.reduceShiftRight, Nat.reduceAnd, Nat.reducePow, Nat.reduceOr, Nat.reduceBNe, Nat.reduceBEq, Int.reduceToNat, Int.reduceLT, Int.reduceLE, Int.reduceGT, Int.reduceGE, Int.reduceEq, Int.reduceNe, Int.reduceNeg, Int.reduceAdd, Int.reduceSub, Int.reduceMul, EE_P]; rfl) (by simp only [push_cast, Nat.reduceEqDiff, Nat.reduceAdd, Nat.reduceMul, Nat.reduceLeDiff, Nat.reduceLT, reduceIte, reduceCtorEq, Nat.reduceShiftRight, Nat.reduceAnd, Nat.reducePow, Nat.reduceOr, Nat.reduceBNe, Nat.reduceBEq, Int.reduceToNat, Int.reduceLT, Int.reduceLE, Int.reduceGT, Int.reduceGE, Int.reduceEq, Int.reduceNe, Int.reduceNeg, Int.reduceAdd, Int.reduceSub, Int.reduceMul, EE_P]) ?_ (by repeat' (first | exact Keeps.refl _ | assumption | exact (hwf.keep1 _) | refine Keeps.new hwf ?_ (by omega) _)) (by simp only [lt_int, lt_bool, lt_str, lt_nil, lt_empty, lt_agg, lt_tup, lt_list, lt_cells, lt_fn, lt_nilp, lt_nilfn, lt_nili, List.mem_cons, List.not_mem_nil, or_false, forall_eq_or_imp, forall_eq, and_true, true_and, and_self, implies_true, *]; try omega)); (try simp only [tupOf, push_cast, Nat.reduceEqDiff, Nat.reduceAdd, Nat.reduceMul, Nat.reduceLeDiff, Nat.reduceLT, reduceIte, reduceCtorEq, Nat.reduceShiftRight, Nat.reduceAnd, Nat.reducePow, Nat.reduceOr, Nat.reduceBNe, Nat.reduceBEq, Int.reduceToNat, Int.reduceLT, Int.reduceLE, Int.reduceGT, Int.reduceGE, Int.reduceEq, Int.reduceNe, Int.reduceNeg, Int.reduceAdd, Int.reduceSub, Int.reduceMul, EE_P]))
    all_goals (unfold fadd faddErr faddN faddD faddE; simp_all)

theorem parts3' (ps : List Part) : ∀ c ∈ ps.map Part.cs, c.length = 3 ∧ ones c = true := fun c hc => by
  obtain ⟨l, _, rfl⟩ := List.mem_map.1 hc
  exact ⟨rfl, rfl⟩
theorem clonep_nil : Pure EE 45 [.nil] .nil := by
  intro σ nx
  refine fn_of_body goodEE (by rw [EE_P]; exact Tryz.func45) rfl rfl (by kernel_rfl) (Nat.le_of_ble_eq_true rfl) (Nat.le_refl _) fun hwf hlt => ?_
  rw [show Tryz.f45.results.toList = [.tmp 2] from rfl]
  refine awp_begin _ _ _ _ _ (cc := _) (by conv => lhs; simp only [push_cast, Nat.reduceEqDiff, Nat.reduceAdd, Nat.reduceMul, Nat.reduceLeDiff, Nat.reduceLT, reduceIte, reduceCtorEq, Nat.reduceShiftRight, Nat.reduceAnd, Nat.reducePow, Nat.reduceOr, Nat.reduceBNe, Nat.reduceBEq, Int.reduceToNat, Int.reduceLT, Int.reduceLE, Int.reduceGT, Int.reduceGE, Int.reduceEq, Int.reduceNe, Int.reduceNeg, Int.reduceAdd, Int.reduceSub, Int.reduceMul, Tryz.f45]) ?_
  simp only [push_cast, Nat.reduceEqDiff, Nat.reduceAdd, Nat.reduceMul, Nat.reduceLeDiff, Nat.reduceLT, reduceIte, reduceCtorEq, Nat.reduceShiftRight, Nat.reduceAnd, Nat.reducePow, Nat.reduceOr, Nat.reduceBNe, Nat.reduceBEq, Int.reduceToNat, Int.reduceLT, Int.reduceLE, Int.reduceGT, Int.reduceGE, Int.reduceEq, Int.reduceNe, Int.reduceNeg, Int.reduceAdd, Int.reduceSub, Int.reduceMul, EE_P]
  repeat' (first | simp only [push_cast, Nat.reduceEqDiff, Nat.reduceAdd, Nat.reduceMul, Nat.reduceLeDiff, Nat.reduceLT, reduceIte, reduceCtorEq, Nat.reduceShiftRight, Nat.reduceAnd, Nat.reducePow, Nat.reduceOr, Nat.reduceBNe, Nat.reduceBEq, Int.reduceToNat, Int.reduceLT, Int.reduceLE, Int.reduceGT, Int.reduceGE, Int.reduceEq, Int.reduceNe, Int.reduceNeg, Int.reduceAdd, Int.reduceSub, Int.reduceMul, EE_P] | simp (disch := omega) only [wrap_fits] | ((first | with_reducible apply wcall_pure | with_reducible apply wdcall_pure); focus (first | assumption | exact refadd_fn ⟨_, _⟩ ⟨_, _⟩ | exact awake_fn | exact equal_fn (by simp) (by simp) | exact awake1_fn _ | exact few_fn (by assumption) (by omega) | exact refcompare_fn ⟨_, _⟩ ⟨_, _⟩ | exact refvalid_fn ⟨_, _⟩ | exact explain_fn _ (by assumption) (by omega) | exact valid_credit_fn _ (by assumption) (by omega) | exact sum_fn (by assumption) (by omega) | exact all_fn (by assumption) (by omega) | exact pointsText_fn _ | exact cutPrefix_fn _ _ | exact cutPrefix1_fn _ _ | exact hasPrefix_fn _ _ | exact format_fn ⟨_, _⟩ | exact itoa_fn (by omega) (by omega) | exact steps_fn _ | exact choosef_fn _ _ | exact wrong_fn _ | exact right_fn _ | exact isName_fn _ | exact formatExpr_name _ | exact format_name _ | exact right_name _ | exact depth_name _ | exact name_fn _ | exact run_fn _ (by omega) _ [] [] _ (fun b _ _ => inName_fn b) | exact keywords_fn | exact contains_fn kwS (by decide) _ | exact inName_fn _ | exact digit_fn _ | exact letter_fn _ | exact hundredths_fn goodEE EE_P _ _ | exact mul_fn goodEE EE_P _ _ _ _ | exact sub_fn goodEE EE_P _ _ _ _ | exact add_fn goodEE EE_P _ _ _ _ | exact weight_fn goodEE EE_P EE_zero _ _ _ _ _ _ _ | exact less_fn goodEE EE_P _ _ _ _ | exact compare_fn goodEE EE_P _ _ _ _ | exact cmp_fn goodEE EE_P _ _ | exact isNaN_fn goodEE EE_P _ | exact valid_fn goodEE EE_P _ _ | exact abs_fn goodEE EE_P (by omega) (by omega))) | (with_reducible refine wguard_split_t (fun h => ?_) (fun h => ?_)) | (with_reducible refine wguard_split_f (fun h => ?_) (fun h => ?_)) | (with_reducible refine wcond_split (fun h => ?_) (fun h => ?_)) | (with_reducible refine wdguard_split_t (fun h => ?_) (fun h => ?_)) | (with_reducible refine wdguard_split_f (fun h => ?_) (fun h => ?_)) | (with_reducible refine And.intro (fun h => ?_) (fun h => ?_)) | (with_reducible apply And.intro; focus omega))
  all_goals ((refine ends_ret (by simp only [resultsOf, resOf, push_cast, Nat.reduceEqDiff, Nat.reduceAdd, Nat.reduceMul, Nat.reduceLeDiff, Nat.reduceLT, reduceIte, reduceCtorEq, Nat.reduceShiftRight, Nat.reduceAnd, Nat.reducePow, Nat.reduceOr, Nat.reduceBNe, Nat.reduceBEq, Int.reduceToNat, Int.reduceLT, Int.reduceLE, Int.reduceGT, Int.reduceGE, Int.reduceEq, Int.reduceNe, Int.reduceNeg, Int.reduceAdd, Int.reduceSub, Int.reduceMul, EE_P]; rfl) (by simp only [push_cast, Nat.reduceEqDiff, Nat.reduceAdd, Nat.reduceMul, Nat.reduceLeDiff, Nat.reduceLT, reduceIte, reduceCtorEq, Nat.reduceShiftRight, Nat.reduceAnd, Nat.reducePow, Nat.reduceOr, Nat.reduceBNe, Nat.reduceBEq, Int.reduceToNat, Int.reduceLT, Int.reduceLE, Int.reduceGT, Int.reduceGE, Int.reduceEq, Int.reduceNe, Int.reduceNeg, Int.reduceAdd, Int.reduceSub, Int.reduceMul, EE_P]) ?_ (by repeat' (first | exact Keeps.refl _ | assumption | exact (hwf.keep1 _) | refine Keeps.new hwf ?_ (by omega) _)) (by simp only [lt_int, lt_bool, lt_str, lt_nil, lt_empty, lt_agg, lt_tup, lt_list, lt_cells, lt_fn, lt_nilp, lt_nilfn, lt_nili, List.mem_cons, List.not_mem_nil, or_false, forall_eq_or_imp, forall_eq, and_true, true_and, and_self, implies_true, *]; try omega)); (try simp only [tupOf, push_cast, Nat.reduceEqDiff, Nat.reduceAdd, Nat.reduceMul, Nat.reduceLeDiff, Nat.reduceLT, reduceIte, reduceCtorEq, Nat.reduceShiftRight, Nat.reduceAnd, Nat.reducePow, Nat.reduceOr, Nat.reduceBNe, Nat.reduceBEq, Int.reduceToNat, Int.reduceLT, Int.reduceLE, Int.reduceGT, Int.reduceGE, Int.reduceEq, Int.reduceNe, Int.reduceNeg, Int.reduceAdd, Int.reduceSub, Int.reduceMul, EE_P]))
theorem clonep_fn {σ : Store} {nx : Nat} {ps : List Part} (hn : ps ≠ []) (hl : ps.length ≤ 1000000) : Fn EE 45 σ nx [.list (ps.map Part.cs)] (.ret (.row (nx + 5) 0 ps.length)) (upd σ (nx + 5) (some (.row (ps.map Part.cs)))) (nx + 7) := by
  have h0 : ¬ ps.map Part.cs = [] := by simpa using hn
  refine fn_of_body goodEE (by rw [EE_P]; exact Tryz.func45) rfl rfl (by kernel_rfl) (Nat.le_of_ble_eq_true rfl) ?_ fun hwf hlt => ?_
  rotate_left
  rw [show Tryz.f45.results.toList = [.tmp 2] from rfl]
  refine awp_begin _ _ _ _ _ (cc := _) (by conv => lhs; simp only [push_cast, Nat.reduceEqDiff, Nat.reduceAdd, Nat.reduceMul, Nat.reduceLeDiff, Nat.reduceLT, reduceIte, reduceCtorEq, Nat.reduceShiftRight, Nat.reduceAnd, Nat.reducePow, Nat.reduceOr, Nat.reduceBNe, Nat.reduceBEq, Int.reduceToNat, Int.reduceLT, Int.reduceLE, Int.reduceGT, Int.reduceGE, Int.reduceEq, Int.reduceNe, Int.reduceNeg, Int.reduceAdd, Int.reduceSub, Int.reduceMul, Tryz.f45]) ?_
  simp only [push_cast, Nat.reduceEqDiff, Nat.reduceAdd, Nat.reduceMul, Nat.reduceLeDiff, Nat.reduceLT, reduceIte, reduceCtorEq, Nat.reduceShiftRight, Nat.reduceAnd, Nat.reducePow, Nat.reduceOr, Nat.reduceBNe, Nat.reduceBEq, Int.reduceToNat, Int.reduceLT, Int.reduceLE, Int.reduceGT, Int.reduceGE, Int.reduceEq, Int.reduceNe, Int.reduceNeg, Int.reduceAdd, Int.reduceSub, Int.reduceMul, EE_P]
  · repeat' (first | simp only [push_cast, Nat.reduceEqDiff, Nat.reduceAdd, Nat.reduceMul, Nat.reduceLeDiff, Nat.reduceLT, reduceIte, reduceCtorEq, Nat.reduceShiftRight, Nat.reduceAnd, Nat.reducePow, Nat.reduceOr, Nat.reduceBNe, Nat.reduceBEq, Int.reduceToNat, Int.reduceLT, Int.reduceLE, Int.reduceGT, Int.reduceGE, Int.reduceEq, Int.reduceNe, Int.reduceNeg, Int.reduceAdd, Int.reduceSub, Int.reduceMul, EE_P, List.length_map] | simp (disch := omega) only [wrap_fits] | ((first | with_reducible apply wcall_pure | with_reducible apply wdcall_pure); focus (first | assumption | exact refadd_fn ⟨_, _⟩ ⟨_, _⟩ | exact awake_fn | exact equal_fn (by simp) (by simp) | exact awake1_fn _ | exact few_fn (by assumption) (by omega) | exact refcompare_fn ⟨_, _⟩ ⟨_, _⟩ | exact refvalid_fn ⟨_, _⟩ | exact explain_fn _ (by assumption) (by omega) | exact valid_credit_fn _ (by assumption) (by omega) | exact sum_fn (by assumption) (by omega) | exact all_fn (by assumption) (by omega) | exact pointsText_fn _ | exact cutPrefix_fn _ _ | exact cutPrefix1_fn _ _ | exact hasPrefix_fn _ _ | exact format_fn ⟨_, _⟩ | exact itoa_fn (by omega) (by omega) | exact steps_fn _ | exact choosef_fn _ _ | exact wrong_fn _ | exact right_fn _ | exact isName_fn _ | exact formatExpr_name _ | exact format_name _ | exact right_name _ | exact depth_name _ | exact name_fn _ | exact run_fn _ (by omega) _ [] [] _ (fun b _ _ => inName_fn b) | exact keywords_fn | exact contains_fn kwS (by decide) _ | exact inName_fn _ | exact digit_fn _ | exact letter_fn _ | exact hundredths_fn goodEE EE_P _ _ | exact mul_fn goodEE EE_P _ _ _ _ | exact sub_fn goodEE EE_P _ _ _ _ | exact add_fn goodEE EE_P _ _ _ _ | exact weight_fn goodEE EE_P EE_zero _ _ _ _ _ _ _ | exact less_fn goodEE EE_P _ _ _ _ | exact compare_fn goodEE EE_P _ _ _ _ | exact cmp_fn goodEE EE_P _ _ | exact isNaN_fn goodEE EE_P _ | exact valid_fn goodEE EE_P _ _ | exact abs_fn goodEE EE_P (by omega) (by omega))) | (with_reducible refine wguard_split_t (fun h => ?_) (fun h => ?_)) | (with_reducible refine wguard_split_f (fun h => ?_) (fun h => ?_)) | (with_reducible refine wcond_split (fun h => ?_) (fun h => ?_)) | (with_reducible refine wdguard_split_t (fun h => ?_) (fun h => ?_)) | (with_reducible refine wdguard_split_f (fun h => ?_) (fun h => ?_)) | (with_reducible refine And.intro (fun h => ?_) (fun h => ?_)) | (with_reducible apply And.intro; focus omega))
    have hs : upd (upd (upd σ (nx + 3) (some (.row []))) (nx + 3) none) (nx + 5) (some (.row (ps.map Part.cs))) = upd σ (nx + 5) (some (.row (ps.map Part.cs))) := by
      funext j
      by_cases h5 : j = nx + 5
      · subst h5; rw [upd_same, upd_same]
      · rw [upd_other _ _ h5, upd_other _ _ h5]
        by_cases h3 : j = nx + 3
        · subst h3; rw [upd_same]; exact (hwf.none (by omega)).symm
        · rw [upd_other _ _ h3, upd_other _ _ h3]
    refine ⟨⟨by simp only [roomFor, push_cast, Nat.reduceEqDiff, Nat.reduceAdd, Nat.reduceMul, Nat.reduceLeDiff, Nat.reduceLT, reduceIte, reduceCtorEq, Nat.reduceShiftRight, Nat.reduceAnd, Nat.reducePow, Nat.reduceOr, Nat.reduceBNe, Nat.reduceBEq, Int.reduceToNat, Int.reduceLT, Int.reduceLE, Int.reduceGT, Int.reduceGE, Int.reduceEq, Int.reduceNe, Int.reduceNeg, Int.reduceAdd, Int.reduceSub, Int.reduceMul]; omega, fun c hc => parts3' ps c hc⟩, ?_⟩
    rw [hs]
    refine ends_of trivial (by simp only [resultsOf, resOf, push_cast, Nat.reduceEqDiff, Nat.reduceAdd, Nat.reduceMul, Nat.reduceLeDiff, Nat.reduceLT, reduceIte, reduceCtorEq, Nat.reduceShiftRight, Nat.reduceAnd, Nat.reducePow, Nat.reduceOr, Nat.reduceBNe, Nat.reduceBEq, Int.reduceToNat, Int.reduceLT, Int.reduceLE, Int.reduceGT, Int.reduceGE, Int.reduceEq, Int.reduceNe, Int.reduceNeg, Int.reduceAdd, Int.reduceSub, Int.reduceMul, EE_P]; rfl) (by first | exact ⟨trivial, trivial⟩ | simp only [push_cast, Nat.reduceEqDiff, Nat.reduceAdd, Nat.reduceMul, Nat.reduceLeDiff, Nat.reduceLT, reduceIte, reduceCtorEq, Nat.reduceShiftRight, Nat.reduceAnd, Nat.reducePow, Nat.reduceOr, Nat.reduceBNe, Nat.reduceBEq, Int.reduceToNat, Int.reduceLT, Int.reduceLE, Int.reduceGT, Int.reduceGE, Int.reduceEq, Int.reduceNe, Int.reduceNeg, Int.reduceAdd, Int.reduceSub, Int.reduceMul, and_self]) ?_
    have hw2 : Wf (upd σ (nx + 5) (some (.row (ps.map Part.cs)))) (nx + 7) := hwf.set (by omega) (by omega) fun o e => by cases e; exact objlt_parts ps
    exact leaves_all (by omega) hw2 (.row _ _ _ (by omega))
  · omega

/-! ### Scale -/
def fmulS (a b : Frac) : Frac := ⟨fmulN a.n a.d b.n b.d, fmulD a.n a.d b.n b.d⟩
def fmulErr (a b : Frac) : Int := fmulE a.n a.d b.n b.d
def scaleBad (c : Credit) (name : ByteArray) (f : Frac) : Prop := validS c = false ∨ c.parts.length ≥ 1024 ∨ nameS name = false ∨ ¬ FV f.n f.d ∨ lessS f ⟨0, 1⟩ = true ∨ lessS ⟨1, 1⟩ f = true
instance (c : Credit) (name : ByteArray) (f : Frac) : Decidable (scaleBad c name f) := by unfold scaleBad; infer_instance
def scaleS (c : Credit) (name : ByteArray) (f : Frac) : Credit × Int := if scaleBad c name f then (zeroCredit, 1) else finishS (becomeS ⟨c.parts, c.pts, c.hund, false⟩ name (fmulS c.pts f) (fmulErr c.pts f))
theorem scale_bad {c : Credit} {v : PV} (hv : SliceP (c.parts.map Part.cs) v) (hl : c.parts.length ≤ 1000000) (name : ByteArray) (f : Frac) (hb : scaleBad c name f) : Pure EE 22 [c.pv v, .str name, f.pv] (.tup [zeroCredit.val, .int .i64 1]) := by
  have hvl := hv.len
  simp only [List.length_map] at hvl
  have hval := valid_credit_fn c hv hl
  unfold scaleBad lessS at hb
  intro σ nx
  refine fn_of_body goodEE (by rw [EE_P]; exact Tryz.func22) rfl rfl (by kernel_rfl) (Nat.le_of_ble_eq_true rfl) (Nat.le_refl _) fun hwf hlt => ?_
  rw [show Tryz.f22.results.toList = [.cell 6 29, .tmp 7] from rfl]
  refine awp_begin _ _ _ _ _ (cc := _) (by conv => lhs; simp only [push_cast, Nat.reduceEqDiff, Nat.reduceAdd, Nat.reduceMul, Nat.reduceLeDiff, Nat.reduceLT, reduceIte, reduceCtorEq, Nat.reduceShiftRight, Nat.reduceAnd, Nat.reducePow, Nat.reduceOr, Nat.reduceBNe, Nat.reduceBEq, Int.reduceToNat, Int.reduceLT, Int.reduceLE, Int.reduceGT, Int.reduceGE, Int.reduceEq, Int.reduceNe, Int.reduceNeg, Int.reduceAdd, Int.reduceSub, Int.reduceMul, Tryz.f22]) ?_
  simp only [push_cast, Nat.reduceEqDiff, Nat.reduceAdd, Nat.reduceMul, Nat.reduceLeDiff, Nat.reduceLT, reduceIte, reduceCtorEq, Nat.reduceShiftRight, Nat.reduceAnd, Nat.reducePow, Nat.reduceOr, Nat.reduceBNe, Nat.reduceBEq, Int.reduceToNat, Int.reduceLT, Int.reduceLE, Int.reduceGT, Int.reduceGE, Int.reduceEq, Int.reduceNe, Int.reduceNeg, Int.reduceAdd, Int.reduceSub, Int.reduceMul, EE_P]
  have hzl := credit_lt nx zeroCredit
  repeat' (first | simp only [push_cast, Nat.reduceEqDiff, Nat.reduceAdd, Nat.reduceMul, Nat.reduceLeDiff, Nat.reduceLT, reduceIte, reduceCtorEq, Nat.reduceShiftRight, Nat.reduceAnd, Nat.reducePow, Nat.reduceOr, Nat.reduceBNe, Nat.reduceBEq, Int.reduceToNat, Int.reduceLT, Int.reduceLE, Int.reduceGT, Int.reduceGE, Int.reduceEq, Int.reduceNe, Int.reduceNeg, Int.reduceAdd, Int.reduceSub, Int.reduceMul, EE_P, hvl, hv.str, hv.one, hv.cells, EE_zero] | simp (disch := omega) only [wrap_fits] | ((first | with_reducible apply wcall_pure | with_reducible apply wdcall_pure); focus (first | assumption | exact refadd_fn ⟨_, _⟩ ⟨_, _⟩ | exact awake_fn | exact equal_fn (by simp) (by simp) | exact awake1_fn _ | exact few_fn (by assumption) (by omega) | exact refcompare_fn ⟨_, _⟩ ⟨_, _⟩ | exact refvalid_fn ⟨_, _⟩ | exact explain_fn _ (by assumption) (by omega) | exact valid_credit_fn _ (by assumption) (by omega) | exact sum_fn (by assumption) (by omega) | exact all_fn (by assumption) (by omega) | exact pointsText_fn _ | exact cutPrefix_fn _ _ | exact cutPrefix1_fn _ _ | exact hasPrefix_fn _ _ | exact format_fn ⟨_, _⟩ | exact itoa_fn (by omega) (by omega) | exact steps_fn _ | exact choosef_fn _ _ | exact wrong_fn _ | exact right_fn _ | exact isName_fn _ | exact formatExpr_name _ | exact format_name _ | exact right_name _ | exact depth_name _ | exact name_fn _ | exact run_fn _ (by omega) _ [] [] _ (fun b _ _ => inName_fn b) | exact keywords_fn | exact contains_fn kwS (by decide) _ | exact inName_fn _ | exact digit_fn _ | exact letter_fn _ | exact hundredths_fn goodEE EE_P _ _ | exact mul_fn goodEE EE_P _ _ _ _ | exact sub_fn goodEE EE_P _ _ _ _ | exact add_fn goodEE EE_P _ _ _ _ | exact weight_fn goodEE EE_P EE_zero _ _ _ _ _ _ _ | exact less_fn goodEE EE_P _ _ _ _ | exact compare_fn goodEE EE_P _ _ _ _ | exact cmp_fn goodEE EE_P _ _ | exact isNaN_fn goodEE EE_P _ | exact valid_fn goodEE EE_P _ _ | exact abs_fn goodEE EE_P (by omega) (by omega))) | (with_reducible refine wguard_split_t (fun h => ?_) (fun h => ?_)) | (with_reducible refine wguard_split_f (fun h => ?_) (fun h => ?_)) | (with_reducible refine wcond_split (fun h => ?_) (fun h => ?_)) | (with_reducible refine wdguard_split_t (fun h => ?_) (fun h => ?_)) | (with_reducible refine wdguard_split_f (fun h => ?_) (fun h => ?_)) | (with_reducible refine And.intro (fun h => ?_) (fun h => ?_)) | (with_reducible apply And.intro; focus omega))
  all_goals (try (exfalso; simp_all; omega))
  all_goals (try (exfalso; simp_all; done))
  all_goals ((refine ends_ret (by simp only [resultsOf, resOf, push_cast, Nat.reduceEqDiff, Nat.reduceAdd, Nat.reduceMul, Nat.reduceLeDiff, Nat.reduceLT, reduceIte, reduceCtorEq, Nat.reduceShiftRight, Nat.reduceAnd, Nat.reducePow, Nat.reduceOr, Nat.reduceBNe, Nat.reduceBEq, Int.reduceToNat, Int.reduceLT, Int.reduceLE, Int.reduceGT, Int.reduceGE, Int.reduceEq, Int.reduceNe, Int.reduceNeg, Int.reduceAdd, Int.reduceSub, Int.reduceMul, EE_P]; rfl) (by simp only [push_cast, Nat.reduceEqDiff, Nat.reduceAdd, Nat.reduceMul, Nat.reduceLeDiff, Nat.reduceLT, reduceIte, reduceCtorEq, Nat.reduceShiftRight, Nat.reduceAnd, Nat.reducePow, Nat.reduceOr, Nat.reduceBNe, Nat.reduceBEq, Int.reduceToNat, Int.reduceLT, Int.reduceLE, Int.reduceGT, Int.reduceGE, Int.reduceEq, Int.reduceNe, Int.reduceNeg, Int.reduceAdd, Int.reduceSub, Int.reduceMul, EE_P]) ?_ (by repeat' (first | exact Keeps.refl _ | assumption | exact (hwf.keep1 _) | refine Keeps.new hwf ?_ (by omega) _)) (by simp only [lt_int, lt_bool, lt_str, lt_nil, lt_empty, lt_agg, lt_tup, lt_list, lt_cells, lt_fn, lt_nilp, lt_nilfn, lt_nili, List.mem_cons, List.not_mem_nil, or_false, forall_eq_or_imp, forall_eq, and_true, true_and, and_self, implies_true, *]; try omega)); (try simp only [tupOf, push_cast, Nat.reduceEqDiff, Nat.reduceAdd, Nat.reduceMul, Nat.reduceLeDiff, Nat.reduceLT, reduceIte, reduceCtorEq, Nat.reduceShiftRight, Nat.reduceAnd, Nat.reducePow, Nat.reduceOr, Nat.reduceBNe, Nat.reduceBEq, Int.reduceToNat, Int.reduceLT, Int.reduceLE, Int.reduceGT, Int.reduceGE, Int.reduceEq, Int.reduceNe, Int.reduceNeg, Int.reduceAdd, Int.reduceSub, Int.reduceMul, EE_P]))
  all_goals simp [zeroCredit, Credit.val, Credit.pv, partsV]
theorem objlt_credit {n : Nat} {v : PV} {a b d : Int} (h : Lt n v) : ObjLt n (.row [[v, .int .i64 a, .int .i64 b, .int .i64 d]]) := by
  intro cs hcs c hc
  simp only [List.mem_cons, List.not_mem_nil, or_false] at hcs
  subst hcs
  simp only [List.mem_cons, List.not_mem_nil, or_false] at hc
  rcases hc with rfl | rfl | rfl | rfl
  · exact h
  · exact .int _ _
  · exact .int _ _
  · exact .int _ _
theorem scale_keep {σ σ1 σ2 σ3 : Store} {nx nx1 nx2 k : Nat} {o : AObj} (hwf : Wf σ nx) (hs : MkStep σ1 nx1 k σ2 nx2) (hown : ∀ j, Own σ1 k j → nx ≤ j ∧ j ≠ nx + 2) (hkeep : Keeps σ σ1) (hz : σ1 (nx + 2) = some o) (hn : nx + 2 < nx1)
    (hfr : ∀ j, ¬ Own σ2 k j → σ3 j = σ2 j) : σ3 (nx + 2) = some o ∧ Keeps σ σ3 := by
  have key : ∀ j, j < nx1 → ¬ Own σ1 k j → σ3 j = σ1 j := fun j hj ho => (hfr j fun h => ho (hs.own j h hj)).trans (hs.frame j hj ho)
  refine ⟨(key _ hn fun h => (hown _ h).2 rfl).trans hz, fun j o hj => ?_⟩
  have hjn := (hwf j o hj).1
  rw [key j (by omega) fun h => by have := (hown _ h).1; omega]
  exact hkeep j o hj
theorem scale_good {c : Credit} {v : PV} (hv : SliceP (c.parts.map Part.cs) v) (hl : c.parts.length ≤ 1000000) (name : ByteArray) (f : Frac) (hb : ¬ scaleBad c name f) (hvn : c.parts = [] → v = .nil) :
    Pure EE 22 [c.pv v, .str name, f.pv] (.tup [(finishS (becomeS ⟨c.parts, c.pts, c.hund, false⟩ name (fmulS c.pts f) (fmulErr c.pts f))).1.val, .int .i64 (finishS (becomeS ⟨c.parts, c.pts, c.hund, false⟩ name (fmulS c.pts f) (fmulErr c.pts f))).2]) := by
  have hvl := hv.len
  simp only [List.length_map] at hvl
  have hval := valid_credit_fn c hv hl
  have b1 : validS c = true := by cases h : validS c <;> simp_all [scaleBad]
  have b2 : ¬ (c.parts.length : Int) ≥ 1024 := fun h => hb (.inr (.inl (by omega)))
  have b3 : nameS name = true := by cases h : nameS name <;> simp_all [scaleBad]
  have b4 : FV f.n f.d := Decidable.byContradiction fun h => hb (.inr (.inr (.inr (.inl h))))
  have b5 : ¬ flt f.n f.d 0 1 := fun h => hb (.inr (.inr (.inr (.inr (.inl (decide_eq_true h))))))
  have b6 : ¬ flt 1 1 f.n f.d := fun h => hb (.inr (.inr (.inr (.inr (.inr (decide_eq_true h))))))
  rw [b1] at hval
  intro σ nx
  refine fn_of_body goodEE (by rw [EE_P]; exact Tryz.func22) rfl rfl (by kernel_rfl) (Nat.le_of_ble_eq_true rfl) (Nat.le_refl _) fun hwf hlt => ?_
  rw [show Tryz.f22.results.toList = [.cell 6 29, .tmp 7] from rfl]
  refine awp_begin _ _ _ _ _ (cc := _) (by conv => lhs; simp only [push_cast, Nat.reduceEqDiff, Nat.reduceAdd, Nat.reduceMul, Nat.reduceLeDiff, Nat.reduceLT, reduceIte, reduceCtorEq, Nat.reduceShiftRight, Nat.reduceAnd, Nat.reducePow, Nat.reduceOr, Nat.reduceBNe, Nat.reduceBEq, Int.reduceToNat, Int.reduceLT, Int.reduceLE, Int.reduceGT, Int.reduceGE, Int.reduceEq, Int.reduceNe, Int.reduceNeg, Int.reduceAdd, Int.reduceSub, Int.reduceMul, Tryz.f22]) ?_
  simp only [push_cast, Nat.reduceEqDiff, Nat.reduceAdd, Nat.reduceMul, Nat.reduceLeDiff, Nat.reduceLT, reduceIte, reduceCtorEq, Nat.reduceShiftRight, Nat.reduceAnd, Nat.reducePow, Nat.reduceOr, Nat.reduceBNe, Nat.reduceBEq, Int.reduceToNat, Int.reduceLT, Int.reduceLE, Int.reduceGT, Int.reduceGE, Int.reduceEq, Int.reduceNe, Int.reduceNeg, Int.reduceAdd, Int.reduceSub, Int.reduceMul, EE_P]
  repeat' (first | simp only [push_cast, Nat.reduceEqDiff, Nat.reduceAdd, Nat.reduceMul, Nat.reduceLeDiff, Nat.reduceLT, reduceIte, reduceCtorEq, Nat.reduceShiftRight, Nat.reduceAnd, Nat.reducePow, Nat.reduceOr, Nat.reduceBNe, Nat.reduceBEq, Int.reduceToNat, Int.reduceLT, Int.reduceLE, Int.reduceGT, Int.reduceGE, Int.reduceEq, Int.reduceNe, Int.reduceNeg, Int.reduceAdd, Int.reduceSub, Int.reduceMul, EE_P, hvl, hv.str, hv.one, hv.cells, EE_zero, b2, b3, b4, b5, b6, decide_true, decide_false] | simp (disch := omega) only [wrap_fits] | ((first | with_reducible apply wcall_pure | with_reducible apply wdcall_pure); focus (first | assumption | exact refadd_fn ⟨_, _⟩ ⟨_, _⟩ | exact awake_fn | exact equal_fn (by simp) (by simp) | exact awake1_fn _ | exact few_fn (by assumption) (by omega) | exact refcompare_fn ⟨_, _⟩ ⟨_, _⟩ | exact refvalid_fn ⟨_, _⟩ | exact explain_fn _ (by assumption) (by omega) | exact valid_credit_fn _ (by assumption) (by omega) | exact sum_fn (by assumption) (by omega) | exact all_fn (by assumption) (by omega) | exact pointsText_fn _ | exact cutPrefix_fn _ _ | exact cutPrefix1_fn _ _ | exact hasPrefix_fn _ _ | exact format_fn ⟨_, _⟩ | exact itoa_fn (by omega) (by omega) | exact steps_fn _ | exact choosef_fn _ _ | exact wrong_fn _ | exact right_fn _ | exact isName_fn _ | exact formatExpr_name _ | exact format_name _ | exact right_name _ | exact depth_name _ | exact name_fn _ | exact run_fn _ (by omega) _ [] [] _ (fun b _ _ => inName_fn b) | exact keywords_fn | exact contains_fn kwS (by decide) _ | exact inName_fn _ | exact digit_fn _ | exact letter_fn _ | exact hundredths_fn goodEE EE_P _ _ | exact mul_fn goodEE EE_P _ _ _ _ | exact sub_fn goodEE EE_P _ _ _ _ | exact add_fn goodEE EE_P _ _ _ _ | exact weight_fn goodEE EE_P EE_zero _ _ _ _ _ _ _ | exact less_fn goodEE EE_P _ _ _ _ | exact compare_fn goodEE EE_P _ _ _ _ | exact cmp_fn goodEE EE_P _ _ | exact isNaN_fn goodEE EE_P _ | exact valid_fn goodEE EE_P _ _ | exact abs_fn goodEE EE_P (by omega) (by omega))) | (with_reducible refine wguard_split_t (fun h => ?_) (fun h => ?_)) | (with_reducible refine wguard_split_f (fun h => ?_) (fun h => ?_)) | (with_reducible refine wcond_split (fun h => ?_) (fun h => ?_)) | (with_reducible refine wdguard_split_t (fun h => ?_) (fun h => ?_)) | (with_reducible refine wdguard_split_f (fun h => ?_) (fun h => ?_)) | (with_reducible refine And.intro (fun h => ?_) (fun h => ?_)) | (with_reducible apply And.intro; focus omega))
  by_cases hps : c.parts = []
  · obtain rfl := hvn hps
    refine wcall_pure _ _ _ _ _ _ clonep_nil ?_
    repeat' (first | simp only [push_cast, Nat.reduceEqDiff, Nat.reduceAdd, Nat.reduceMul, Nat.reduceLeDiff, Nat.reduceLT, reduceIte, reduceCtorEq, Nat.reduceShiftRight, Nat.reduceAnd, Nat.reducePow, Nat.reduceOr, Nat.reduceBNe, Nat.reduceBEq, Int.reduceToNat, Int.reduceLT, Int.reduceLE, Int.reduceGT, Int.reduceGE, Int.reduceEq, Int.reduceNe, Int.reduceNeg, Int.reduceAdd, Int.reduceSub, Int.reduceMul, EE_P] | simp (disch := omega) only [wrap_fits] | ((first | with_reducible apply wcall_pure | with_reducible apply wdcall_pure); focus (first | assumption | exact refadd_fn ⟨_, _⟩ ⟨_, _⟩ | exact awake_fn | exact equal_fn (by simp) (by simp) | exact awake1_fn _ | exact few_fn (by assumption) (by omega) | exact refcompare_fn ⟨_, _⟩ ⟨_, _⟩ | exact refvalid_fn ⟨_, _⟩ | exact explain_fn _ (by assumption) (by omega) | exact valid_credit_fn _ (by assumption) (by omega) | exact sum_fn (by assumption) (by omega) | exact all_fn (by assumption) (by omega) | exact pointsText_fn _ | exact cutPrefix_fn _ _ | exact cutPrefix1_fn _ _ | exact hasPrefix_fn _ _ | exact format_fn ⟨_, _⟩ | exact itoa_fn (by omega) (by omega) | exact steps_fn _ | exact choosef_fn _ _ | exact wrong_fn _ | exact right_fn _ | exact isName_fn _ | exact formatExpr_name _ | exact format_name _ | exact right_name _ | exact depth_name _ | exact name_fn _ | exact run_fn _ (by omega) _ [] [] _ (fun b _ _ => inName_fn b) | exact keywords_fn | exact contains_fn kwS (by decide) _ | exact inName_fn _ | exact digit_fn _ | exact letter_fn _ | exact hundredths_fn goodEE EE_P _ _ | exact mul_fn goodEE EE_P _ _ _ _ | exact sub_fn goodEE EE_P _ _ _ _ | exact add_fn goodEE EE_P _ _ _ _ | exact weight_fn goodEE EE_P EE_zero _ _ _ _ _ _ _ | exact less_fn goodEE EE_P _ _ _ _ | exact compare_fn goodEE EE_P _ _ _ _ | exact cmp_fn goodEE EE_P _ _ | exact isNaN_fn goodEE EE_P _ | exact valid_fn goodEE EE_P _ _ | exact abs_fn goodEE EE_P (by omega) (by omega))) | (with_reducible refine wguard_split_t (fun h => ?_) (fun h => ?_)) | (with_reducible refine wguard_split_f (fun h => ?_) (fun h => ?_)) | (with_reducible refine wcond_split (fun h => ?_) (fun h => ?_)) | (with_reducible refine wdguard_split_t (fun h => ?_) (fun h => ?_)) | (with_reducible refine wdguard_split_f (fun h => ?_) (fun h => ?_)) | (with_reducible refine And.intro (fun h => ?_) (fun h => ?_)) | (with_reducible apply And.intro; focus omega))
    obtain ⟨k, hkk⟩ : ∃ k, k = nx + 40 := ⟨_, rfl⟩
    generalize hσ1 : upd (upd _ (nx + 49) _) (nx + 49) _ = σ1
    rw [← hkk]
    have hwf1 : Wf σ1 (nx + 57) := by
      rw [← hσ1]
      repeat' (first | exact hwf.mono (by omega) | refine Wf.set (n := nx + 57) ?_ (Nat.le_refl _) (by omega) (fun o e => by cases e; first | exact objlt_parts _ | exact objlt_credit .nil | exact objlt_credit (slice_lt _) | exact objlt_credit (.row _ _ _ (by omega)) | exact objlt_row (m := ⟨c.parts, c.pts, c.hund, false⟩) .nil .nil | exact objlt_row (m := ⟨c.parts, c.pts, c.hund, false⟩) .nil (.row _ _ _ (by omega)) | (simp only [ObjLt, push_cast, Nat.reduceEqDiff, Nat.reduceAdd, Nat.reduceMul, Nat.reduceLeDiff, Nat.reduceLT, reduceIte, reduceCtorEq, Nat.reduceShiftRight, Nat.reduceAnd, Nat.reducePow, Nat.reduceOr, Nat.reduceBNe, Nat.reduceBEq, Int.reduceToNat, Int.reduceLT, Int.reduceLE, Int.reduceGT, Int.reduceGE, Int.reduceEq, Int.reduceNe, Int.reduceNeg, Int.reduceAdd, Int.reduceSub, Int.reduceMul, lt_int, lt_bool, lt_str, lt_nil, lt_empty, lt_agg, lt_tup, lt_list, lt_cells, lt_fn, lt_ptr, lt_row, lt_nilp, lt_nilfn, lt_nili, List.mem_cons, List.not_mem_nil, or_false, forall_eq_or_imp, forall_eq, and_true, true_and, and_self, implies_true, false_implies]; try omega)))
    have hrow : σ1 k = some (.row [MK.row ⟨c.parts, c.pts, c.hund, false⟩ .nil .nil]) := by
      rw [← hσ1, hkk]
      simp only [upd_at, push_cast, Nat.reduceEqDiff, Nat.reduceAdd, Nat.reduceMul, Nat.reduceLeDiff, Nat.reduceLT, reduceIte, reduceCtorEq, Nat.reduceShiftRight, Nat.reduceAnd, Nat.reducePow, Nat.reduceOr, Nat.reduceBNe, Nat.reduceBEq, Int.reduceToNat, Int.reduceLT, Int.reduceLE, Int.reduceGT, Int.reduceGE, Int.reduceEq, Int.reduceNe, Int.reduceNeg, Int.reduceAdd, Int.reduceSub, Int.reduceMul, MK.row]
    have hm1 : MkAt σ1 k .nil ⟨c.parts, c.pts, c.hund, false⟩ := by
      exact ⟨.nil, hrow, .nil hps⟩
    have hown : ∀ j, Own σ1 k j → nx ≤ j ∧ j ≠ nx + 2 := by
      rintro j (rfl | ⟨lv, m, off, len, e⟩)
      · omega
      · rw [hrow] at e
        simp only [MK.row, Option.some.injEq, AObj.row.injEq, List.cons.injEq, and_true] at e
        obtain ⟨_, e, _⟩ := e
        cases e
    have hkeep : Keeps σ σ1 := by
      rw [← hσ1]
      exact (by repeat' (first | exact Keeps.refl _ | assumption | exact (hwf.keep1 _) | refine Keeps.new hwf ?_ (by omega) _))
    have hz : σ1 (nx + 2) = some (.row [[.nil, .int .i64 0, .int .i64 0, .int .i64 0]]) := by
      rw [← hσ1]
      simp only [upd_at, push_cast, Nat.reduceEqDiff, Nat.reduceAdd, Nat.reduceMul, Nat.reduceLeDiff, Nat.reduceLT, reduceIte, reduceCtorEq, Nat.reduceShiftRight, Nat.reduceAnd, Nat.reducePow, Nat.reduceOr, Nat.reduceBNe, Nat.reduceBEq, Int.reduceToNat, Int.reduceLT, Int.reduceLE, Int.reduceGT, Int.reduceGE, Int.reduceEq, Int.reduceNe, Int.reduceNeg, Int.reduceAdd, Int.reduceSub, Int.reduceMul]
    clear hσ1
    refine wcall_ex (become_fn hwf1 hm1 hl name (fmulS c.pts f) (fmulErr c.pts f)) fun σ2 nx2 ⟨hm2, hs⟩ => ?_
    repeat' (first | simp only [push_cast, Nat.reduceEqDiff, Nat.reduceAdd, Nat.reduceMul, Nat.reduceLeDiff, Nat.reduceLT, reduceIte, reduceCtorEq, Nat.reduceShiftRight, Nat.reduceAnd, Nat.reducePow, Nat.reduceOr, Nat.reduceBNe, Nat.reduceBEq, Int.reduceToNat, Int.reduceLT, Int.reduceLE, Int.reduceGT, Int.reduceGE, Int.reduceEq, Int.reduceNe, Int.reduceNeg, Int.reduceAdd, Int.reduceSub, Int.reduceMul, EE_P] | simp (disch := omega) only [wrap_fits] | ((first | with_reducible apply wcall_pure | with_reducible apply wdcall_pure); focus (first | assumption | exact refadd_fn ⟨_, _⟩ ⟨_, _⟩ | exact awake_fn | exact equal_fn (by simp) (by simp) | exact awake1_fn _ | exact few_fn (by assumption) (by omega) | exact refcompare_fn ⟨_, _⟩ ⟨_, _⟩ | exact refvalid_fn ⟨_, _⟩ | exact explain_fn _ (by assumption) (by omega) | exact valid_credit_fn _ (by assumption) (by omega) | exact sum_fn (by assumption) (by omega) | exact all_fn (by assumption) (by omega) | exact pointsText_fn _ | exact cutPrefix_fn _ _ | exact cutPrefix1_fn _ _ | exact hasPrefix_fn _ _ | exact format_fn ⟨_, _⟩ | exact itoa_fn (by omega) (by omega) | exact steps_fn _ | exact choosef_fn _ _ | exact wrong_fn _ | exact right_fn _ | exact isName_fn _ | exact formatExpr_name _ | exact format_name _ | exact right_name _ | exact depth_name _ | exact name_fn _ | exact run_fn _ (by omega) _ [] [] _ (fun b _ _ => inName_fn b) | exact keywords_fn | exact contains_fn kwS (by decide) _ | exact inName_fn _ | exact digit_fn _ | exact letter_fn _ | exact hundredths_fn goodEE EE_P _ _ | exact mul_fn goodEE EE_P _ _ _ _ | exact sub_fn goodEE EE_P _ _ _ _ | exact add_fn goodEE EE_P _ _ _ _ | exact weight_fn goodEE EE_P EE_zero _ _ _ _ _ _ _ | exact less_fn goodEE EE_P _ _ _ _ | exact compare_fn goodEE EE_P _ _ _ _ | exact cmp_fn goodEE EE_P _ _ | exact isNaN_fn goodEE EE_P _ | exact valid_fn goodEE EE_P _ _ | exact abs_fn goodEE EE_P (by omega) (by omega))) | (with_reducible refine wguard_split_t (fun h => ?_) (fun h => ?_)) | (with_reducible refine wguard_split_f (fun h => ?_) (fun h => ?_)) | (with_reducible refine wcond_split (fun h => ?_) (fun h => ?_)) | (with_reducible refine wdguard_split_t (fun h => ?_) (fun h => ?_)) | (with_reducible refine wdguard_split_f (fun h => ?_) (fun h => ?_)) | (with_reducible refine And.intro (fun h => ?_) (fun h => ?_)) | (with_reducible apply And.intro; focus omega))
    refine wcall_ex (P := fun σ3 _ => ∀ j, ¬ Own σ2 k j → σ3 j = σ2 j) (by obtain ⟨σ3, a, b, _⟩ := finish_fn hm2; exact ⟨σ3, _, a, b⟩) fun σ3 nx3 hfr => ?_
    obtain ⟨hz3, hk3⟩ := scale_keep hwf hs hown hkeep hz (by omega) hfr
    simp only [Credit.val]
    have hlt2 := parts_lt nx (finishS (becomeS ⟨c.parts, c.pts, c.hund, false⟩ name (fmulS c.pts f) (fmulErr c.pts f))).1.parts
    have hone := (partsV_slice (finishS (becomeS ⟨c.parts, c.pts, c.hund, false⟩ name (fmulS c.pts f) (fmulErr c.pts f))).1.parts).one
    have hcel := (partsV_slice (finishS (becomeS ⟨c.parts, c.pts, c.hund, false⟩ name (fmulS c.pts f) (fmulErr c.pts f))).1.parts).cells
    generalize partsV (finishS (becomeS ⟨c.parts, c.pts, c.hund, false⟩ name (fmulS c.pts f) (fmulErr c.pts f))).1.parts = pvv at hlt2 hone hcel ⊢
    repeat' (first | simp only [push_cast, Nat.reduceEqDiff, Nat.reduceAdd, Nat.reduceMul, Nat.reduceLeDiff, Nat.reduceLT, reduceIte, reduceCtorEq, Nat.reduceShiftRight, Nat.reduceAnd, Nat.reducePow, Nat.reduceOr, Nat.reduceBNe, Nat.reduceBEq, Int.reduceToNat, Int.reduceLT, Int.reduceLE, Int.reduceGT, Int.reduceGE, Int.reduceEq, Int.reduceNe, Int.reduceNeg, Int.reduceAdd, Int.reduceSub, Int.reduceMul, EE_P, hz3, hone, hcel] | simp (disch := omega) only [wrap_fits] | ((first | with_reducible apply wcall_pure | with_reducible apply wdcall_pure); focus (first | assumption | exact refadd_fn ⟨_, _⟩ ⟨_, _⟩ | exact awake_fn | exact equal_fn (by simp) (by simp) | exact awake1_fn _ | exact few_fn (by assumption) (by omega) | exact refcompare_fn ⟨_, _⟩ ⟨_, _⟩ | exact refvalid_fn ⟨_, _⟩ | exact explain_fn _ (by assumption) (by omega) | exact valid_credit_fn _ (by assumption) (by omega) | exact sum_fn (by assumption) (by omega) | exact all_fn (by assumption) (by omega) | exact pointsText_fn _ | exact cutPrefix_fn _ _ | exact cutPrefix1_fn _ _ | exact hasPrefix_fn _ _ | exact format_fn ⟨_, _⟩ | exact itoa_fn (by omega) (by omega) | exact steps_fn _ | exact choosef_fn _ _ | exact wrong_fn _ | exact right_fn _ | exact isName_fn _ | exact formatExpr_name _ | exact format_name _ | exact right_name _ | exact depth_name _ | exact name_fn _ | exact run_fn _ (by omega) _ [] [] _ (fun b _ _ => inName_fn b) | exact keywords_fn | exact contains_fn kwS (by decide) _ | exact inName_fn _ | exact digit_fn _ | exact letter_fn _ | exact hundredths_fn goodEE EE_P _ _ | exact mul_fn goodEE EE_P _ _ _ _ | exact sub_fn goodEE EE_P _ _ _ _ | exact add_fn goodEE EE_P _ _ _ _ | exact weight_fn goodEE EE_P EE_zero _ _ _ _ _ _ _ | exact less_fn goodEE EE_P _ _ _ _ | exact compare_fn goodEE EE_P _ _ _ _ | exact cmp_fn goodEE EE_P _ _ | exact isNaN_fn goodEE EE_P _ | exact valid_fn goodEE EE_P _ _ | exact abs_fn goodEE EE_P (by omega) (by omega))) | (with_reducible refine wguard_split_t (fun h => ?_) (fun h => ?_)) | (with_reducible refine wguard_split_f (fun h => ?_) (fun h => ?_)) | (with_reducible refine wcond_split (fun h => ?_) (fun h => ?_)) | (with_reducible refine wdguard_split_t (fun h => ?_) (fun h => ?_)) | (with_reducible refine wdguard_split_f (fun h => ?_) (fun h => ?_)) | (with_reducible refine And.intro (fun h => ?_) (fun h => ?_)) | (with_reducible apply And.intro; focus omega))
    refine ends_ret (by simp only [resultsOf, resOf, push_cast, Nat.reduceEqDiff, Nat.reduceAdd, Nat.reduceMul, Nat.reduceLeDiff, Nat.reduceLT, reduceIte, reduceCtorEq, Nat.reduceShiftRight, Nat.reduceAnd, Nat.reducePow, Nat.reduceOr, Nat.reduceBNe, Nat.reduceBEq, Int.reduceToNat, Int.reduceLT, Int.reduceLE, Int.reduceGT, Int.reduceGE, Int.reduceEq, Int.reduceNe, Int.reduceNeg, Int.reduceAdd, Int.reduceSub, Int.reduceMul, EE_P]; rfl) (by simp only [push_cast, Nat.reduceEqDiff, Nat.reduceAdd, Nat.reduceMul, Nat.reduceLeDiff, Nat.reduceLT, reduceIte, reduceCtorEq, Nat.reduceShiftRight, Nat.reduceAnd, Nat.reducePow, Nat.reduceOr, Nat.reduceBNe, Nat.reduceBEq, Int.reduceToNat, Int.reduceLT, Int.reduceLE, Int.reduceGT, Int.reduceGE, Int.reduceEq, Int.reduceNe, Int.reduceNeg, Int.reduceAdd, Int.reduceSub, Int.reduceMul, EE_P]) rfl (Keeps.new hwf hk3 (by omega) _) ?_
    simp only [lt_tup, lt_agg, List.mem_cons, List.not_mem_nil, or_false, forall_eq_or_imp, forall_eq, lt_int, and_self, and_true]
    exact hlt2
  · have hpos : 0 < c.parts.length := List.length_pos_iff.2 hps
    obtain rfl : v = .list (c.parts.map Part.cs) := hv.lt (i := 0) (by simpa using hpos)
    refine wcall_of _ _ _ _ _ _ (clonep_fn hps hl) ?_
    repeat' (first | simp only [push_cast, Nat.reduceEqDiff, Nat.reduceAdd, Nat.reduceMul, Nat.reduceLeDiff, Nat.reduceLT, reduceIte, reduceCtorEq, Nat.reduceShiftRight, Nat.reduceAnd, Nat.reducePow, Nat.reduceOr, Nat.reduceBNe, Nat.reduceBEq, Int.reduceToNat, Int.reduceLT, Int.reduceLE, Int.reduceGT, Int.reduceGE, Int.reduceEq, Int.reduceNe, Int.reduceNeg, Int.reduceAdd, Int.reduceSub, Int.reduceMul, EE_P] | simp (disch := omega) only [wrap_fits] | ((first | with_reducible apply wcall_pure | with_reducible apply wdcall_pure); focus (first | assumption | exact refadd_fn ⟨_, _⟩ ⟨_, _⟩ | exact awake_fn | exact equal_fn (by simp) (by simp) | exact awake1_fn _ | exact few_fn (by assumption) (by omega) | exact refcompare_fn ⟨_, _⟩ ⟨_, _⟩ | exact refvalid_fn ⟨_, _⟩ | exact explain_fn _ (by assumption) (by omega) | exact valid_credit_fn _ (by assumption) (by omega) | exact sum_fn (by assumption) (by omega) | exact all_fn (by assumption) (by omega) | exact pointsText_fn _ | exact cutPrefix_fn _ _ | exact cutPrefix1_fn _ _ | exact hasPrefix_fn _ _ | exact format_fn ⟨_, _⟩ | exact itoa_fn (by omega) (by omega) | exact steps_fn _ | exact choosef_fn _ _ | exact wrong_fn _ | exact right_fn _ | exact isName_fn _ | exact formatExpr_name _ | exact format_name _ | exact right_name _ | exact depth_name _ | exact name_fn _ | exact run_fn _ (by omega) _ [] [] _ (fun b _ _ => inName_fn b) | exact keywords_fn | exact contains_fn kwS (by decide) _ | exact inName_fn _ | exact digit_fn _ | exact letter_fn _ | exact hundredths_fn goodEE EE_P _ _ | exact mul_fn goodEE EE_P _ _ _ _ | exact sub_fn goodEE EE_P _ _ _ _ | exact add_fn goodEE EE_P _ _ _ _ | exact weight_fn goodEE EE_P EE_zero _ _ _ _ _ _ _ | exact less_fn goodEE EE_P _ _ _ _ | exact compare_fn goodEE EE_P _ _ _ _ | exact cmp_fn goodEE EE_P _ _ | exact isNaN_fn goodEE EE_P _ | exact valid_fn goodEE EE_P _ _ | exact abs_fn goodEE EE_P (by omega) (by omega))) | (with_reducible refine wguard_split_t (fun h => ?_) (fun h => ?_)) | (with_reducible refine wguard_split_f (fun h => ?_) (fun h => ?_)) | (with_reducible refine wcond_split (fun h => ?_) (fun h => ?_)) | (with_reducible refine wdguard_split_t (fun h => ?_) (fun h => ?_)) | (with_reducible refine wdguard_split_f (fun h => ?_) (fun h => ?_)) | (with_reducible refine And.intro (fun h => ?_) (fun h => ?_)) | (with_reducible apply And.intro; focus omega))
    obtain ⟨k, hkk⟩ : ∃ k, k = nx + 47 := ⟨_, rfl⟩
    generalize hσ1 : upd (upd _ (nx + 56) _) (nx + 56) _ = σ1
    rw [← hkk]
    have hwf1 : Wf σ1 (nx + 64) := by
      rw [← hσ1]
      repeat' (first | exact hwf.mono (by omega) | refine Wf.set (n := nx + 64) ?_ (Nat.le_refl _) (by omega) (fun o e => by cases e; first | exact objlt_parts _ | exact objlt_credit .nil | exact objlt_credit (slice_lt _) | exact objlt_credit (.row _ _ _ (by omega)) | exact objlt_row (m := ⟨c.parts, c.pts, c.hund, false⟩) .nil .nil | exact objlt_row (m := ⟨c.parts, c.pts, c.hund, false⟩) .nil (.row _ _ _ (by omega)) | (simp only [ObjLt, push_cast, Nat.reduceEqDiff, Nat.reduceAdd, Nat.reduceMul, Nat.reduceLeDiff, Nat.reduceLT, reduceIte, reduceCtorEq, Nat.reduceShiftRight, Nat.reduceAnd, Nat.reducePow, Nat.reduceOr, Nat.reduceBNe, Nat.reduceBEq, Int.reduceToNat, Int.reduceLT, Int.reduceLE, Int.reduceGT, Int.reduceGE, Int.reduceEq, Int.reduceNe, Int.reduceNeg, Int.reduceAdd, Int.reduceSub, Int.reduceMul, lt_int, lt_bool, lt_str, lt_nil, lt_empty, lt_agg, lt_tup, lt_list, lt_cells, lt_fn, lt_ptr, lt_row, lt_nilp, lt_nilfn, lt_nili, List.mem_cons, List.not_mem_nil, or_false, forall_eq_or_imp, forall_eq, and_true, true_and, and_self, implies_true, false_implies]; try omega)))
    have hrow : σ1 k = some (.row [MK.row ⟨c.parts, c.pts, c.hund, false⟩ .nil (.row (nx + 43) 0 c.parts.length)]) := by
      rw [← hσ1, hkk]
      simp only [upd_at, push_cast, Nat.reduceEqDiff, Nat.reduceAdd, Nat.reduceMul, Nat.reduceLeDiff, Nat.reduceLT, reduceIte, reduceCtorEq, Nat.reduceShiftRight, Nat.reduceAnd, Nat.reducePow, Nat.reduceOr, Nat.reduceBNe, Nat.reduceBEq, Int.reduceToNat, Int.reduceLT, Int.reduceLE, Int.reduceGT, Int.reduceGE, Int.reduceEq, Int.reduceNe, Int.reduceNeg, Int.reduceAdd, Int.reduceSub, Int.reduceMul, MK.row]
    have hm1 : MkAt σ1 k .nil ⟨c.parts, c.pts, c.hund, false⟩ := by
      exact ⟨.row (nx + 43) 0 c.parts.length, hrow, .row (nx + 43) (by omega) (by rw [← hσ1]; simp only [upd_at, push_cast, Nat.reduceEqDiff, Nat.reduceAdd, Nat.reduceMul, Nat.reduceLeDiff, Nat.reduceLT, reduceIte, reduceCtorEq, Nat.reduceShiftRight, Nat.reduceAnd, Nat.reducePow, Nat.reduceOr, Nat.reduceBNe, Nat.reduceBEq, Int.reduceToNat, Int.reduceLT, Int.reduceLE, Int.reduceGT, Int.reduceGE, Int.reduceEq, Int.reduceNe, Int.reduceNeg, Int.reduceAdd, Int.reduceSub, Int.reduceMul]) hps⟩
    have hown : ∀ j, Own σ1 k j → nx ≤ j ∧ j ≠ nx + 2 := by
      rintro j (rfl | ⟨lv, m, off, len, e⟩)
      · omega
      · rw [hrow] at e
        simp only [MK.row, Option.some.injEq, AObj.row.injEq, List.cons.injEq, and_true] at e
        obtain ⟨_, e, _⟩ := e
        cases e
        omega
    have hkeep : Keeps σ σ1 := by
      rw [← hσ1]
      exact (by repeat' (first | exact Keeps.refl _ | assumption | exact (hwf.keep1 _) | refine Keeps.new hwf ?_ (by omega) _))
    have hz : σ1 (nx + 2) = some (.row [[.nil, .int .i64 0, .int .i64 0, .int .i64 0]]) := by
      rw [← hσ1]
      simp only [upd_at, push_cast, Nat.reduceEqDiff, Nat.reduceAdd, Nat.reduceMul, Nat.reduceLeDiff, Nat.reduceLT, reduceIte, reduceCtorEq, Nat.reduceShiftRight, Nat.reduceAnd, Nat.reducePow, Nat.reduceOr, Nat.reduceBNe, Nat.reduceBEq, Int.reduceToNat, Int.reduceLT, Int.reduceLE, Int.reduceGT, Int.reduceGE, Int.reduceEq, Int.reduceNe, Int.reduceNeg, Int.reduceAdd, Int.reduceSub, Int.reduceMul]
    clear hσ1
    refine wcall_ex (become_fn hwf1 hm1 hl name (fmulS c.pts f) (fmulErr c.pts f)) fun σ2 nx2 ⟨hm2, hs⟩ => ?_
    repeat' (first | simp only [push_cast, Nat.reduceEqDiff, Nat.reduceAdd, Nat.reduceMul, Nat.reduceLeDiff, Nat.reduceLT, reduceIte, reduceCtorEq, Nat.reduceShiftRight, Nat.reduceAnd, Nat.reducePow, Nat.reduceOr, Nat.reduceBNe, Nat.reduceBEq, Int.reduceToNat, Int.reduceLT, Int.reduceLE, Int.reduceGT, Int.reduceGE, Int.reduceEq, Int.reduceNe, Int.reduceNeg, Int.reduceAdd, Int.reduceSub, Int.reduceMul, EE_P] | simp (disch := omega) only [wrap_fits] | ((first | with_reducible apply wcall_pure | with_reducible apply wdcall_pure); focus (first | assumption | exact refadd_fn ⟨_, _⟩ ⟨_, _⟩ | exact awake_fn | exact equal_fn (by simp) (by simp) | exact awake1_fn _ | exact few_fn (by assumption) (by omega) | exact refcompare_fn ⟨_, _⟩ ⟨_, _⟩ | exact refvalid_fn ⟨_, _⟩ | exact explain_fn _ (by assumption) (by omega) | exact valid_credit_fn _ (by assumption) (by omega) | exact sum_fn (by assumption) (by omega) | exact all_fn (by assumption) (by omega) | exact pointsText_fn _ | exact cutPrefix_fn _ _ | exact cutPrefix1_fn _ _ | exact hasPrefix_fn _ _ | exact format_fn ⟨_, _⟩ | exact itoa_fn (by omega) (by omega) | exact steps_fn _ | exact choosef_fn _ _ | exact wrong_fn _ | exact right_fn _ | exact isName_fn _ | exact formatExpr_name _ | exact format_name _ | exact right_name _ | exact depth_name _ | exact name_fn _ | exact run_fn _ (by omega) _ [] [] _ (fun b _ _ => inName_fn b) | exact keywords_fn | exact contains_fn kwS (by decide) _ | exact inName_fn _ | exact digit_fn _ | exact letter_fn _ | exact hundredths_fn goodEE EE_P _ _ | exact mul_fn goodEE EE_P _ _ _ _ | exact sub_fn goodEE EE_P _ _ _ _ | exact add_fn goodEE EE_P _ _ _ _ | exact weight_fn goodEE EE_P EE_zero _ _ _ _ _ _ _ | exact less_fn goodEE EE_P _ _ _ _ | exact compare_fn goodEE EE_P _ _ _ _ | exact cmp_fn goodEE EE_P _ _ | exact isNaN_fn goodEE EE_P _ | exact valid_fn goodEE EE_P _ _ | exact abs_fn goodEE EE_P (by omega) (by omega))) | (with_reducible refine wguard_split_t (fun h => ?_) (fun h => ?_)) | (with_reducible refine wguard_split_f (fun h => ?_) (fun h => ?_)) | (with_reducible refine wcond_split (fun h => ?_) (fun h => ?_)) | (with_reducible refine wdguard_split_t (fun h => ?_) (fun h => ?_)) | (with_reducible refine wdguard_split_f (fun h => ?_) (fun h => ?_)) | (with_reducible refine And.intro (fun h => ?_) (fun h => ?_)) | (with_reducible apply And.intro; focus omega))
    refine wcall_ex (P := fun σ3 _ => ∀ j, ¬ Own σ2 k j → σ3 j = σ2 j) (by obtain ⟨σ3, a, b, _⟩ := finish_fn hm2; exact ⟨σ3, _, a, b⟩) fun σ3 nx3 hfr => ?_
    obtain ⟨hz3, hk3⟩ := scale_keep hwf hs hown hkeep hz (by omega) hfr
    simp only [Credit.val]
    have hlt2 := parts_lt nx (finishS (becomeS ⟨c.parts, c.pts, c.hund, false⟩ name (fmulS c.pts f) (fmulErr c.pts f))).1.parts
    have hone := (partsV_slice (finishS (becomeS ⟨c.parts, c.pts, c.hund, false⟩ name (fmulS c.pts f) (fmulErr c.pts f))).1.parts).one
    have hcel := (partsV_slice (finishS (becomeS ⟨c.parts, c.pts, c.hund, false⟩ name (fmulS c.pts f) (fmulErr c.pts f))).1.parts).cells
    generalize partsV (finishS (becomeS ⟨c.parts, c.pts, c.hund, false⟩ name (fmulS c.pts f) (fmulErr c.pts f))).1.parts = pvv at hlt2 hone hcel ⊢
    repeat' (first | simp only [push_cast, Nat.reduceEqDiff, Nat.reduceAdd, Nat.reduceMul, Nat.reduceLeDiff, Nat.reduceLT, reduceIte, reduceCtorEq, Nat.reduceShiftRight, Nat.reduceAnd, Nat.reducePow, Nat.reduceOr, Nat.reduceBNe, Nat.reduceBEq, Int.reduceToNat, Int.reduceLT, Int.reduceLE, Int.reduceGT, Int.reduceGE, Int.reduceEq, Int.reduceNe, Int.reduceNeg, Int.reduceAdd, Int.reduceSub, Int.reduceMul, EE_P, hz3, hone, hcel] | simp (disch := omega) only [wrap_fits] | ((first | with_reducible apply wcall_pure | with_reducible apply wdcall_pure); focus (first | assumption | exact refadd_fn ⟨_, _⟩ ⟨_, _⟩ | exact awake_fn | exact equal_fn (by simp) (by simp) | exact awake1_fn _ | exact few_fn (by assumption) (by omega) | exact refcompare_fn ⟨_, _⟩ ⟨_, _⟩ | exact refvalid_fn ⟨_, _⟩ | exact explain_fn _ (by assumption) (by omega) | exact valid_credit_fn _ (by assumption) (by omega) | exact sum_fn (by assumption) (by omega) | exact all_fn (by assumption) (by omega) | exact pointsText_fn _ | exact cutPrefix_fn _ _ | exact cutPrefix1_fn _ _ | exact hasPrefix_fn _ _ | exact format_fn ⟨_, _⟩ | exact itoa_fn (by omega) (by omega) | exact steps_fn _ | exact choosef_fn _ _ | exact wrong_fn _ | exact right_fn _ | exact isName_fn _ | exact formatExpr_name _ | exact format_name _ | exact right_name _ | exact depth_name _ | exact name_fn _ | exact run_fn _ (by omega) _ [] [] _ (fun b _ _ => inName_fn b) | exact keywords_fn | exact contains_fn kwS (by decide) _ | exact inName_fn _ | exact digit_fn _ | exact letter_fn _ | exact hundredths_fn goodEE EE_P _ _ | exact mul_fn goodEE EE_P _ _ _ _ | exact sub_fn goodEE EE_P _ _ _ _ | exact add_fn goodEE EE_P _ _ _ _ | exact weight_fn goodEE EE_P EE_zero _ _ _ _ _ _ _ | exact less_fn goodEE EE_P _ _ _ _ | exact compare_fn goodEE EE_P _ _ _ _ | exact cmp_fn goodEE EE_P _ _ | exact isNaN_fn goodEE EE_P _ | exact valid_fn goodEE EE_P _ _ | exact abs_fn goodEE EE_P (by omega) (by omega))) | (with_reducible refine wguard_split_t (fun h => ?_) (fun h => ?_)) | (with_reducible refine wguard_split_f (fun h => ?_) (fun h => ?_)) | (with_reducible refine wcond_split (fun h => ?_) (fun h => ?_)) | (with_reducible refine wdguard_split_t (fun h => ?_) (fun h => ?_)) | (with_reducible refine wdguard_split_f (fun h => ?_) (fun h => ?_)) | (with_reducible refine And.intro (fun h => ?_) (fun h => ?_)) | (with_reducible apply And.intro; focus omega))
    refine ends_ret (by simp only [resultsOf, resOf, push_cast, Nat.reduceEqDiff, Nat.reduceAdd, Nat.reduceMul, Nat.reduceLeDiff, Nat.reduceLT, reduceIte, reduceCtorEq, Nat.reduceShiftRight, Nat.reduceAnd, Nat.reducePow, Nat.reduceOr, Nat.reduceBNe, Nat.reduceBEq, Int.reduceToNat, Int.reduceLT, Int.reduceLE, Int.reduceGT, Int.reduceGE, Int.reduceEq, Int.reduceNe, Int.reduceNeg, Int.reduceAdd, Int.reduceSub, Int.reduceMul, EE_P]; rfl) (by simp only [push_cast, Nat.reduceEqDiff, Nat.reduceAdd, Nat.reduceMul, Nat.reduceLeDiff, Nat.reduceLT, reduceIte, reduceCtorEq, Nat.reduceShiftRight, Nat.reduceAnd, Nat.reducePow, Nat.reduceOr, Nat.reduceBNe, Nat.reduceBEq, Int.reduceToNat, Int.reduceLT, Int.reduceLE, Int.reduceGT, Int.reduceGE, Int.reduceEq, Int.reduceNe, Int.reduceNeg, Int.reduceAdd, Int.reduceSub, Int.reduceMul, EE_P]) rfl (Keeps.new hwf hk3 (by omega) _) ?_
    simp only [lt_tup, lt_agg, List.mem_cons, List.not_mem_nil, or_false, forall_eq_or_imp, forall_eq, lt_int, and_self, and_true]
    exact hlt2
theorem scale_fn {c : Credit} {v : PV} (hv : SliceP (c.parts.map Part.cs) v) (hl : c.parts.length ≤ 1000000) (name : ByteArray) (f : Frac) (hvn : c.parts = [] → v = .nil) : Pure EE 22 [c.pv v, .str name, f.pv] (.tup [(scaleS c name f).1.val, .int .i64 (scaleS c name f).2]) := by
  unfold scaleS
  by_cases hb : scaleBad c name f
  · rw [if_pos hb]
    exact scale_bad hv hl name f hb
  · rw [if_neg hb]
    exact scale_good hv hl name f hb hvn
end Go.Proofs.YtdajoilaakiinaaGreatDoor.Awp

/- The plain law of CreditAdds. -/
namespace Go.Proofs.YtdajoilaakiinaaGreatDoor.Awp
open Go Go.Proofs
set_option linter.unusedSimpArgs false
set_option linter.unusedVariables false
set_option maxHeartbeats 1000000

theorem red_of {x y : Int} {q : Frac} (hy : 0 < y) (hq : Fok q) (h : Rat.divInt x y = val q) : redE x y = 0 ∧ (⟨redN x y, redD x y⟩ : Frac) = q := by
  have h3 := hq.1
  have hr : redE x y = 0 := by
    unfold redE
    rw [if_pos]
    have e : Rat.divInt x y = Rat.divInt q.n q.d := h
    rw [Rat.divInt_eq_divInt_iff (by omega) (by omega)] at e
    have hc : Int.gcd q.n q.d = 1 := hq.2.2.2.2
    have d1 : q.d ∣ y := by
      have : q.d ∣ q.n * y := ⟨x, by rw [← e, Int.mul_comm]⟩
      rw [← Int.natAbs_dvd_natAbs, Int.natAbs_mul] at this
      rw [← Int.natAbs_dvd_natAbs]
      exact Nat.Coprime.dvd_of_dvd_mul_left (by rw [Nat.coprime_comm]; exact hc) this
    obtain ⟨k, rfl⟩ := d1
    have hk : 0 < k := Decidable.byContradiction fun hn => by
      have := Int.mul_le_mul_of_nonneg_left (show k ≤ 0 by omega) (show 0 ≤ q.d by omega)
      rw [Int.mul_zero] at this
      omega
    have hx : x = q.n * k := by
      have : x * q.d = q.n * k * q.d := by rw [e, Int.mul_comm q.d k, Int.mul_assoc]
      exact Int.eq_of_mul_eq_mul_right (by omega) this
    subst hx
    have hgk : (Int.gcd (q.n * k) (q.d * k) : Int) = k := by
      rw [Int.gcd_mul_right, hc]
      omega
    show redOk (q.n * k) (q.d * k)
    unfold redOk
    rw [hgk, Int.mul_tdiv_cancel _ (by omega), Int.mul_tdiv_cancel _ (by omega)]
    exact hq
  obtain ⟨r1, r2⟩ := red_val hy hr
  exact ⟨hr, val_inj r1 hq (r2.trans h)⟩
theorem fsub_of {a b q : Frac} (ha : Fok a) (hb : Fok b) (hq : Fok q) (h : val a - val b = val q) : fsubErr a b = 0 ∧ fsub a b = q := by
  have h1 := ha.1
  have h2 := hb.1
  obtain ⟨r1, r2⟩ := red_of (x := a.n * b.d - b.n * a.d) (y := a.d * b.d) (Int.mul_pos (by omega) (by omega)) hq ((Rat.divInt_sub_divInt _ _ (by omega) (by omega)).symm.trans h)
  unfold fsubErr fsub fsubE fsubN fsubD
  rw [if_pos ⟨ha, hb⟩, if_pos ⟨ha, hb⟩, if_pos ⟨ha, hb⟩]
  exact ⟨r1, r2⟩
theorem fmul_of {a b q : Frac} (ha : Fok a) (hb : Fok b) (hq : Fok q) (h : val a * val b = val q) : fmulErr a b = 0 ∧ fmulS a b = q := by
  have h1 := ha.1
  have h2 := hb.1
  obtain ⟨r1, r2⟩ := red_of (x := a.n * b.n) (y := a.d * b.d) (Int.mul_pos (by omega) (by omega)) hq ((Rat.divInt_mul_divInt _ _).symm.trans h)
  unfold fmulErr fmulS fmulE fmulN fmulD
  rw [if_pos ⟨ha, hb⟩, if_pos ⟨ha, hb⟩, if_pos ⟨ha, hb⟩]
  exact ⟨r1, r2⟩
theorem fmul_val {a b : Frac} (h : fmulErr a b = 0) : Fok a ∧ Fok b ∧ Fok (fmulS a b) ∧ val (fmulS a b) = val a * val b := by
  unfold fmulErr fmulE at h
  split at h
  · rename_i hv
    obtain ⟨ha, hb⟩ := hv
    have h1 := ha.1
    have h2 := hb.1
    obtain ⟨r1, r2⟩ := red_val (Int.mul_pos (by omega) (by omega)) h
    have e : fmulS a b = ⟨redN (a.n * b.n) (a.d * b.d), redD (a.n * b.n) (a.d * b.d)⟩ := by
      unfold fmulS fmulN fmulD
      rw [if_pos ⟨ha, hb⟩, if_pos ⟨ha, hb⟩]
    rw [e]
    exact ⟨ha, hb, r1, r2.trans (Rat.divInt_mul_divInt _ _).symm⟩
  · cases h
/-! ### the effects add up -/
theorem sumTo_append (xs : List Frac) (e : Frac) : ∀ j, j ≤ xs.length → sumTo (xs ++ [e]) j = sumTo xs j
  | 0, _ => rfl
  | j + 1, h => by
    have ih := sumTo_append xs e j (by omega)
    rw [sumTo_succ (l := xs ++ [e]) (by simp; omega), sumTo_succ (l := xs) (by omega), ih, List.getElem_append_left (by omega)]
def SumsTo (ps : List Part) (p : Frac) : Prop := sumTo (effs ps) ps.length = (p, 0)
theorem effs_length (ps : List Part) : (effs ps).length = ps.length := by simp [effs]
theorem sums_snoc {ps : List Part} {p q : Frac} {name : ByteArray} (h : SumsTo ps p) (hs : fsubErr q p = 0) : SumsTo (ps ++ [⟨name, fsub q p⟩]) q := by
  obtain ⟨h1, h2⟩ := fadd_fsub hs
  unfold SumsTo at *
  have e : effs (ps ++ [⟨name, fsub q p⟩]) = effs ps ++ [fsub q p] := by simp [effs]
  rw [e, List.length_append, List.length_singleton, sumTo_succ (by simp [effs_length]), sumTo_append _ _ _ (by rw [effs_length]; exact Nat.le_refl _), h, if_pos rfl]
  rw [List.getElem_append_right (by rw [effs_length]; exact Nat.le_refl _)]
  simp only [effs_length, Nat.sub_self, List.getElem_singleton, h1, h2]
theorem sums_get {ps : List Part} {p : Frac} (h : SumsTo ps p) : ∀ j, j < ps.length → (sumTo (effs ps) j).2 = 0 ∧ ∃ x, ps[j]? = some x ∧ faddErr (sumTo (effs ps) j).1 x.eff = 0 ∧ sumTo (effs ps) (j + 1) = (fadd (sumTo (effs ps) j).1 x.eff, 0) := by
  intro j hj
  have hz : ∀ i, i ≤ ps.length → (sumTo (effs ps) i).2 = 0 := fun i hi => Decidable.byContradiction fun hn => by
    have := sumTo_err (l := effs ps) hi hn
    rw [h] at this
    rw [← this] at hn
    exact hn rfl
  have hs := sumTo_succ (l := effs ps) (i := j) (by rw [effs_length]; exact hj)
  rw [if_pos (hz j (by omega))] at hs
  have hg : (effs ps)[j]'(by rw [effs_length]; exact hj) = ps[j].eff := by simp [effs]
  rw [hg] at hs
  have hz' := hz (j + 1) (by omega)
  rw [hs] at hz'
  exact ⟨hz j (by omega), ps[j], List.getElem?_eq_getElem hj, hz', by rw [hs]; exact congrArg (Prod.mk _) hz'⟩
theorem sums_all {ps : List Part} {p : Frac} (h : SumsTo ps p) : allS (effs ps) = true := by
  refine allS_yes fun j hj => ?_
  rw [effs_length] at hj
  obtain ⟨_, x, hx, he, _⟩ := sums_get h j hj
  obtain ⟨hj', rfl⟩ := List.getElem?_eq_some_iff.1 hx
  have : (effs ps)[j]'(by rw [effs_length]; exact hj) = ps[j].eff := by simp [effs]
  rw [this]
  exact (fadd_val he).2.1
def Sound (m : MK) : Prop := m.wrong = false → SumsTo m.parts m.pts ∧ partNames m.parts = true
theorem sound_become {m : MK} {name : ByteArray} {p : Frac} {e : Int} (hn : nameS name = true) (h : Sound m) : Sound (becomeS m name p e) := by
  intro hw
  obtain ⟨w1, w2, w3, w4, w5, w6⟩ := become_get hw
  obtain ⟨s1, s2⟩ := h w1
  rw [w6]
  refine ⟨sums_snoc s1 w3, ?_⟩
  unfold partNames at *
  show (m.parts ++ [_]).all _ = true
  rw [List.all_append, s2]
  simp [hn]
theorem line_name {l : Line} (h : rightS l = true) : nameS l.name = true := by
  unfold rightS at h
  simp at h
  exact h.1.1.2
theorem best_name {g : ByteArray} {b : Line} (hb : nameS b.name = true) : ∀ {ls : List Line}, AllR ls → nameS (bestS g b ls).name = true := by
  intro ls
  induction ls generalizing b with
  | nil => intro _; exact hb
  | cons l ls ih =>
    intro h
    unfold bestS
    rw [List.foldl_cons]
    refine ih ?_ fun x hx => h x (List.mem_cons_of_mem _ hx)
    split
    · exact line_name (h l (List.mem_cons_self ..))
    · exact hb
theorem phase_sound {ls : List Line} (hr : AllR ls) : ∀ t, Sound (phase ls m0S t)
  | 0 => fun _ => ⟨rfl, rfl⟩
  | t + 1 => by
    unfold phase
    refine stepsTo_ind (P := fun _ m => Sound m) (phase_sound hr t) (fun j l m hj hm => ⟨fun ha hk => ?_, fun _ => hm⟩) _ (Nat.le_refl _)
    have hn := line_name (hr l (List.mem_of_getElem? hj))
    unfold funAt
    split
    · unfold pointsS addS
      split
      · exact sound_become hn hm
      · split
        · exact hm
        · exact sound_become (best_name hn fun x hx => hr x (List.mem_of_mem_drop hx)) hm
    · exact sound_become hn hm
    · exact sound_become hn hm
    · exact sound_become hn hm
structure CreditOk (c : Credit) : Prop where
  names : partNames c.parts = true
  sums : SumsTo c.parts c.pts
  ok : Fok c.pts
  nonneg : 0 ≤ c.pts.n
  hund : hundS c.pts = c.hund
  most : hundS c.pts ≤ 100000000
theorem zero_le_iff {p : Frac} (h : Fok p) : lessS p ⟨0, 1⟩ = false ↔ 0 ≤ p.n := by
  constructor
  · intro hl
    have := (val_le zero_ok h).1 (less_no h zero_ok hl)
    rw [val_zero] at this
    exact (val_nonneg h).2 this
  · intro hn
    cases hl : lessS p ⟨0, 1⟩
    · rfl
    · have := (val_lt h zero_ok).1 hl
      rw [val_zero] at this
      have h2 := (val_nonneg h).1 hn
      grind
theorem CreditOk.valid {c : Credit} (h : CreditOk c) (hl : c.parts.length ≤ 1024) : validS c = true := by
  have hs : sumS (effs c.parts) = (c.pts, 0) := by
    unfold sumS
    rw [if_neg (by rw [sums_all h.sums, effs_length]; simp; omega), effs_length, h.sums]
    rfl
  unfold validS
  rw [h.names, hs, (zero_le_iff h.ok).2 h.nonneg]
  simp [h.ok, h.hund]
  rw [← h.hund]
  exact h.most
theorem finish_ok {m : MK} (h : (finishS m).2 = 0) : m.wrong = false ∧ Fok m.pts ∧ hundS m.pts ≤ 100000000 ∧ finishS m = (⟨m.parts, m.pts, hundS m.pts⟩, 0) := by
  unfold finishS at h ⊢
  split at h
  · cases h
  · rename_i hf
    rw [if_neg hf]
    exact ⟨by cases hw : m.wrong <;> simp_all, Decidable.byContradiction fun hn => hf (.inr (.inl hn)), by
      have : ¬ hundS m.pts > 100000000 := fun hn => hf (.inr (.inr hn))
      omega, rfl⟩
theorem finish_of {m : MK} (h1 : m.wrong = false) (h2 : Fok m.pts) (h3 : hundS m.pts ≤ 100000000) : finishS m = (⟨m.parts, m.pts, hundS m.pts⟩, 0) := by
  unfold finishS
  rw [if_neg]
  rintro (h | h | h)
  · rw [h1] at h; cases h
  · exact h h2
  · omega
theorem finish_err {m : MK} (h : (finishS m).2 ≠ 0) : (finishS m).1 = zeroCredit := by
  unfold finishS at h ⊢
  split
  · rfl
  · rename_i hf
    rw [if_neg hf] at h
    exact absurd rfl h
theorem combine_credit {ls : List Line} (h : (combineS ls).2 = 0) : CreditOk (combineS ls).1 ∧ (combineS ls).1.parts.length ≤ 128 := by
  have hc := h
  have hlen : ls.length ≤ 32 := by
    have : ¬ (combineS ls).2 = 1 := by rw [h]; decide
    rw [combine_one] at this
    omega
  obtain ⟨hr, hw, hv, he⟩ := combine_ok h
  obtain ⟨a1, a2, a3, a4, a5, a6⟩ := combine_val h
  have h2 : (finishS (phase ls m0S 4)).2 = 0 := by
    unfold combineS at h
    split at h
    · cases h
    · exact h
  obtain ⟨f1, f2, f3, f4⟩ := finish_ok h2
  obtain ⟨s1, s2⟩ := phase_sound hr 4 hw
  have hpl := phase_len ls m0S 4
  have h0 : m0S.parts.length = 0 := rfl
  rw [h0] at hpl
  rw [he] at a2 a3 ⊢
  exact ⟨⟨s2, s1, a2, (val_nonneg a2).2 a3, rfl, f3⟩, by show (phase ls m0S 4).parts.length ≤ 128; omega⟩
theorem combine_err {ls : List Line} (h : (combineS ls).2 ≠ 0) : (combineS ls).1 = zeroCredit := by
  unfold combineS at h ⊢
  split
  · rfl
  · rename_i hc
    rw [if_neg hc] at h
    exact finish_err h
/-! ### scaling -/
theorem one_ok : Fok ⟨1, 1⟩ := by decide
theorem val_one : val ⟨1, 1⟩ = 1 := by
  show Rat.divInt 1 1 = 1
  rfl
theorem scale_ok {c : Credit} {name : ByteArray} {f : Frac} (hc : CreditOk c) (h : (scaleS c name f).2 = 0) : CreditOk (scaleS c name f).1 ∧ (scaleS c name f).1.parts.length = c.parts.length + 1 ∧ c.parts.length < 1024 ∧ val (scaleS c name f).1.pts ≤ val c.pts ∧ (scaleS c name f).1.hund ≤ c.hund := by
  unfold scaleS at h ⊢
  split at h
  · cases h
  · rename_i hb
    rw [if_neg hb]
    have b2 : c.parts.length < 1024 := Decidable.byContradiction fun h => hb (.inr (.inl (by omega)))
    have b3 : nameS name = true := by cases h : nameS name <;> simp_all [scaleBad]
    have b4 : Fok f := Decidable.byContradiction fun h => hb (.inr (.inr (.inr (.inl h))))
    have b5 : lessS f ⟨0, 1⟩ = false := by cases h : lessS f ⟨0, 1⟩ <;> simp_all [scaleBad]
    have b6 : lessS ⟨1, 1⟩ f = false := by cases h : lessS ⟨1, 1⟩ f <;> simp_all [scaleBad]
    obtain ⟨f1, f2, f3, f4⟩ := finish_ok h
    obtain ⟨w1, w2, w3, w4, w5, w6⟩ := become_get f1
    obtain ⟨m1, m2, m3, m4⟩ := fmul_val w2
    have hf0 : 0 ≤ val f := (val_nonneg b4).1 ((zero_le_iff b4).1 b5)
    have hf1 : val f ≤ 1 := by
      have := (val_le b4 one_ok).1 (less_no one_ok b4 b6)
      rw [val_one] at this
      exact this
    have hp0 : 0 ≤ val c.pts := (val_nonneg hc.ok).1 hc.nonneg
    have hv0 : 0 ≤ val (fmulS c.pts f) := by rw [m4]; exact Rat.mul_nonneg hp0 hf0
    have hv1 : val (fmulS c.pts f) ≤ val c.pts := by
      rw [m4]
      have := Rat.mul_le_mul_of_nonneg_left hf1 hp0
      rw [Rat.mul_one] at this
      exact this
    obtain ⟨s1, s2⟩ := sound_become (e := fmulErr c.pts f) (p := fmulS c.pts f) b3 (m := ⟨c.parts, c.pts, c.hund, false⟩) (fun _ => ⟨hc.sums, hc.names⟩) f1
    rw [f4]
    have e1 : (becomeS ⟨c.parts, c.pts, c.hund, false⟩ name (fmulS c.pts f) (fmulErr c.pts f)).pts = fmulS c.pts f := by rw [w6]
    have e2 : (becomeS ⟨c.parts, c.pts, c.hund, false⟩ name (fmulS c.pts f) (fmulErr c.pts f)).parts.length = c.parts.length + 1 := by rw [w6]; simp
    refine ⟨⟨s2, s1, f2, ?_, rfl, f3⟩, e2, b2, ?_, ?_⟩
    · show 0 ≤ (becomeS _ _ _ _).pts.n
      rw [e1]
      exact (val_nonneg m3).2 hv0
    · show val (becomeS _ _ _ _).pts ≤ _
      rw [e1]
      exact hv1
    · show hundS (becomeS _ _ _ _).pts ≤ _
      rw [e1, ← hc.hund]
      exact hund_mono m3 hc.ok hv1
theorem scale_of {c : Credit} {name : ByteArray} {f q : Frac} (hc : CreditOk c) (hl : c.parts.length < 1024) (hn : nameS name = true) (hf : Fok f) (h0 : 0 ≤ val f) (h1 : val f ≤ 1) (hq : Fok q) (hm : val c.pts * val f = val q) (hs : fsubErr q c.pts = 0) (h3 : hundS q ≤ 100000000) :
    scaleS c name f = (⟨c.parts ++ [⟨name, fsub q c.pts⟩], q, hundS q⟩, 0) := by
  obtain ⟨m1, m2⟩ := fmul_of hc.ok hf hq hm
  unfold scaleS
  rw [if_neg, m1, m2]
  · have hb : becomeS ⟨c.parts, c.pts, c.hund, false⟩ name q 0 = ⟨c.parts ++ [⟨name, fsub q c.pts⟩], q, c.hund, false⟩ := by
      unfold becomeS
      rw [if_neg]
      rintro (h | h | h)
      · cases h
      · exact h rfl
      · exact h hs
    rw [hb, finish_of rfl hq h3]
  · rintro (h | h | h | h | h | h)
    · rw [hc.valid (by omega)] at h; cases h
    · omega
    · rw [hn] at h; cases h
    · exact h hf
    · have := (val_lt hf zero_ok).1 h
      rw [val_zero] at this
      grind
    · have := (val_lt one_ok hf).1 h
      rw [val_one] at this
      grind
theorem scale_zero {c : Credit} {name : ByteArray} (hc : CreditOk c) (hl : c.parts.length < 1024) (hn : nameS name = true) : (scaleS c name ⟨0, 1⟩).2 = 0 ∧ (scaleS c name ⟨0, 1⟩).1.pts = ⟨0, 1⟩ ∧ (scaleS c name ⟨0, 1⟩).1.hund = 0 := by
  have hneg : Fok ⟨-c.pts.n, c.pts.d⟩ := by
    obtain ⟨a, b, d, e, f⟩ := hc.ok
    exact ⟨a, b, by show -1000000000 ≤ -c.pts.n; omega, by show -c.pts.n ≤ 1000000000; omega, by show Int.gcd (-c.pts.n) c.pts.d = 1; unfold Int.gcd; rw [Int.natAbs_neg]; exact f⟩
  have hsub := fsub_of (a := ⟨0, 1⟩) (b := c.pts) zero_ok hc.ok hneg (by
    rw [val_zero]
    show 0 - Rat.divInt c.pts.n c.pts.d = Rat.divInt (-c.pts.n) c.pts.d
    rw [← Rat.neg_divInt]
    grind)
  have h := scale_of (q := ⟨0, 1⟩) hc hl hn zero_ok (by rw [val_zero]; exact Rat.le_refl) (by rw [val_zero]; decide) zero_ok (by rw [val_zero, Rat.mul_zero]) hsub.1 (by decide)
  rw [h]
  exact ⟨rfl, rfl, (by decide : hundS ⟨0, 1⟩ = 0)⟩
theorem scale_one {c : Credit} {name : ByteArray} (hc : CreditOk c) (hl : c.parts.length < 1024) (hn : nameS name = true) : (scaleS c name ⟨1, 1⟩).2 = 0 ∧ (scaleS c name ⟨1, 1⟩).1.pts = c.pts := by
  have hsub := fsub_of (a := c.pts) (b := c.pts) hc.ok hc.ok zero_ok (by rw [val_zero]; grind)
  have h := scale_of (q := c.pts) hc hl hn one_ok (by rw [val_one]; decide) (by rw [val_one]; exact Rat.le_refl) hc.ok (by rw [val_one, Rat.mul_one]) hsub.1 hc.most
  rw [h]
  exact ⟨rfl, rfl⟩
end Go.Proofs.YtdajoilaakiinaaGreatDoor.Awp

/- CreditAdds walks. -/
namespace Go.Proofs.YtdajoilaakiinaaGreatDoor.Awp
open Go Go.Proofs
set_option linter.unusedSimpArgs false
set_option linter.unusedVariables false
set_option maxRecDepth 10000
set_option maxHeartbeats 4000000

def lateS : ByteArray := (⟨#[108, 97, 116, 101]⟩ : ByteArray)
theorem late_name : nameS lateS = true := by kernel_rfl
theorem partsV_nil {ps : List Part} (h : ps = []) : partsV ps = .nil := if_pos h
theorem adds_fn {ls : List Line} {v : PV} (hv : SliceP (ls.map Line.cs) v) (hl : ls.length ≤ maxLen) (f : Frac) : Pure EE 9 [v, f.pv] (.bool true) := by
  have hl' : ls.length ≤ 9223372036854775807 := hl
  have hfew := few_fn hv hl'
  have hcom := combine_fn hv
  cases hfs : fewS ls
  · rw [hfs] at hfew
    intro σ nx
    refine fn_of_body goodEE (by rw [EE_P]; exact Tryz.func9) rfl rfl (by kernel_rfl) (Nat.le_of_ble_eq_true rfl) (Nat.le_refl _) fun hwf hlt => ?_
    rw [show Tryz.f9.results.toList = [.tmp 4] from rfl]
    refine awp_begin _ _ _ _ _ (cc := _) (by conv => lhs; simp only [push_cast, Nat.reduceEqDiff, Nat.reduceAdd, Nat.reduceMul, Nat.reduceLeDiff, Nat.reduceLT, reduceIte, reduceCtorEq, Nat.reduceShiftRight, Nat.reduceAnd, Nat.reducePow, Nat.reduceOr, Nat.reduceBNe, Nat.reduceBEq, Int.reduceToNat, Int.reduceLT, Int.reduceLE, Int.reduceGT, Int.reduceGE, Int.reduceEq, Int.reduceNe, Int.reduceNeg, Int.reduceAdd, Int.reduceSub, Int.reduceMul, Tryz.f9]) ?_
    simp only [push_cast, Nat.reduceEqDiff, Nat.reduceAdd, Nat.reduceMul, Nat.reduceLeDiff, Nat.reduceLT, reduceIte, reduceCtorEq, Nat.reduceShiftRight, Nat.reduceAnd, Nat.reducePow, Nat.reduceOr, Nat.reduceBNe, Nat.reduceBEq, Int.reduceToNat, Int.reduceLT, Int.reduceLE, Int.reduceGT, Int.reduceGE, Int.reduceEq, Int.reduceNe, Int.reduceNeg, Int.reduceAdd, Int.reduceSub, Int.reduceMul, EE_P]
    repeat' (first | simp only [push_cast, Nat.reduceEqDiff, Nat.reduceAdd, Nat.reduceMul, Nat.reduceLeDiff, Nat.reduceLT, reduceIte, reduceCtorEq, Nat.reduceShiftRight, Nat.reduceAnd, Nat.reducePow, Nat.reduceOr, Nat.reduceBNe, Nat.reduceBEq, Int.reduceToNat, Int.reduceLT, Int.reduceLE, Int.reduceGT, Int.reduceGE, Int.reduceEq, Int.reduceNe, Int.reduceNeg, Int.reduceAdd, Int.reduceSub, Int.reduceMul, EE_P] | simp (disch := omega) only [wrap_fits] | ((first | with_reducible apply wcall_pure | with_reducible apply wdcall_pure); focus (first | assumption | exact refadd_fn ⟨_, _⟩ ⟨_, _⟩ | exact awake_fn | exact equal_fn (by simp) (by simp) | exact awake1_fn _ | exact few_fn (by assumption) (by omega) | exact refcompare_fn ⟨_, _⟩ ⟨_, _⟩ | exact refvalid_fn ⟨_, _⟩ | exact explain_fn _ (by assumption) (by omega) | exact valid_credit_fn _ (by assumption) (by omega) | exact sum_fn (by assumption) (by omega) | exact all_fn (by assumption) (by omega) | exact pointsText_fn _ | exact cutPrefix_fn _ _ | exact cutPrefix1_fn _ _ | exact hasPrefix_fn _ _ | exact format_fn ⟨_, _⟩ | exact itoa_fn (by omega) (by omega) | exact steps_fn _ | exact choosef_fn _ _ | exact wrong_fn _ | exact right_fn _ | exact isName_fn _ | exact formatExpr_name _ | exact format_name _ | exact right_name _ | exact depth_name _ | exact name_fn _ | exact run_fn _ (by omega) _ [] [] _ (fun b _ _ => inName_fn b) | exact keywords_fn | exact contains_fn kwS (by decide) _ | exact inName_fn _ | exact digit_fn _ | exact letter_fn _ | exact hundredths_fn goodEE EE_P _ _ | exact mul_fn goodEE EE_P _ _ _ _ | exact sub_fn goodEE EE_P _ _ _ _ | exact add_fn goodEE EE_P _ _ _ _ | exact weight_fn goodEE EE_P EE_zero _ _ _ _ _ _ _ | exact less_fn goodEE EE_P _ _ _ _ | exact compare_fn goodEE EE_P _ _ _ _ | exact cmp_fn goodEE EE_P _ _ | exact isNaN_fn goodEE EE_P _ | exact valid_fn goodEE EE_P _ _ | exact abs_fn goodEE EE_P (by omega) (by omega))) | (with_reducible refine wguard_split_t (fun h => ?_) (fun h => ?_)) | (with_reducible refine wguard_split_f (fun h => ?_) (fun h => ?_)) | (with_reducible refine wcond_split (fun h => ?_) (fun h => ?_)) | (with_reducible refine wdguard_split_t (fun h => ?_) (fun h => ?_)) | (with_reducible refine wdguard_split_f (fun h => ?_) (fun h => ?_)) | (with_reducible refine And.intro (fun h => ?_) (fun h => ?_)) | (with_reducible apply And.intro; focus omega))
    ((refine ends_ret (by simp only [resultsOf, resOf, push_cast, Nat.reduceEqDiff, Nat.reduceAdd, Nat.reduceMul, Nat.reduceLeDiff, Nat.reduceLT, reduceIte, reduceCtorEq, Nat.reduceShiftRight, Nat.reduceAnd, Nat.reducePow, Nat.reduceOr, Nat.reduceBNe, Nat.reduceBEq, Int.reduceToNat, Int.reduceLT, Int.reduceLE, Int.reduceGT, Int.reduceGE, Int.reduceEq, Int.reduceNe, Int.reduceNeg, Int.reduceAdd, Int.reduceSub, Int.reduceMul, EE_P]; rfl) (by simp only [push_cast, Nat.reduceEqDiff, Nat.reduceAdd, Nat.reduceMul, Nat.reduceLeDiff, Nat.reduceLT, reduceIte, reduceCtorEq, Nat.reduceShiftRight, Nat.reduceAnd, Nat.reducePow, Nat.reduceOr, Nat.reduceBNe, Nat.reduceBEq, Int.reduceToNat, Int.reduceLT, Int.reduceLE, Int.reduceGT, Int.reduceGE, Int.reduceEq, Int.reduceNe, Int.reduceNeg, Int.reduceAdd, Int.reduceSub, Int.reduceMul, EE_P]) ?_ (by repeat' (first | exact Keeps.refl _ | assumption | exact (hwf.keep1 _) | refine Keeps.new hwf ?_ (by omega) _)) (by simp only [lt_int, lt_bool, lt_str, lt_nil, lt_empty, lt_agg, lt_tup, lt_list, lt_cells, lt_fn, lt_nilp, lt_nilfn, lt_nili, List.mem_cons, List.not_mem_nil, or_false, forall_eq_or_imp, forall_eq, and_true, true_and, and_self, implies_true, *]; try omega)); (try simp only [tupOf, push_cast, Nat.reduceEqDiff, Nat.reduceAdd, Nat.reduceMul, Nat.reduceLeDiff, Nat.reduceLT, reduceIte, reduceCtorEq, Nat.reduceShiftRight, Nat.reduceAnd, Nat.reducePow, Nat.reduceOr, Nat.reduceBNe, Nat.reduceBEq, Int.reduceToNat, Int.reduceLT, Int.reduceLE, Int.reduceGT, Int.reduceGE, Int.reduceEq, Int.reduceNe, Int.reduceNeg, Int.reduceAdd, Int.reduceSub, Int.reduceMul, EE_P]))
  rw [hfs] at hfew
  by_cases he : (combineS ls).2 = 0
  · have hok := combine_credit he
    generalize hc : combineS ls = c at *
    obtain ⟨c, e⟩ := c
    simp only at he hok hcom
    subst he
    obtain ⟨hok, hpl⟩ := hok
    have hl1 : c.parts.length ≤ 1000000 := by omega
    have hv1 := valid_credit_fn c (partsV_slice c.parts) hl1
    rw [hok.valid (by omega)] at hv1
    have hs1 := scale_fn (partsV_slice c.parts) hl1 lateS f partsV_nil
    have hs2 := scale_fn (partsV_slice c.parts) hl1 lateS ⟨0, 1⟩ partsV_nil
    have hs3 := scale_fn (partsV_slice c.parts) hl1 lateS ⟨1, 1⟩ partsV_nil
    obtain ⟨z1, z2, z3⟩ := scale_zero hok (by omega) late_name
    obtain ⟨o1, o2⟩ := scale_one hok (by omega) late_name
    have hd := scale_ok (name := lateS) (f := f) hok
    have hvd : (scaleS c lateS f).2 = 0 → Pure EE 24 [(scaleS c lateS f).1.val] (.bool true) := fun h => by
      obtain ⟨d1, d2, d3, _⟩ := hd h
      have hq := valid_credit_fn (scaleS c lateS f).1 (partsV_slice _) (by omega)
      rw [d1.valid (by omega)] at hq
      exact hq
    have hdl : (scaleS c lateS f).2 = 0 → Fok (scaleS c lateS f).1.pts := fun h => (hd h).1.ok
    generalize hdc : scaleS c lateS f = d at *
    generalize hzc : scaleS c lateS ⟨0, 1⟩ = z at *
    generalize hoc : scaleS c lateS ⟨1, 1⟩ = o at *
    obtain ⟨⟨dp, dt, dh⟩, de⟩ := d
    obtain ⟨⟨zp, zt, zh⟩, ze⟩ := z
    obtain ⟨⟨op, ot, oh⟩, oe⟩ := o
    simp only at z1 z2 z3 o1 o2 hd hvd hdl
    subst z1 z2 z3 o1 o2
    have hsum := sums_get hok.sums
    have hlast := hok.sums
    have hpok := hok.ok
    have hpn := hok.nonneg
    obtain ⟨parts, pts, hund⟩ := c
    have p1 := (partsV_slice parts).one
    have p2 := (partsV_slice dp).one
    have p3 := (partsV_slice zp).one
    have p4 := (partsV_slice op).one
    have q1 := (partsV_slice parts).cells
    have q2 := (partsV_slice dp).cells
    have q3 := (partsV_slice zp).cells
    have q4 := (partsV_slice op).cells
    have r1 := (partsV_slice parts).len
    have r2 := (partsV_slice dp).len
    have i1 := (partsV_slice parts).str
    have i2 := (partsV_slice dp).str
    have hpv := partsV_slice parts
    simp only [List.length_map] at r1 r2
    simp only [Credit.val, Credit.pv, lateS] at hcom hs1 hs2 hs3 hv1 hvd
    simp only at hsum hlast hpok hpn hl1 hpl hd
    intro σ nx
    refine fn_of_body goodEE (by rw [EE_P]; exact Tryz.func9) rfl rfl (by kernel_rfl) (Nat.le_of_ble_eq_true rfl) (Nat.le_refl _) fun hwf hlt => ?_
    rw [show Tryz.f9.results.toList = [.tmp 4] from rfl]
    refine awp_begin _ _ _ _ _ (cc := _) (by conv => lhs; simp only [push_cast, Nat.reduceEqDiff, Nat.reduceAdd, Nat.reduceMul, Nat.reduceLeDiff, Nat.reduceLT, reduceIte, reduceCtorEq, Nat.reduceShiftRight, Nat.reduceAnd, Nat.reducePow, Nat.reduceOr, Nat.reduceBNe, Nat.reduceBEq, Int.reduceToNat, Int.reduceLT, Int.reduceLE, Int.reduceGT, Int.reduceGE, Int.reduceEq, Int.reduceNe, Int.reduceNeg, Int.reduceAdd, Int.reduceSub, Int.reduceMul, Tryz.f9]) ?_
    simp only [push_cast, Nat.reduceEqDiff, Nat.reduceAdd, Nat.reduceMul, Nat.reduceLeDiff, Nat.reduceLT, reduceIte, reduceCtorEq, Nat.reduceShiftRight, Nat.reduceAnd, Nat.reducePow, Nat.reduceOr, Nat.reduceBNe, Nat.reduceBEq, Int.reduceToNat, Int.reduceLT, Int.reduceLE, Int.reduceGT, Int.reduceGE, Int.reduceEq, Int.reduceNe, Int.reduceNeg, Int.reduceAdd, Int.reduceSub, Int.reduceMul, EE_P]
    repeat' (first | simp only [push_cast, Nat.reduceEqDiff, Nat.reduceAdd, Nat.reduceMul, Nat.reduceLeDiff, Nat.reduceLT, reduceIte, reduceCtorEq, Nat.reduceShiftRight, Nat.reduceAnd, Nat.reducePow, Nat.reduceOr, Nat.reduceBNe, Nat.reduceBEq, Int.reduceToNat, Int.reduceLT, Int.reduceLE, Int.reduceGT, Int.reduceGE, Int.reduceEq, Int.reduceNe, Int.reduceNeg, Int.reduceAdd, Int.reduceSub, Int.reduceMul, EE_P, p1, q1, r1, i1] | simp (disch := omega) only [wrap_fits] | ((first | with_reducible apply wcall_pure | with_reducible apply wdcall_pure); focus (first | assumption | exact refadd_fn ⟨_, _⟩ ⟨_, _⟩ | exact awake_fn | exact equal_fn (by simp) (by simp) | exact awake1_fn _ | exact few_fn (by assumption) (by omega) | exact refcompare_fn ⟨_, _⟩ ⟨_, _⟩ | exact refvalid_fn ⟨_, _⟩ | exact explain_fn _ (by assumption) (by omega) | exact valid_credit_fn _ (by assumption) (by omega) | exact sum_fn (by assumption) (by omega) | exact all_fn (by assumption) (by omega) | exact pointsText_fn _ | exact cutPrefix_fn _ _ | exact cutPrefix1_fn _ _ | exact hasPrefix_fn _ _ | exact format_fn ⟨_, _⟩ | exact itoa_fn (by omega) (by omega) | exact steps_fn _ | exact choosef_fn _ _ | exact wrong_fn _ | exact right_fn _ | exact isName_fn _ | exact formatExpr_name _ | exact format_name _ | exact right_name _ | exact depth_name _ | exact name_fn _ | exact run_fn _ (by omega) _ [] [] _ (fun b _ _ => inName_fn b) | exact keywords_fn | exact contains_fn kwS (by decide) _ | exact inName_fn _ | exact digit_fn _ | exact letter_fn _ | exact hundredths_fn goodEE EE_P _ _ | exact mul_fn goodEE EE_P _ _ _ _ | exact sub_fn goodEE EE_P _ _ _ _ | exact add_fn goodEE EE_P _ _ _ _ | exact weight_fn goodEE EE_P EE_zero _ _ _ _ _ _ _ | exact less_fn goodEE EE_P _ _ _ _ | exact compare_fn goodEE EE_P _ _ _ _ | exact cmp_fn goodEE EE_P _ _ | exact isNaN_fn goodEE EE_P _ | exact valid_fn goodEE EE_P _ _ | exact abs_fn goodEE EE_P (by omega) (by omega))) | (with_reducible refine wguard_split_t (fun h => ?_) (fun h => ?_)) | (with_reducible refine wguard_split_f (fun h => ?_) (fun h => ?_)) | (with_reducible refine wcond_split (fun h => ?_) (fun h => ?_)) | (with_reducible refine wdguard_split_t (fun h => ?_) (fun h => ?_)) | (with_reducible refine wdguard_split_f (fun h => ?_) (fun h => ?_)) | (with_reducible refine And.intro (fun h => ?_) (fun h => ?_)) | (with_reducible apply And.intro; focus omega))
    refine wloop_by (fun m sl σ' nx' => ∃ i k5 k7 : Nat, i ≤ parts.length ∧ m = parts.length - i ∧ nx < k5 ∧ k5 < nx' ∧ nx < k7 ∧ k7 < nx' ∧ k5 ≠ k7 ∧ (sumTo (effs parts) i).2 = 0 ∧ sl 3 = .ptr nx 0 0 ∧ sl 5 = .ptr k5 0 0 ∧ sl 7 = .ptr k7 0 0 ∧ sl 43 = partsV parts ∧ sl 44 = .int .i64 parts.length ∧ sl 45 = .int .i64 i ∧
      σ' nx = some (.row [[.int .i64 f.n, .int .i64 f.d]]) ∧ σ' k5 = some (.row [[partsV parts, .int .i64 pts.n, .int .i64 pts.d, .int .i64 hund]]) ∧ σ' k7 = some (.row [(sumTo (effs parts) i).1.cs]) ∧ Keeps σ σ') parts.length 
      ⟨0, nx + 12, nx + 18, by omega, rfl, by omega, by omega, by omega, by omega, by omega, rfl, rfl, rfl, rfl, rfl, rfl, rfl, ?_, ?_, ?_, (by repeat' (first | exact Keeps.refl _ | assumption | exact (hwf.keep1 _) | refine Keeps.new hwf ?_ (by omega) _))⟩ ?_
    · simp only [upd_at, push_cast, Nat.reduceEqDiff, Nat.reduceAdd, Nat.reduceMul, Nat.reduceLeDiff, Nat.reduceLT, reduceIte, reduceCtorEq, Nat.reduceShiftRight, Nat.reduceAnd, Nat.reducePow, Nat.reduceOr, Nat.reduceBNe, Nat.reduceBEq, Int.reduceToNat, Int.reduceLT, Int.reduceLE, Int.reduceGT, Int.reduceGE, Int.reduceEq, Int.reduceNe, Int.reduceNeg, Int.reduceAdd, Int.reduceSub, Int.reduceMul]
    · simp only [upd_at, push_cast, Nat.reduceEqDiff, Nat.reduceAdd, Nat.reduceMul, Nat.reduceLeDiff, Nat.reduceLT, reduceIte, reduceCtorEq, Nat.reduceShiftRight, Nat.reduceAnd, Nat.reducePow, Nat.reduceOr, Nat.reduceBNe, Nat.reduceBEq, Int.reduceToNat, Int.reduceLT, Int.reduceLE, Int.reduceGT, Int.reduceGE, Int.reduceEq, Int.reduceNe, Int.reduceNeg, Int.reduceAdd, Int.reduceSub, Int.reduceMul]
    · simp only [upd_at, push_cast, Nat.reduceEqDiff, Nat.reduceAdd, Nat.reduceMul, Nat.reduceLeDiff, Nat.reduceLT, reduceIte, reduceCtorEq, Nat.reduceShiftRight, Nat.reduceAnd, Nat.reducePow, Nat.reduceOr, Nat.reduceBNe, Nat.reduceBEq, Int.reduceToNat, Int.reduceLT, Int.reduceLE, Int.reduceGT, Int.reduceGE, Int.reduceEq, Int.reduceNe, Int.reduceNeg, Int.reduceAdd, Int.reduceSub, Int.reduceMul, sumTo]
    rintro m sl σ' nx' ⟨i, k5, k7, hi, hm, m5, n5, m7, n7, h57, hz0, h3, h5, h7, h43, h44, h45, hs0, hs5, hs7, hk⟩
    have hi0 : (0 : Int) ≤ i := by omega
    have hnn : nx < nx' := by omega
    have a1 : k5 ≠ nx := by omega
    have a2 : k7 ≠ nx := by omega
    by_cases hil : i < parts.length
    · have hil' : (i : Int) < parts.length := by omega
      obtain ⟨_, x, hx, hx1, hx2⟩ := hsum i hil
      have h43' : sl 43 = .list (parts.map Part.cs) := h43.trans (hpv.lt (i := i) (by simpa using hil))
      have hw : IntKind.i64.wrap ((i : Int) + 1) = (i : Int) + 1 := wrap_small (by omega) (by omega)
      have hget : (parts.map Part.cs)[i]? = some x.cs := by rw [List.getElem?_map, hx]; rfl
      generalize hg : (sumTo (effs parts) i).1 = g at hs7 hx1 hx2
      have hadd := refadd_fn g x.eff
      rw [hx1] at hadd
      repeat' (first | simp only [push_cast, Nat.reduceEqDiff, Nat.reduceAdd, Nat.reduceMul, Nat.reduceLeDiff, Nat.reduceLT, reduceIte, reduceCtorEq, Nat.reduceShiftRight, Nat.reduceAnd, Nat.reducePow, Nat.reduceOr, Nat.reduceBNe, Nat.reduceBEq, Int.reduceToNat, Int.reduceLT, Int.reduceLE, Int.reduceGT, Int.reduceGE, Int.reduceEq, Int.reduceNe, Int.reduceNeg, Int.reduceAdd, Int.reduceSub, Int.reduceMul, EE_P, h3, h5, h7, h43', h44, h45, hi0, hil', hget, hw, List.length_map, Int.toNat_natCast, (key_ne hnn).1, (key_ne hnn).2.1, (key_ne hnn).2.2.1, (key_ne hnn).2.2.2, (key_ne n5).1, (key_ne n5).2.1, (key_ne n5).2.2.1, (key_ne n5).2.2.2, (key_ne n7).1, (key_ne n7).2.1, (key_ne n7).2.2.1, (key_ne n7).2.2.2, (ne_keys a1).1, (ne_keys a1).2, (ne_keys a2).1, (ne_keys a2).2, (ne_keys h57).1, (ne_keys h57).2, hs0, hs5, hs7] | simp (disch := omega) only [wrap_fits] | ((first | with_reducible apply wcall_pure | with_reducible apply wdcall_pure); focus (first | assumption | exact refadd_fn ⟨_, _⟩ ⟨_, _⟩ | exact awake_fn | exact equal_fn (by simp) (by simp) | exact awake1_fn _ | exact few_fn (by assumption) (by omega) | exact refcompare_fn ⟨_, _⟩ ⟨_, _⟩ | exact refvalid_fn ⟨_, _⟩ | exact explain_fn _ (by assumption) (by omega) | exact valid_credit_fn _ (by assumption) (by omega) | exact sum_fn (by assumption) (by omega) | exact all_fn (by assumption) (by omega) | exact pointsText_fn _ | exact cutPrefix_fn _ _ | exact cutPrefix1_fn _ _ | exact hasPrefix_fn _ _ | exact format_fn ⟨_, _⟩ | exact itoa_fn (by omega) (by omega) | exact steps_fn _ | exact choosef_fn _ _ | exact wrong_fn _ | exact right_fn _ | exact isName_fn _ | exact formatExpr_name _ | exact format_name _ | exact right_name _ | exact depth_name _ | exact name_fn _ | exact run_fn _ (by omega) _ [] [] _ (fun b _ _ => inName_fn b) | exact keywords_fn | exact contains_fn kwS (by decide) _ | exact inName_fn _ | exact digit_fn _ | exact letter_fn _ | exact hundredths_fn goodEE EE_P _ _ | exact mul_fn goodEE EE_P _ _ _ _ | exact sub_fn goodEE EE_P _ _ _ _ | exact add_fn goodEE EE_P _ _ _ _ | exact weight_fn goodEE EE_P EE_zero _ _ _ _ _ _ _ | exact less_fn goodEE EE_P _ _ _ _ | exact compare_fn goodEE EE_P _ _ _ _ | exact cmp_fn goodEE EE_P _ _ | exact isNaN_fn goodEE EE_P _ | exact valid_fn goodEE EE_P _ _ | exact abs_fn goodEE EE_P (by omega) (by omega))) | (with_reducible refine wguard_split_t (fun h => ?_) (fun h => ?_)) | (with_reducible refine wguard_split_f (fun h => ?_) (fun h => ?_)) | (with_reducible refine wcond_split (fun h => ?_) (fun h => ?_)) | (with_reducible refine wdguard_split_t (fun h => ?_) (fun h => ?_)) | (with_reducible refine wdguard_split_f (fun h => ?_) (fun h => ?_)) | (with_reducible refine And.intro (fun h => ?_) (fun h => ?_)) | (with_reducible apply And.intro; focus omega))
      refine ⟨parts.length - (i + 1), by omega, i + 1, k5, k7, by omega, rfl, m5, by omega, m7, by omega, h57, by rw [hx2], rfl, rfl, h43'.symm.trans h43, by simp, ?_⟩
      simp only [hx2, push_cast, Nat.reduceEqDiff, Nat.reduceAdd, Nat.reduceMul, Nat.reduceLeDiff, Nat.reduceLT, reduceIte, reduceCtorEq, Nat.reduceShiftRight, Nat.reduceAnd, Nat.reducePow, Nat.reduceOr, Nat.reduceBNe, Nat.reduceBEq, Int.reduceToNat, Int.reduceLT, Int.reduceLE, Int.reduceGT, Int.reduceGE, Int.reduceEq, Int.reduceNe, Int.reduceNeg, Int.reduceAdd, Int.reduceSub, Int.reduceMul, (key_ne hnn).1, (key_ne hnn).2.1, (key_ne hnn).2.2.1, (key_ne hnn).2.2.2, (key_ne n5).1, (key_ne n5).2.1, (key_ne n5).2.2.1, (key_ne n5).2.2.2, (key_ne n7).1, (key_ne n7).2.1, (key_ne n7).2.2.1, (key_ne n7).2.2.2, (ne_keys a1).1, (ne_keys a1).2, (ne_keys a2).1, (ne_keys a2).2, (ne_keys h57).1, (ne_keys h57).2, hs0, hs5]
      first | exact ⟨rfl, rfl, rfl, (by repeat' (first | exact Keeps.refl _ | assumption | exact (hwf.keep1 _) | refine Keeps.new hwf ?_ (by omega) _))⟩ | exact ⟨rfl, rfl, (by repeat' (first | exact Keeps.refl _ | assumption | exact (hwf.keep1 _) | refine Keeps.new hwf ?_ (by omega) _))⟩ | exact ⟨rfl, (by repeat' (first | exact Keeps.refl _ | assumption | exact (hwf.keep1 _) | refine Keeps.new hwf ?_ (by omega) _))⟩ | exact (by repeat' (first | exact Keeps.refl _ | assumption | exact (hwf.keep1 _) | refine Keeps.new hwf ?_ (by omega) _))
    · have hil' : ¬ (i : Int) < parts.length := by omega
      obtain rfl : i = parts.length := by omega
      have hlast' : sumTo (effs parts) parts.length = (pts, 0) := hlast
      rw [hlast'] at hs7
      repeat' (first | simp only [push_cast, Nat.reduceEqDiff, Nat.reduceAdd, Nat.reduceMul, Nat.reduceLeDiff, Nat.reduceLT, reduceIte, reduceCtorEq, Nat.reduceShiftRight, Nat.reduceAnd, Nat.reducePow, Nat.reduceOr, Nat.reduceBNe, Nat.reduceBEq, Int.reduceToNat, Int.reduceLT, Int.reduceLE, Int.reduceGT, Int.reduceGE, Int.reduceEq, Int.reduceNe, Int.reduceNeg, Int.reduceAdd, Int.reduceSub, Int.reduceMul, EE_P, h3, h5, h7, h43, h44, h45, hil', (key_ne hnn).1, (key_ne hnn).2.1, (key_ne hnn).2.2.1, (key_ne hnn).2.2.2, (key_ne n5).1, (key_ne n5).2.1, (key_ne n5).2.2.1, (key_ne n5).2.2.2, (key_ne n7).1, (key_ne n7).2.1, (key_ne n7).2.2.1, (key_ne n7).2.2.2, (ne_keys a1).1, (ne_keys a1).2, (ne_keys a2).1, (ne_keys a2).2, (ne_keys h57).1, (ne_keys h57).2, hs0, hs5, hs7, p1, q1, p2, q2, p3, q3, p4, q4, r1, r2, i1, i2] | simp (disch := omega) only [wrap_fits] | ((first | with_reducible apply wcall_pure | with_reducible apply wdcall_pure); focus (first | assumption | exact refadd_fn ⟨_, _⟩ ⟨_, _⟩ | exact awake_fn | exact equal_fn (by simp) (by simp) | exact awake1_fn _ | exact few_fn (by assumption) (by omega) | exact refcompare_fn ⟨_, _⟩ ⟨_, _⟩ | exact refvalid_fn ⟨_, _⟩ | exact explain_fn _ (by assumption) (by omega) | exact valid_credit_fn _ (by assumption) (by omega) | exact sum_fn (by assumption) (by omega) | exact all_fn (by assumption) (by omega) | exact pointsText_fn _ | exact cutPrefix_fn _ _ | exact cutPrefix1_fn _ _ | exact hasPrefix_fn _ _ | exact format_fn ⟨_, _⟩ | exact itoa_fn (by omega) (by omega) | exact steps_fn _ | exact choosef_fn _ _ | exact wrong_fn _ | exact right_fn _ | exact isName_fn _ | exact formatExpr_name _ | exact format_name _ | exact right_name _ | exact depth_name _ | exact name_fn _ | exact run_fn _ (by omega) _ [] [] _ (fun b _ _ => inName_fn b) | exact keywords_fn | exact contains_fn kwS (by decide) _ | exact inName_fn _ | exact digit_fn _ | exact letter_fn _ | exact hundredths_fn goodEE EE_P _ _ | exact mul_fn goodEE EE_P _ _ _ _ | exact sub_fn goodEE EE_P _ _ _ _ | exact add_fn goodEE EE_P _ _ _ _ | exact weight_fn goodEE EE_P EE_zero _ _ _ _ _ _ _ | exact less_fn goodEE EE_P _ _ _ _ | exact compare_fn goodEE EE_P _ _ _ _ | exact cmp_fn goodEE EE_P _ _ | exact isNaN_fn goodEE EE_P _ | exact valid_fn goodEE EE_P _ _ | exact abs_fn goodEE EE_P (by omega) (by omega))) | (with_reducible refine wguard_split_t (fun h => ?_) (fun h => ?_)) | (with_reducible refine wguard_split_f (fun h => ?_) (fun h => ?_)) | (with_reducible refine wcond_split (fun h => ?_) (fun h => ?_)) | (with_reducible refine wdguard_split_t (fun h => ?_) (fun h => ?_)) | (with_reducible refine wdguard_split_f (fun h => ?_) (fun h => ?_)) | (with_reducible refine And.intro (fun h => ?_) (fun h => ?_)) | (with_reducible apply And.intro; focus omega))
      · refine wcall_pure _ _ _ _ _ _ (hvd (by assumption)) ?_
        obtain ⟨g1, g2, g3, g4, g5⟩ := hd (by assumption)
        have g0 := hdl (by assumption)
        have g6 : fcmp dt.n dt.d pts.n pts.d ≤ 0 := by
          have := fcmp_ok g0 hpok
          rw [← val_le g0 hpok] at g4
          unfold Fle at g4
          rcases cmp_cases (dt.n * pts.d) (pts.n * dt.d) with ⟨u1, u2⟩ | ⟨u1, u2⟩ | ⟨u1, u2⟩ <;> omega
        repeat' (first | simp only [push_cast, Nat.reduceEqDiff, Nat.reduceAdd, Nat.reduceMul, Nat.reduceLeDiff, Nat.reduceLT, reduceIte, reduceCtorEq, Nat.reduceShiftRight, Nat.reduceAnd, Nat.reducePow, Nat.reduceOr, Nat.reduceBNe, Nat.reduceBEq, Int.reduceToNat, Int.reduceLT, Int.reduceLE, Int.reduceGT, Int.reduceGE, Int.reduceEq, Int.reduceNe, Int.reduceNeg, Int.reduceAdd, Int.reduceSub, Int.reduceMul, EE_P, h3, h5, h7, h43, h44, h45, hil', (key_ne hnn).1, (key_ne hnn).2.1, (key_ne hnn).2.2.1, (key_ne hnn).2.2.2, (key_ne n5).1, (key_ne n5).2.1, (key_ne n5).2.2.1, (key_ne n5).2.2.2, (key_ne n7).1, (key_ne n7).2.1, (key_ne n7).2.2.1, (key_ne n7).2.2.2, (ne_keys a1).1, (ne_keys a1).2, (ne_keys a2).1, (ne_keys a2).2, (ne_keys h57).1, (ne_keys h57).2, hs0, hs5, hs7, p1, q1, p2, q2, p3, q3, p4, q4, r1, r2, i1, i2] | simp (disch := omega) only [wrap_fits] | ((first | with_reducible apply wcall_pure | with_reducible apply wdcall_pure); focus (first | assumption | exact refadd_fn ⟨_, _⟩ ⟨_, _⟩ | exact awake_fn | exact equal_fn (by simp) (by simp) | exact awake1_fn _ | exact few_fn (by assumption) (by omega) | exact refcompare_fn ⟨_, _⟩ ⟨_, _⟩ | exact refvalid_fn ⟨_, _⟩ | exact explain_fn _ (by assumption) (by omega) | exact valid_credit_fn _ (by assumption) (by omega) | exact sum_fn (by assumption) (by omega) | exact all_fn (by assumption) (by omega) | exact pointsText_fn _ | exact cutPrefix_fn _ _ | exact cutPrefix1_fn _ _ | exact hasPrefix_fn _ _ | exact format_fn ⟨_, _⟩ | exact itoa_fn (by omega) (by omega) | exact steps_fn _ | exact choosef_fn _ _ | exact wrong_fn _ | exact right_fn _ | exact isName_fn _ | exact formatExpr_name _ | exact format_name _ | exact right_name _ | exact depth_name _ | exact name_fn _ | exact run_fn _ (by omega) _ [] [] _ (fun b _ _ => inName_fn b) | exact keywords_fn | exact contains_fn kwS (by decide) _ | exact inName_fn _ | exact digit_fn _ | exact letter_fn _ | exact hundredths_fn goodEE EE_P _ _ | exact mul_fn goodEE EE_P _ _ _ _ | exact sub_fn goodEE EE_P _ _ _ _ | exact add_fn goodEE EE_P _ _ _ _ | exact weight_fn goodEE EE_P EE_zero _ _ _ _ _ _ _ | exact less_fn goodEE EE_P _ _ _ _ | exact compare_fn goodEE EE_P _ _ _ _ | exact cmp_fn goodEE EE_P _ _ | exact isNaN_fn goodEE EE_P _ | exact valid_fn goodEE EE_P _ _ | exact abs_fn goodEE EE_P (by omega) (by omega))) | (with_reducible refine wguard_split_t (fun h => ?_) (fun h => ?_)) | (with_reducible refine wguard_split_f (fun h => ?_) (fun h => ?_)) | (with_reducible refine wcond_split (fun h => ?_) (fun h => ?_)) | (with_reducible refine wdguard_split_t (fun h => ?_) (fun h => ?_)) | (with_reducible refine wdguard_split_f (fun h => ?_) (fun h => ?_)) | (with_reducible refine And.intro (fun h => ?_) (fun h => ?_)) | (with_reducible apply And.intro; focus omega))
        all_goals (try (exfalso; first | omega | exact absurd (show FV dt.n dt.d ∧ FV pts.n pts.d from ⟨g0, hpok⟩) (by assumption)))
        ((refine ends_ret (by simp only [resultsOf, resOf, push_cast, Nat.reduceEqDiff, Nat.reduceAdd, Nat.reduceMul, Nat.reduceLeDiff, Nat.reduceLT, reduceIte, reduceCtorEq, Nat.reduceShiftRight, Nat.reduceAnd, Nat.reducePow, Nat.reduceOr, Nat.reduceBNe, Nat.reduceBEq, Int.reduceToNat, Int.reduceLT, Int.reduceLE, Int.reduceGT, Int.reduceGE, Int.reduceEq, Int.reduceNe, Int.reduceNeg, Int.reduceAdd, Int.reduceSub, Int.reduceMul, EE_P]; rfl) (by simp only [push_cast, Nat.reduceEqDiff, Nat.reduceAdd, Nat.reduceMul, Nat.reduceLeDiff, Nat.reduceLT, reduceIte, reduceCtorEq, Nat.reduceShiftRight, Nat.reduceAnd, Nat.reducePow, Nat.reduceOr, Nat.reduceBNe, Nat.reduceBEq, Int.reduceToNat, Int.reduceLT, Int.reduceLE, Int.reduceGT, Int.reduceGE, Int.reduceEq, Int.reduceNe, Int.reduceNeg, Int.reduceAdd, Int.reduceSub, Int.reduceMul, EE_P]) ?_ (by repeat' (first | exact Keeps.refl _ | assumption | exact (hwf.keep1 _) | refine Keeps.new hwf ?_ (by omega) _)) (by simp only [lt_int, lt_bool, lt_str, lt_nil, lt_empty, lt_agg, lt_tup, lt_list, lt_cells, lt_fn, lt_nilp, lt_nilfn, lt_nili, List.mem_cons, List.not_mem_nil, or_false, forall_eq_or_imp, forall_eq, and_true, true_and, and_self, implies_true, *]; try omega)); (try simp only [tupOf, push_cast, Nat.reduceEqDiff, Nat.reduceAdd, Nat.reduceMul, Nat.reduceLeDiff, Nat.reduceLT, reduceIte, reduceCtorEq, Nat.reduceShiftRight, Nat.reduceAnd, Nat.reducePow, Nat.reduceOr, Nat.reduceBNe, Nat.reduceBEq, Int.reduceToNat, Int.reduceLT, Int.reduceLE, Int.reduceGT, Int.reduceGE, Int.reduceEq, Int.reduceNe, Int.reduceNeg, Int.reduceAdd, Int.reduceSub, Int.reduceMul, EE_P]))
        simp
      · ((refine ends_ret (by simp only [resultsOf, resOf, push_cast, Nat.reduceEqDiff, Nat.reduceAdd, Nat.reduceMul, Nat.reduceLeDiff, Nat.reduceLT, reduceIte, reduceCtorEq, Nat.reduceShiftRight, Nat.reduceAnd, Nat.reducePow, Nat.reduceOr, Nat.reduceBNe, Nat.reduceBEq, Int.reduceToNat, Int.reduceLT, Int.reduceLE, Int.reduceGT, Int.reduceGE, Int.reduceEq, Int.reduceNe, Int.reduceNeg, Int.reduceAdd, Int.reduceSub, Int.reduceMul, EE_P]; rfl) (by simp only [push_cast, Nat.reduceEqDiff, Nat.reduceAdd, Nat.reduceMul, Nat.reduceLeDiff, Nat.reduceLT, reduceIte, reduceCtorEq, Nat.reduceShiftRight, Nat.reduceAnd, Nat.reducePow, Nat.reduceOr, Nat.reduceBNe, Nat.reduceBEq, Int.reduceToNat, Int.reduceLT, Int.reduceLE, Int.reduceGT, Int.reduceGE, Int.reduceEq, Int.reduceNe, Int.reduceNeg, Int.reduceAdd, Int.reduceSub, Int.reduceMul, EE_P]) ?_ (by repeat' (first | exact Keeps.refl _ | assumption | exact (hwf.keep1 _) | refine Keeps.new hwf ?_ (by omega) _)) (by simp only [lt_int, lt_bool, lt_str, lt_nil, lt_empty, lt_agg, lt_tup, lt_list, lt_cells, lt_fn, lt_nilp, lt_nilfn, lt_nili, List.mem_cons, List.not_mem_nil, or_false, forall_eq_or_imp, forall_eq, and_true, true_and, and_self, implies_true, *]; try omega)); (try simp only [tupOf, push_cast, Nat.reduceEqDiff, Nat.reduceAdd, Nat.reduceMul, Nat.reduceLeDiff, Nat.reduceLT, reduceIte, reduceCtorEq, Nat.reduceShiftRight, Nat.reduceAnd, Nat.reducePow, Nat.reduceOr, Nat.reduceBNe, Nat.reduceBEq, Int.reduceToNat, Int.reduceLT, Int.reduceLE, Int.reduceGT, Int.reduceGE, Int.reduceEq, Int.reduceNe, Int.reduceNeg, Int.reduceAdd, Int.reduceSub, Int.reduceMul, EE_P]))
        simp
      · exfalso; omega
  · have hz := combine_err he
    generalize hc : combineS ls = c at *
    obtain ⟨c, e⟩ := c
    simp only at he hz hcom
    subst hz
    have hcom' : Pure EE 12 [v] (.tup [.agg [.nil, .int .i64 0, .int .i64 0, .int .i64 0], .int .i64 e]) := hcom
    clear hcom
    intro σ nx
    refine fn_of_body goodEE (by rw [EE_P]; exact Tryz.func9) rfl rfl (by kernel_rfl) (Nat.le_of_ble_eq_true rfl) (Nat.le_refl _) fun hwf hlt => ?_
    rw [show Tryz.f9.results.toList = [.tmp 4] from rfl]
    refine awp_begin _ _ _ _ _ (cc := _) (by conv => lhs; simp only [push_cast, Nat.reduceEqDiff, Nat.reduceAdd, Nat.reduceMul, Nat.reduceLeDiff, Nat.reduceLT, reduceIte, reduceCtorEq, Nat.reduceShiftRight, Nat.reduceAnd, Nat.reducePow, Nat.reduceOr, Nat.reduceBNe, Nat.reduceBEq, Int.reduceToNat, Int.reduceLT, Int.reduceLE, Int.reduceGT, Int.reduceGE, Int.reduceEq, Int.reduceNe, Int.reduceNeg, Int.reduceAdd, Int.reduceSub, Int.reduceMul, Tryz.f9]) ?_
    simp only [push_cast, Nat.reduceEqDiff, Nat.reduceAdd, Nat.reduceMul, Nat.reduceLeDiff, Nat.reduceLT, reduceIte, reduceCtorEq, Nat.reduceShiftRight, Nat.reduceAnd, Nat.reducePow, Nat.reduceOr, Nat.reduceBNe, Nat.reduceBEq, Int.reduceToNat, Int.reduceLT, Int.reduceLE, Int.reduceGT, Int.reduceGE, Int.reduceEq, Int.reduceNe, Int.reduceNeg, Int.reduceAdd, Int.reduceSub, Int.reduceMul, EE_P]
    repeat' (first | simp only [push_cast, Nat.reduceEqDiff, Nat.reduceAdd, Nat.reduceMul, Nat.reduceLeDiff, Nat.reduceLT, reduceIte, reduceCtorEq, Nat.reduceShiftRight, Nat.reduceAnd, Nat.reducePow, Nat.reduceOr, Nat.reduceBNe, Nat.reduceBEq, Int.reduceToNat, Int.reduceLT, Int.reduceLE, Int.reduceGT, Int.reduceGE, Int.reduceEq, Int.reduceNe, Int.reduceNeg, Int.reduceAdd, Int.reduceSub, Int.reduceMul, EE_P, he] | simp (disch := omega) only [wrap_fits] | ((first | with_reducible apply wcall_pure | with_reducible apply wdcall_pure); focus (first | assumption | exact refadd_fn ⟨_, _⟩ ⟨_, _⟩ | exact awake_fn | exact equal_fn (by simp) (by simp) | exact awake1_fn _ | exact few_fn (by assumption) (by omega) | exact refcompare_fn ⟨_, _⟩ ⟨_, _⟩ | exact refvalid_fn ⟨_, _⟩ | exact explain_fn _ (by assumption) (by omega) | exact valid_credit_fn _ (by assumption) (by omega) | exact sum_fn (by assumption) (by omega) | exact all_fn (by assumption) (by omega) | exact pointsText_fn _ | exact cutPrefix_fn _ _ | exact cutPrefix1_fn _ _ | exact hasPrefix_fn _ _ | exact format_fn ⟨_, _⟩ | exact itoa_fn (by omega) (by omega) | exact steps_fn _ | exact choosef_fn _ _ | exact wrong_fn _ | exact right_fn _ | exact isName_fn _ | exact formatExpr_name _ | exact format_name _ | exact right_name _ | exact depth_name _ | exact name_fn _ | exact run_fn _ (by omega) _ [] [] _ (fun b _ _ => inName_fn b) | exact keywords_fn | exact contains_fn kwS (by decide) _ | exact inName_fn _ | exact digit_fn _ | exact letter_fn _ | exact hundredths_fn goodEE EE_P _ _ | exact mul_fn goodEE EE_P _ _ _ _ | exact sub_fn goodEE EE_P _ _ _ _ | exact add_fn goodEE EE_P _ _ _ _ | exact weight_fn goodEE EE_P EE_zero _ _ _ _ _ _ _ | exact less_fn goodEE EE_P _ _ _ _ | exact compare_fn goodEE EE_P _ _ _ _ | exact cmp_fn goodEE EE_P _ _ | exact isNaN_fn goodEE EE_P _ | exact valid_fn goodEE EE_P _ _ | exact abs_fn goodEE EE_P (by omega) (by omega))) | (with_reducible refine wguard_split_t (fun h => ?_) (fun h => ?_)) | (with_reducible refine wguard_split_f (fun h => ?_) (fun h => ?_)) | (with_reducible refine wcond_split (fun h => ?_) (fun h => ?_)) | (with_reducible refine wdguard_split_t (fun h => ?_) (fun h => ?_)) | (with_reducible refine wdguard_split_f (fun h => ?_) (fun h => ?_)) | (with_reducible refine And.intro (fun h => ?_) (fun h => ?_)) | (with_reducible apply And.intro; focus omega))
    all_goals ((refine ends_ret (by simp only [resultsOf, resOf, push_cast, Nat.reduceEqDiff, Nat.reduceAdd, Nat.reduceMul, Nat.reduceLeDiff, Nat.reduceLT, reduceIte, reduceCtorEq, Nat.reduceShiftRight, Nat.reduceAnd, Nat.reducePow, Nat.reduceOr, Nat.reduceBNe, Nat.reduceBEq, Int.reduceToNat, Int.reduceLT, Int.reduceLE, Int.reduceGT, Int.reduceGE, Int.reduceEq, Int.reduceNe, Int.reduceNeg, Int.reduceAdd, Int.reduceSub, Int.reduceMul, EE_P]; rfl) (by simp only [push_cast, Nat.reduceEqDiff, Nat.reduceAdd, Nat.reduceMul, Nat.reduceLeDiff, Nat.reduceLT, reduceIte, reduceCtorEq, Nat.reduceShiftRight, Nat.reduceAnd, Nat.reducePow, Nat.reduceOr, Nat.reduceBNe, Nat.reduceBEq, Int.reduceToNat, Int.reduceLT, Int.reduceLE, Int.reduceGT, Int.reduceGE, Int.reduceEq, Int.reduceNe, Int.reduceNeg, Int.reduceAdd, Int.reduceSub, Int.reduceMul, EE_P]) ?_ (by repeat' (first | exact Keeps.refl _ | assumption | exact (hwf.keep1 _) | refine Keeps.new hwf ?_ (by omega) _)) (by simp only [lt_int, lt_bool, lt_str, lt_nil, lt_empty, lt_agg, lt_tup, lt_list, lt_cells, lt_fn, lt_nilp, lt_nilfn, lt_nili, List.mem_cons, List.not_mem_nil, or_false, forall_eq_or_imp, forall_eq, and_true, true_and, and_self, implies_true, *]; try omega)); (try simp only [tupOf, push_cast, Nat.reduceEqDiff, Nat.reduceAdd, Nat.reduceMul, Nat.reduceLeDiff, Nat.reduceLT, reduceIte, reduceCtorEq, Nat.reduceShiftRight, Nat.reduceAnd, Nat.reducePow, Nat.reduceOr, Nat.reduceBNe, Nat.reduceBEq, Int.reduceToNat, Int.reduceLT, Int.reduceLE, Int.reduceGT, Int.reduceGE, Int.reduceEq, Int.reduceNe, Int.reduceNeg, Int.reduceAdd, Int.reduceSub, Int.reduceMul, EE_P]))
    all_goals simp
theorem adds_proved : ∀ pvs, Args EE.P Tryz.f9.params.toList pvs → Pure EE 9 pvs (.bool true) := by
  intro pvs h
  obtain ⟨ls, v, rest, rfl, hv, hl, h⟩ := args_lines h
  obtain ⟨f, rest, rfl, h⟩ := args_frac h
  match rest, h with
  | [], _ => exact adds_fn hv hl f
end Go.Proofs.YtdajoilaakiinaaGreatDoor.Awp
