/- What Combine computes, in rational numbers, whatever the order of the lines. -/
import Derived.Test.YtdajoilaakiinaaGreatDoorME
set_option linter.unusedSimpArgs false
set_option linter.unusedVariables false
namespace Go.Proofs.YtdajoilaakiinaaGreatDoor.Awp
open Go Go.Proofs
set_option linter.unusedSimpArgs false
set_option linter.unusedVariables false
set_option maxHeartbeats 1000000

def wt (l : Line) : Rat := val (weightS l)
def isK (k : Int) (l : Line) : Bool := l.app && decide (l.kind = k)
theorem member_iff {g : ByteArray} {l : Line} : memberS g l = true ↔ isK 0 l = true ∧ l.group = g := by
  unfold memberS isK
  simp only [Bool.and_eq_true, decide_eq_true_eq]
  constructor
  · rintro ⟨⟨h1, h2⟩, h3⟩; exact ⟨⟨h2, h1⟩, h3⟩
  · rintro ⟨⟨h1, h2⟩, h3⟩; exact ⟨⟨h2, h1⟩, h3⟩
/-- The best weight of a group. -/
def Mx (g : ByteArray) : List Line → Rat
  | [] => 0
  | l :: ls => if memberS g l = true then max (wt l) (Mx g ls) else Mx g ls
/-- The sum of the points, but for the groups of S. -/
def TS (S : ByteArray → Bool) : List Line → Rat
  | [] => 0
  | l :: ls => TS S ls + (if isK 0 l = true then (if l.group.size = 0 then wt l else if S l.group = true then 0 else max (wt l) (Mx l.group ls) - Mx l.group ls) else 0)
/-- The number of their parts. -/
def NS (S : ByteArray → Bool) : List Line → Nat
  | [] => 0
  | l :: ls => NS S ls + (if isK 0 l = true then (if l.group.size = 0 then 1 else if S l.group = true then 0 else if ls.any (memberS l.group) = true then 0 else 1) else 0)
/-- Sums, greatest and least weights, and numbers of the lines of a kind. -/
def Sm (k : Int) : List Line → Rat
  | [] => 0
  | l :: ls => Sm k ls + (if isK k l = true then wt l else 0)
def Mk (k : Int) : List Line → Rat
  | [] => 0
  | l :: ls => if isK k l = true then max (wt l) (Mk k ls) else Mk k ls
def Mn (p : Rat) : List Line → Rat
  | [] => p
  | l :: ls => if isK 2 l = true then min (wt l) (Mn p ls) else Mn p ls
def Cn (k : Int) (ls : List Line) : Nat := ls.countP (isK k)
def noS : ByteArray → Bool := fun _ => false
def penS (ls : List Line) : Rat := max 0 (TS noS ls - Sm 1 ls)
def resS (ls : List Line) : Rat := Mn (max (penS ls) (Mk 3 ls)) ls
def cntS (ls : List Line) : Nat := NS noS ls + Cn 1 ls + Cn 3 ls + Cn 2 ls

theorem TS_cons (S : ByteArray → Bool) (l : Line) (ls : List Line) : TS S (l :: ls) = TS S ls + (if isK 0 l = true then (if l.group.size = 0 then wt l else if S l.group = true then 0 else max (wt l) (Mx l.group ls) - Mx l.group ls) else 0) := rfl
theorem NS_cons (S : ByteArray → Bool) (l : Line) (ls : List Line) : NS S (l :: ls) = NS S ls + (if isK 0 l = true then (if l.group.size = 0 then 1 else if S l.group = true then 0 else if ls.any (memberS l.group) = true then 0 else 1) else 0) := rfl
theorem Mx_cons (g : ByteArray) (l : Line) (ls : List Line) : Mx g (l :: ls) = if memberS g l = true then max (wt l) (Mx g ls) else Mx g ls := rfl
theorem ts_congr {S S' : ByteArray → Bool} (h : ∀ g, g.size ≠ 0 → S g = S' g) : ∀ ls, TS S ls = TS S' ls ∧ NS S ls = NS S' ls
  | [] => ⟨rfl, rfl⟩
  | l :: ls => by
    obtain ⟨h1, h2⟩ := ts_congr h ls
    rw [TS_cons, TS_cons, NS_cons, NS_cons, h1, h2]
    by_cases hg : l.group.size = 0
    · simp only [hg, if_true, and_self]
    · rw [h _ hg]; exact ⟨rfl, rfl⟩
def addG (S : ByteArray → Bool) (g : ByteArray) : ByteArray → Bool := fun x => S x || decide (x = g)
theorem any_mx {g : ByteArray} : ∀ {ls : List Line}, ls.any (memberS g) = false → Mx g ls = 0
  | [], _ => rfl
  | l :: ls, h => by
    rw [List.any_cons, Bool.or_eq_false_iff] at h
    unfold Mx
    rw [h.1, if_neg (by simp)]
    exact any_mx h.2
theorem ts_add {S : ByteArray → Bool} {g : ByteArray} (hS : S g = false) (hg : g.size ≠ 0) : ∀ ls, TS S ls = TS (addG S g) ls + Mx g ls ∧ NS S ls = NS (addG S g) ls + (if ls.any (memberS g) = true then 1 else 0)
  | [] => ⟨by simp [TS, Mx]; grind, rfl⟩
  | l :: ls => by
    obtain ⟨h1, h2⟩ := ts_add hS hg ls
    simp only [TS_cons, NS_cons, Mx_cons, List.any_cons]
    cases hk : isK 0 l
    · have hm : memberS g l = false := by
        cases hm : memberS g l
        · rfl
        · rw [(member_iff.1 hm).1] at hk; cases hk
      simp only [hm, Bool.false_or, Bool.false_eq_true, if_false]
      rw [h1, h2]
      exact ⟨by grind, by omega⟩
    · simp only [if_true]
      by_cases hgs : l.group.size = 0
      · have hm : memberS g l = false := by
          cases hm : memberS g l
          · rfl
          · rw [(member_iff.1 hm).2] at hgs; exact absurd hgs hg
        simp only [hm, hgs, Bool.false_or, Bool.false_eq_true, if_false, if_true]
        rw [h1, h2]
        exact ⟨by grind, by omega⟩
      · by_cases he : l.group = g
        · have hm : memberS g l = true := member_iff.2 ⟨hk, he⟩
          have hS' : addG S g g = true := by simp [addG]
          simp only [hm, he, hg, hS, hS', if_false, if_true, Bool.true_or, Bool.false_eq_true]
          rw [h1, h2]
          refine ⟨by grind, ?_⟩
          cases ls.any (memberS g)
          · simp
          · simp
        · have hm : memberS g l = false := by
            cases hm : memberS g l
            · rfl
            · exact absurd (member_iff.1 hm).2 he
          have hS' : addG S g l.group = S l.group := by simp [addG, he]
          simp only [hm, hgs, hS', Bool.false_or, Bool.false_eq_true, if_false]
          rw [h1, h2]
          exact ⟨by grind, by omega⟩

/-! ### one step -/
theorem become_get {m : MK} {name : ByteArray} {p : Frac} {e : Int} (h : (becomeS m name p e).wrong = false) : m.wrong = false ∧ e = 0 ∧ fsubErr p m.pts = 0 ∧ Fok p ∧ Fok m.pts ∧ becomeS m name p e = { m with parts := m.parts ++ [Part.mk name (fsub p m.pts)], pts := p } := by
  unfold becomeS at h ⊢
  split at h
  · cases h
  · rename_i hc
    rw [if_neg hc]
    have h3 : fsubErr p m.pts = 0 := Decidable.byContradiction fun hn => hc (.inr (.inr hn))
    obtain ⟨h4, h5, _⟩ := fsub_val h3
    exact ⟨by cases hw : m.wrong <;> simp_all, Decidable.byContradiction fun hn => hc (.inr (.inl hn)), h3, h4, h5, rfl⟩
theorem wt_nonneg {l : Line} (h : Fok l.amt) : 0 ≤ wt l := (val_nonneg (weight_ok h).1).1 (weight_ok h).2
theorem isK_app {k : Int} {l : Line} (h : isK k l = true) : l.app = true ∧ l.kind = k := by
  unfold isK at h
  simpa using h
theorem isK_ok {k : Int} {ls : List Line} (hr : AllR ls) {l : Line} (hl : l ∈ ls) (h : isK k l = true) : Fok l.amt := right_amt (hr l hl) (isK_app h).1
theorem best_val {g : ByteArray} {b : Line} (hb : Fok b.amt) : ∀ {ls : List Line}, AllR ls → val (weightS (bestS g b ls)) = max (wt b) (Mx g ls) := by
  intro ls
  induction ls generalizing b with
  | nil => intro _; have := wt_nonneg hb; show wt b = max (wt b) 0; grind
  | cons l ls ih =>
    intro h
    have h' : AllR ls := fun x hx => h x (List.mem_cons_of_mem _ hx)
    unfold bestS
    rw [List.foldl_cons]
    show val (weightS (bestS g _ ls)) = _
    cases hm : memberS g l
    · rw [if_neg (by simp), ih hb h']
      rw [Mx_cons, hm, if_neg (by simp)]
    · have hl := isK_ok h (List.mem_cons_self ..) (member_iff.1 hm).1
      rw [Mx_cons, hm, if_pos rfl]
      cases hc : lessS (weightS b) (weightS l)
      · rw [if_neg (by simp), ih hb h']
        have := (val_le (weight_ok hl).1 (weight_ok hb).1).1 (less_no (weight_ok hb).1 (weight_ok hl).1 hc)
        have e1 : wt l ≤ wt b := this
        grind
      · rw [if_pos (by simp), ih hl h']
        have e1 : wt b < wt l := (val_lt (weight_ok hb).1 (weight_ok hl).1).1 hc
        grind

/-! ### the four phases -/
def seen (ls : List Line) (j : Nat) : ByteArray → Bool := fun g => (ls.take j).any (memberS g)
theorem seen_succ {ls : List Line} {j : Nat} {l : Line} (h : ls[j]? = some l) (g : ByteArray) : seen ls (j + 1) g = (seen ls j g || memberS g l) := by
  obtain ⟨h1, h2⟩ := List.getElem?_eq_some_iff.1 h
  unfold seen
  rw [List.take_succ_eq_append_getElem h1, List.any_append, h2]
  simp
theorem drop_get {ls : List Line} {j : Nat} {l : Line} (h : ls[j]? = some l) : ls.drop j = l :: ls.drop (j + 1) := by
  obtain ⟨h1, h2⟩ := List.getElem?_eq_some_iff.1 h
  rw [List.drop_eq_getElem_cons h1, h2]
def InvP (ls : List Line) (j : Nat) (m : MK) : Prop := m.wrong = false → Fok m.pts ∧ 0 ≤ val m.pts ∧ val m.pts + TS (seen ls j) (ls.drop j) = TS noS ls ∧ m.parts.length + NS (seen ls j) (ls.drop j) = NS noS ls
theorem phase1 {ls : List Line} (hr : AllR ls) : (phase ls m0S 1).wrong = false → Fok (phase ls m0S 1).pts ∧ 0 ≤ val (phase ls m0S 1).pts ∧ val (phase ls m0S 1).pts = TS noS ls ∧ (phase ls m0S 1).parts.length = NS noS ls := by
  have key : InvP ls ls.length (stepsTo 0 (pointsS ls) ls m0S ls.length) := by
    refine stepsTo_ind (P := InvP ls) ?_ (fun j l m hj hm => ⟨fun ha hk => ?_, fun hn => ?_⟩) _ (Nat.le_refl _)
    · intro _
      refine ⟨zero_ok, by show 0 ≤ val ⟨0, 1⟩; rw [val_zero]; exact Rat.le_refl, ?_, ?_⟩
      · show val ⟨0, 1⟩ + TS (seen ls 0) ls = _
        rw [val_zero, show seen ls 0 = noS from rfl, Rat.zero_add]
      · show 0 + NS (seen ls 0) ls = _
        rw [show seen ls 0 = noS from rfl, Nat.zero_add]
    · have hk0 : isK 0 l = true := by simp [isK, ha, hk]
      have hl := isK_ok hr (List.mem_of_getElem? hj) hk0
      have hdrop : AllR (ls.drop (j + 1)) := fun x hx => hr x (List.mem_of_mem_drop hx)
      have hd := drop_get hj
      intro hw
      unfold pointsS at hw ⊢
      by_cases hg : l.group.size = 0
      · rw [if_pos hg] at hw ⊢
        obtain ⟨w1, w2, w3, w4, w5, w6⟩ := become_get hw
        obtain ⟨i1, i2, i3, i4⟩ := hm w1
        obtain ⟨_, _, a3, a4⟩ := fadd_val w2
        show Fok (becomeS _ _ _ _).pts ∧ 0 ≤ val (becomeS _ _ _ _).pts ∧ val (becomeS _ _ _ _).pts + _ = _ ∧ (becomeS _ _ _ _).parts.length + _ = _
        rw [w6]
        obtain ⟨c1, c2⟩ := ts_congr (S := seen ls (j + 1)) (S' := seen ls j) (fun g hgz => by
          rw [seen_succ hj]
          cases hmm : memberS g l
          · simp
          · rw [(member_iff.1 hmm).2] at hg; exact absurd hg hgz) (ls.drop (j + 1))
        rw [hd] at i3 i4
        simp only [TS_cons, NS_cons, hk0, hg, if_true] at i3 i4
        have hwn := wt_nonneg hl
        have a4' : val (fadd m.pts (weightS l)) = val m.pts + wt l := a4
        refine ⟨a3, ?_, ?_, ?_⟩
        · show 0 ≤ val (fadd m.pts (weightS l)); grind
        · show val (fadd m.pts (weightS l)) + _ = _; rw [c1]; grind
        · show (m.parts ++ [_]).length + _ = _; rw [c2, List.length_append, List.length_singleton]; omega
      · rw [if_neg hg] at hw ⊢
        cases hs : (ls.take j).any (memberS l.group)
        · rw [hs, if_neg (by simp)] at hw
          rw [if_neg (by simp)]
          obtain ⟨w1, w2, w3, w4, w5, w6⟩ := become_get hw
          obtain ⟨i1, i2, i3, i4⟩ := hm w1
          obtain ⟨_, _, a3, a4⟩ := fadd_val w2
          show Fok (becomeS _ _ _ _).pts ∧ 0 ≤ val (becomeS _ _ _ _).pts ∧ val (becomeS _ _ _ _).pts + _ = _ ∧ (becomeS _ _ _ _).parts.length + _ = _
          rw [w6]
          have hs' : seen ls j l.group = false := hs
          obtain ⟨c1, c2⟩ := ts_congr (S := seen ls (j + 1)) (S' := addG (seen ls j) l.group) (fun g hgz => by
            rw [seen_succ hj]
            unfold addG
            congr 1
            cases hmm : memberS g l
            · symm; rw [decide_eq_false_iff_not]; intro e; rw [member_iff.2 ⟨hk0, e.symm⟩] at hmm; cases hmm
            · symm; rw [decide_eq_true_eq]; exact (member_iff.1 hmm).2.symm) (ls.drop (j + 1))
          obtain ⟨d1, d2⟩ := ts_add hs' hg (ls.drop (j + 1))
          have hb : val (weightS (bestS l.group l (ls.drop j))) = max (wt l) (Mx l.group (ls.drop (j + 1))) := by
            rw [best_val hl (fun x hx => hr x (List.mem_of_mem_drop hx)), hd]
            rw [Mx_cons]
            rw [member_iff.2 ⟨hk0, rfl⟩, if_pos rfl]
            grind
          rw [hd] at i3 i4
          simp only [TS_cons, NS_cons, hk0, hg, hs', if_true, if_false, Bool.false_eq_true] at i3 i4
          have hwn := wt_nonneg hl
          refine ⟨a3, ?_, ?_, ?_⟩
          · show 0 ≤ val (fadd m.pts (weightS (bestS l.group l (ls.drop j)))); rw [a4, hb]; grind
          · show val (fadd m.pts (weightS (bestS l.group l (ls.drop j)))) + _ = _; rw [a4, hb, c1]; grind
          · show (m.parts ++ [_]).length + _ = _
            rw [c2, List.length_append, List.length_singleton]
            cases hany : (ls.drop (j + 1)).any (memberS l.group) <;> simp only [hany, if_true, if_false, Bool.false_eq_true] at i4 d2 <;> omega
        · rw [hs, if_pos rfl] at hw
          rw [if_pos rfl]
          obtain ⟨i1, i2, i3, i4⟩ := hm hw
          have hs' : seen ls j l.group = true := hs
          obtain ⟨c1, c2⟩ := ts_congr (S := seen ls (j + 1)) (S' := seen ls j) (fun g hgz => by
            rw [seen_succ hj]
            cases hmm : memberS g l
            · simp
            · rw [← (member_iff.1 hmm).2, hs']; rfl) (ls.drop (j + 1))
          rw [hd] at i3 i4
          simp only [TS_cons, NS_cons, hk0, hg, hs', if_true, if_false] at i3 i4
          refine ⟨i1, i2, ?_, ?_⟩
          · rw [c1]; grind
          · rw [c2]; omega
    · have hk0 : isK 0 l = false := by
        cases hk : isK 0 l
        · rfl
        · exact absurd (isK_app hk) hn
      intro hw
      obtain ⟨i1, i2, i3, i4⟩ := hm hw
      have hd := drop_get hj
      obtain ⟨c1, c2⟩ := ts_congr (S := seen ls (j + 1)) (S' := seen ls j) (fun g hgz => by
        rw [seen_succ hj]
        cases hmm : memberS g l
        · simp
        · rw [(member_iff.1 hmm).1] at hk0; cases hk0) (ls.drop (j + 1))
      rw [hd] at i3 i4
      simp only [TS_cons, NS_cons, hk0, if_false, Bool.false_eq_true] at i3 i4
      refine ⟨i1, i2, ?_, ?_⟩
      · rw [c1]; grind
      · rw [c2]; omega
  intro hw
  obtain ⟨i1, i2, i3, i4⟩ := key hw
  rw [List.drop_length] at i3 i4
  exact ⟨i1, i2, by have : val (phase ls m0S 1).pts + 0 = TS noS ls := i3; grind, i4⟩

theorem Sm_snoc (k : Int) (l : Line) : ∀ xs : List Line, Sm k (xs ++ [l]) = Sm k xs + (if isK k l = true then wt l else 0)
  | [] => by show (0 : Rat) + _ = 0 + _; rfl
  | x :: xs => by
    show Sm k (xs ++ [l]) + _ = Sm k xs + _ + _
    rw [Sm_snoc k l xs]
    grind
theorem Mk_snoc (k : Int) (l : Line) (hl : isK k l = true → 0 ≤ wt l) : ∀ xs : List Line, Mk k (xs ++ [l]) = if isK k l = true then max (wt l) (Mk k xs) else Mk k xs
  | [] => by
    show (if _ then max (wt l) (0 : Rat) else 0) = if _ then max (wt l) (0 : Rat) else 0
    rfl
  | x :: xs => by
    show (if isK k x = true then max (wt x) (Mk k (xs ++ [l])) else Mk k (xs ++ [l])) = if isK k l = true then max (wt l) (if isK k x = true then max (wt x) (Mk k xs) else Mk k xs) else (if isK k x = true then max (wt x) (Mk k xs) else Mk k xs)
    rw [Mk_snoc k l hl xs]
    split <;> split <;> grind
theorem Mn_snoc (p : Rat) (l : Line) : ∀ xs : List Line, Mn p (xs ++ [l]) = if isK 2 l = true then min (wt l) (Mn p xs) else Mn p xs
  | [] => rfl
  | x :: xs => by
    show (if isK 2 x = true then min (wt x) (Mn p (xs ++ [l])) else Mn p (xs ++ [l])) = if isK 2 l = true then min (wt l) (if isK 2 x = true then min (wt x) (Mn p xs) else Mn p xs) else (if isK 2 x = true then min (wt x) (Mn p xs) else Mn p xs)
    rw [Mn_snoc p l xs]
    split <;> split <;> grind
theorem Cn_snoc (k : Int) (l : Line) (xs : List Line) : Cn k (xs ++ [l]) = Cn k xs + (if isK k l = true then 1 else 0) := by
  unfold Cn
  rw [List.countP_append, List.countP_singleton]
theorem take_snoc {ls : List Line} {j : Nat} {l : Line} (h : ls[j]? = some l) : ls.take (j + 1) = ls.take j ++ [l] := by
  obtain ⟨h1, h2⟩ := List.getElem?_eq_some_iff.1 h
  rw [List.take_succ_eq_append_getElem h1, h2]
/-- A phase that goes line by line. -/
theorem phase_of {ls : List Line} {kind : Int} {f : Nat → Line → MK → MK} {m0 : MK} {V : List Line → Rat} {c0 : Nat} (hr : AllR ls)
    (h0 : m0.wrong = false → Fok m0.pts ∧ 0 ≤ val m0.pts ∧ val m0.pts = V [] ∧ m0.parts.length = c0)
    (hf : ∀ (j : Nat) (l : Line) (m : MK) (xs : List Line), isK kind l = true → Fok l.amt → (m.wrong = false → Fok m.pts ∧ 0 ≤ val m.pts ∧ val m.pts = V xs) → (f j l m).wrong = false →
      m.wrong = false ∧ Fok (f j l m).pts ∧ 0 ≤ val (f j l m).pts ∧ val (f j l m).pts = V (xs ++ [l]) ∧ (f j l m).parts.length = m.parts.length + 1)
    (hn : ∀ (l : Line) (xs : List Line), isK kind l = false → V (xs ++ [l]) = V xs) :
    (stepsTo kind f ls m0 ls.length).wrong = false → Fok (stepsTo kind f ls m0 ls.length).pts ∧ 0 ≤ val (stepsTo kind f ls m0 ls.length).pts ∧ val (stepsTo kind f ls m0 ls.length).pts = V ls ∧ (stepsTo kind f ls m0 ls.length).parts.length = c0 + Cn kind ls := by
  have key := stepsTo_ind (kind := kind) (f := f) (ls := ls) (m0 := m0) (P := fun j m => m.wrong = false → Fok m.pts ∧ 0 ≤ val m.pts ∧ val m.pts = V (ls.take j) ∧ m.parts.length = c0 + Cn kind (ls.take j)) h0 (fun j l m hj hm => ⟨fun ha hk => ?_, fun hk => ?_⟩) ls.length (Nat.le_refl _)
  · rw [List.take_length] at key
    exact key
  · have hk0 : isK kind l = true := by simp [isK, ha, hk]
    intro hw
    obtain ⟨w1, w2, w3, w4, w5⟩ := hf j l m (ls.take j) hk0 (isK_ok hr (List.mem_of_getElem? hj) hk0) (fun h => by obtain ⟨a, b, c, _⟩ := hm h; exact ⟨a, b, c⟩) hw
    obtain ⟨_, _, _, i4⟩ := hm w1
    rw [take_snoc hj]
    refine ⟨w2, w3, w4, ?_⟩
    rw [w5, i4, Cn_snoc, if_pos hk0]
    omega
  · have hk0 : isK kind l = false := by
      cases hk' : isK kind l
      · rfl
      · exact absurd (isK_app hk') hk
    intro hw
    obtain ⟨i1, i2, i3, i4⟩ := hm hw
    rw [take_snoc hj, hn l _ hk0, Cn_snoc, hk0]
    exact ⟨i1, i2, i3, i4⟩
theorem phase2 {ls : List Line} (hr : AllR ls) : (phase ls m0S 2).wrong = false → Fok (phase ls m0S 2).pts ∧ 0 ≤ val (phase ls m0S 2).pts ∧ val (phase ls m0S 2).pts = penS ls ∧ (phase ls m0S 2).parts.length = NS noS ls + Cn 1 ls := by
  refine phase_of (kind := 1) (f := fun _ => penaltyS) (m0 := phase ls m0S 1) (V := fun xs => max 0 (TS noS ls - Sm 1 xs)) hr ?_ ?_ ?_
  · intro h
    obtain ⟨a, b, c, d⟩ := phase1 hr h
    refine ⟨a, b, ?_, d⟩
    show _ = max 0 (TS noS ls - 0)
    rw [c] at b ⊢
    grind
  · intro j l m xs hk hl hm hw
    have hwn := wt_nonneg hl
    have hwo := weight_ok hl
    unfold penaltyS at hw ⊢
    obtain ⟨w1, w2, w3, w4, w5, w6⟩ := become_get hw
    obtain ⟨i1, i2, i3⟩ := hm w1
    simp only at w2 w6 ⊢
    rw [w6]
    refine ⟨w1, w4, ?_⟩
    show 0 ≤ val (fsub m.pts _) ∧ val (fsub m.pts _) = max 0 (TS noS ls - Sm 1 (xs ++ [l])) ∧ (m.parts ++ [_]).length = _
    rw [Sm_snoc, if_pos hk, List.length_append, List.length_singleton, (fsub_val w2).2.2.2]
    have i3' : val m.pts = max 0 (TS noS ls - Sm 1 xs) := i3
    cases hc : lessS m.pts (weightS l)
    · have e1 : wt l ≤ val m.pts := (val_le hwo.1 i1).1 (less_no i1 hwo.1 hc)
      rw [if_neg (by simp)]
      have e2 : val (weightS l) = wt l := rfl
      rw [e2]
      exact ⟨by grind, by grind, rfl⟩
    · have e1 : val m.pts < wt l := (val_lt i1 hwo.1).1 hc
      rw [if_pos rfl]
      exact ⟨by grind, by grind, rfl⟩
  · intro l xs hk
    show max 0 (TS noS ls - Sm 1 (xs ++ [l])) = max 0 (TS noS ls - Sm 1 xs)
    rw [Sm_snoc, hk, if_neg (by simp), Rat.add_zero]
theorem phase3 {ls : List Line} (hr : AllR ls) : (phase ls m0S 3).wrong = false → Fok (phase ls m0S 3).pts ∧ 0 ≤ val (phase ls m0S 3).pts ∧ val (phase ls m0S 3).pts = max (penS ls) (Mk 3 ls) ∧ (phase ls m0S 3).parts.length = NS noS ls + Cn 1 ls + Cn 3 ls := by
  refine phase_of (kind := 3) (f := fun _ => chooseS fun w p => lessS p w) (m0 := phase ls m0S 2) (V := fun xs => max (penS ls) (Mk 3 xs)) hr ?_ ?_ ?_
  · intro h
    obtain ⟨a, b, c, d⟩ := phase2 hr h
    refine ⟨a, b, ?_, d⟩
    show _ = max (penS ls) 0
    rw [c] at b ⊢
    grind
  · intro j l m xs hk hl hm hw
    have hwn := wt_nonneg hl
    have hwo := weight_ok hl
    unfold chooseS at hw ⊢
    obtain ⟨w1, w2, w3, w4, w5, w6⟩ := become_get hw
    obtain ⟨i1, i2, i3⟩ := hm w1
    simp only at w6 ⊢
    rw [w6]
    refine ⟨w1, w4, ?_⟩
    show 0 ≤ val (if lessS m.pts (weightS l) = true then weightS l else m.pts) ∧ val (if lessS m.pts (weightS l) = true then weightS l else m.pts) = max (penS ls) (Mk 3 (xs ++ [l])) ∧ (m.parts ++ [_]).length = _
    rw [Mk_snoc 3 l (fun _ => hwn), if_pos hk, List.length_append, List.length_singleton]
    have i3' : val m.pts = max (penS ls) (Mk 3 xs) := i3
    have e2 : val (weightS l) = wt l := rfl
    cases hc : lessS m.pts (weightS l)
    · have e1 : wt l ≤ val m.pts := (val_le hwo.1 i1).1 (less_no i1 hwo.1 hc)
      rw [if_neg (by simp)]
      exact ⟨by grind, by grind, rfl⟩
    · have e1 : val m.pts < wt l := (val_lt i1 hwo.1).1 hc
      rw [if_pos rfl, e2]
      exact ⟨by grind, by grind, rfl⟩
  · intro l xs hk
    show max (penS ls) (Mk 3 (xs ++ [l])) = max (penS ls) (Mk 3 xs)
    rw [Mk_snoc 3 l (fun h => by rw [hk] at h; cases h), hk, if_neg (by simp)]
theorem phase4 {ls : List Line} (hr : AllR ls) : (phase ls m0S 4).wrong = false → Fok (phase ls m0S 4).pts ∧ 0 ≤ val (phase ls m0S 4).pts ∧ val (phase ls m0S 4).pts = resS ls ∧ (phase ls m0S 4).parts.length = cntS ls := by
  refine phase_of (kind := 2) (f := fun _ => chooseS lessS) (m0 := phase ls m0S 3) (V := fun xs => Mn (max (penS ls) (Mk 3 ls)) xs) hr ?_ ?_ ?_
  · intro h
    obtain ⟨a, b, c, d⟩ := phase3 hr h
    exact ⟨a, b, c, d⟩
  · intro j l m xs hk hl hm hw
    have hwn := wt_nonneg hl
    have hwo := weight_ok hl
    unfold chooseS at hw ⊢
    obtain ⟨w1, w2, w3, w4, w5, w6⟩ := become_get hw
    obtain ⟨i1, i2, i3⟩ := hm w1
    rw [w6]
    refine ⟨w1, w4, ?_⟩
    show 0 ≤ val (if lessS (weightS l) m.pts = true then weightS l else m.pts) ∧ val (if lessS (weightS l) m.pts = true then weightS l else m.pts) = Mn (max (penS ls) (Mk 3 ls)) (xs ++ [l]) ∧ (m.parts ++ [_]).length = _
    rw [Mn_snoc, if_pos hk, List.length_append, List.length_singleton]
    have i3' : val m.pts = Mn (max (penS ls) (Mk 3 ls)) xs := i3
    have e2 : val (weightS l) = wt l := rfl
    cases hc : lessS (weightS l) m.pts
    · have e1 : val m.pts ≤ wt l := (val_le i1 hwo.1).1 (less_no hwo.1 i1 hc)
      rw [if_neg (by simp)]
      exact ⟨by grind, by grind, rfl⟩
    · have e1 : wt l < val m.pts := (val_lt hwo.1 i1).1 hc
      rw [if_pos rfl, e2]
      exact ⟨by grind, by grind, rfl⟩
  · intro l xs hk
    show Mn _ (xs ++ [l]) = Mn _ xs
    rw [Mn_snoc, hk, if_neg (by simp)]
/-- Where there are points, they are resS, and their parts are cntS. -/
theorem combine_val {ls : List Line} (h : (combineS ls).2 = 0) : AllR ls ∧ Fok (combineS ls).1.pts ∧ 0 ≤ val (combineS ls).1.pts ∧ val (combineS ls).1.pts = resS ls ∧ (combineS ls).1.parts.length = cntS ls ∧ (combineS ls).1.hund = hundS (combineS ls).1.pts := by
  obtain ⟨hr, hw, hv, he⟩ := combine_ok h
  obtain ⟨a, b, c, d⟩ := phase4 hr hw
  rw [he]
  exact ⟨hr, a, b, c, d, rfl⟩
end Go.Proofs.YtdajoilaakiinaaGreatDoor.Awp

/- The order of the lines does not matter. -/
namespace Go.Proofs.YtdajoilaakiinaaGreatDoor.Awp
open Go Go.Proofs
set_option linter.unusedSimpArgs false
set_option linter.unusedVariables false
set_option maxHeartbeats 1000000

theorem Mx_perm (g : ByteArray) {a b : List Line} (h : a.Perm b) : Mx g a = Mx g b := by
  induction h with
  | nil => rfl
  | cons x _ ih => rw [Mx_cons, Mx_cons, ih]
  | swap x y l =>
    simp only [Mx_cons]
    split <;> split <;> grind
  | trans _ _ h1 h2 => rw [h1, h2]
theorem any_perm {p : Line → Bool} {a b : List Line} (h : a.Perm b) : a.any p = b.any p := by
  induction h with
  | nil => rfl
  | cons x _ ih => rw [List.any_cons, List.any_cons, ih]
  | swap x y l =>
    simp only [List.any_cons]
    cases p x <;> cases p y <;> rfl
  | trans _ _ h1 h2 => rw [h1, h2]
def cT (S : ByteArray → Bool) (l : Line) (ls : List Line) : Rat := if isK 0 l = true then (if l.group.size = 0 then wt l else if S l.group = true then 0 else max (wt l) (Mx l.group ls) - Mx l.group ls) else 0
def cN (S : ByteArray → Bool) (l : Line) (ls : List Line) : Nat := if isK 0 l = true then (if l.group.size = 0 then 1 else if S l.group = true then 0 else if ls.any (memberS l.group) = true then 0 else 1) else 0
theorem c_other (S : ByteArray → Bool) {x y : Line} (h : ¬ (isK 0 x = true ∧ isK 0 y = true ∧ x.group = y.group)) (ls : List Line) : cT S x (y :: ls) = cT S x ls ∧ cN S x (y :: ls) = cN S x ls := by
  unfold cT cN
  by_cases hx : isK 0 x = true
  · have hm : memberS x.group y = false := by
      cases hm : memberS x.group y
      · rfl
      · obtain ⟨h1, h2⟩ := member_iff.1 hm
        exact absurd ⟨hx, h1, h2.symm⟩ h
    rw [Mx_cons, List.any_cons, hm, Bool.false_or]
    simp only [Bool.false_eq_true, if_false, and_self]
  · rw [if_neg hx, if_neg hx, if_neg hx, if_neg hx]
    exact ⟨rfl, rfl⟩
theorem ts_perm (S : ByteArray → Bool) {a b : List Line} (h : a.Perm b) : TS S a = TS S b ∧ NS S a = NS S b := by
  induction h with
  | nil => exact ⟨rfl, rfl⟩
  | cons x hp ih =>
    rw [TS_cons, TS_cons, NS_cons, NS_cons, ih.1, ih.2, Mx_perm x.group hp, any_perm hp]
    exact ⟨rfl, rfl⟩
  | swap x y l =>
    show TS S l + cT S x l + cT S y (x :: l) = TS S l + cT S y l + cT S x (y :: l) ∧ NS S l + cN S x l + cN S y (x :: l) = NS S l + cN S y l + cN S x (y :: l)
    by_cases h : isK 0 x = true ∧ isK 0 y = true ∧ x.group = y.group
    · obtain ⟨h1, h2, h3⟩ := h
      have m1 : memberS y.group x = true := member_iff.2 ⟨h1, h3⟩
      have m2 : memberS x.group y = true := member_iff.2 ⟨h2, h3.symm⟩
      unfold cT cN
      simp only [Mx_cons, List.any_cons, h1, h2, m1, m2, if_true, Bool.true_or]
      rw [h3]
      by_cases hs : y.group.size = 0
      · rw [if_pos hs, if_pos hs, if_pos hs, if_pos hs]
        exact ⟨by grind, by omega⟩
      · simp only [hs, if_false]
        split
        · exact ⟨by grind, trivial⟩
        · exact ⟨by grind, trivial⟩
    · have h' : ¬ (isK 0 y = true ∧ isK 0 x = true ∧ y.group = x.group) := fun ⟨h1, h2, h3⟩ => h ⟨h2, h1, h3.symm⟩
      rw [(c_other S h' l).1, (c_other S h' l).2, (c_other S h l).1, (c_other S h l).2]
      exact ⟨by grind, by omega⟩
  | trans _ _ h1 h2 => exact ⟨h1.1.trans h2.1, h1.2.trans h2.2⟩
theorem Sm_perm (k : Int) {a b : List Line} (h : a.Perm b) : Sm k a = Sm k b := by
  induction h with
  | nil => rfl
  | cons x _ ih => show Sm k _ + _ = Sm k _ + _; rw [ih]
  | swap x y l => show Sm k l + _ + _ = Sm k l + _ + _; grind
  | trans _ _ h1 h2 => rw [h1, h2]
theorem Mk_perm (k : Int) {a b : List Line} (h : a.Perm b) : Mk k a = Mk k b := by
  induction h with
  | nil => rfl
  | cons x _ ih => show (if _ then max _ (Mk k _) else Mk k _) = if _ then max _ (Mk k _) else Mk k _; rw [ih]
  | swap x y l =>
    show (if isK k y = true then max (wt y) (if isK k x = true then max (wt x) (Mk k l) else Mk k l) else (if isK k x = true then max (wt x) (Mk k l) else Mk k l)) = (if isK k x = true then max (wt x) (if isK k y = true then max (wt y) (Mk k l) else Mk k l) else (if isK k y = true then max (wt y) (Mk k l) else Mk k l))
    split <;> split <;> grind
  | trans _ _ h1 h2 => rw [h1, h2]
theorem Mn_perm (p : Rat) {a b : List Line} (h : a.Perm b) : Mn p a = Mn p b := by
  induction h with
  | nil => rfl
  | cons x _ ih => show (if _ then min _ (Mn p _) else Mn p _) = if _ then min _ (Mn p _) else Mn p _; rw [ih]
  | swap x y l =>
    show (if isK 2 y = true then min (wt y) (if isK 2 x = true then min (wt x) (Mn p l) else Mn p l) else (if isK 2 x = true then min (wt x) (Mn p l) else Mn p l)) = (if isK 2 x = true then min (wt x) (if isK 2 y = true then min (wt y) (Mn p l) else Mn p l) else (if isK 2 y = true then min (wt y) (Mn p l) else Mn p l))
    split <;> split <;> grind
  | trans _ _ h1 h2 => rw [h1, h2]
theorem res_perm {a b : List Line} (h : a.Perm b) : resS a = resS b ∧ cntS a = cntS b := by
  unfold resS cntS penS Cn
  rw [(ts_perm noS h).1, (ts_perm noS h).2, Sm_perm 1 h, Mk_perm 3 h, Mn_perm _ h, h.countP_eq, h.countP_eq, h.countP_eq]
  exact ⟨rfl, rfl⟩
theorem finish_12 (m : MK) : (finishS m).2 ≠ 1 := by
  unfold finishS
  split
  · decide
  · show (0 : Int) ≠ 1; decide
theorem combine_one {ls : List Line} : (combineS ls).2 = 1 ↔ ls.length > 32 ∨ ls.any (fun l => !rightS l) = true := by
  unfold combineS
  split
  · rename_i h; exact ⟨fun _ => h, fun _ => rfl⟩
  · rename_i h; exact ⟨fun e => absurd e (finish_12 _), fun e => absurd e h⟩
theorem order_perm {a b : List Line} (h : a.Perm b) : ((combineS a).2 = 1 ↔ (combineS b).2 = 1) ∧
    ((combineS a).2 = 0 → (combineS b).2 = 0 → (combineS a).1.pts = (combineS b).1.pts ∧ (combineS a).1.hund = (combineS b).1.hund ∧ (combineS a).1.parts.length = (combineS b).1.parts.length) := by
  refine ⟨by rw [combine_one, combine_one, h.length_eq, any_perm h], fun ha hb => ?_⟩
  obtain ⟨_, a1, a2, a3, a4, a5⟩ := combine_val ha
  obtain ⟨_, b1, b2, b3, b4, b5⟩ := combine_val hb
  obtain ⟨r1, r2⟩ := res_perm h
  have e := val_inj a1 b1 (by rw [a3, b3, r1])
  exact ⟨e, by rw [a5, b5, e], by rw [a4, b4, r2]⟩
theorem swap_perm {ls : List Line} {x y : Nat} {a b : Line} (ha : ls[x]? = some a) (hb : ls[y]? = some b) : (swapS ls x y a b).Perm ls := by
  obtain ⟨hx, rfl⟩ := List.getElem?_eq_some_iff.1 ha
  obtain ⟨hy, rfl⟩ := List.getElem?_eq_some_iff.1 hb
  exact List.set_set_perm hx hy
theorem order_law (ls : List Line) : OrderLaw ls := ⟨fun x y a b ha hb => order_perm (swap_perm ha hb).symm⟩

theorem cells_wf {P : Program} {t : TypeId} {c : List PV} {k : IntKind} (hu : P.underlying t = some (.int k)) (h : Cells P t c) : ∃ n, c = [.int k n] ∧ (Lit.int k n).wf = true := by
  cases h with
  | int h wf => rw [hu] at h; cases h; exact ⟨_, rfl, wf⟩
  | bool h => rw [hu] at h; cases h
  | str h => rw [hu] at h; cases h
  | nil h => rw [hu] at h; cases h
  | list h => rw [hu] at h; cases h
  | struct h => rw [hu] at h; cases h
theorem args_u8 {ts : List TypeId} {pvs : List PV} (h : Args EE.P (5 :: ts) pvs) : ∃ (n : Int) (rest : List PV), pvs = .int .u8 n :: rest ∧ (0 ≤ n ∧ n ≤ 255) ∧ Args EE.P ts rest := by
  match pvs, h with
  | p :: ps, ⟨⟨c, hc, hp⟩, h2⟩ =>
    obtain ⟨n, rfl, hw⟩ := cells_wf (k := .u8) (by rw [EE_P]; kernel_rfl) hc
    refine ⟨n, ps, ?_, ?_, h2⟩
    · rw [hp, mk, if_neg (by rw [show tagg EE.P 5 = false from by rw [EE_P]; kernel_rfl]; simp)]
      rfl
    · simp [Lit.wf] at hw
      exact hw
theorem order_proved : ∀ pvs, Args EE.P Tryz.f5.params.toList pvs → Pure EE 5 pvs (.bool true) := by
  intro pvs h
  obtain ⟨ls, v, rest, rfl, hv, hl, h⟩ := args_lines h
  obtain ⟨i, rest, rfl, hi, h⟩ := args_u8 h
  obtain ⟨k, rest, rfl, hk, h⟩ := args_u8 h
  match rest, h with
  | [], _ => exact order_fn hv hl i k hi hk (order_law ls)
end Go.Proofs.YtdajoilaakiinaaGreatDoor.Awp

/- CreditRises. -/
namespace Go.Proofs.YtdajoilaakiinaaGreatDoor.Awp
open Go Go.Proofs
set_option linter.unusedSimpArgs false
set_option linter.unusedVariables false
set_option maxRecDepth 10000
set_option maxHeartbeats 4000000

theorem wt_eq {l : Line} (h : Fok l.amt) : wt l = max 0 (val l.amt) := by
  unfold wt
  rcases weight_cases h with ⟨h1, h2⟩ | ⟨h1, h2⟩
  · rw [h2]
    have h3 : 0 ≤ val l.amt := (val_nonneg h).1 h1
    grind
  · rw [h2, val_zero]
    have h3 : ¬ 0 ≤ val l.amt := fun hn => by
      have : 0 ≤ l.num := (val_nonneg h).2 hn
      omega
    grind
/-- A line that can only let the points rise. -/
def Up (l l' : Line) : Prop := l'.kind = l.kind ∧ l'.app = l.app ∧ l'.group = l.group ∧ (l.app = true → (l.kind = 1 → wt l' ≤ wt l) ∧ (l.kind ≠ 1 → wt l ≤ wt l'))
def UpL : List Line → List Line → Prop
  | [], [] => True
  | l :: ls, l' :: ls' => Up l l' ∧ UpL ls ls'
  | _, _ => False
theorem Up.same (l : Line) : Up l l := ⟨rfl, rfl, rfl, fun _ => ⟨fun _ => Rat.le_refl, fun _ => Rat.le_refl⟩⟩
theorem UpL.same : ∀ ls, UpL ls ls
  | [] => trivial
  | l :: ls => ⟨.same l, UpL.same ls⟩
theorem upl_set {a a' : Line} (h : Up a a') : ∀ {ls : List Line} {x : Nat}, ls[x]? = some a → UpL ls (ls.set x a')
  | [], x, hx => by simp at hx
  | l :: ls, 0, hx => by
    simp at hx
    subst hx
    exact ⟨h, .same ls⟩
  | l :: ls, x + 1, hx => ⟨.same l, upl_set h (by simpa using hx)⟩
theorem upl_set' {a a' : Line} (h : Up a' a) : ∀ {ls : List Line} {x : Nat}, ls[x]? = some a → UpL (ls.set x a') ls
  | [], x, hx => by simp at hx
  | l :: ls, 0, hx => by
    simp at hx
    subst hx
    exact ⟨h, .same ls⟩
  | l :: ls, x + 1, hx => ⟨.same l, upl_set' h (by simpa using hx)⟩
theorem Up.isK {l l' : Line} (h : Up l l') (k : Int) : isK k l' = isK k l := by
  unfold Awp.isK
  rw [h.1, h.2.1]
theorem Up.member {l l' : Line} (h : Up l l') (g : ByteArray) : memberS g l' = memberS g l := by
  unfold memberS
  rw [h.1, h.2.1, h.2.2.1]
theorem Up.wt {l l' : Line} (h : Up l l') {k : Int} (hk : Awp.isK k l = true) (h1 : k ≠ 1) : Awp.wt l ≤ Awp.wt l' := by
  obtain ⟨a, b⟩ := isK_app hk
  exact (h.2.2.2 a).2 (by rw [b]; exact h1)
theorem mx_up (g : ByteArray) : ∀ {ls ls' : List Line}, UpL ls ls' → Mx g ls ≤ Mx g ls'
  | [], [], _ => Rat.le_refl
  | l :: ls, l' :: ls', ⟨h1, h2⟩ => by
    have ih := mx_up g h2
    rw [Mx_cons, Mx_cons, h1.member]
    split
    · rename_i hm
      have := h1.wt (member_iff.1 hm).1 (by decide)
      grind
    · exact ih
  | [], _ :: _, h => by cases h
  | _ :: _, [], h => by cases h
theorem ts_up : ∀ {ls ls' : List Line}, UpL ls ls' → ∀ S, TS S ls ≤ TS S ls'
  | [], [], _, S => Rat.le_refl
  | l :: ls, l' :: ls', ⟨h1, h2⟩, S => by
    have ih := ts_up h2 S
    rw [TS_cons, TS_cons, h1.isK, h1.2.2.1]
    split
    · rename_i hk
      have hw := h1.wt hk (by decide)
      split
      · grind
      · rename_i hg
        split
        · grind
        · rename_i hS
          have hS' : S l.group = false := by simpa using hS
          have e1 := (ts_add hS' hg ls).1
          have e2 := (ts_add hS' hg ls').1
          have ih2 := ts_up h2 (addG S l.group)
          have ihm := mx_up l.group h2
          grind
    · grind
  | [], _ :: _, h, S => by cases h
  | _ :: _, [], h, S => by cases h
theorem sm_up : ∀ {ls ls' : List Line}, UpL ls ls' → Sm 1 ls' ≤ Sm 1 ls
  | [], [], _ => Rat.le_refl
  | l :: ls, l' :: ls', ⟨h1, h2⟩ => by
    have ih := sm_up h2
    show Sm 1 ls' + (if isK 1 l' = true then wt l' else 0) ≤ Sm 1 ls + (if isK 1 l = true then wt l else 0)
    rw [h1.isK]
    split
    · rename_i hk
      obtain ⟨a, b⟩ := isK_app hk
      have := (h1.2.2.2 a).1 b
      grind
    · grind
  | [], _ :: _, h => by cases h
  | _ :: _, [], h => by cases h
theorem mk_up : ∀ {ls ls' : List Line}, UpL ls ls' → Mk 3 ls ≤ Mk 3 ls'
  | [], [], _ => Rat.le_refl
  | l :: ls, l' :: ls', ⟨h1, h2⟩ => by
    have ih := mk_up h2
    show (if isK 3 l = true then max (wt l) (Mk 3 ls) else Mk 3 ls) ≤ (if isK 3 l' = true then max (wt l') (Mk 3 ls') else Mk 3 ls')
    rw [h1.isK]
    split
    · rename_i hk
      have := h1.wt hk (by decide)
      grind
    · exact ih
  | [], _ :: _, h => by cases h
  | _ :: _, [], h => by cases h
theorem mn_up {p p' : Rat} (hp : p ≤ p') : ∀ {ls ls' : List Line}, UpL ls ls' → Mn p ls ≤ Mn p' ls'
  | [], [], _ => hp
  | l :: ls, l' :: ls', ⟨h1, h2⟩ => by
    have ih := mn_up hp h2
    show (if isK 2 l = true then min (wt l) (Mn p ls) else Mn p ls) ≤ (if isK 2 l' = true then min (wt l') (Mn p' ls') else Mn p' ls')
    rw [h1.isK]
    split
    · rename_i hk
      have := h1.wt hk (by decide)
      grind
    · exact ih
  | [], _ :: _, h => by cases h
  | _ :: _, [], h => by cases h
theorem res_up {ls ls' : List Line} (h : UpL ls ls') : resS ls ≤ resS ls' := by
  have h1 := ts_up h noS
  have h2 := sm_up h
  have h3 := mk_up h
  refine mn_up ?_ h
  unfold penS
  grind
def moreS (ls : List Line) (x : Nat) (a : Line) (to : Frac) : List Line := ls.set x { a with num := to.n, den := to.d }
theorem rises {ls : List Line} {x : Nat} {a : Line} {to : Frac} (hx : ls[x]? = some a) (h1 : FV a.num a.den) (h2 : FV to.n to.d) (hc : ¬ fcmp a.num a.den to.n to.d > 0) (e1 : (combineS ls).2 = 0) (e2 : (combineS (moreS ls x a to)).2 = 0) :
    (FV (combineS ls).1.pts.n (combineS ls).1.pts.d ∧ FV (combineS (moreS ls x a to)).1.pts.n (combineS (moreS ls x a to)).1.pts.d) ∧
    (a.kind = 1 → fcmp (combineS ls).1.pts.n (combineS ls).1.pts.d (combineS (moreS ls x a to)).1.pts.n (combineS (moreS ls x a to)).1.pts.d ≥ 0 ∧ (combineS ls).1.hund ≥ (combineS (moreS ls x a to)).1.hund) ∧
    (¬ a.kind = 1 → fcmp (combineS ls).1.pts.n (combineS ls).1.pts.d (combineS (moreS ls x a to)).1.pts.n (combineS (moreS ls x a to)).1.pts.d ≤ 0 ∧ (combineS ls).1.hund ≤ (combineS (moreS ls x a to)).1.hund) := by
  obtain ⟨_, a1, a2, a3, a4, a5⟩ := combine_val e1
  obtain ⟨_, b1, b2, b3, b4, b5⟩ := combine_val e2
  have ha : Fok a.amt := h1
  have hle : val a.amt ≤ val to := by
    rw [← val_le ha h2]
    have := fcmp_ok ha h2
    unfold Fle
    rcases cmp_cases (a.amt.n * to.d) (to.n * a.amt.d) with ⟨c1, c2⟩ | ⟨c1, c2⟩ | ⟨c1, c2⟩
    · omega
    · omega
    · rw [c2] at this
      exact absurd (show fcmp a.num a.den to.n to.d > 0 by have : fcmp a.num a.den to.n to.d = 1 := this; omega) hc
  have hw : wt a ≤ wt { a with num := to.n, den := to.d } := by
    rw [wt_eq ha, wt_eq (l := { a with num := to.n, den := to.d }) h2]
    have : val ({ a with num := to.n, den := to.d } : Line).amt = val to := rfl
    rw [this]
    grind
  have cle : ∀ {p q : Frac}, Fok p → Fok q → val p ≤ val q → fcmp p.n p.d q.n q.d ≤ 0 ∧ fcmp q.n q.d p.n p.d ≥ 0 := fun {p q} hp hq h => by
    rw [← val_le hp hq] at h
    unfold Fle at h
    have k1 := fcmp_ok hp hq
    have k2 := fcmp_ok hq hp
    constructor
    · rcases cmp_cases (p.n * q.d) (q.n * p.d) with ⟨c1, c2⟩ | ⟨c1, c2⟩ | ⟨c1, c2⟩ <;> omega
    · rcases cmp_cases (q.n * p.d) (p.n * q.d) with ⟨c1, c2⟩ | ⟨c1, c2⟩ | ⟨c1, c2⟩ <;> omega
  refine ⟨⟨a1, b1⟩, fun hk => ?_, fun hk => ?_⟩
  · have hu : UpL (moreS ls x a to) ls := upl_set' (a := a) (a' := { a with num := to.n, den := to.d }) ⟨rfl, rfl, rfl, fun _ => ⟨fun _ => hw, fun h => absurd hk h⟩⟩ hx
    have hr := res_up hu
    rw [← a3, ← b3] at hr
    refine ⟨(cle b1 a1 hr).2, ?_⟩
    rw [a5, b5]
    exact hund_mono b1 a1 hr
  · have hu : UpL ls (moreS ls x a to) := upl_set (a := a) (a' := { a with num := to.n, den := to.d }) ⟨rfl, rfl, rfl, fun _ => ⟨fun h => absurd h hk, fun _ => hw⟩⟩ hx
    have hr := res_up hu
    rw [← a3, ← b3] at hr
    refine ⟨(cle a1 b1 hr).1, ?_⟩
    rw [a5, b5]
    exact hund_mono a1 b1 hr

/-! ### the walk -/
theorem rises_fn {ls : List Line} {v : PV} (hv : SliceP (ls.map Line.cs) v) (hl : ls.length ≤ maxLen) (i : Int) (to : Frac) (hi : 0 ≤ i ∧ i ≤ 255) : Pure EE 6 [v, .int .u8 i, to.pv] (.bool true) := by
  have hl' : ls.length ≤ 9223372036854775807 := hl
  have hvl := hv.len
  simp only [List.length_map] at hvl
  have hfew := few_fn hv hl'
  have hcom := combine_fn hv
  cases hfs : fewS ls
  · rw [hfs] at hfew
    intro σ nx
    refine fn_of_body goodEE (by rw [EE_P]; exact Tryz.func6) rfl rfl (by kernel_rfl) (Nat.le_of_ble_eq_true rfl) (Nat.le_refl _) fun hwf hlt => ?_
    rw [show Tryz.f6.results.toList = [.tmp 6] from rfl]
    refine awp_begin _ _ _ _ _ (cc := _) (by conv => lhs; simp only [push_cast, Nat.reduceEqDiff, Nat.reduceAdd, Nat.reduceMul, Nat.reduceLeDiff, Nat.reduceLT, reduceIte, reduceCtorEq, Nat.reduceShiftRight, Nat.reduceAnd, Nat.reducePow, Nat.reduceOr, Nat.reduceBNe, Nat.reduceBEq, Int.reduceToNat, Int.reduceLT, Int.reduceLE, Int.reduceGT, Int.reduceGE, Int.reduceEq, Int.reduceNe, Int.reduceNeg, Int.reduceAdd, Int.reduceSub, Int.reduceMul, Tryz.f6]) ?_
    simp only [push_cast, Nat.reduceEqDiff, Nat.reduceAdd, Nat.reduceMul, Nat.reduceLeDiff, Nat.reduceLT, reduceIte, reduceCtorEq, Nat.reduceShiftRight, Nat.reduceAnd, Nat.reducePow, Nat.reduceOr, Nat.reduceBNe, Nat.reduceBEq, Int.reduceToNat, Int.reduceLT, Int.reduceLE, Int.reduceGT, Int.reduceGE, Int.reduceEq, Int.reduceNe, Int.reduceNeg, Int.reduceAdd, Int.reduceSub, Int.reduceMul, EE_P]
    repeat' (first | simp only [push_cast, Nat.reduceEqDiff, Nat.reduceAdd, Nat.reduceMul, Nat.reduceLeDiff, Nat.reduceLT, reduceIte, reduceCtorEq, Nat.reduceShiftRight, Nat.reduceAnd, Nat.reducePow, Nat.reduceOr, Nat.reduceBNe, Nat.reduceBEq, Int.reduceToNat, Int.reduceLT, Int.reduceLE, Int.reduceGT, Int.reduceGE, Int.reduceEq, Int.reduceNe, Int.reduceNeg, Int.reduceAdd, Int.reduceSub, Int.reduceMul, EE_P] | simp (disch := omega) only [wrap_fits] | ((first | with_reducible apply wcall_pure | with_reducible apply wdcall_pure); focus (first | assumption | exact awake_fn | exact equal_fn (by simp) (by simp) | exact awake1_fn _ | exact few_fn (by assumption) (by omega) | exact refcompare_fn ⟨_, _⟩ ⟨_, _⟩ | exact refvalid_fn ⟨_, _⟩ | exact explain_fn _ (by assumption) (by omega) | exact valid_credit_fn _ (by assumption) (by omega) | exact sum_fn (by assumption) (by omega) | exact all_fn (by assumption) (by omega) | exact pointsText_fn _ | exact cutPrefix_fn _ _ | exact cutPrefix1_fn _ _ | exact hasPrefix_fn _ _ | exact format_fn ⟨_, _⟩ | exact itoa_fn (by omega) (by omega) | exact steps_fn _ | exact choosef_fn _ _ | exact wrong_fn _ | exact right_fn _ | exact isName_fn _ | exact formatExpr_name _ | exact format_name _ | exact right_name _ | exact depth_name _ | exact name_fn _ | exact run_fn _ (by omega) _ [] [] _ (fun b _ _ => inName_fn b) | exact keywords_fn | exact contains_fn kwS (by decide) _ | exact inName_fn _ | exact digit_fn _ | exact letter_fn _ | exact hundredths_fn goodEE EE_P _ _ | exact mul_fn goodEE EE_P _ _ _ _ | exact sub_fn goodEE EE_P _ _ _ _ | exact add_fn goodEE EE_P _ _ _ _ | exact weight_fn goodEE EE_P EE_zero _ _ _ _ _ _ _ | exact less_fn goodEE EE_P _ _ _ _ | exact compare_fn goodEE EE_P _ _ _ _ | exact cmp_fn goodEE EE_P _ _ | exact isNaN_fn goodEE EE_P _ | exact valid_fn goodEE EE_P _ _ | exact abs_fn goodEE EE_P (by omega) (by omega))) | (with_reducible refine wguard_split_t (fun h => ?_) (fun h => ?_)) | (with_reducible refine wguard_split_f (fun h => ?_) (fun h => ?_)) | (with_reducible refine wcond_split (fun h => ?_) (fun h => ?_)) | (with_reducible refine wdguard_split_t (fun h => ?_) (fun h => ?_)) | (with_reducible refine wdguard_split_f (fun h => ?_) (fun h => ?_)) | (with_reducible refine And.intro (fun h => ?_) (fun h => ?_)) | (with_reducible apply And.intro; focus omega))
    ((refine ends_ret (by simp only [resultsOf, resOf, push_cast, Nat.reduceEqDiff, Nat.reduceAdd, Nat.reduceMul, Nat.reduceLeDiff, Nat.reduceLT, reduceIte, reduceCtorEq, Nat.reduceShiftRight, Nat.reduceAnd, Nat.reducePow, Nat.reduceOr, Nat.reduceBNe, Nat.reduceBEq, Int.reduceToNat, Int.reduceLT, Int.reduceLE, Int.reduceGT, Int.reduceGE, Int.reduceEq, Int.reduceNe, Int.reduceNeg, Int.reduceAdd, Int.reduceSub, Int.reduceMul, EE_P]; rfl) (by simp only [push_cast, Nat.reduceEqDiff, Nat.reduceAdd, Nat.reduceMul, Nat.reduceLeDiff, Nat.reduceLT, reduceIte, reduceCtorEq, Nat.reduceShiftRight, Nat.reduceAnd, Nat.reducePow, Nat.reduceOr, Nat.reduceBNe, Nat.reduceBEq, Int.reduceToNat, Int.reduceLT, Int.reduceLE, Int.reduceGT, Int.reduceGE, Int.reduceEq, Int.reduceNe, Int.reduceNeg, Int.reduceAdd, Int.reduceSub, Int.reduceMul, EE_P]) ?_ (by repeat' (first | exact Keeps.refl _ | assumption | exact (hwf.keep1 _) | refine Keeps.new hwf ?_ (by omega) _)) (by simp only [lt_int, lt_bool, lt_str, lt_nil, lt_empty, lt_agg, lt_tup, lt_list, lt_cells, lt_fn, lt_nilp, lt_nilfn, lt_nili, List.mem_cons, List.not_mem_nil, or_false, forall_eq_or_imp, forall_eq, and_true, true_and, and_self, implies_true, *]; try omega)); (try simp only [tupOf, push_cast, Nat.reduceEqDiff, Nat.reduceAdd, Nat.reduceMul, Nat.reduceLeDiff, Nat.reduceLT, reduceIte, reduceCtorEq, Nat.reduceShiftRight, Nat.reduceAnd, Nat.reducePow, Nat.reduceOr, Nat.reduceBNe, Nat.reduceBEq, Int.reduceToNat, Int.reduceLT, Int.reduceLE, Int.reduceGT, Int.reduceGE, Int.reduceEq, Int.reduceNe, Int.reduceNeg, Int.reduceAdd, Int.reduceSub, Int.reduceMul, EE_P]))
  rw [hfs] at hfew
  have hlen := fewS_len hfs
  by_cases hn : ls = []
  · subst hn
    have hvl' : lenP v = some 0 := hvl
    intro σ nx
    refine fn_of_body goodEE (by rw [EE_P]; exact Tryz.func6) rfl rfl (by kernel_rfl) (Nat.le_of_ble_eq_true rfl) (Nat.le_refl _) fun hwf hlt => ?_
    rw [show Tryz.f6.results.toList = [.tmp 6] from rfl]
    refine awp_begin _ _ _ _ _ (cc := _) (by conv => lhs; simp only [push_cast, Nat.reduceEqDiff, Nat.reduceAdd, Nat.reduceMul, Nat.reduceLeDiff, Nat.reduceLT, reduceIte, reduceCtorEq, Nat.reduceShiftRight, Nat.reduceAnd, Nat.reducePow, Nat.reduceOr, Nat.reduceBNe, Nat.reduceBEq, Int.reduceToNat, Int.reduceLT, Int.reduceLE, Int.reduceGT, Int.reduceGE, Int.reduceEq, Int.reduceNe, Int.reduceNeg, Int.reduceAdd, Int.reduceSub, Int.reduceMul, Tryz.f6]) ?_
    simp only [push_cast, Nat.reduceEqDiff, Nat.reduceAdd, Nat.reduceMul, Nat.reduceLeDiff, Nat.reduceLT, reduceIte, reduceCtorEq, Nat.reduceShiftRight, Nat.reduceAnd, Nat.reducePow, Nat.reduceOr, Nat.reduceBNe, Nat.reduceBEq, Int.reduceToNat, Int.reduceLT, Int.reduceLE, Int.reduceGT, Int.reduceGE, Int.reduceEq, Int.reduceNe, Int.reduceNeg, Int.reduceAdd, Int.reduceSub, Int.reduceMul, EE_P]
    repeat' (first | simp only [push_cast, Nat.reduceEqDiff, Nat.reduceAdd, Nat.reduceMul, Nat.reduceLeDiff, Nat.reduceLT, reduceIte, reduceCtorEq, Nat.reduceShiftRight, Nat.reduceAnd, Nat.reducePow, Nat.reduceOr, Nat.reduceBNe, Nat.reduceBEq, Int.reduceToNat, Int.reduceLT, Int.reduceLE, Int.reduceGT, Int.reduceGE, Int.reduceEq, Int.reduceNe, Int.reduceNeg, Int.reduceAdd, Int.reduceSub, Int.reduceMul, EE_P, hvl', hv.str] | simp (disch := omega) only [wrap_fits] | ((first | with_reducible apply wcall_pure | with_reducible apply wdcall_pure); focus (first | assumption | exact awake_fn | exact equal_fn (by simp) (by simp) | exact awake1_fn _ | exact few_fn (by assumption) (by omega) | exact refcompare_fn ⟨_, _⟩ ⟨_, _⟩ | exact refvalid_fn ⟨_, _⟩ | exact explain_fn _ (by assumption) (by omega) | exact valid_credit_fn _ (by assumption) (by omega) | exact sum_fn (by assumption) (by omega) | exact all_fn (by assumption) (by omega) | exact pointsText_fn _ | exact cutPrefix_fn _ _ | exact cutPrefix1_fn _ _ | exact hasPrefix_fn _ _ | exact format_fn ⟨_, _⟩ | exact itoa_fn (by omega) (by omega) | exact steps_fn _ | exact choosef_fn _ _ | exact wrong_fn _ | exact right_fn _ | exact isName_fn _ | exact formatExpr_name _ | exact format_name _ | exact right_name _ | exact depth_name _ | exact name_fn _ | exact run_fn _ (by omega) _ [] [] _ (fun b _ _ => inName_fn b) | exact keywords_fn | exact contains_fn kwS (by decide) _ | exact inName_fn _ | exact digit_fn _ | exact letter_fn _ | exact hundredths_fn goodEE EE_P _ _ | exact mul_fn goodEE EE_P _ _ _ _ | exact sub_fn goodEE EE_P _ _ _ _ | exact add_fn goodEE EE_P _ _ _ _ | exact weight_fn goodEE EE_P EE_zero _ _ _ _ _ _ _ | exact less_fn goodEE EE_P _ _ _ _ | exact compare_fn goodEE EE_P _ _ _ _ | exact cmp_fn goodEE EE_P _ _ | exact isNaN_fn goodEE EE_P _ | exact valid_fn goodEE EE_P _ _ | exact abs_fn goodEE EE_P (by omega) (by omega))) | (with_reducible refine wguard_split_t (fun h => ?_) (fun h => ?_)) | (with_reducible refine wguard_split_f (fun h => ?_) (fun h => ?_)) | (with_reducible refine wcond_split (fun h => ?_) (fun h => ?_)) | (with_reducible refine wdguard_split_t (fun h => ?_) (fun h => ?_)) | (with_reducible refine wdguard_split_f (fun h => ?_) (fun h => ?_)) | (with_reducible refine And.intro (fun h => ?_) (fun h => ?_)) | (with_reducible apply And.intro; focus omega))
    all_goals ((refine ends_ret (by simp only [resultsOf, resOf, push_cast, Nat.reduceEqDiff, Nat.reduceAdd, Nat.reduceMul, Nat.reduceLeDiff, Nat.reduceLT, reduceIte, reduceCtorEq, Nat.reduceShiftRight, Nat.reduceAnd, Nat.reducePow, Nat.reduceOr, Nat.reduceBNe, Nat.reduceBEq, Int.reduceToNat, Int.reduceLT, Int.reduceLE, Int.reduceGT, Int.reduceGE, Int.reduceEq, Int.reduceNe, Int.reduceNeg, Int.reduceAdd, Int.reduceSub, Int.reduceMul, EE_P]; rfl) (by simp only [push_cast, Nat.reduceEqDiff, Nat.reduceAdd, Nat.reduceMul, Nat.reduceLeDiff, Nat.reduceLT, reduceIte, reduceCtorEq, Nat.reduceShiftRight, Nat.reduceAnd, Nat.reducePow, Nat.reduceOr, Nat.reduceBNe, Nat.reduceBEq, Int.reduceToNat, Int.reduceLT, Int.reduceLE, Int.reduceGT, Int.reduceGE, Int.reduceEq, Int.reduceNe, Int.reduceNeg, Int.reduceAdd, Int.reduceSub, Int.reduceMul, EE_P]) ?_ (by repeat' (first | exact Keeps.refl _ | assumption | exact (hwf.keep1 _) | refine Keeps.new hwf ?_ (by omega) _)) (by simp only [lt_int, lt_bool, lt_str, lt_nil, lt_empty, lt_agg, lt_tup, lt_list, lt_cells, lt_fn, lt_nilp, lt_nilfn, lt_nili, List.mem_cons, List.not_mem_nil, or_false, forall_eq_or_imp, forall_eq, and_true, true_and, and_self, implies_true, *]; try omega)); (try simp only [tupOf, push_cast, Nat.reduceEqDiff, Nat.reduceAdd, Nat.reduceMul, Nat.reduceLeDiff, Nat.reduceLT, reduceIte, reduceCtorEq, Nat.reduceShiftRight, Nat.reduceAnd, Nat.reducePow, Nat.reduceOr, Nat.reduceBNe, Nat.reduceBEq, Int.reduceToNat, Int.reduceLT, Int.reduceLE, Int.reduceGT, Int.reduceGE, Int.reduceEq, Int.reduceNe, Int.reduceNeg, Int.reduceAdd, Int.reduceSub, Int.reduceMul, EE_P]))
  have hpos : 0 < ls.length := List.length_pos_iff.2 hn
  have hl0 : ¬ (ls.length : Int) = 0 := by omega
  obtain rfl : v = .list (ls.map Line.cs) := hv.lt (i := 0) (by simpa using hpos)
  have ex : ∃ x : Nat, i.tmod ls.length = x ∧ x < ls.length := ⟨(i.tmod ls.length).toNat, by have := tmod_bd hi.1 (show (0 : Int) < ls.length by omega); omega, by have := tmod_bd hi.1 (show (0 : Int) < ls.length by omega); omega⟩
  obtain ⟨x, ex, hx⟩ := ex
  have wi : IntKind.i64.wrap i = i := wrap_small (by omega) (by omega)
  have wx : IntKind.i64.wrap (x : Int) = x := wrap_small (by omega) (by omega)
  have hx' : (x : Int) < ls.length := by omega
  have hx0 : (0 : Int) ≤ x := by omega
  have hgx : (ls.map Line.cs)[x]? = some ls[x].cs := by rw [List.getElem?_map, List.getElem?_eq_getElem hx]; rfl
  have hgx' : ls[x]? = some ls[x] := List.getElem?_eq_getElem hx
  have hsw : (ls.map Line.cs).set x (Line.cs { ls[x] with num := to.n, den := to.d }) = (moreS ls x ls[x] to).map Line.cs := by unfold moreS; rw [List.map_set]
  have hsl : (moreS ls x ls[x] to).length = ls.length := by simp [moreS]
  have hlw := rises (to := to) hgx'
  generalize ls[x] = a at *
  have hcom2 := combine_fn (ls := moreS ls x a to) .list
  generalize hc1 : combineS ls = c1 at *
  generalize hc2 : combineS (moreS ls x a to) = c2 at *
  obtain ⟨⟨p1, t1, h1⟩, e1⟩ := c1
  obtain ⟨⟨p2, t2, h2⟩, e2⟩ := c2
  simp only [Credit.val] at hcom hcom2
  simp only at hlw
  have o1 := (partsV_slice p1).one
  have o2 := (partsV_slice p2).one
  have ce1 := (partsV_slice p1).cells
  have ce2 := (partsV_slice p2).cells
  intro σ nx
  refine fn_of_body goodEE (by rw [EE_P]; exact Tryz.func6) rfl rfl (by kernel_rfl) (Nat.le_of_ble_eq_true rfl) (Nat.le_refl _) fun hwf hlt => ?_
  rw [show Tryz.f6.results.toList = [.tmp 6] from rfl]
  refine awp_begin _ _ _ _ _ (cc := _) (by conv => lhs; simp only [push_cast, Nat.reduceEqDiff, Nat.reduceAdd, Nat.reduceMul, Nat.reduceLeDiff, Nat.reduceLT, reduceIte, reduceCtorEq, Nat.reduceShiftRight, Nat.reduceAnd, Nat.reducePow, Nat.reduceOr, Nat.reduceBNe, Nat.reduceBEq, Int.reduceToNat, Int.reduceLT, Int.reduceLE, Int.reduceGT, Int.reduceGE, Int.reduceEq, Int.reduceNe, Int.reduceNeg, Int.reduceAdd, Int.reduceSub, Int.reduceMul, Tryz.f6]) ?_
  simp only [push_cast, Nat.reduceEqDiff, Nat.reduceAdd, Nat.reduceMul, Nat.reduceLeDiff, Nat.reduceLT, reduceIte, reduceCtorEq, Nat.reduceShiftRight, Nat.reduceAnd, Nat.reducePow, Nat.reduceOr, Nat.reduceBNe, Nat.reduceBEq, Int.reduceToNat, Int.reduceLT, Int.reduceLE, Int.reduceGT, Int.reduceGE, Int.reduceEq, Int.reduceNe, Int.reduceNeg, Int.reduceAdd, Int.reduceSub, Int.reduceMul, EE_P]
  repeat' (first | simp only [push_cast, Nat.reduceEqDiff, Nat.reduceAdd, Nat.reduceMul, Nat.reduceLeDiff, Nat.reduceLT, reduceIte, reduceCtorEq, Nat.reduceShiftRight, Nat.reduceAnd, Nat.reducePow, Nat.reduceOr, Nat.reduceBNe, Nat.reduceBEq, Int.reduceToNat, Int.reduceLT, Int.reduceLE, Int.reduceGT, Int.reduceGE, Int.reduceEq, Int.reduceNe, Int.reduceNeg, Int.reduceAdd, Int.reduceSub, Int.reduceMul, EE_P, hvl, hl0, ex, wi, wx] | simp (disch := omega) only [wrap_fits] | ((first | with_reducible apply wcall_pure | with_reducible apply wdcall_pure); focus (first | assumption | exact awake_fn | exact equal_fn (by simp) (by simp) | exact awake1_fn _ | exact few_fn (by assumption) (by omega) | exact refcompare_fn ⟨_, _⟩ ⟨_, _⟩ | exact refvalid_fn ⟨_, _⟩ | exact explain_fn _ (by assumption) (by omega) | exact valid_credit_fn _ (by assumption) (by omega) | exact sum_fn (by assumption) (by omega) | exact all_fn (by assumption) (by omega) | exact pointsText_fn _ | exact cutPrefix_fn _ _ | exact cutPrefix1_fn _ _ | exact hasPrefix_fn _ _ | exact format_fn ⟨_, _⟩ | exact itoa_fn (by omega) (by omega) | exact steps_fn _ | exact choosef_fn _ _ | exact wrong_fn _ | exact right_fn _ | exact isName_fn _ | exact formatExpr_name _ | exact format_name _ | exact right_name _ | exact depth_name _ | exact name_fn _ | exact run_fn _ (by omega) _ [] [] _ (fun b _ _ => inName_fn b) | exact keywords_fn | exact contains_fn kwS (by decide) _ | exact inName_fn _ | exact digit_fn _ | exact letter_fn _ | exact hundredths_fn goodEE EE_P _ _ | exact mul_fn goodEE EE_P _ _ _ _ | exact sub_fn goodEE EE_P _ _ _ _ | exact add_fn goodEE EE_P _ _ _ _ | exact weight_fn goodEE EE_P EE_zero _ _ _ _ _ _ _ | exact less_fn goodEE EE_P _ _ _ _ | exact compare_fn goodEE EE_P _ _ _ _ | exact cmp_fn goodEE EE_P _ _ | exact isNaN_fn goodEE EE_P _ | exact valid_fn goodEE EE_P _ _ | exact abs_fn goodEE EE_P (by omega) (by omega))) | (with_reducible refine wguard_split_t (fun h => ?_) (fun h => ?_)) | (with_reducible refine wguard_split_f (fun h => ?_) (fun h => ?_)) | (with_reducible refine wcond_split (fun h => ?_) (fun h => ?_)) | (with_reducible refine wdguard_split_t (fun h => ?_) (fun h => ?_)) | (with_reducible refine wdguard_split_f (fun h => ?_) (fun h => ?_)) | (with_reducible refine And.intro (fun h => ?_) (fun h => ?_)) | (with_reducible apply And.intro; focus omega))
  refine wcall_of _ _ _ _ _ _ (clone_fn hn (by omega)) ?_
  repeat' (first | simp only [push_cast, Nat.reduceEqDiff, Nat.reduceAdd, Nat.reduceMul, Nat.reduceLeDiff, Nat.reduceLT, reduceIte, reduceCtorEq, Nat.reduceShiftRight, Nat.reduceAnd, Nat.reducePow, Nat.reduceOr, Nat.reduceBNe, Nat.reduceBEq, Int.reduceToNat, Int.reduceLT, Int.reduceLE, Int.reduceGT, Int.reduceGE, Int.reduceEq, Int.reduceNe, Int.reduceNeg, Int.reduceAdd, Int.reduceSub, Int.reduceMul, EE_P, hvl, hl0, ex, wi, wx, Int.toNat_natCast, hx', hx0, hx, hgx, List.length_map, List.length_set, o1, ce1] | simp (disch := omega) only [wrap_fits] | ((first | with_reducible apply wcall_pure | with_reducible apply wdcall_pure); focus (first | assumption | exact awake_fn | exact equal_fn (by simp) (by simp) | exact awake1_fn _ | exact few_fn (by assumption) (by omega) | exact refcompare_fn ⟨_, _⟩ ⟨_, _⟩ | exact refvalid_fn ⟨_, _⟩ | exact explain_fn _ (by assumption) (by omega) | exact valid_credit_fn _ (by assumption) (by omega) | exact sum_fn (by assumption) (by omega) | exact all_fn (by assumption) (by omega) | exact pointsText_fn _ | exact cutPrefix_fn _ _ | exact cutPrefix1_fn _ _ | exact hasPrefix_fn _ _ | exact format_fn ⟨_, _⟩ | exact itoa_fn (by omega) (by omega) | exact steps_fn _ | exact choosef_fn _ _ | exact wrong_fn _ | exact right_fn _ | exact isName_fn _ | exact formatExpr_name _ | exact format_name _ | exact right_name _ | exact depth_name _ | exact name_fn _ | exact run_fn _ (by omega) _ [] [] _ (fun b _ _ => inName_fn b) | exact keywords_fn | exact contains_fn kwS (by decide) _ | exact inName_fn _ | exact digit_fn _ | exact letter_fn _ | exact hundredths_fn goodEE EE_P _ _ | exact mul_fn goodEE EE_P _ _ _ _ | exact sub_fn goodEE EE_P _ _ _ _ | exact add_fn goodEE EE_P _ _ _ _ | exact weight_fn goodEE EE_P EE_zero _ _ _ _ _ _ _ | exact less_fn goodEE EE_P _ _ _ _ | exact compare_fn goodEE EE_P _ _ _ _ | exact cmp_fn goodEE EE_P _ _ | exact isNaN_fn goodEE EE_P _ | exact valid_fn goodEE EE_P _ _ | exact abs_fn goodEE EE_P (by omega) (by omega))) | (with_reducible refine wguard_split_t (fun h => ?_) (fun h => ?_)) | (with_reducible refine wguard_split_f (fun h => ?_) (fun h => ?_)) | (with_reducible refine wcond_split (fun h => ?_) (fun h => ?_)) | (with_reducible refine wdguard_split_t (fun h => ?_) (fun h => ?_)) | (with_reducible refine wdguard_split_f (fun h => ?_) (fun h => ?_)) | (with_reducible refine And.intro (fun h => ?_) (fun h => ?_)) | (with_reducible apply And.intro; focus omega))
  · ((refine ends_ret (by simp only [resultsOf, resOf, push_cast, Nat.reduceEqDiff, Nat.reduceAdd, Nat.reduceMul, Nat.reduceLeDiff, Nat.reduceLT, reduceIte, reduceCtorEq, Nat.reduceShiftRight, Nat.reduceAnd, Nat.reducePow, Nat.reduceOr, Nat.reduceBNe, Nat.reduceBEq, Int.reduceToNat, Int.reduceLT, Int.reduceLE, Int.reduceGT, Int.reduceGE, Int.reduceEq, Int.reduceNe, Int.reduceNeg, Int.reduceAdd, Int.reduceSub, Int.reduceMul, EE_P]; rfl) (by simp only [push_cast, Nat.reduceEqDiff, Nat.reduceAdd, Nat.reduceMul, Nat.reduceLeDiff, Nat.reduceLT, reduceIte, reduceCtorEq, Nat.reduceShiftRight, Nat.reduceAnd, Nat.reducePow, Nat.reduceOr, Nat.reduceBNe, Nat.reduceBEq, Int.reduceToNat, Int.reduceLT, Int.reduceLE, Int.reduceGT, Int.reduceGE, Int.reduceEq, Int.reduceNe, Int.reduceNeg, Int.reduceAdd, Int.reduceSub, Int.reduceMul, EE_P]) ?_ (by repeat' (first | exact Keeps.refl _ | assumption | exact (hwf.keep1 _) | refine Keeps.new hwf ?_ (by omega) _)) (by simp only [lt_int, lt_bool, lt_str, lt_nil, lt_empty, lt_agg, lt_tup, lt_list, lt_cells, lt_fn, lt_nilp, lt_nilfn, lt_nili, List.mem_cons, List.not_mem_nil, or_false, forall_eq_or_imp, forall_eq, and_true, true_and, and_self, implies_true, *]; try omega)); (try simp only [tupOf, push_cast, Nat.reduceEqDiff, Nat.reduceAdd, Nat.reduceMul, Nat.reduceLeDiff, Nat.reduceLT, reduceIte, reduceCtorEq, Nat.reduceShiftRight, Nat.reduceAnd, Nat.reducePow, Nat.reduceOr, Nat.reduceBNe, Nat.reduceBEq, Int.reduceToNat, Int.reduceLT, Int.reduceLE, Int.reduceGT, Int.reduceGE, Int.reduceEq, Int.reduceNe, Int.reduceNeg, Int.reduceAdd, Int.reduceSub, Int.reduceMul, EE_P]))
  · refine wcall_freeze (σ' := upd _ (nx + 26) none) hcom2 ((Sub.refl _).drop _) ⟨fz_row (k := nx + 26) (by simp only [upd_at, push_cast, Nat.reduceEqDiff, Nat.reduceAdd, Nat.reduceMul, Nat.reduceLeDiff, Nat.reduceLT, reduceIte, reduceCtorEq, Nat.reduceShiftRight, Nat.reduceAnd, Nat.reducePow, Nat.reduceOr, Nat.reduceBNe, Nat.reduceBEq, Int.reduceToNat, Int.reduceLT, Int.reduceLE, Int.reduceGT, Int.reduceGE, Int.reduceEq, Int.reduceNe, Int.reduceNeg, Int.reduceAdd, Int.reduceSub, Int.reduceMul]; exact congrArg (fun e => some (AObj.row e)) hsw) (upd_same ..) (by rw [List.length_map, hsl]), trivial⟩ ?_
    have hlw2 := hlw (And.left (by assumption)) (And.right (by assumption)) (by assumption)
    repeat' (first | simp only [push_cast, Nat.reduceEqDiff, Nat.reduceAdd, Nat.reduceMul, Nat.reduceLeDiff, Nat.reduceLT, reduceIte, reduceCtorEq, Nat.reduceShiftRight, Nat.reduceAnd, Nat.reducePow, Nat.reduceOr, Nat.reduceBNe, Nat.reduceBEq, Int.reduceToNat, Int.reduceLT, Int.reduceLE, Int.reduceGT, Int.reduceGE, Int.reduceEq, Int.reduceNe, Int.reduceNeg, Int.reduceAdd, Int.reduceSub, Int.reduceMul, EE_P, o2, ce2, o1, ce1, hx', hx0, hx, hgx, List.length_map, Int.toNat_natCast] | simp (disch := omega) only [wrap_fits] | ((first | with_reducible apply wcall_pure | with_reducible apply wdcall_pure); focus (first | assumption | exact awake_fn | exact equal_fn (by simp) (by simp) | exact awake1_fn _ | exact few_fn (by assumption) (by omega) | exact refcompare_fn ⟨_, _⟩ ⟨_, _⟩ | exact refvalid_fn ⟨_, _⟩ | exact explain_fn _ (by assumption) (by omega) | exact valid_credit_fn _ (by assumption) (by omega) | exact sum_fn (by assumption) (by omega) | exact all_fn (by assumption) (by omega) | exact pointsText_fn _ | exact cutPrefix_fn _ _ | exact cutPrefix1_fn _ _ | exact hasPrefix_fn _ _ | exact format_fn ⟨_, _⟩ | exact itoa_fn (by omega) (by omega) | exact steps_fn _ | exact choosef_fn _ _ | exact wrong_fn _ | exact right_fn _ | exact isName_fn _ | exact formatExpr_name _ | exact format_name _ | exact right_name _ | exact depth_name _ | exact name_fn _ | exact run_fn _ (by omega) _ [] [] _ (fun b _ _ => inName_fn b) | exact keywords_fn | exact contains_fn kwS (by decide) _ | exact inName_fn _ | exact digit_fn _ | exact letter_fn _ | exact hundredths_fn goodEE EE_P _ _ | exact mul_fn goodEE EE_P _ _ _ _ | exact sub_fn goodEE EE_P _ _ _ _ | exact add_fn goodEE EE_P _ _ _ _ | exact weight_fn goodEE EE_P EE_zero _ _ _ _ _ _ _ | exact less_fn goodEE EE_P _ _ _ _ | exact compare_fn goodEE EE_P _ _ _ _ | exact cmp_fn goodEE EE_P _ _ | exact isNaN_fn goodEE EE_P _ | exact valid_fn goodEE EE_P _ _ | exact abs_fn goodEE EE_P (by omega) (by omega))) | (with_reducible refine wguard_split_t (fun h => ?_) (fun h => ?_)) | (with_reducible refine wguard_split_f (fun h => ?_) (fun h => ?_)) | (with_reducible refine wcond_split (fun h => ?_) (fun h => ?_)) | (with_reducible refine wdguard_split_t (fun h => ?_) (fun h => ?_)) | (with_reducible refine wdguard_split_f (fun h => ?_) (fun h => ?_)) | (with_reducible refine And.intro (fun h => ?_) (fun h => ?_)) | (with_reducible apply And.intro; focus omega))
    all_goals ((refine ends_ret (by simp only [resultsOf, resOf, push_cast, Nat.reduceEqDiff, Nat.reduceAdd, Nat.reduceMul, Nat.reduceLeDiff, Nat.reduceLT, reduceIte, reduceCtorEq, Nat.reduceShiftRight, Nat.reduceAnd, Nat.reducePow, Nat.reduceOr, Nat.reduceBNe, Nat.reduceBEq, Int.reduceToNat, Int.reduceLT, Int.reduceLE, Int.reduceGT, Int.reduceGE, Int.reduceEq, Int.reduceNe, Int.reduceNeg, Int.reduceAdd, Int.reduceSub, Int.reduceMul, EE_P]; rfl) (by simp only [push_cast, Nat.reduceEqDiff, Nat.reduceAdd, Nat.reduceMul, Nat.reduceLeDiff, Nat.reduceLT, reduceIte, reduceCtorEq, Nat.reduceShiftRight, Nat.reduceAnd, Nat.reducePow, Nat.reduceOr, Nat.reduceBNe, Nat.reduceBEq, Int.reduceToNat, Int.reduceLT, Int.reduceLE, Int.reduceGT, Int.reduceGE, Int.reduceEq, Int.reduceNe, Int.reduceNeg, Int.reduceAdd, Int.reduceSub, Int.reduceMul, EE_P]) ?_ (by repeat' (first | exact Keeps.refl _ | assumption | exact (hwf.keep1 _) | refine Keeps.new hwf ?_ (by omega) _)) (by simp only [lt_int, lt_bool, lt_str, lt_nil, lt_empty, lt_agg, lt_tup, lt_list, lt_cells, lt_fn, lt_nilp, lt_nilfn, lt_nili, List.mem_cons, List.not_mem_nil, or_false, forall_eq_or_imp, forall_eq, and_true, true_and, and_self, implies_true, *]; try omega)); (try simp only [tupOf, push_cast, Nat.reduceEqDiff, Nat.reduceAdd, Nat.reduceMul, Nat.reduceLeDiff, Nat.reduceLT, reduceIte, reduceCtorEq, Nat.reduceShiftRight, Nat.reduceAnd, Nat.reducePow, Nat.reduceOr, Nat.reduceBNe, Nat.reduceBEq, Int.reduceToNat, Int.reduceLT, Int.reduceLE, Int.reduceGT, Int.reduceGE, Int.reduceEq, Int.reduceNe, Int.reduceNeg, Int.reduceAdd, Int.reduceSub, Int.reduceMul, EE_P]))
    all_goals (obtain ⟨q1, q2, q3⟩ := hlw2 (by assumption) (by assumption))
    all_goals (first | (have q := q2 (by assumption); first | (rw [decide_eq_true q.2]; done) | (exfalso; omega) | exact absurd q1 (by assumption)) | (have q := q3 (by assumption); first | (rw [decide_eq_true q.2]; done) | (exfalso; omega) | exact absurd q1 (by assumption)))
  · ((refine ends_ret (by simp only [resultsOf, resOf, push_cast, Nat.reduceEqDiff, Nat.reduceAdd, Nat.reduceMul, Nat.reduceLeDiff, Nat.reduceLT, reduceIte, reduceCtorEq, Nat.reduceShiftRight, Nat.reduceAnd, Nat.reducePow, Nat.reduceOr, Nat.reduceBNe, Nat.reduceBEq, Int.reduceToNat, Int.reduceLT, Int.reduceLE, Int.reduceGT, Int.reduceGE, Int.reduceEq, Int.reduceNe, Int.reduceNeg, Int.reduceAdd, Int.reduceSub, Int.reduceMul, EE_P]; rfl) (by simp only [push_cast, Nat.reduceEqDiff, Nat.reduceAdd, Nat.reduceMul, Nat.reduceLeDiff, Nat.reduceLT, reduceIte, reduceCtorEq, Nat.reduceShiftRight, Nat.reduceAnd, Nat.reducePow, Nat.reduceOr, Nat.reduceBNe, Nat.reduceBEq, Int.reduceToNat, Int.reduceLT, Int.reduceLE, Int.reduceGT, Int.reduceGE, Int.reduceEq, Int.reduceNe, Int.reduceNeg, Int.reduceAdd, Int.reduceSub, Int.reduceMul, EE_P]) ?_ (by repeat' (first | exact Keeps.refl _ | assumption | exact (hwf.keep1 _) | refine Keeps.new hwf ?_ (by omega) _)) (by simp only [lt_int, lt_bool, lt_str, lt_nil, lt_empty, lt_agg, lt_tup, lt_list, lt_cells, lt_fn, lt_nilp, lt_nilfn, lt_nili, List.mem_cons, List.not_mem_nil, or_false, forall_eq_or_imp, forall_eq, and_true, true_and, and_self, implies_true, *]; try omega)); (try simp only [tupOf, push_cast, Nat.reduceEqDiff, Nat.reduceAdd, Nat.reduceMul, Nat.reduceLeDiff, Nat.reduceLT, reduceIte, reduceCtorEq, Nat.reduceShiftRight, Nat.reduceAnd, Nat.reducePow, Nat.reduceOr, Nat.reduceBNe, Nat.reduceBEq, Int.reduceToNat, Int.reduceLT, Int.reduceLE, Int.reduceGT, Int.reduceGE, Int.reduceEq, Int.reduceNe, Int.reduceNeg, Int.reduceAdd, Int.reduceSub, Int.reduceMul, EE_P]))
theorem args_frac {ts : List TypeId} {pvs : List PV} (h : Args EE.P (27 :: ts) pvs) : ∃ (f : Frac) (rest : List PV), pvs = f.pv :: rest ∧ Args EE.P ts rest := by
  match pvs, h with
  | p :: ps, ⟨⟨c, hc, hp⟩, h2⟩ =>
    obtain ⟨f, rfl⟩ := cells_frac hc
    refine ⟨f, ps, ?_, h2⟩
    rw [hp, mk, if_pos (by rw [EE_P]; kernel_rfl)]
    rfl
theorem rises_proved : ∀ pvs, Args EE.P Tryz.f6.params.toList pvs → Pure EE 6 pvs (.bool true) := by
  intro pvs h
  obtain ⟨ls, v, rest, rfl, hv, hl, h⟩ := args_lines h
  obtain ⟨i, rest, rfl, hi, h⟩ := args_u8 h
  obtain ⟨f, rest, rfl, h⟩ := args_frac h
  match rest, h with
  | [], _ => exact rises_fn hv hl i f hi
end Go.Proofs.YtdajoilaakiinaaGreatDoor.Awp
