/- What a body of code must do to a state of the abstract machine. -/
import Derived.Test.YtdajoilaakiinaaGreatDoorMA
import Derived.ChangeStays
import Derived.ProofKit
import Derived.OpenShut
import Derived.Deep.DeepHandedRow
import Derived.Lib.LaidTab
import Derived.MakeChecks
set_option linter.unusedSimpArgs false
set_option linter.unusedVariables false
namespace Go.Proofs.YtdajoilaakiinaaGreatDoor.Awp
open Go

structure St where
  sl : Nat → PV
  σ : Store
  nx : Nat

inductive AExit where
  | normal
  | exit (id : Nat)
  | ret
  | panic (v : PV)

def putSl (sl : Nat → PV) (dst : Option Tmp) (v : PV) : Nat → PV := match dst with
  | some d => upd sl d v
  | none => sl

/-- The parts of a call of a function. -/
def callee (E : Env) (sl : Nat → PV) : Op → Option (FuncId × List PV)
  | .call c => match c.callee with
    | .value f => match opd E sl f with
      | .fn g first caps => some (g, first ++ c.args.toList.map (opd E sl) ++ caps)
      | _ => none
    | _ => none
  | _ => none

/-- An operation: what must hold for it, and behind it. -/
def aop (E : Env) (key : Nat) (o : Oper) (st : St) (K : St → Prop) (Q : PV → St → Prop) : Prop := match callee E st.sl o.op with
  | some (g, args) => ∃ out σ' nx', Fn E g st.σ st.nx args out σ' nx' ∧ (match out with
    | .ret v => K ⟨putSl st.sl o.dst v, σ', nx'⟩
    | .panic v => Q v ⟨st.sl, σ', nx'⟩)
  | none => match evalOp E key st.sl st.σ o.op with
    | some (c, eff) => c ∧ K ⟨putSl st.sl o.dst eff.val, app st.σ eff.wr, st.nx⟩
    | none => False

/-- Is an operation with a guard carried out? -/
def guarded (ops : Array Oper) (sl : Nat → PV) (j : Nat) : PV := match (ops[j]?).bind (·.dst) with
  | some d => sl d
  | none => .junk

def askip (o : Oper) (st : St) : St := ⟨putSl st.sl o.dst (.tup []), st.σ, st.nx⟩

/-- The operations of a region in the order of the text. -/
def aops (E : Env) (kb : Nat) (ops : Array Oper) (K : St → Prop) (Q : PV → St → Prop) : List Oper → Nat → St → Prop
  | [], _, st => K st
  | o :: rest, i, st => match o.guard with
    | none => aop E (kb + i) o st (aops E kb ops K Q rest (i + 1)) Q
    | some (j, want) => match guarded ops st.sl j with
      | .bool b => (b = want → aop E (kb + i) o st (aops E kb ops K Q rest (i + 1)) Q) ∧ (b = !want → aops E kb ops K Q rest (i + 1) (askip o st))
      | .tup [] => aops E kb ops K Q rest (i + 1) (askip o st)
      | _ => False

/-! ### a region that draws its order -/
/-- What an operation touches of the memory. -/
structure Mem where
  rd : List Nat := []
  wr : List Nat := []
  imp : Bool := false
def Mem.free (m : Mem) : Prop := m.rd = [] ∧ m.wr = [] ∧ m.imp = false
def Mem.apart (m n : Mem) : Prop := (m.rd = [] ∧ m.wr = [] ∧ m.imp = false) ∨ (n.rd = [] ∧ n.wr = [] ∧ n.imp = false) ∨ m.imp = false ∧ n.imp = false ∧ (∀ k ∈ m.wr, k ∉ n.rd ∧ k ∉ n.wr) ∧ (∀ k ∈ n.wr, k ∉ m.rd)
/-- Which operations surely come before an operation: of each one those that its edges name, and what comes before these. -/
def befMask (acc : List Nat) (o : Oper) : Nat := o.after.toList.foldl (fun s e => if Region.binds .any e then s ||| 2 ^ e.on ||| acc.getD e.on 0 else s) 0
def befs : List Oper → List Nat → List Nat
  | [], acc => acc
  | o :: os, acc => befs os (acc ++ [befMask acc o])
def before (ops : Array Oper) (i j : Nat) : Bool := ((befs ops.toList []).getD j 0).testBit i

def accAdd (i : Nat) (rd wr : List Nat) (acc : List (Nat × Mem)) : List (Nat × Mem) := if rd = [] ∧ wr = [] then acc else (i, { rd := rd, wr := wr }) :: acc
/-- The operations of a region that draws, in the text's order: what two of them touch that may come in either order lies apart. -/
def adraw (E : Env) (kb : Nat) (ops : Array Oper) (K : St → Prop) : List Oper → Nat → List (Nat × Mem) → St → Prop
  | [], _, _, st => K st
  | o :: rest, i, acc, st =>
    let go : Prop := match callee E st.sl o.op with
      | some (g, args) => (∃ v, Pure E g args v ∧ adraw E kb ops K rest (i + 1) acc ⟨putSl st.sl o.dst v, st.σ, st.nx⟩) ∨
          (∃ v σ' nx', Fn E g st.σ st.nx args (.ret v) σ' nx' ∧ (∀ p ∈ acc, before ops p.1 i = true) ∧ adraw E kb ops K rest (i + 1) ((i, { imp := true }) :: acc) ⟨putSl st.sl o.dst v, σ', nx'⟩)
      | none => match evalOp E (kb + i) st.sl st.σ o.op with
        | some (c, eff) => c ∧ (∀ p ∈ acc, Mem.apart p.2 { rd := eff.rd, wr := eff.wr.map (·.1) } ∨ before ops p.1 i = true) ∧
            adraw E kb ops K rest (i + 1) (accAdd i eff.rd (eff.wr.map (·.1)) acc) ⟨putSl st.sl o.dst eff.val, app st.σ eff.wr, st.nx⟩
        | none => False
    match o.guard with
    | none => go
    | some (j, want) => match guarded ops st.sl j with
      | .bool b => (b = want → go) ∧ (b = !want → adraw E kb ops K rest (i + 1) acc (askip o st))
      | .tup [] => adraw E kb ops K rest (i + 1) acc (askip o st)
      | _ => False

/-- Rounds of a loop. -/
def aloop (body : (AExit → St → Prop) → St → Prop) (Q : AExit → St → Prop) : Nat → St → Prop
  | 0, _ => False
  | n + 1, st => body (fun e st' => match e with
    | .normal => aloop body Q n st'
    | e => Q e st') st

/-- A body of code. -/
def awp (E : Env) : Code → (AExit → St → Prop) → St → Prop
  | .skip, Q, st => Q .normal st
  | .region _ ops false, Q, st => aops E st.nx ops (Q .normal) (fun v st' => Q (.panic v) st') ops.toList 0 ⟨st.sl, st.σ, st.nx + ops.size⟩
  | .region _ ops true, Q, st => adraw E st.nx ops (Q .normal) ops.toList 0 [] ⟨st.sl, st.σ, st.nx + ops.size⟩
  | .seq a b, Q, st => awp E a (fun e st' => match e with
    | .normal => awp E b Q st'
    | e => Q e st') st
  | .cond c x y, Q, st => match opd E st.sl c with
    | .bool b => (b = true → awp E x Q st) ∧ (b = false → awp E y Q st)
    | _ => False
  | .block id c, Q, st => awp E c (fun e st' => match e with
    | .exit j => if j = id then Q .normal st' else Q (.exit j) st'
    | e => Q e st') st
  | .loop c, Q, st => ∃ n, aloop (awp E c) Q n st
  | .exit id, Q, st => Q (.exit id) st
  | .ret, Q, st => Q .ret st
  | _, _, _ => False

end Go.Proofs.YtdajoilaakiinaaGreatDoor.Awp

/- A body of code that does to the abstract machine's state what is asked does it to the machine: operations, regions in the text's order. -/
namespace Go.Proofs.YtdajoilaakiinaaGreatDoor.Awp
open Go

/-- A frame and a world that a state of the abstract machine represents. -/
structure Rel (E : Env) (N : Nat) (st : St) (μ : Mu) (a : Act) (w : World) : Prop where
  sim : Sim E st.σ μ w
  slots : Slots (Used st.σ μ) μ w st.sl a.tmps
  big : ∀ t, N ≤ t → st.sl t = .junk
  size : a.tmps.size = N
  defers : a.defers = []
  fresh : ∀ k, st.nx ≤ k → μ k = none

/-- From one state to another: what has been kept. -/
structure Goes (st : St) (μ : Mu) (w : World) (st' : St) (μ' : Mu) (w' : World) : Prop where
  moves : Moves st.σ μ w st'.σ μ' w'
  le : st.nx ≤ st'.nx
  old : ∀ k, k < st.nx → μ' k = μ k

theorem Goes.refl (st : St) (μ : Mu) (w : World) : Goes st μ w st μ w := ⟨.refl _ _ _, Nat.le_refl _, fun _ _ => rfl⟩
theorem Goes.trans {st st' st'' : St} {μ μ' μ'' : Mu} {w w' w'' : World} (h : Goes st μ w st' μ' w') (k : Goes st' μ' w' st'' μ'' w'') : Goes st μ w st'' μ'' w'' :=
  ⟨h.moves.trans k.moves, Nat.le_trans h.le k.le, fun x hx => (k.old x (Nat.lt_of_lt_of_le hx h.le)).trans (h.old x hx)⟩

def okDst (N : Nat) (o : Oper) : Bool := match o.dst with
  | some d => decide (d < N)
  | none => true

theorem slots_put {U : Nat → Prop} {μ : Mu} {w : World} {sl : Nat → PV} {a : Act} {dst : Option Tmp} {p : PV} {v : Value} (h : Slots U μ w sl a.tmps) (hp : Rep U μ w p v) : Slots U μ w (putSl sl dst p) (a.put dst v).tmps := by
  cases dst with
  | none => exact h
  | some d =>
    intro t x hx
    simp only [Act.put, putSl] at hx ⊢
    by_cases e : d = t
    · subst e
      rw [upd_same]
      rw [Array.getElem?_setIfInBounds] at hx
      simp at hx
      obtain ⟨_, rfl⟩ := hx
      exact hp
    · rw [upd_other _ _ (Ne.symm e)]
      rw [Array.getElem?_setIfInBounds_ne e] at hx
      exact h t x hx

theorem putSl_big {N : Nat} {sl : Nat → PV} {dst : Option Tmp} {p : PV} (h : ∀ t, N ≤ t → sl t = .junk) (hd : ∀ d, dst = some d → d < N) : ∀ t, N ≤ t → putSl sl dst p t = .junk := by
  intro t ht
  cases dst with
  | none => exact h t ht
  | some d =>
    have := hd d rfl
    simp only [putSl]
    rw [upd_other _ _ (fun e => by subst e; exact absurd ht (Nat.not_le_of_lt this))]
    exact h t ht
theorem put_size (a : Act) (dst : Option Tmp) (v : Value) : (a.put dst v).tmps.size = a.tmps.size := by cases dst <;> simp [Act.put]
theorem put_defers (a : Act) (dst : Option Tmp) (v : Value) : (a.put dst v).defers = a.defers := by cases dst <;> rfl
theorem okDst_lt {N : Nat} {o : Oper} (h : okDst N o = true) : ∀ d, o.dst = some d → d < N := by
  intro d hd; unfold okDst at h; rw [hd] at h; simpa using h

section
variable {E : Env} {N : Nat}

/-- How a body of code ends, and what then is represented. -/
def PostOf (E : Env) (N : Nat) (st : St) (μ : Mu) (w : World) (Q : AExit → St → Prop) : Exit → Act → World → Prop
  | .normal, a', w' => ∃ st' μ', Q .normal st' ∧ Rel E N st' μ' a' w' ∧ Goes st μ w st' μ' w'
  | .exit id, a', w' => ∃ st' μ', Q (.exit id) st' ∧ Rel E N st' μ' a' w' ∧ Goes st μ w st' μ' w'
  | .ret, a', w' => ∃ st' μ', Q .ret st' ∧ Rel E N st' μ' a' w' ∧ Goes st μ w st' μ' w'
  | .panic chain, a', w' => ∃ st' μ' p v, Q (.panic p) st' ∧ chain = [{ v, recovered := false }] ∧ Rep (Used st'.σ μ') μ' w' p v ∧ Rel E N st' μ' a' w' ∧ Goes st μ w st' μ' w'
  | _, _, _ => False

theorem PostOf.from_ {st st1 : St} {μ μ1 : Mu} {w w1 : World} {Q : AExit → St → Prop} (g : Goes st μ w st1 μ1 w1) : ∀ (e : Exit) (a' : Act) (w' : World), PostOf E N st1 μ1 w1 Q e a' w' → PostOf E N st μ w Q e a' w'
  | .normal, _, _, ⟨st', μ', q, r, h⟩ => ⟨st', μ', q, r, g.trans h⟩
  | .exit _, _, _, ⟨st', μ', q, r, h⟩ => ⟨st', μ', q, r, g.trans h⟩
  | .ret, _, _, ⟨st', μ', q, r, h⟩ => ⟨st', μ', q, r, g.trans h⟩
  | .panic _, _, _, ⟨st', μ', p, v, q, e, r, r', h⟩ => ⟨st', μ', p, v, q, e, r, r', g.trans h⟩

/-- The state behind an operation that calls nothing. -/
theorem rel_eval {st : St} {μ : Mu} {a : Act} {w : World} (hE : EnvOk E) (R : Rel E N st μ a w) {key : Nat} (hk : μ key = none) (hkl : key < st.nx) {o : Oper} (hd : okDst N o = true) {c : Prop} {eff : Eff} (h : evalOp E key st.sl st.σ o.op = some (c, eff)) (hc : c) :
    ∃ v w' μ', ((execOp a.eval o).run E.P w = .ok (.value v) w' ∨ ((execOp a.eval o).run E.P w = .ok .skip w' ∧ v = undef)) ∧
      Rel E N ⟨putSl st.sl o.dst eff.val, app st.σ eff.wr, st.nx⟩ μ' (a.put o.dst v) w' ∧ Moves st.σ μ w (app st.σ eff.wr) μ' w' ∧ ∀ k, k ≠ key → μ' k = μ k := by
  obtain ⟨v, w', μ', hr, hrep, hs, hm, ho⟩ := op_does R.sim hE hk R.slots (fun t ht => R.big t (by rw [R.size] at ht; exact ht)) h hc
  refine ⟨v, w', μ', hr, ⟨hs, slots_put (fun t x hx => (R.slots t x hx).moves hm) hrep, putSl_big R.big (okDst_lt hd), by rw [put_size]; exact R.size, by rw [put_defers]; exact R.defers, fun k hk' => ?_⟩, hm, ho⟩
  simp only at hk'
  rw [ho k (by omega)]
  exact R.fresh k hk'

theorem rel_skip {st : St} {μ : Mu} {a : Act} {w : World} (R : Rel E N st μ a w) {o : Oper} (hd : okDst N o = true) : Rel E N (askip o st) μ (a.put o.dst undef) w :=
  ⟨R.sim, slots_put R.slots (.tup [] #[] rfl (fun i pv v h => by simp at h)), putSl_big R.big (okDst_lt hd), by rw [put_size]; exact R.size, by rw [put_defers]; exact R.defers, R.fresh⟩

theorem callee_resolve {st : St} {μ : Mu} {a : Act} {w : World} (R : Rel E N st μ a w) {o : Oper} {g : FuncId} {args : List PV} (h : callee E st.sl o.op = some (g, args)) (hg : Callable E.P g) :
    ∃ vs, (execOp a.eval o).run E.P w = .ok (.enter g vs) w ∧ RepL (Used st.σ μ) μ w args vs := by
  have ho := fun x => rep_opd R.sim R.slots (fun t ht => R.big t (by rw [R.size] at ht; exact ht)) x
  obtain ⟨dst, op, type, pos, after, guard⟩ := o
  simp only at h
  unfold callee at h
  split at h
  · rename_i c
    split at h
    · rename_i f hf
      split at h
      · rename_i g' first caps e
        cases h
        have hfv := ho f
        rw [e] at hfv
        obtain ⟨fn, h1, h2, h3⟩ := hg
        generalize hv : a.eval f = v at hfv
        cases hfv with
        | fn _ _ _ vs us hl hl' hr hr' =>
        refine ⟨vs ++ c.args.map a.eval ++ us, ?_, ?_⟩
        · simp only [execOp, resolve, hf, hv, Deferred.ofValue, Sem.run_bind, Sem.run_pure, Result.andThen_ok, invoke, callFunc, run_program, h1]
          rw [Sem.run_ite, if_neg (by rw [h3]; simp), Sem.run_ite, if_neg (by rw [Option.isNone_eq_false_iff.2 h2]; simp)]
          rfl
        · refine ⟨by simp [hl, hl'], fun i pv v hi hv => ?_⟩
          rw [List.getElem?_append] at hi
          rw [Array.getElem?_append] at hv
          have e1 : (vs ++ c.args.map a.eval).size = (first ++ c.args.toList.map (opd E st.sl)).length := by simp [hl]
          rw [e1] at hv
          split at hi
          · rename_i hlt
            rw [if_pos hlt] at hv
            rw [List.getElem?_append] at hi
            rw [Array.getElem?_append, hl] at hv
            split at hi
            · rename_i hlt2; rw [if_pos hlt2] at hv; exact hr i pv v hi hv
            · rename_i hlt2
              rw [if_neg hlt2] at hv
              simp only [List.getElem?_map, Array.getElem?_map, Option.map_eq_some_iff, Array.getElem?_toList] at hi hv
              obtain ⟨x, hx, rfl⟩ := hi
              obtain ⟨y, hy, rfl⟩ := hv
              rw [hx] at hy; cases hy
              exact ho _
          · rename_i hlt
            rw [if_neg hlt] at hv
            exact hr' _ pv v hi hv
      · cases h
    · cases h
  · cases h

/-- The state behind a call. -/
theorem rel_call {st : St} {μ : Mu} {a : Act} {w : World} (R : Rel E N st μ a w) {o : Oper} (hd : okDst N o = true) {g : FuncId} {args : List PV} {out : Out} {σ' : Store} {nx' : Nat} (h : callee E st.sl o.op = some (g, args))
    (hF : Fn E g st.σ st.nx args out σ' nx') {K : Act → World → Prop} {Q : Exit → Act → World → Prop}
    (hK : ∀ p, out = .ret p → ∀ v μ' w', Rel E N ⟨putSl st.sl o.dst p, σ', nx'⟩ μ' (a.put o.dst v) w' → Goes st μ w ⟨putSl st.sl o.dst p, σ', nx'⟩ μ' w' → K (a.put o.dst v) w')
    (hQ : ∀ p, out = .panic p → ∀ v μ' w', Rep (Used σ' μ') μ' w' p v → Rel E N ⟨st.sl, σ', nx'⟩ μ' a w' → Goes st μ w ⟨st.sl, σ', nx'⟩ μ' w' → Q (.panic [{ v, recovered := false }]) a w') :
    o.wp E.P a w K Q := by
  obtain ⟨vs, hrun, hvs⟩ := callee_resolve R h hF.callable
  unfold Oper.wp
  rw [hrun]
  simp only [Oper.upon]
  refine (hF.calls μ w vs R.sim R.fresh hvs).mono fun e w' hpost => ?_
  obtain ⟨μ', hout, hs, hm, hold, hfresh⟩ := hpost
  have g : Goes st μ w ⟨st.sl, σ', nx'⟩ μ' w' := ⟨hm, hF.le, hold⟩
  cases out with
  | ret p =>
    obtain ⟨v, rfl, hv⟩ := hout
    refine hK p rfl v μ' w' ⟨hs, slots_put (fun t x hx => (R.slots t x hx).moves hm) hv, putSl_big R.big (okDst_lt hd), by rw [put_size]; exact R.size, by rw [put_defers]; exact R.defers, hfresh⟩ ⟨hm, hF.le, hold⟩
  | panic p =>
    obtain ⟨v, rfl, hv⟩ := hout
    exact hQ p rfl v μ' w' hv ⟨hs, fun t x hx => (R.slots t x hx).moves hm, R.big, R.size, R.defers, hfresh⟩ g

/-- One operation. -/
theorem aop_sound {st : St} {μ : Mu} {a : Act} {w : World} (hE : EnvOk E) (R : Rel E N st μ a w) {key : Nat} (hk : μ key = none) (hkl : key < st.nx) {o : Oper} (hd : okDst N o = true) {K : St → Prop} {Q : PV → St → Prop} (h : aop E key o st K Q)
    {K' : Act → World → Prop} {Q' : Exit → Act → World → Prop} (hK : ∀ st' μ' a' w', K st' → Rel E N st' μ' a' w' → Moves st.σ μ w st'.σ μ' w' → st.nx ≤ st'.nx → (∀ k, k < st.nx → k ≠ key → μ' k = μ k) → K' a' w')
    (hQ : ∀ p st' μ' a' w' v, Q p st' → Rep (Used st'.σ μ') μ' w' p v → Rel E N st' μ' a' w' → Moves st.σ μ w st'.σ μ' w' → st.nx ≤ st'.nx → (∀ k, k < st.nx → μ' k = μ k) → Q' (.panic [{ v, recovered := false }]) a' w') : o.wp E.P a w K' Q' := by
  unfold aop at h
  split at h
  · rename_i g args hc
    obtain ⟨out, σ', nx', hF, hout⟩ := h
    refine rel_call R hd hc hF (fun p hp v μ' w' r g => ?_) (fun p hp v μ' w' hv r g => ?_)
    · subst hp; exact hK _ μ' _ w' hout r g.moves g.le fun k hk' _ => g.old k hk'
    · subst hp; exact hQ p _ μ' _ w' v hout hv r g.moves g.le g.old
  · split at h
    · rename_i c eff he
      obtain ⟨hc, h⟩ := h
      obtain ⟨v, w', μ', hr, hR, hm, ho⟩ := rel_eval hE R hk hkl hd he hc
      have hfin := hK _ μ' _ w' h hR hm (Nat.le_refl _) fun k _ hk' => ho k hk'
      unfold Oper.wp
      rcases hr with hr | ⟨hr, rfl⟩
      · rw [hr]; exact hfin
      · rw [hr]; exact hfin
    · exact h.elim

theorem guard_wanted {st : St} {μ : Mu} {a : Act} {w : World} (R : Rel E N st μ a w) {ops : Array Oper} {j : Nat} {want : Bool} {o : Oper} (hg : o.guard = some (j, want)) :
    (∀ b, guarded ops st.sl j = .bool b → Region.wanted o (yielded ops a.tmps) = (b == want)) ∧ (guarded ops st.sl j = .tup [] → Region.wanted o (yielded ops a.tmps) = false) := by
  unfold guarded Region.wanted yielded
  rw [hg]
  simp only
  cases hd : (ops[j]?).bind (·.dst) with
  | none => exact ⟨fun b h => (by cases h), fun h => (by cases h)⟩
  | some d =>
    simp only [Option.bind_some]
    by_cases hlt : d < a.tmps.size
    · have hs := R.slots d a.tmps[d] (Array.getElem?_eq_getElem hlt)
      rw [Array.getElem?_eq_getElem hlt]
      refine ⟨fun b h => ?_, fun h => ?_⟩
      · rw [h] at hs
        generalize a.tmps[d] = x at hs
        cases hs
        cases b <;> cases want <;> rfl
      · rw [h] at hs
        generalize a.tmps[d] = x at hs
        cases hs
        rfl
    · have hj := R.big d (by rw [← R.size]; exact Nat.le_of_not_lt hlt)
      refine ⟨fun b h => ?_, fun h => ?_⟩
      · rw [hj] at h; cases h
      · rw [hj] at h; cases h

theorem mem_idx {ops : Array Oper} {pre : List Oper} {o : Oper} {rest : List Oper} (h : ops.toList = pre ++ o :: rest) : ops[pre.length]? = some o := by
  rw [← Array.getElem?_toList, h]; simp

/-- The operations of a region in the text's order. -/
theorem aops_sound (hE : EnvOk E) {ops : Array Oper} {kb : Nat} {K : St → Prop} {Q : PV → St → Prop} {Q' : Exit → Act → World → Prop} (hok : ∀ o ∈ ops.toList, okDst N o = true) :
    ∀ (rest pre : List Oper) (st : St) (μ : Mu) (a : Act) (w : World), ops.toList = pre ++ rest → Rel E N st μ a w → (∀ j, pre.length ≤ j → j < ops.size → μ (kb + j) = none) → kb + ops.size ≤ st.nx → aops E kb ops K Q rest pre.length st →
      (∀ st' μ' a' w', K st' → Rel E N st' μ' a' w' → Moves st.σ μ w st'.σ μ' w' → st.nx ≤ st'.nx → (∀ k, k < kb → μ' k = μ k) → Q' .normal a' w') →
      (∀ p st' μ' a' w' v, Q p st' → Rep (Used st'.σ μ') μ' w' p v → Rel E N st' μ' a' w' → Moves st.σ μ w st'.σ μ' w' → st.nx ≤ st'.nx → (∀ k, k < kb → μ' k = μ k) → Q' (.panic [{ v, recovered := false }]) a' w') →
      wpOps E.P ops Q' (List.range' pre.length rest.length) a w
  | [], pre, st, μ, a, w, _, R, _, _, h, hK, _ => hK st μ a w h R (.refl _ _ _) (Nat.le_refl _) fun _ _ => rfl
  | o :: rest, pre, st, μ, a, w, hl, R, hf, hn, h, hK, hQ => by
    have hlen : pre.length < ops.size := by rw [← Array.length_toList, hl]; simp
    have hmem : o ∈ ops.toList := by rw [hl]; simp
    have hidx := mem_idx hl
    have hl' : ops.toList = (pre ++ [o]) ++ rest := by rw [hl]; simp
    have hpl : (pre ++ [o]).length = pre.length + 1 := by simp
    rw [List.length_cons, List.range'_succ]
    have doIt : aop E (kb + pre.length) o st (aops E kb ops K Q rest (pre.length + 1)) Q → o.wp E.P a w (wpOps E.P ops Q' (List.range' (pre.length + 1) rest.length)) Q' := by
      intro h
      refine aop_sound hE R (hf _ (Nat.le_refl _) hlen) (by omega) (hok o hmem) h (fun st' μ' a' w' h' R' m hle ho => ?_) (fun p st' μ' a' w' v h' hr R' m hle ho => hQ p st' μ' a' w' v h' hr R' m hle fun k hk => ho k (by omega))
      have ih := aops_sound hE hok rest (pre ++ [o]) st' μ' a' w' hl' R' (fun j hj hj' => by rw [hpl] at hj; rw [ho _ (by omega) (by omega)]; exact hf j (by omega) hj') (by omega) (by rw [hpl]; exact h')
        (fun st2 μ2 a2 w2 h2 R2 m2 hle2 ho2 => hK st2 μ2 a2 w2 h2 R2 (m.trans m2) (by omega) fun k hk => (ho2 k hk).trans (ho k (by omega) (by omega)))
        (fun p st2 μ2 a2 w2 v h2 hr R2 m2 hle2 ho2 => hQ p st2 μ2 a2 w2 v h2 hr R2 (m.trans m2) (by omega) fun k hk => (ho2 k hk).trans (ho k (by omega) (by omega)))
      rw [hpl] at ih
      exact ih
    have skipIt : aops E kb ops K Q rest (pre.length + 1) (askip o st) → wpOps E.P ops Q' (List.range' (pre.length + 1) rest.length) (a.put o.dst undef) w := by
      intro h
      have ih := aops_sound hE hok rest (pre ++ [o]) (askip o st) μ (a.put o.dst undef) w hl' (rel_skip R (hok o hmem)) (fun j hj hj' => by rw [hpl] at hj; exact hf j (by omega) hj') hn (by rw [hpl]; exact h) hK hQ
      rw [hpl] at ih
      exact ih
    simp only [wpOps, hidx]
    simp only [aops] at h
    cases hg : o.guard with
    | none =>
      rw [hg] at h
      have hw : Region.wanted o (yielded ops a.tmps) = true := by unfold Region.wanted; rw [hg]
      rw [if_pos hw]
      exact .inl (doIt h)
    | some jw =>
      obtain ⟨j, want⟩ := jw
      rw [hg] at h
      simp only at h
      obtain ⟨g1, g2⟩ := guard_wanted R (ops := ops) hg
      split at h
      · rename_i b hb
        obtain ⟨h1, h2⟩ := h
        have hw := g1 b hb
        by_cases e : b = want
        · rw [if_pos (by rw [hw, e]; simp)]
          exact .inl (doIt (h1 e))
        · rw [if_neg (by rw [hw]; simpa using e)]
          exact skipIt (h2 (by cases b <;> cases want <;> simp_all))
      · rename_i hb
        rw [if_neg (by rw [g2 hb]; simp)]
        exact skipIt h
      · exact h.elim
end
end Go.Proofs.YtdajoilaakiinaaGreatDoor.Awp

/- A region that draws its order: the operations do the same in every order that is allowed, if what may be swapped lies apart. -/
namespace Go.Proofs.YtdajoilaakiinaaGreatDoor.Awp
open Go

section
variable {E : Env}

/-! ### what an operation looks at -/
theorem map_opd {sl sl' : Nat → PV} {xs : Array Operand} (h : ∀ x ∈ xs, opd E sl x = opd E sl' x) : xs.toList.map (opd E sl) = xs.toList.map (opd E sl') :=
  List.map_congr_left fun x hx => h x (Array.mem_toList_iff.1 hx)
theorem callee_congr {sl sl' : Nat → PV} (op : Op) (h : ∀ x ∈ op.operands, opd E sl x = opd E sl' x) : callee E sl op = callee E sl' op := by
  cases op with
  | call c =>
    simp only [Op.operands] at h
    have hargs := map_opd (E := E) (sl := sl) (sl' := sl') (xs := c.args) fun x hx => h x (by simp [Call.operands, hx])
    unfold callee
    simp only [hargs]
    cases hc : c.callee with
    | value f =>
      have hf : opd E sl f = opd E sl' f := h f (by simp [Call.operands, hc])
      simp only [hf]
    | invoke r m => rfl
    | builtin b => rfl
  | _ => rfl
theorem evalOp_congr {key : Nat} {sl sl' : Nat → PV} {σ : Store} (op : Op) (h : ∀ x ∈ op.operands, opd E sl x = opd E sl' x) : evalOp E key sl σ op = evalOp E key sl' σ op := by
  have pairs : ∀ {ps : Array (Nat × Operand)}, (∀ x ∈ (ps.toList.map (·.2)).toArray, opd E sl x = opd E sl' x) → (ps.toList.map fun p => (p.1, opd E sl p.2)) = ps.toList.map fun p => (p.1, opd E sl' p.2) := fun {ps} hp =>
    List.map_congr_left fun p hm => by rw [hp p.2 (by simp only [List.mem_toArray, List.mem_map]; exact ⟨p, hm, rfl⟩)]
  have pairs2 : ∀ {ps : Array (Nat × Operand)}, (∀ x ∈ (ps.toList.map (·.2)).toArray, opd E sl x = opd E sl' x) → (ps.toList.map fun p => cellsP (opd E sl p.2)) = ps.toList.map fun p => cellsP (opd E sl' p.2) := fun {ps} hp =>
    List.map_congr_left fun p hm => by rw [hp p.2 (by simp only [List.mem_toArray, List.mem_map]; exact ⟨p, hm, rfl⟩)]
  cases op <;> simp only [Op.operands] at h
  case call c =>
    have hargs := map_opd (E := E) (sl := sl) (sl' := sl') (xs := c.args) fun x hx => h x (by simp [Call.operands, hx])
    simp only [evalOp, hargs]
  case build t ps => simp only [evalOp, pairs h]
  case buildSlice t n ps => simp only [evalOp, pairs2 h]
  case makeFunc fn first captured =>
    have h1 := map_opd (E := E) (sl := sl) (sl' := sl') (xs := first) fun x hx => h x (by simp [hx])
    have h2 := map_opd (E := E) (sl := sl) (sl' := sl') (xs := captured) fun x hx => h x (by simp [hx])
    cases fn <;> simp only [evalOp, h1, h2]
  case slice t x lo hi mx =>
    have hx : opd E sl x = opd E sl' x := h x (by simp)
    have h1 : lo.map (opd E sl) = lo.map (opd E sl') := by cases lo with
      | none => rfl
      | some y => simp only [Option.map_some, Option.some.injEq]; exact h y (by simp)
    have h2 : hi.map (opd E sl) = hi.map (opd E sl') := by cases hi with
      | none => rfl
      | some y => simp only [Option.map_some, Option.some.injEq]; exact h y (by simp)
    have h3 : mx.map (opd E sl) = mx.map (opd E sl') := by cases mx with
      | none => rfl
      | some y => simp only [Option.map_some, Option.some.injEq]; exact h y (by simp)
    simp only [evalOp, hx, h1, h2, h3]
  case makeMap t r =>
    have h1 : r.map (opd E sl) = r.map (opd E sl') := by cases r with
      | none => rfl
      | some y => simp only [Option.map_some, Option.some.injEq]; exact h y (by simp)
    simp only [evalOp, h1]
  all_goals first
    | rfl
    | (simp only [evalOp]; simp_all; done)

/-! ### what an operation reads -/
theorem elems_rd {σ σ' : Store} {x : PV} {c : Prop} {xs : List (List PV)} {rd : List Nat} (h : elems σ x = some (c, xs, rd)) (hr : ∀ k ∈ rd, σ' k = σ k) : elems σ' x = some (c, xs, rd) := by
  unfold elems at *
  split at h
  · exact h
  · exact h
  · exact h
  · rename_i k off len
    split at h
    · rename_i es he
      cases h
      rw [hr k (by simp), he]
    · cases h
  · cases h
theorem evAppend_rd {key : Nat} {σ σ' : Store} {t : TypeId} {s x : PV} {c : Prop} {eff : Eff} (h : evAppend E key σ t s x = some (c, eff)) (hr : ∀ k ∈ eff.rd, σ' k = σ k) : evAppend E key σ' t s x = some (c, eff) := by
  unfold evAppend at *
  split at h
  · cases h
  · split at h
    · cases h
    · rename_i hti
      rw [if_neg hti]
      split at h
      · cases h
      · rename_i c' xs rd he
        split at h
        · split at h
          · rename_i hx
            cases h
            rw [elems_rd he hr]
            simp only
            rw [if_pos hx]
          · rename_i hx
            cases h
            rw [elems_rd he hr]
            simp only
            rw [if_neg hx]
        · split at h
          · rename_i hx
            cases h
            rw [elems_rd he hr]
            simp only
            rw [if_pos hx]
          · rename_i hx
            cases h
            rw [elems_rd he hr]
            simp only
            rw [if_neg hx]
        · split at h
          · rename_i hk
            split at h
            · rename_i hrd
              cases h
              rw [elems_rd he fun k hk => hr k (by rw [hrd] at hk; exact hk)]
              simp only
              rw [hr _ (List.mem_cons_self ..), hk]
              simp only
              rw [if_pos hrd]
            · rename_i hrd
              cases h
              rw [elems_rd he fun k hk => hr k (List.mem_cons_of_mem _ hk)]
              simp only
              rw [hr _ (List.mem_cons_self ..), hk]
              simp only
              rw [if_neg hrd]
          · cases h
        · cases h
theorem evAppZeros_rd {key : Nat} {σ σ' : Store} {t : TypeId} {s x : PV} {c : Prop} {eff : Eff} (h : evAppZeros E key σ t s x = some (c, eff)) (hr : ∀ k ∈ eff.rd, σ' k = σ k) : evAppZeros E key σ' t s x = some (c, eff) := by
  unfold evAppZeros at *
  split at h
  · cases h
  split at h
  · cases h
  rename_i hti
  rw [if_neg hti]
  split at h
  · rename_i k off len kq n z hz
    split at h
    · rename_i es cp hs hcp
      cases h
      try simp only [hz]
      rw [hr k (by simp), hs, hcp]
    · cases h
  · cases h
theorem evCopy_rd {σ σ' : Store} {t : TypeId} {s x : PV} {c : Prop} {eff : Eff} (h : evCopy E σ t s x = some (c, eff)) (hr : ∀ k ∈ eff.rd, σ' k = σ k) : evCopy E σ' t s x = some (c, eff) := by
  unfold evCopy at *
  split at h
  · cases h
  split at h
  · cases h
  rename_i hti
  rw [if_neg hti]
  split at h
  · rename_i k' off' len'
    split at h
    · rename_i es' hs'
      split at h
      · rename_i k off len
        split at h
        · rename_i es hs
          cases h
          try simp only
          rw [hr k (by simp), hr k' (by simp), hs, hs']
        · cases h
      · cases h
    · cases h
  · cases h
theorem evClear_rd {σ σ' : Store} {t : TypeId} {x : PV} {c : Prop} {eff : Eff} (h : evClear E σ t x = some (c, eff)) (hr : ∀ k ∈ eff.rd, σ' k = σ k) : evClear E σ' t x = some (c, eff) := by
  unfold evClear at *
  split at h
  · cases h
  split at h
  · rename_i k off len
    split at h
    · rename_i z es hz hs
      split at h
      · cases h
      rename_i hti
      cases h
      try simp only
      rw [hr k (by simp), hs, hz]
      simp only
      rw [if_neg hti]
    · cases h
  · exact h
  · exact h
  · cases h
theorem evConvert_rd {σ σ' : Store} {s d : TypeId} {x : PV} {c : Prop} {eff : Eff} (h : evConvert E σ s d x = some (c, eff)) (hr : ∀ k ∈ eff.rd, σ' k = σ k) : evConvert E σ' s d x = some (c, eff) := by
  unfold evConvert at *
  split at h
  · rename_i k off len
    split at h
    · rename_i e es he hs
      split at h
      · rename_i ht
        split at h
        · rename_i bs hb
          cases h
          try simp only
          rw [hr k (by simp), hs, he]
          simp only
          rw [if_pos ht, hb]
        · cases h
      · cases h
    · cases h
  · exact h
  · exact h
  · cases h
theorem mgot_rd {z : PV} {ok : Bool} {rd : List Nat} {r : Option (Option PV)} {c : Prop} {eff : Eff} (h : mgot z ok rd r = some (c, eff)) : eff.rd = rd := by
  unfold mgot at h
  split at h
  · cases h; rfl
  · cases h; rfl
  · cases h
theorem evLookup_rd {σ σ' : Store} {t : TypeId} {m k : PV} {ok : Bool} {c : Prop} {eff : Eff} (h : evLookup E σ t m k ok = some (c, eff)) (hr : ∀ k ∈ eff.rd, σ' k = σ k) : evLookup E σ' t m k ok = some (c, eff) := by
  unfold evLookup at *
  split at h
  · cases h
  split at h
  · rename_i hk
    rw [if_pos hk]
    split at h
    · cases h
    · split at h
      · exact h
      · rename_i kk
        split at h
        · rename_i es hs
          have := mgot_rd h
          try simp only
          rw [hr kk (by rw [this]; simp), hs]
          exact h
        · cases h
      · cases h
  · cases h
theorem evMapUpdate_rd {σ σ' : Store} {t : TypeId} {m k v : PV} {c : Prop} {eff : Eff} (h : evMapUpdate E σ t m k v = some (c, eff)) (hr : ∀ k ∈ eff.rd, σ' k = σ k) : evMapUpdate E σ' t m k v = some (c, eff) := by
  unfold evMapUpdate at *
  split at h
  · cases h
  split at h
  · rename_i hk
    rw [if_pos hk]
    split at h
    · rename_i kk
      split at h
      · rename_i es hs
        split at h
        · rename_i rr hf
          cases h
          try simp only
          rw [hr kk (by simp), hs]
          simp only [hf]
        · cases h
      · cases h
    · cases h
  · cases h
theorem evMapEntry_rd {σ σ' : Store} {t : TypeId} {m k : PV} {c : Prop} {eff : Eff} (h : evMapEntry E σ t m k = some (c, eff)) (hr : ∀ k ∈ eff.rd, σ' k = σ k) : evMapEntry E σ' t m k = some (c, eff) := by
  unfold evMapEntry at *
  split at h
  · cases h
  split at h
  · rename_i hk
    rw [if_pos hk]
    split at h
    · cases h
    · split at h
      · rename_i kk
        split at h
        · rename_i es hs
          split at h
          · rename_i rr hf
            cases h
            try simp only
            rw [hr kk (by simp), hs]
            simp only [hf]
          · rename_i hf
            cases h
            try simp only
            rw [hr kk (by simp), hs]
            simp only [hf]
          · cases h
        · cases h
      · cases h
  · cases h
theorem evEntryStore_rd {σ σ' : Store} {m k v : PV} {c : Prop} {eff : Eff} (h : evEntryStore σ m k v = some (c, eff)) (hr : ∀ k ∈ eff.rd, σ' k = σ k) : evEntryStore σ' m k v = some (c, eff) := by
  unfold evEntryStore at *
  split at h
  · rename_i kk _ n
    split at h
    · rename_i es hs
      cases h
      try simp only
      rw [hr kk (by simp), hs]
    · cases h
  · cases h
theorem evalOp_rd {key : Nat} {sl : Nat → PV} {σ σ' : Store} {op : Op} {c : Prop} {eff : Eff} (h : evalOp E key sl σ op = some (c, eff)) (hr : ∀ k ∈ eff.rd, σ' k = σ k) : evalOp E key sl σ' op = some (c, eff) := by
  cases op
  case load t a =>
    simp only [evalOp, evLoad] at *
    split at h
    · cases h
    · rename_i hti
      rw [if_neg hti]
      generalize opd E sl a = p at h ⊢
      cases p <;> try exact h
      rename_i k i off
      simp only at h ⊢
      split at h
      · rename_i es he
        cases h
        rw [hr k (by simp), he]
      · cases h
  case store t a x =>
    simp only [evalOp, evStore] at *
    split at h
    · cases h
    · rename_i hti
      rw [if_neg hti]
      generalize opd E sl a = p at h ⊢
      cases p <;> try exact h
      rename_i k i off
      simp only at h ⊢
      split at h
      · rename_i es he
        cases h
        rw [hr k (by simp), he]
      · cases h
  case slice t x lo hi mx =>
    simp only [evalOp, evSlice] at *
    generalize mx.map (opd E sl) = m at h ⊢
    cases m with
    | some m =>
      cases m <;> try exact h
      simp only at h ⊢
      generalize telem E.P t = te at h ⊢
      cases te with
      | none => exact h
      | some e =>
        simp only at h ⊢
        split at h
        · cases h
        rename_i hti
        rw [if_neg hti]
        split at h
        · exact h
        · exact h
        · rename_i k off len _ _
          split at h
          · rename_i es hs
            cases h
            try simp only
            rw [hr _ (by simp), hs]
          · cases h
        all_goals exact h
    | none =>
      simp only at h ⊢
      generalize opd E sl x = p at h ⊢
      cases p <;> try exact h
      rename_i k off len
      simp only at h ⊢
      generalize telem E.P t = te at h ⊢
      cases te with
      | none => cases h
      | some e =>
        split at h
        · rename_i es h1 h2
          cases h1
          split at h
          · cases h
          · rename_i hti
            split at h
            · rename_i l hh hb
              cases h
              rw [hr k (by simp), h2]
              simp only
              rw [if_neg hti]
            · cases h
        · cases h
  case indexAddr t x i =>
    simp only [evalOp, evIndexAddr] at *
    generalize telem E.P t = te at h ⊢
    cases te with
    | none => cases h
    | some e =>
      simp only at h ⊢
      generalize opd E sl x = p at h ⊢
      generalize opd E sl i = q at h ⊢
      cases p <;> cases q <;> try exact h
      rename_i k off len _ n
      simp only at h ⊢
      split at h
      · rename_i es he
        cases h
        rw [hr k (by simp), he]
      · cases h
  case call cl =>
    simp only [evalOp] at *
    generalize cl.callee = cc at h ⊢
    cases cc with
    | builtin b =>
      simp only at h ⊢
      unfold evBuiltin at *
      split at h
      · exact h
      · split at h
        · split at h
          · rename_i hte
            split at h
            · cases h
            rename_i hti
            rw [if_pos hte, if_neg hti]
            exact evAppZeros_rd h hr
          · rename_i hte
            rw [if_neg hte]
            exact evAppend_rd h hr
        · cases h
      · split at h
        · split at h
          · cases h
          rename_i hte
          rw [if_neg hte]
          exact evCopy_rd h hr
        · cases h
      · split at h
        · exact evClear_rd h hr
        · cases h
      · exact h
      · exact h
      · exact h
      · cases h
    | value f => exact h
    | invoke r m => exact h
  case makeFunc fn first caps => cases fn <;> exact h
  case convert src dst x => exact evConvert_rd h hr
  case lookup t m k ok => exact evLookup_rd h hr
  case mapUpdate t m k x => exact evMapUpdate_rd h hr
  case insert t m k x => exact evMapUpdate_rd h hr
  case mapEntry t m k => exact evMapEntry_rd h hr
  case entryStore t m k x => exact evEntryStore_rd h hr
  all_goals exact h
end
end Go.Proofs.YtdajoilaakiinaaGreatDoor.Awp

/- Two operations that lie apart may be swapped; so an operation that nothing must come before may be taken first. -/
namespace Go.Proofs.YtdajoilaakiinaaGreatDoor.Awp
open Go

section
variable {E : Env} {kb : Nat} {ops : Array Oper}

/-- Is an operation carried out? -/
def wantOf (ops : Array Oper) (o : Oper) (sl : Nat → PV) : Option Bool := match o.guard with
  | none => some true
  | some (j, want) => match guarded ops sl j with
    | .bool b => some (b == want)
    | .tup [] => some false
    | _ => none
def Run (E : Env) (key : Nat) (o : Oper) (st : St) (m : Mem) (st' : St) : Prop := match callee E st.sl o.op with
  | some (g, args) => (∃ v, Pure E g args v ∧ m = {} ∧ st' = ⟨putSl st.sl o.dst v, st.σ, st.nx⟩) ∨
      (∃ v σ' nx', Fn E g st.σ st.nx args (.ret v) σ' nx' ∧ m = { imp := true } ∧ st' = ⟨putSl st.sl o.dst v, σ', nx'⟩)
  | none => ∃ c eff, evalOp E key st.sl st.σ o.op = some (c, eff) ∧ c ∧ m = { rd := eff.rd, wr := eff.wr.map (·.1) } ∧ st' = ⟨putSl st.sl o.dst eff.val, app st.σ eff.wr, st.nx⟩
/-- An operation may be carried out, or left out. -/
def Stp (E : Env) (kb : Nat) (ops : Array Oper) (i : Nat) (o : Oper) (st : St) (m : Mem) (st' : St) : Prop :=
  (wantOf ops o st.sl = some false ∧ m = {} ∧ st' = askip o st) ∨ (wantOf ops o st.sl = some true ∧ Run E (kb + i) o st m st')

def Agree (ops : Array Oper) (o : Oper) (sl sl' : Nat → PV) : Prop := ∀ t ∈ o.looksAt ops, sl t = sl' t
theorem agree_opd {o : Oper} {sl sl' : Nat → PV} (h : Agree ops o sl sl') : ∀ x ∈ o.op.operands, opd E sl x = opd E sl' x := by
  intro x hx
  cases x with
  | tmp t => exact h t (List.mem_append_left _ (List.mem_filterMap.2 ⟨.tmp t, by simpa using hx, rfl⟩))
  | const v => rfl
  | global g => rfl
  | func f => rfl
theorem agree_want {o : Oper} {sl sl' : Nat → PV} (h : Agree ops o sl sl') : wantOf ops o sl = wantOf ops o sl' := by
  unfold wantOf
  cases hg : o.guard with
  | none => rfl
  | some jw =>
    obtain ⟨j, want⟩ := jw
    simp only
    have : guarded ops sl j = guarded ops sl' j := by
      unfold guarded
      cases hd : (ops[j]?).bind (·.dst) with
      | none => rfl
      | some d =>
        simp only
        refine h d (List.mem_append_right _ ?_)
        rw [hg]
        simp only [hd]
        simp
    rw [this]

theorem app_other : ∀ (wr : List (Nat × Option AObj)) (σ : Store) (k : Nat), k ∉ wr.map (·.1) → app σ wr k = σ k
  | [], _, _, _ => rfl
  | p :: wr, σ, k, h => by
    simp only [List.map_cons, List.mem_cons, not_or] at h
    show app (upd σ p.1 p.2) wr k = σ k
    rw [app_other wr _ k h.2, upd_other _ _ h.1]
theorem app_upd : ∀ (wr : List (Nat × Option AObj)) (σ : Store) (k : Nat) (v : Option AObj), k ∉ wr.map (·.1) → app (upd σ k v) wr = upd (app σ wr) k v
  | [], _, _, _, _ => rfl
  | p :: wr, σ, k, v, h => by
    simp only [List.map_cons, List.mem_cons, not_or] at h
    show app (upd (upd σ k v) p.1 p.2) wr = upd (app (upd σ p.1 p.2) wr) k v
    rw [upd_comm _ _ _ h.1, app_upd wr _ k v h.2]
theorem app_comm : ∀ (wr wr' : List (Nat × Option AObj)) (σ : Store), (∀ k ∈ wr.map (·.1), k ∉ wr'.map (·.1)) → app (app σ wr) wr' = app (app σ wr') wr
  | [], _, _, _ => rfl
  | p :: wr, wr', σ, h => by
    show app (app (upd σ p.1 p.2) wr) wr' = app (upd (app σ wr') p.1 p.2) wr
    rw [app_comm wr wr' _ (fun k hk => h k (by simp only [List.map_cons, List.mem_cons]; exact .inr hk)), app_upd wr' _ _ _ (h _ (by simp))]
theorem putSl_comm {sl : Nat → PV} {d d' : Option Tmp} {v v' : PV} (h : ∀ t, d = some t → d' ≠ some t) : putSl (putSl sl d v) d' v' = putSl (putSl sl d' v') d v := by
  cases d with
  | none => rfl
  | some t =>
    cases d' with
    | none => rfl
    | some t' => exact upd_comm _ _ _ fun e => h t rfl (by rw [e])
theorem agree_put {o : Oper} {sl : Nat → PV} {d : Option Tmp} {v : PV} (h : ∀ t, d = some t → t ∉ o.looksAt ops) : Agree ops o sl (putSl sl d v) := by
  intro t ht
  cases d with
  | none => rfl
  | some t' => exact (upd_other _ _ fun e => h t' rfl (by rw [← e]; exact ht)).symm

/-- What a step depends on. -/
theorem stp_kinds {i : Nat} {o : Oper} {st st' : St} {m : Mem} (h : Stp E kb ops i o st m st') : ∃ v, st'.sl = putSl st.sl o.dst v ∧
    ((m.imp = false ∧ ∃ wr : List (Nat × Option AObj), wr.map (·.1) = m.wr ∧ st'.σ = app st.σ wr ∧ st'.nx = st.nx ∧ ∀ sl' σ' nx', Agree ops o sl' st.sl → (∀ k ∈ m.rd, σ' k = st.σ k) → Stp E kb ops i o ⟨sl', σ', nx'⟩ m ⟨putSl sl' o.dst v, app σ' wr, nx'⟩) ∨
     (m.imp = true ∧ ∀ sl', Agree ops o sl' st.sl → Stp E kb ops i o ⟨sl', st.σ, st.nx⟩ m ⟨putSl sl' o.dst v, st'.σ, st'.nx⟩)) := by
  rcases h with ⟨hw, rfl, rfl⟩ | ⟨hw, h⟩
  · exact ⟨_, rfl, .inl ⟨rfl, [], rfl, rfl, rfl, fun sl' σ' nx' ha _ => .inl ⟨(agree_want ha).trans hw, rfl, rfl⟩⟩⟩
  · unfold Run at h
    split at h
    · rename_i g args hc
      rcases h with ⟨v, h1, rfl, rfl⟩ | ⟨v, σ', nx', h1, rfl, rfl⟩
      · refine ⟨v, rfl, .inl ⟨rfl, [], rfl, rfl, rfl, fun sl' σ' nx' ha _ => .inr ⟨(agree_want ha).trans hw, ?_⟩⟩⟩
        unfold Run
        rw [callee_congr _ (agree_opd ha), hc]
        exact .inl ⟨v, h1, rfl, rfl⟩
      · refine ⟨v, rfl, .inr ⟨rfl, fun sl' ha => .inr ⟨(agree_want ha).trans hw, ?_⟩⟩⟩
        unfold Run
        rw [callee_congr _ (agree_opd ha), hc]
        exact .inr ⟨v, _, _, h1, rfl, rfl⟩
    · rename_i hc
      obtain ⟨c, eff, he, hcc, rfl, rfl⟩ := h
      refine ⟨eff.val, rfl, .inl ⟨rfl, eff.wr, rfl, rfl, rfl, fun sl' σ' nx' ha hr => .inr ⟨(agree_want ha).trans hw, ?_⟩⟩⟩
      unfold Run
      rw [callee_congr _ (agree_opd ha), hc]
      refine ⟨c, eff, ?_, hcc, rfl, rfl⟩
      simp only
      rw [evalOp_congr _ (agree_opd ha)]
      exact evalOp_rd he hr

/-- Two steps swapped. -/
theorem stp_swap {i j : Nat} {x y : Oper} {st st1 st2 : St} {m n : Mem} (hx : Stp E kb ops i x st m st1) (hy : Stp E kb ops j y st1 n st2) (ha : x.apart ops y = true) (hm : Mem.apart m n) :
    ∃ st1', Stp E kb ops j y st n st1' ∧ Stp E kb ops i x st1' m st2 := by
  obtain ⟨a1, a2, a3⟩ := Oper.apart_spec ha
  obtain ⟨sl, σ, nx⟩ := st
  obtain ⟨sl1, σ1, nx1⟩ := st1
  obtain ⟨sl2, σ2, nx2⟩ := st2
  obtain ⟨v, hv, kx⟩ := stp_kinds hx
  obtain ⟨u, hu, ky⟩ := stp_kinds hy
  simp only at hv hu kx ky
  subst hv
  subst hu
  have agy : Agree ops y sl (putSl sl x.dst v) := agree_put a1
  have agx : Agree ops x (putSl sl y.dst u) sl := fun t ht => (agree_put (o := x) (sl := sl) (v := u) a3 t ht).symm
  have comm : putSl (putSl sl x.dst v) y.dst u = putSl (putSl sl y.dst u) x.dst v := putSl_comm a2
  rw [comm]
  rcases kx with ⟨mi, wr, hwr, hσ1, hn1, kx⟩ | ⟨mi, kx⟩
  · subst hσ1
    subst hn1
    rcases ky with ⟨ni, wr', hwr', hσ2, hn2, ky⟩ | ⟨ni, ky⟩
    · subst hσ2
      subst hn2
      have fact : (∀ k ∈ n.rd, σ k = app σ wr k) ∧ (∀ k ∈ m.rd, app σ wr' k = σ k) ∧ (∀ k ∈ wr.map (·.1), k ∉ wr'.map (·.1)) := by
        rcases hm with ⟨h1, h2, _⟩ | ⟨h1, h2, _⟩ | ⟨_, _, h1, h2⟩
        · have : wr = [] := by rw [h2] at hwr; simpa using hwr
          subst this
          exact ⟨fun _ _ => rfl, fun k hk => (by rw [h1] at hk; cases hk), fun k hk => (by cases hk)⟩
        · have : wr' = [] := by rw [h2] at hwr'; simpa using hwr'
          subst this
          exact ⟨fun k hk => (by rw [h1] at hk; cases hk), fun _ _ => rfl, fun k _ hk => (by cases hk)⟩
        · refine ⟨fun k hk => (app_other wr σ k fun h => ?_).symm, fun k hk => app_other wr' σ k fun h => ?_, fun k hk h => ?_⟩
          · rw [hwr] at h; exact (h1 k h).1 hk
          · rw [hwr'] at h; exact h2 k h hk
          · rw [hwr] at hk; rw [hwr'] at h; exact (h1 k hk).2 h
      refine ⟨_, ky sl σ _ agy fact.1, ?_⟩
      rw [app_comm wr wr' σ fact.2.2]
      exact kx _ _ _ agx fact.2.1
    · have hm' : m.rd = [] ∧ m.wr = [] := by
        rcases hm with ⟨h1, h2, _⟩ | ⟨_, _, h3⟩ | ⟨_, h2, _⟩
        · exact ⟨h1, h2⟩
        · rw [ni] at h3; cases h3
        · rw [ni] at h2; cases h2
      have : wr = [] := by rw [hm'.2] at hwr; simpa using hwr
      subst this
      exact ⟨_, ky sl agy, kx _ _ _ agx fun k hk => (by rw [hm'.1] at hk; cases hk)⟩
  · rcases ky with ⟨ni, wr', hwr', hσ2, hn2, ky⟩ | ⟨ni, ky⟩
    · subst hσ2
      subst hn2
      have hn' : n.rd = [] ∧ n.wr = [] := by
        rcases hm with ⟨_, _, h3⟩ | ⟨h1, h2, _⟩ | ⟨h1, _, _⟩
        · rw [mi] at h3; cases h3
        · exact ⟨h1, h2⟩
        · rw [mi] at h1; cases h1
      have : wr' = [] := by rw [hn'.2] at hwr'; simpa using hwr'
      subst this
      exact ⟨_, ky sl σ nx agy (fun k hk => (by rw [hn'.1] at hk; cases hk)), kx _ agx⟩
    · rcases hm with ⟨_, _, h3⟩ | ⟨_, _, h3⟩ | ⟨h1, _, _⟩
      · rw [mi] at h3; cases h3
      · rw [ni] at h3; cases h3
      · rw [mi] at h1; cases h1

/-- Steps one behind the other. -/
def Chain (E : Env) (kb : Nat) (ops : Array Oper) (K : St → Prop) : List (Nat × Oper × Mem) → St → Prop
  | [], st => K st
  | (i, o, m) :: r, st => ∃ st', Stp E kb ops i o st m st' ∧ Chain E kb ops K r st'
def Indep (ops : Array Oper) (p q : Nat × Oper × Mem) : Prop := p.2.1.apart ops q.2.1 = true ∧ Mem.apart p.2.2 q.2.2

theorem chain_first {K : St → Prop} {i : Nat} {o : Oper} {n : Mem} {post : List (Nat × Oper × Mem)} : ∀ (pre : List (Nat × Oper × Mem)) (st : St), (∀ p ∈ pre, Indep ops p (i, o, n)) → Chain E kb ops K (pre ++ (i, o, n) :: post) st → ∃ st', Stp E kb ops i o st n st' ∧ Chain E kb ops K (pre ++ post) st'
  | [], st, _, h => h
  | (j, x, m) :: pre, st, hp, h => by
    obtain ⟨st1, h1, h⟩ := h
    obtain ⟨st2, h2, h3⟩ := chain_first pre st1 (fun p hp' => hp p (List.mem_cons_of_mem _ hp')) h
    obtain ⟨ha, hm⟩ := hp _ (List.mem_cons_self ..)
    obtain ⟨st1', h4, h5⟩ := stp_swap h1 h2 ha hm
    exact ⟨st1', h4, st2, h5, h3⟩

/-- Each, and what comes before it in the text: in a sure order, or apart in memory. -/
def Ordered (ops : Array Oper) : List (Nat × Oper × Mem) → Prop
  | [] => True
  | p :: r => (∀ q ∈ r, Mem.apart p.2.2 q.2.2 ∨ before ops p.1 q.1 = true) ∧ Ordered ops r

theorem apart_free {m : Mem} (n : Mem) (h : m.rd = [] ∧ m.wr = [] ∧ m.imp = false) : Mem.apart m n := .inl h

/-- What is asked of a region that draws, as steps. -/
theorem adraw_chain {K : St → Prop} : ∀ (l : List Oper) (i : Nat) (acc : List (Nat × Mem)) (st : St), adraw E kb ops K l i acc st →
    ∃ r : List (Nat × Oper × Mem), r.map (·.1) = List.range' i l.length ∧ r.map (·.2.1) = l ∧ Chain E kb ops K r st ∧ Ordered ops r ∧ ∀ q ∈ r, ∀ p ∈ acc, Mem.apart p.2 q.2.2 ∨ before ops p.1 q.1 = true
  | [], i, acc, st, h => ⟨[], rfl, rfl, h, trivial, fun q hq => by cases hq⟩
  | o :: rest, i, acc, st, h => by
    have use : ∀ (m : Mem) (acc' : List (Nat × Mem)) (st' : St), Stp E kb ops i o st m st' → adraw E kb ops K rest (i + 1) acc' st' → (∀ p ∈ acc, Mem.apart p.2 m ∨ before ops p.1 i = true) →
        (∀ p ∈ acc, p ∈ acc') → ((i, m) ∈ acc' ∨ (m.rd = [] ∧ m.wr = [] ∧ m.imp = false)) → 
        ∃ r : List (Nat × Oper × Mem), r.map (·.1) = List.range' i (o :: rest).length ∧ r.map (·.2.1) = o :: rest ∧ Chain E kb ops K r st ∧ Ordered ops r ∧ ∀ q ∈ r, ∀ p ∈ acc, Mem.apart p.2 q.2.2 ∨ before ops p.1 q.1 = true := by
      intro m acc' st' hs h ha hsub hin
      obtain ⟨r, r1, r2, r3, r4, r5⟩ := adraw_chain rest (i + 1) acc' st' h
      refine ⟨(i, o, m) :: r, by simp [r1, List.range'_succ], by simp [r2], ⟨st', hs, r3⟩, ⟨fun q hq => ?_, r4⟩, fun q hq p hp => ?_⟩
      · rcases hin with hin | hin
        · exact r5 q hq _ hin
        · exact .inl (apart_free _ hin)
      · rcases List.mem_cons.1 hq with rfl | hq
        · exact ha p hp
        · exact r5 q hq p (hsub p hp)
    have skp : wantOf ops o st.sl = some false → adraw E kb ops K rest (i + 1) acc (askip o st) → ∃ r : List (Nat × Oper × Mem), r.map (·.1) = List.range' i (o :: rest).length ∧ r.map (·.2.1) = o :: rest ∧ Chain E kb ops K r st ∧ Ordered ops r ∧ ∀ q ∈ r, ∀ p ∈ acc, Mem.apart p.2 q.2.2 ∨ before ops p.1 q.1 = true := fun hw h =>
      use {} acc (askip o st) (.inl ⟨hw, rfl, rfl⟩) h (fun p hp => .inl (.inr (.inl ⟨rfl, rfl, rfl⟩))) (fun p hp => hp) (.inr ⟨rfl, rfl, rfl⟩)
    have go : wantOf ops o st.sl = some true → (match callee E st.sl o.op with
      | some (g, args) => (∃ v, Pure E g args v ∧ adraw E kb ops K rest (i + 1) acc ⟨putSl st.sl o.dst v, st.σ, st.nx⟩) ∨
          (∃ v σ' nx', Fn E g st.σ st.nx args (.ret v) σ' nx' ∧ (∀ p ∈ acc, before ops p.1 i = true) ∧ adraw E kb ops K rest (i + 1) ((i, { imp := true }) :: acc) ⟨putSl st.sl o.dst v, σ', nx'⟩)
      | none => match evalOp E (kb + i) st.sl st.σ o.op with
        | some (c, eff) => c ∧ (∀ p ∈ acc, Mem.apart p.2 { rd := eff.rd, wr := eff.wr.map (·.1) } ∨ before ops p.1 i = true) ∧
            adraw E kb ops K rest (i + 1) (accAdd i eff.rd (eff.wr.map (·.1)) acc) ⟨putSl st.sl o.dst eff.val, app st.σ eff.wr, st.nx⟩
        | none => False) → ∃ r : List (Nat × Oper × Mem), r.map (·.1) = List.range' i (o :: rest).length ∧ r.map (·.2.1) = o :: rest ∧ Chain E kb ops K r st ∧ Ordered ops r ∧ ∀ q ∈ r, ∀ p ∈ acc, Mem.apart p.2 q.2.2 ∨ before ops p.1 q.1 = true := by
      intro hw h
      cases hc : callee E st.sl o.op with
      | some ga =>
        obtain ⟨g, args⟩ := ga
        rw [hc] at h
        rcases h with ⟨v, h1, h2⟩ | ⟨v, σ', nx', h1, h2, h3⟩
        · exact use {} acc _ (.inr ⟨hw, by unfold Run; rw [hc]; exact .inl ⟨v, h1, rfl, rfl⟩⟩) h2 (fun p hp => .inl (.inr (.inl ⟨rfl, rfl, rfl⟩))) (fun p hp => hp) (.inr ⟨rfl, rfl, rfl⟩)
        · exact use { imp := true } _ _ (.inr ⟨hw, by unfold Run; rw [hc]; exact .inr ⟨v, σ', nx', h1, rfl, rfl⟩⟩) h3 (fun p hp => .inr (h2 p hp)) (fun p hp => List.mem_cons_of_mem _ hp) (.inl (List.mem_cons_self ..))
      | none =>
        rw [hc] at h
        simp only at h
        cases he : evalOp E (kb + i) st.sl st.σ o.op with
        | none => rw [he] at h; exact h.elim
        | some ce =>
          obtain ⟨c, eff⟩ := ce
          rw [he] at h
          obtain ⟨h1, h2, h3⟩ := h
          refine use { rd := eff.rd, wr := eff.wr.map (·.1) } _ _ (.inr ⟨hw, by unfold Run; rw [hc]; exact ⟨c, eff, he, h1, rfl, rfl⟩⟩) h3 h2 (fun p hp => ?_) ?_
          · unfold accAdd
            split
            · exact hp
            · exact List.mem_cons_of_mem _ hp
          · unfold accAdd
            split
            · rename_i hh; exact .inr ⟨hh.1, hh.2, rfl⟩
            · exact .inl (List.mem_cons_self ..)
    simp only [adraw] at h
    cases hg : o.guard with
    | none =>
      rw [hg] at h
      exact go (by unfold wantOf; rw [hg]) h
    | some jw =>
      obtain ⟨j, want⟩ := jw
      rw [hg] at h
      simp only at h
      split at h
      · rename_i b hb
        have hw : wantOf ops o st.sl = some (b == want) := by unfold wantOf; rw [hg]; simp only [hb]
        by_cases e : b = want
        · exact go (by rw [hw, e]; simp) (h.1 e)
        · exact skp (by rw [hw]; cases b <;> cases want <;> simp_all) (h.2 (by cases b <;> cases want <;> simp_all))
      · rename_i hb
        exact skp (by unfold wantOf; rw [hg]; simp only [hb]) h
      · exact h.elim
end
end Go.Proofs.YtdajoilaakiinaaGreatDoor.Awp

/- A region that draws its order: the operations do the same in every order that is allowed, if what may be swapped lies apart. -/
namespace Go.Proofs.YtdajoilaakiinaaGreatDoor.Awp
open Go

theorem befMask_bit {acc : List Nat} {o : Oper} {j : Nat} (h : (befMask acc o).testBit j = true) : ∃ e ∈ o.after, Region.binds .any e = true ∧ (e.on = j ∨ (acc.getD e.on 0).testBit j = true) := by
  have key : ∀ (l : List Edge) (s : Nat), (l.foldl (fun s e => if Region.binds .any e then s ||| 2 ^ e.on ||| acc.getD e.on 0 else s) s).testBit j = true → s.testBit j = true ∨ ∃ e ∈ l, Region.binds .any e = true ∧ (e.on = j ∨ (acc.getD e.on 0).testBit j = true) := by
    intro l
    induction l with
    | nil => intro s h; exact .inl h
    | cons e l ih =>
      intro s h
      rw [List.foldl_cons] at h
      rcases ih _ h with h | ⟨e', h1, h2⟩
      · split at h
        · rename_i hb
          rw [Nat.testBit_or, Nat.testBit_or, Bool.or_eq_true, Bool.or_eq_true] at h
          rcases h with (h | h) | h
          · exact .inl h
          · rw [Nat.testBit_two_pow, decide_eq_true_eq] at h
            exact .inr ⟨e, List.mem_cons_self .., hb, .inl h⟩
          · exact .inr ⟨e, List.mem_cons_self .., hb, .inr h⟩
        · exact .inl h
      · exact .inr ⟨e', List.mem_cons_of_mem _ h1, h2⟩
  rcases key o.after.toList 0 h with h | ⟨e, h1, h2⟩
  · simp at h
  · exact ⟨e, Array.mem_toList_iff.1 h1, h2⟩
theorem befs_pre : ∀ (os : List Oper) (acc : List Nat) (k : Nat), k < acc.length → (befs os acc).getD k 0 = acc.getD k 0
  | [], _, _, _ => rfl
  | o :: os, acc, k, h => by
    rw [befs, befs_pre os _ k (by simp; omega)]
    simp only [List.getD_eq_getElem?_getD]
    rw [List.getElem?_append_left h]
theorem befs_mask : ∀ (os : List Oper) (acc : List Nat) (i : Nat) (o : Oper), os[i]? = some o → ∃ acc' : List Nat, acc'.length = acc.length + i ∧ (∀ k, k < acc'.length → acc'.getD k 0 = (befs os acc).getD k 0) ∧ (befs os acc).getD (acc.length + i) 0 = befMask acc' o
  | [], _, _, _, h => by simp at h
  | x :: os, acc, 0, o, h => by
    simp only [List.getElem?_cons_zero, Option.some.injEq] at h
    subst h
    refine ⟨acc, rfl, fun k hk => ?_, ?_⟩
    · rw [befs, befs_pre os _ k (by simp; omega)]
      simp only [List.getD_eq_getElem?_getD]
      rw [List.getElem?_append_left hk]
    · rw [befs, befs_pre os _ _ (by simp)]
      simp
  | x :: os, acc, i + 1, o, h => by
    obtain ⟨acc', h1, h2, h3⟩ := befs_mask os (acc ++ [befMask acc x]) i o (by simpa using h)
    refine ⟨acc', by simp at h1; omega, fun k hk => by rw [befs]; exact h2 k hk, ?_⟩
    rw [befs, ← h3]
    congr 1
    simp
    omega

section
variable {E : Env} {N : Nat} {kb : Nat} {ops : Array Oper}

/-- What may be found out about a region without running it: edges point back, and what is in no sure order does not meddle with one another's slots. -/
def pairsOk (ops : Array Oper) (masks : List Nat) : List Oper → Nat → List Oper → Bool
  | _, _, [] => true
  | pre, i, y :: rest => ((List.range i).all fun j => (masks.getD i 0).testBit j || match pre[j]? with
      | some x => x.apart ops y
      | none => false) && (y.after.toList.all fun e => !Region.binds .any e || decide (e.on < i)) && pairsOk ops masks pre (i + 1) rest
def drawOk (ops : Array Oper) : Bool := pairsOk ops (befs ops.toList []) ops.toList 0 ops.toList

theorem pairsOk_spec {masks : List Nat} {all : List Oper} : ∀ (l : List Oper) (i : Nat), pairsOk ops masks all i l = true → ∀ (k : Nat) (y : Oper), l[k]? = some y →
    (∀ e ∈ y.after, Region.binds .any e = true → e.on < i + k) ∧ ∀ j x, j < i + k → all[j]? = some x → (masks.getD (i + k) 0).testBit j = true ∨ x.apart ops y = true
  | [], _, _, _, _, hk => by simp at hk
  | y :: l, i, h, 0, y', hk => by
    simp only [List.getElem?_cons_zero, Option.some.injEq] at hk
    subst hk
    simp only [pairsOk, Bool.and_eq_true, List.all_eq_true] at h
    obtain ⟨⟨h1, h2⟩, _⟩ := h
    refine ⟨fun e he hb => ?_, fun j x hj hx => ?_⟩
    · have := h2 e (Array.mem_toList_iff.2 he)
      rw [hb] at this
      simpa using this
    · have := h1 j (List.mem_range.2 (by simpa using hj))
      rw [hx] at this
      simpa using this
  | y :: l, i, h, k + 1, y', hk => by
    simp only [pairsOk, Bool.and_eq_true] at h
    have := pairsOk_spec l (i + 1) h.2 k y' (by simpa using hk)
    have e : i + (k + 1) = i + 1 + k := by omega
    rw [e]
    exact this
theorem drawOk_spec (h : drawOk ops = true) {i : Nat} {y : Oper} (hi : ops[i]? = some y) : (∀ e ∈ y.after, Region.binds .any e = true → e.on < i) ∧ ∀ j x, j < i → ops[j]? = some x → before ops j i = true ∨ x.apart ops y = true := by
  have := pairsOk_spec ops.toList 0 h i y (by rw [Array.getElem?_toList]; exact hi)
  rw [Nat.zero_add] at this
  exact ⟨this.1, fun j x hj hx => this.2 j x hj (by rw [Array.getElem?_toList]; exact hx)⟩

/-- What is listed is listed with all that must come before it. -/
def Closed (ops : Array Oper) (listed : Array Bool) : Prop := ∀ i o, ops[i]? = some o → listed.getD i false = true → ∀ e ∈ o.after, Region.binds .any e = true → listed.getD e.on false = true
theorem before_listed {listed : Array Bool} (hc : Closed ops listed) (hb : ∀ i o, ops[i]? = some o → ∀ e ∈ o.after, Region.binds .any e = true → e.on < i) : ∀ (i : Nat) (o : Oper), ops[i]? = some o → (∀ e ∈ o.after, Region.binds .any e = true → listed.getD e.on false = true) → ∀ j, before ops j i = true → listed.getD j false = true := by
  intro i
  induction i using Nat.strongRecOn with
  | _ i ih =>
    intro o ho hl j hj
    obtain ⟨acc', h1, h2, h3⟩ := befs_mask ops.toList [] i o (by rw [Array.getElem?_toList]; exact ho)
    unfold before at hj
    simp only [List.length_nil, Nat.zero_add] at h1 h3
    rw [h3] at hj
    obtain ⟨e, he, hbe, hor⟩ := befMask_bit hj
    rcases hor with rfl | hor
    · exact hl e he hbe
    · have hlt := hb i o ho e he hbe
      rw [h2 _ (by rw [h1]; exact hlt)] at hor
      have hi : i < ops.size := (Array.getElem?_eq_some_iff.1 ho).1
      have hoe := Array.getElem?_eq_getElem (xs := ops) (i := e.on) (by omega)
      exact ih e.on hlt _ hoe (hc e.on _ hoe (hl e he hbe)) j hor

theorem ordered_mid {x : Nat × Oper × Mem} {post : List (Nat × Oper × Mem)} : ∀ {pre : List (Nat × Oper × Mem)}, Ordered ops (pre ++ x :: post) → Ordered ops (pre ++ post) ∧ ∀ p ∈ pre, Mem.apart p.2.2 x.2.2 ∨ before ops p.1 x.1 = true
  | [], h => ⟨h.2, fun p hp => by cases hp⟩
  | q :: pre, h => by
    obtain ⟨h1, h2⟩ := ordered_mid (pre := pre) h.2
    refine ⟨⟨fun p hp => h.1 p (by rcases List.mem_append.1 hp with hp | hp <;> simp [hp]), h1⟩, fun p hp => ?_⟩
    rcases List.mem_cons.1 hp with rfl | hp
    · exact h.1 x (by simp)
    · exact h2 p hp

/-- One step, on the machine. -/
theorem stp_wp {i : Nat} {o : Oper} {st st' : St} {m : Mem} {μ : Mu} {a : Act} {w : World} (hE : EnvOk E) (hs : Stp E kb ops i o st m st') (R : Rel E N st μ a w) (hk : μ (kb + i) = none) (hkl : kb + i < st.nx) (hd : okDst N o = true) (hi : ops[i]? = some o)
    {K : Act → World → Prop} {Q : Exit → Act → World → Prop} (hK : ∀ μ' a' w', Rel E N st' μ' a' w' → Moves st.σ μ w st'.σ μ' w' → st.nx ≤ st'.nx → (∀ k, k < st.nx → k ≠ kb + i → μ' k = μ k) → K a' w') : wpOp E.P ops Q i K a w := by
  unfold wpOp
  rw [hi]
  simp only
  have hw : ∀ b, wantOf ops o st.sl = some b → Region.wanted o (yielded ops a.tmps) = b := by
    intro b h
    unfold wantOf at h
    cases hg : o.guard with
    | none => rw [hg] at h; cases h; unfold Region.wanted; rw [hg]
    | some jw =>
      obtain ⟨j, want⟩ := jw
      rw [hg] at h
      simp only at h
      obtain ⟨g1, g2⟩ := guard_wanted R (ops := ops) hg
      split at h
      · rename_i c hc; cases h; exact g1 c hc
      · rename_i hc; cases h; exact g2 hc
      · cases h
  rcases hs with ⟨hn, rfl, rfl⟩ | ⟨hy, hr⟩
  · rw [if_neg (by rw [hw _ hn]; simp)]
    exact hK μ _ w (rel_skip R hd) (.refl _ _ _) (Nat.le_refl _) fun _ _ _ => rfl
  · rw [if_pos (hw _ hy)]
    refine .inl ?_
    unfold Run at hr
    split at hr
    · rename_i g args hc
      rcases hr with ⟨v, h1, rfl, rfl⟩ | ⟨v, σ', nx', h1, rfl, rfl⟩
      · exact rel_call R hd hc (h1 st.σ st.nx) (fun p hp v' μ' w' r g => by cases hp; exact hK μ' _ w' r g.moves g.le fun k hk' _ => g.old k hk') (fun p hp => by cases hp)
      · exact rel_call R hd hc h1 (fun p hp v' μ' w' r g => by cases hp; exact hK μ' _ w' r g.moves g.le fun k hk' _ => g.old k hk') (fun p hp => by cases hp)
    · rename_i hc
      obtain ⟨c, eff, he, hcc, rfl, rfl⟩ := hr
      obtain ⟨v, w', μ', hr, hR, hm, ho⟩ := rel_eval hE R hk hkl hd he hcc
      have hfin := hK μ' _ w' hR hm (Nat.le_refl _) fun k _ hk' => ho k hk'
      unfold Oper.wp
      rcases hr with hr | ⟨hr, rfl⟩
      · rw [hr]; exact hfin
      · rw [hr]; exact hfin

theorem getD_false_of {listed : Array Bool} {i : Nat} (h : listed.getD i true = true) (hi : i < listed.size) : listed.getD i false = true := by
  rw [Array.getD_eq_getD_getElem?, Array.getElem?_eq_getElem hi, Option.getD_some] at *
  exact h
theorem getD_true_of {listed : Array Bool} {i : Nat} (h : listed.getD i false = true) : listed.getD i true = true := by
  by_cases hi : i < listed.size
  · simp only [Array.getD_eq_getD_getElem?, Array.getElem?_eq_getElem hi, Option.getD_some] at *
    exact h
  · simp [Array.getElem?_eq_none (Nat.le_of_not_lt hi)]

theorem chain_any (hE : EnvOk E) (hok : ∀ o ∈ ops.toList, okDst N o = true) (hdr : drawOk ops = true) {K : St → Prop} {Q : Exit → Act → World → Prop} :
    ∀ (fuel : Nat) (listed : Array Bool) (r : List (Nat × Oper × Mem)) (st : St) (μ : Mu) (a : Act) (w : World), listed.size = ops.size → Closed ops listed →
      (∀ j, j ∈ r.map (·.1) ↔ j < ops.size ∧ listed.getD j true = false) → (r.map (·.1)).Pairwise (· < ·) → (∀ p ∈ r, ops[p.1]? = some p.2.1) → Ordered ops r → Chain E kb ops K r st → Rel E N st μ a w →
      (∀ j, j < ops.size → listed.getD j true = false → μ (kb + j) = none) → kb + ops.size ≤ st.nx → r.length ≤ fuel →
      (∀ st' μ' a' w', K st' → Rel E N st' μ' a' w' → Moves st.σ μ w st'.σ μ' w' → st.nx ≤ st'.nx → (∀ k, k < kb → μ' k = μ k) → Q .normal a' w') → wpAny E.P .any ops Q fuel listed a w := by
  have hback : ∀ i o, ops[i]? = some o → ∀ e ∈ o.after, Region.binds .any e = true → e.on < i := fun i o ho => (drawOk_spec hdr ho).1
  have empty : ∀ (listed : Array Bool) (r : List (Nat × Oper × Mem)), listed.size = ops.size → (∀ j, j ∈ r.map (·.1) ↔ j < ops.size ∧ listed.getD j true = false) → (r.map (·.1)).Pairwise (· < ·) → (∀ p ∈ r, ops[p.1]? = some p.2.1) → Region.ready .any ops listed = [] → r = [] := by
    intro listed r hsz hmem hsort hat hr
    cases r with
    | nil => rfl
    | cons p r =>
      exfalso
      have hp := (hmem p.1).1 (by simp)
      have hat' := hat p (List.mem_cons_self ..)
      have : p.1 ∈ Region.ready .any ops listed := mem_ready.2 ⟨hp.2, p.2.1, hat', fun e he hb => by
        have hlt := hback _ _ hat' e he hb
        refine getD_false_of ?_ (by omega)
        cases hx : listed.getD e.on true with
        | true => rfl
        | false =>
          have := (hmem e.on).2 ⟨by omega, hx⟩
          rw [List.map_cons, List.pairwise_cons] at hsort
          rw [List.map_cons, List.mem_cons] at this
          rcases this with h | h
          · omega
          · have := hsort.1 _ h; omega⟩
      rw [hr] at this
      cases this
  intro fuel
  induction fuel with
  | zero =>
    intro listed r st μ a w hsz hcl hmem hsort hat hord hch R hfr hn hlen hK
    have hr : r = [] := List.eq_nil_of_length_eq_zero (by omega)
    subst hr
    refine ⟨?_, hK st μ a w hch R (.refl _ _ _) (Nat.le_refl _) fun _ _ => rfl⟩
    cases h : Region.ready .any ops listed with
    | nil => rfl
    | cons i l =>
      have hi : i ∈ Region.ready .any ops listed := by rw [h]; simp
      obtain ⟨h1, o, h2, _⟩ := mem_ready.1 hi
      have := (hmem i).2 ⟨(Array.getElem?_eq_some_iff.1 h2).1, h1⟩
      simp at this
  | succ fuel ih =>
    intro listed r st μ a w hsz hcl hmem hsort hat hord hch R hfr hn hlen hK
    refine ⟨fun h => ?_, fun i hi => ?_⟩
    · have := empty listed r hsz hmem hsort hat h
      subst this
      exact hK st μ a w hch R (.refl _ _ _) (Nat.le_refl _) fun _ _ => rfl
    · obtain ⟨h1, o, h2, h3⟩ := mem_ready.1 hi
      have hilt : i < ops.size := (Array.getElem?_eq_some_iff.1 h2).1
      have hin := (hmem i).2 ⟨hilt, h1⟩
      obtain ⟨⟨i', o', n⟩, hx, rfl⟩ := List.mem_map.1 hin
      have ho' := hat _ hx
      simp only at ho' h1 h2 hilt hi
      rw [h2] at ho'
      cases ho'
      obtain ⟨pre, post, rfl⟩ := List.append_of_mem hx
      have hsort' := hsort
      rw [List.map_append, List.map_cons, List.pairwise_append, List.pairwise_cons] at hsort'
      obtain ⟨s1, ⟨s2, s3⟩, s4⟩ := hsort'
      have hlt : ∀ p ∈ pre, p.1 < i' := fun p hp => s4 _ (List.mem_map.2 ⟨p, hp, rfl⟩) _ (List.mem_cons_self ..)
      have hgt : ∀ p ∈ post, i' < p.1 := fun p hp => s2 _ (List.mem_map.2 ⟨p, hp, rfl⟩)
      obtain ⟨ho1, ho2⟩ := ordered_mid hord
      have hnb : ∀ p ∈ pre, before ops p.1 i' = true → False := by
        intro p hp hb
        have hl := before_listed hcl hback i' o h2 h3 p.1 hb
        have := ((hmem p.1).1 (List.mem_map.2 ⟨p, by simp [hp], rfl⟩)).2
        rw [getD_true_of hl] at this
        cases this
      obtain ⟨st', hs, hch'⟩ := chain_first pre st (fun p hp => by
        refine ⟨?_, (ho2 p hp).resolve_right (hnb p hp)⟩
        exact ((drawOk_spec hdr h2).2 p.1 p.2.1 (hlt p hp) (hat p (by simp [hp]))).resolve_left (hnb p hp)) hch
      refine stp_wp hE hs R (hfr i' hilt h1) (by omega) (hok o (by rw [← Array.getElem?_toList] at h2; exact List.mem_of_getElem? h2)) h2 fun μ' a' w' R' m hle ho => ?_
      have hgd : ∀ j, j ≠ i' → (listed.setIfInBounds i' true).getD j true = listed.getD j true := fun j hj => getD_set_ne true (Ne.symm hj)
      have hgi : (listed.setIfInBounds i' true).getD i' true = true := by simp [hsz, hilt]
      refine ih (listed.setIfInBounds i' true) (pre ++ post) st' μ' a' w' (by simpa using hsz) ?_ (fun j => ?_) ?_ (fun p hp => hat p (by simp only [List.mem_append, List.mem_cons] at hp ⊢; rcases hp with hp | hp <;> simp [hp])) ho1 hch' R' (fun j hj hl => ?_) (by omega) (by simp at hlen ⊢; omega) ?_
      · intro j oj hoj hl e he hb
        by_cases hj : j = i'
        · subst hj
          rw [h2] at hoj
          cases hoj
          exact getD_set_true (h3 e he hb)
        · rw [getD_set_ne false (Ne.symm hj)] at hl
          exact getD_set_true (hcl j oj hoj hl e he hb)
      · by_cases hj : j = i'
        · subst hj
          rw [hgi]
          refine ⟨fun h => ?_, fun h => by cases h.2⟩
          rw [List.map_append, List.mem_append] at h
          rcases h with h | h
          · obtain ⟨p, hp, e⟩ := List.mem_map.1 h; have := hlt p hp; omega
          · obtain ⟨p, hp, e⟩ := List.mem_map.1 h; have := hgt p hp; omega
        · rw [hgd j hj, ← hmem j]
          simp only [List.map_append, List.map_cons, List.mem_append, List.mem_cons]
          refine ⟨fun h => ?_, fun h => ?_⟩
          · rcases h with h | h
            · exact .inl h
            · exact .inr (.inr h)
          · rcases h with h | h | h
            · exact .inl h
            · exact (hj h).elim
            · exact .inr h
      · rw [List.map_append, List.pairwise_append]
        exact ⟨s1, s3, fun x hx y hy => s4 x hx y (List.mem_cons_of_mem _ hy)⟩
      · have hne : j ≠ i' := fun e => by subst e; rw [hgi] at hl; cases hl
        rw [hgd j hne] at hl
        rw [ho _ (by omega) (by omega)]
        exact hfr j hj hl
      · intro st2 μ2 a2 w2 k2 R2 m2 hle2 ho2
        exact hK st2 μ2 a2 w2 k2 R2 (m.trans m2) (by omega) fun k hk => (ho2 k hk).trans (ho k (by omega) (by omega))

theorem draw_sound (hE : EnvOk E) {id : Nat} {ops : Array Oper} (hok : ∀ o ∈ ops.toList, okDst N o = true) (hdr : drawOk ops = true) {st : St} {μ : Mu} {a : Act} {w : World} {Q : AExit → St → Prop} (R : Rel E N st μ a w) (h : awp E (.region id ops true) Q st) :
    (Code.region id ops true).wp E.P (PostOf E N st μ w Q) a w := by
  refine wp_region_any hE.mixed ?_
  obtain ⟨r, r1, r2, r3, r4, _⟩ := adraw_chain ops.toList 0 [] ⟨st.sl, st.σ, st.nx + ops.size⟩ h
  rw [Array.length_toList] at r1
  have m0 : Moves st.σ μ w st.σ μ { w with drawn := w.drawn + 1 } := ⟨fun _ _ h => h, Nat.le_refl _, fun _ _ _ => rfl, fun _ _ h => h, rfl, rfl, rfl⟩
  have R' : Rel E N ⟨st.sl, st.σ, st.nx + ops.size⟩ μ a { w with drawn := w.drawn + 1 } := by
    have m1 : Moves st.σ μ w st.σ μ w.drew := moves_drew _ _ _
    exact ⟨sim_drew R.sim, fun t x hx => (R.slots t x hx).moves m1, R.big, R.size, R.defers, fun k hk => R.fresh k (by simp only at hk; omega)⟩
  refine chain_any hE hok hdr ops.size (Array.replicate ops.size false) r ⟨st.sl, st.σ, st.nx + ops.size⟩ μ a _ (by simp) ?_ ?_ ?_ ?_ r4 r3 R' (fun j hj _ => R.fresh _ (by omega)) (Nat.le_refl _) ?_ ?_
  · intro i o ho hl
    rw [Array.getD_eq_getD_getElem?] at hl
    simp only [Array.getElem?_replicate] at hl
    split at hl <;> simp at hl
  · intro j
    rw [r1, ← List.range_eq_range', List.mem_range]
    refine ⟨fun hj => ⟨hj, by simp [hj]⟩, fun h => h.1⟩
  · rw [r1, ← List.range_eq_range']
    exact List.pairwise_lt_range
  · intro p hp
    obtain ⟨k, hk, he⟩ := List.mem_iff_getElem.1 hp
    have e1 : (r.map (·.1))[k]? = some p.1 := by rw [List.getElem?_map, List.getElem?_eq_getElem hk, he]; rfl
    have e2 : (r.map (·.2.1))[k]? = some p.2.1 := by rw [List.getElem?_map, List.getElem?_eq_getElem hk, he]; rfl
    rw [r1, ← List.range_eq_range'] at e1
    rw [r2, Array.getElem?_toList] at e2
    have := List.getElem?_eq_some_iff.1 e1
    obtain ⟨hk', e1⟩ := this
    rw [List.getElem_range] at e1
    rw [← e1]
    exact e2
  · have : r.length = ops.size := by
      have := congrArg List.length r1
      simpa using this
    omega
  · intro st' μ' a' w' k R2 m hle ho
    exact ⟨st', μ', k, R2, m0.trans m, by simp only at hle; omega, ho⟩
end
end Go.Proofs.YtdajoilaakiinaaGreatDoor.Awp

/- A body of code that does to the abstract machine's state what is asked does it to the machine: all forms of code; and what a function's contract is made of. -/
namespace Go.Proofs.YtdajoilaakiinaaGreatDoor.Awp
open Go

def okC (N : Nat) : Code → Bool
  | .region _ ops false => ops.toList.all (okDst N)
  | .region _ ops true => ops.toList.all (okDst N) && drawOk ops
  | .seq a b => okC N a && okC N b
  | .cond _ a b => okC N a && okC N b
  | .block _ c => okC N c
  | .loop c => okC N c
  | .skip => true
  | .exit _ => true
  | .ret => true
  | _ => false

section
variable {E : Env} {N : Nat}

theorem region_sound (hE : EnvOk E) {id : Nat} {ops : Array Oper} (hok : okC N (.region id ops false) = true) {st : St} {μ : Mu} {a : Act} {w : World} {Q : AExit → St → Prop} (R : Rel E N st μ a w) (h : awp E (.region id ops false) Q st) :
    (Code.region id ops false).wp E.P (PostOf E N st μ w Q) a w := by
  refine wp_region ?_
  have hokl : ∀ o ∈ ops.toList, okDst N o = true := List.all_eq_true.1 hok
  have R' : Rel E N ⟨st.sl, st.σ, st.nx + ops.size⟩ μ a w := ⟨R.sim, R.slots, R.big, R.size, R.defers, fun k hk => R.fresh k (by simp only at hk; omega)⟩
  have := aops_sound (Q' := PostOf E N st μ w Q) hE (ops := ops) (kb := st.nx) hokl ops.toList [] ⟨st.sl, st.σ, st.nx + ops.size⟩ μ a w rfl R' (fun j _ _ => R.fresh _ (by omega)) (Nat.le_refl _) h
    (fun st' μ' a' w' q R2 m hle ho => ⟨st', μ', q, R2, m, by simp only at hle; omega, ho⟩)
    (fun p st' μ' a' w' v q hr R2 m hle ho => ⟨st', μ', p, v, q, rfl, hr, R2, m, by simp only at hle; omega, ho⟩)
  rw [List.range_eq_range', ← Array.length_toList]
  exact this

theorem awp_sound (hE : EnvOk E) : ∀ (c : Code), okC N c = true → ∀ (Q : AExit → St → Prop) (st : St) (μ : Mu) (a : Act) (w : World), Rel E N st μ a w → awp E c Q st → c.wp E.P (PostOf E N st μ w Q) a w
  | .skip, _, Q, st, μ, a, w, R, h => wp_skip ⟨st, μ, h, R, .refl _ _ _⟩
  | .region id ops false, hok, Q, st, μ, a, w, R, h => region_sound hE hok R h
  | .region id ops true, hok, Q, st, μ, a, w, R, h => by
    simp only [okC, Bool.and_eq_true] at hok
    exact draw_sound hE (List.all_eq_true.1 hok.1) hok.2 R h
  | .seq x y, hok, Q, st, μ, a, w, R, h => by
    simp only [okC, Bool.and_eq_true] at hok
    refine wp_seq (wp_mono (awp_sound hE x hok.1 _ st μ a w R h) fun e a' w' hp => ?_)
    cases e with
    | normal =>
      obtain ⟨st', μ', q, R', g⟩ := hp
      exact wp_mono (awp_sound hE y hok.2 Q st' μ' a' w' R' q) (PostOf.from_ g)
    | exit id => exact hp
    | ret => exact hp
    | panic ch => exact hp
    | goto l => exact hp
    | outgrown => exact hp
  | .cond c x y, hok, Q, st, μ, a, w, R, h => by
    simp only [okC, Bool.and_eq_true] at hok
    have hc := rep_opd R.sim R.slots (fun t ht => R.big t (by rw [R.size] at ht; exact ht)) c
    simp only [awp] at h
    split at h
    · rename_i b hb
      rw [hb] at hc
      generalize hv : a.eval c = v at hc
      cases hc
      cases b with
      | true => exact wp_cond_true hv (awp_sound hE x hok.1 Q st μ a w R (h.1 rfl))
      | false => exact wp_cond_false hv (awp_sound hE y hok.2 Q st μ a w R (h.2 rfl))
    · exact h.elim
  | .block id c, hok, Q, st, μ, a, w, R, h => by
    refine wp_block (wp_mono (awp_sound hE c hok _ st μ a w R h) fun e a' w' hp => ?_)
    cases e with
    | normal => exact hp
    | exit j =>
      simp only [Exit.inBlock]
      obtain ⟨st', μ', q, R', g⟩ := hp
      simp only at q
      split
      · rename_i hj; rw [if_pos hj] at q; exact ⟨st', μ', q, R', g⟩
      · rename_i hj; rw [if_neg hj] at q; exact ⟨st', μ', q, R', g⟩
    | ret => exact hp
    | panic ch => exact hp
    | goto l => exact hp
    | outgrown => exact hp
  | .loop c, hok, Q, st, μ, a, w, R, h => by
    obtain ⟨n, h⟩ := h
    refine wp_loop_rounds n ?_
    have key : ∀ (n : Nat) (st1 : St) (μ1 : Mu) (a1 : Act) (w1 : World), Rel E N st1 μ1 a1 w1 → Goes st μ w st1 μ1 w1 → aloop (awp E c) Q n st1 → Code.rounds E.P c (PostOf E N st μ w Q) n a1 w1 := by
      intro n
      induction n with
      | zero => intro st1 μ1 a1 w1 _ _ h; exact h.elim
      | succ n ih =>
        intro st1 μ1 a1 w1 R1 g1 h
        simp only [Code.rounds]
        refine wp_mono (awp_sound hE c hok _ st1 μ1 a1 w1 R1 h) fun e a' w' hp => ?_
        cases e with
        | normal =>
          obtain ⟨st', μ', q, R', g⟩ := hp
          exact ih st' μ' a' w' R' (g1.trans g) q
        | exit id => exact PostOf.from_ (e := .exit id) g1 a' w' hp
        | ret => exact PostOf.from_ (e := .ret) g1 a' w' hp
        | panic ch => exact PostOf.from_ (e := .panic ch) g1 a' w' hp
        | goto l => exact hp
        | outgrown => exact hp
    exact key n st μ a w R (.refl _ _ _) h
  | .exit id, _, Q, st, μ, a, w, R, h => wp_exit ⟨st, μ, h, R, .refl _ _ _⟩
  | .ret, _, Q, st, μ, a, w, R, h => wp_ret ⟨st, μ, h, R, .refl _ _ _⟩
  | .rangeFunc .., _, _, _, _, _, _, _, h => h.elim
  | .scope .., _, _, _, _, _, _, _, h => h.elim
  | .label .., _, _, _, _, _, _, _, h => h.elim
  | .goto .., _, _, _, _, _, _, _, h => h.elim
  | .refuse .., _, _, _, _, _, _, _, h => h.elim

end
end Go.Proofs.YtdajoilaakiinaaGreatDoor.Awp

/- What a function's contract is made of: the state in which it begins, what it hands back, what is dropped. -/
namespace Go.Proofs.YtdajoilaakiinaaGreatDoor.Awp
open Go

/-- All objects that a value leads to have keys below n. -/
inductive Lt (n : Nat) : PV → Prop
  | int (k : IntKind) (m : Int) : Lt n (.int k m)
  | bool (b : Bool) : Lt n (.bool b)
  | str (s : ByteArray) : Lt n (.str s)
  | nil : Lt n .nil
  | empty : Lt n .empty
  | list (es : List (List PV)) (h : ∀ cs ∈ es, ∀ c ∈ cs, Lt n c) : Lt n (.list es)
  | row (k off len : Nat) (h : k < n) : Lt n (.row k off len)
  | agg (cs : List PV) (h : ∀ c ∈ cs, Lt n c) : Lt n (.agg cs)
  | tup (cs : List PV) (h : ∀ c ∈ cs, Lt n c) : Lt n (.tup cs)
  | ptr (k i off : Nat) (h : k < n) : Lt n (.ptr k i off)
  | cells (cs : List PV) (h : ∀ c ∈ cs, Lt n c) : Lt n (.cells cs)
  | nilp : Lt n .nilp
  | fn (f : FuncId) (a b : List PV) (h : ∀ c ∈ a, Lt n c) (h' : ∀ c ∈ b, Lt n c) : Lt n (.fn f a b)
  | nilfn : Lt n .nilfn
  | map (k : Nat) (h : k < n) : Lt n (.map k)
  | imap (es : List (PV × PV)) (h : ∀ p ∈ es, Lt n p.1) (h' : ∀ p ∈ es, Lt n p.2) : Lt n (.imap es)
  | nilmap : Lt n .nilmap
  | iface (t : TypeId) (v : PV) (h : Lt n v) : Lt n (.iface t v)
  | nili : Lt n .nili
  | junk : Lt n .junk

theorem lt_int {n : Nat} {k : IntKind} {m : Int} : Lt n (.int k m) ↔ True := ⟨fun _ => trivial, fun _ => .int _ _⟩
theorem lt_bool {n : Nat} {b : Bool} : Lt n (.bool b) ↔ True := ⟨fun _ => trivial, fun _ => .bool _⟩
theorem lt_str {n : Nat} {s : ByteArray} : Lt n (.str s) ↔ True := ⟨fun _ => trivial, fun _ => .str _⟩
theorem lt_nil {n : Nat} : Lt n .nil ↔ True := ⟨fun _ => trivial, fun _ => .nil⟩
theorem lt_empty {n : Nat} : Lt n .empty ↔ True := ⟨fun _ => trivial, fun _ => .empty⟩
theorem lt_list {n : Nat} {es : List (List PV)} : Lt n (.list es) ↔ ∀ cs ∈ es, ∀ c ∈ cs, Lt n c := ⟨fun h => by cases h; assumption, .list es⟩
theorem lt_row {n k off len : Nat} : Lt n (.row k off len) ↔ k < n := ⟨fun h => by cases h; assumption, .row k off len⟩
theorem lt_agg {n : Nat} {cs : List PV} : Lt n (.agg cs) ↔ ∀ c ∈ cs, Lt n c := ⟨fun h => by cases h; assumption, .agg cs⟩
theorem lt_tup {n : Nat} {cs : List PV} : Lt n (.tup cs) ↔ ∀ c ∈ cs, Lt n c := ⟨fun h => by cases h; assumption, .tup cs⟩
theorem lt_ptr {n k i off : Nat} : Lt n (.ptr k i off) ↔ k < n := ⟨fun h => by cases h; assumption, .ptr k i off⟩
theorem lt_cells {n : Nat} {cs : List PV} : Lt n (.cells cs) ↔ ∀ c ∈ cs, Lt n c := ⟨fun h => by cases h; assumption, .cells cs⟩
theorem lt_fn {n : Nat} {f : FuncId} {a b : List PV} : Lt n (.fn f a b) ↔ (∀ c ∈ a, Lt n c) ∧ ∀ c ∈ b, Lt n c := ⟨fun h => by cases h; exact ⟨by assumption, by assumption⟩, fun h => .fn f a b h.1 h.2⟩
theorem lt_map {n k : Nat} : Lt n (.map k) ↔ k < n := ⟨fun h => by cases h; assumption, .map k⟩
theorem lt_imap {n : Nat} {es : List (PV × PV)} : Lt n (.imap es) ↔ (∀ p ∈ es, Lt n p.1) ∧ ∀ p ∈ es, Lt n p.2 := ⟨fun h => by cases h; exact ⟨by assumption, by assumption⟩, fun h => .imap es h.1 h.2⟩
theorem lt_iface {n : Nat} {t : TypeId} {v : PV} : Lt n (.iface t v) ↔ Lt n v := ⟨fun h => by cases h; assumption, .iface t v⟩
theorem lt_nilp {n : Nat} : Lt n .nilp ↔ True := ⟨fun _ => trivial, fun _ => .nilp⟩
theorem lt_nilfn {n : Nat} : Lt n .nilfn ↔ True := ⟨fun _ => trivial, fun _ => .nilfn⟩
theorem lt_nilmap {n : Nat} : Lt n .nilmap ↔ True := ⟨fun _ => trivial, fun _ => .nilmap⟩
theorem lt_nili {n : Nat} : Lt n .nili ↔ True := ⟨fun _ => trivial, fun _ => .nili⟩
theorem lt_junk {n : Nat} : Lt n .junk ↔ True := ⟨fun _ => trivial, fun _ => .junk⟩

def ObjLt (n : Nat) : AObj → Prop
  | .row es => ∀ cs ∈ es, ∀ c ∈ cs, Lt n c
  | .map es => (∀ p ∈ es, Lt n p.1) ∧ ∀ p ∈ es, Lt n p.2
def Wf (σ : Store) (nx : Nat) : Prop := ∀ k o, σ k = some o → k < nx ∧ ObjLt nx o

theorem Rep.lt {U : Nat → Prop} {μ : Mu} {w : World} {n : Nat} (hμ : ∀ k, n ≤ k → μ k = none) {p : PV} {v : Value} (h : Rep U μ w p v) : Lt n p := by
  have key : ∀ k l, μ k = some l → k < n := fun k l hk => Nat.lt_of_not_le fun hle => by rw [hμ k hle] at hk; cases hk
  have mem : ∀ (cs : List PV) (vs : Array Value), vs.size = cs.length → (∀ (i : Nat) (pv : PV) (v : Value), cs[i]? = some pv → vs[i]? = some v → Lt n pv) → ∀ c ∈ cs, Lt n c := by
    intro cs vs hl ih c hc
    obtain ⟨i, hi⟩ := List.getElem?_of_mem hc
    have hlt : i < vs.size := by rw [hl]; exact (List.getElem?_eq_some_iff.1 hi).1
    exact ih i c _ hi (Array.getElem?_eq_getElem hlt)
  induction h with
  | int k m => exact .int _ _
  | bool b => exact .bool _
  | str s => exact .str _
  | nil => exact .nil
  | empty a => exact .empty
  | list es a c sz b off vs hn hc hs ha hv hr ih =>
    refine .list es fun cs hcs c hc => ?_
    obtain ⟨j, hj⟩ := List.getElem?_of_mem hcs
    obtain ⟨i, hi⟩ := List.getElem?_of_mem hc
    exact ih j cs i c hj hi
  | row k off len l a hm ha => exact .row _ _ _ (key k l hm)
  | agg cs vs hl hr ih => exact .agg cs (mem cs vs hl ih)
  | tup cs vs hl hr ih => exact .tup cs (mem cs vs hl ih)
  | ptr k i off l hm => exact .ptr _ _ _ (key k l hm)
  | cells cs b off vs hu hv hr ih =>
    refine .cells cs fun c hc => ?_
    obtain ⟨i, hi⟩ := List.getElem?_of_mem hc
    exact ih i c hi
  | nilp => exact .nilp
  | fn f a b vs us hl hl' hr hr' ih ih' => exact .fn f a b (mem a vs hl ih) (mem b us hl' ih')
  | nilfn => exact .nilfn
  | map k l hm => exact .map _ (key k l hm)
  | imap es r ms ck hu hw hl hk hv ihk ihv =>
    have mem' : ∀ p ∈ es, Lt n p.1 ∧ Lt n p.2 := by
      intro p hp
      obtain ⟨i, hi⟩ := List.getElem?_of_mem hp
      have hlt : i < ms.size := by rw [hl]; exact (List.getElem?_eq_some_iff.1 hi).1
      exact ⟨ihk i p _ hi (Array.getElem?_eq_getElem hlt), ihv i p _ hi (Array.getElem?_eq_getElem hlt)⟩
    exact .imap es (fun p hp => (mem' p hp).1) (fun p hp => (mem' p hp).2)
  | nilmap => exact .nilmap
  | iface t v x hr ih => exact .iface t v ih
  | nili => exact .nili
  | junk v => exact .junk

theorem Sim.wf {E : Env} {σ : Store} {μ : Mu} {w : World} {n : Nat} (S : Sim E σ μ w) (hμ : ∀ k, n ≤ k → μ k = none) : Wf σ n := by
  intro k o hk
  obtain ⟨l, hl, ho⟩ := S.obj k o hk
  refine ⟨Nat.lt_of_not_le fun hle => (by rw [hμ k hle] at hl; cases hl), ?_⟩
  cases o with
  | row es =>
    obtain ⟨c, t, hc, h1, h2, h3, h4, h5⟩ := ho
    intro cs hcs c' hc'
    obtain ⟨j, hj⟩ := List.getElem?_of_mem hcs
    obtain ⟨i, hi⟩ := List.getElem?_of_mem hc'
    obtain ⟨v, _, hr⟩ := h4 j cs i c' hj hi
    exact hr.lt hμ
  | map es =>
    obtain ⟨ms, ck, hc, hl', h2, h3, h4⟩ := ho
    have mem' : ∀ p ∈ es, Lt n p.1 ∧ Lt n p.2 := by
      intro p hp
      obtain ⟨i, hi⟩ := List.getElem?_of_mem hp
      have hlt : i < ms.size := by rw [hl']; exact (List.getElem?_eq_some_iff.1 hi).1
      exact ⟨(h2 i p _ hi (Array.getElem?_eq_getElem hlt)).lt hμ, (h3 i p _ hi (Array.getElem?_eq_getElem hlt)).lt hμ⟩
    exact ⟨fun p hp => (mem' p hp).1, fun p hp => (mem' p hp).2⟩

/-- What is handed back when objects are given up: what leads to them leads to memory that nobody writes. -/
inductive Fz (σ σ' : Store) : PV → PV → Prop
  | refl (v : PV) : Fz σ σ' v v
  | junk (v : PV) : Fz σ σ' v .junk
  | row (k off len : Nat) (es es' : List (List PV)) (h : σ k = some (.row es)) (h' : σ' k = none) (hl : off + len ≤ es.length) (hl' : es'.length = len)
      (hc : ∀ (j : Nat) (cs cs' : List PV), es[off + j]? = some cs → es'[j]? = some cs' → cs'.length = cs.length)
      (hf : ∀ (j : Nat) (cs cs' : List PV) (i : Nat) (x y : PV), es[off + j]? = some cs → es'[j]? = some cs' → cs[i]? = some x → cs'[i]? = some y → Fz σ σ' x y) : Fz σ σ' (.row k off len) (.list es')
  | ptr (k i off : Nat) (es : List (List PV)) (cs cs' : List PV) (h : σ k = some (.row es)) (h' : σ' k = none) (hi : es[i]? = some cs) (hl : off + cs'.length ≤ cs.length)
      (hf : ∀ (j : Nat) (x y : PV), cs[off + j]? = some x → cs'[j]? = some y → Fz σ σ' x y) : Fz σ σ' (.ptr k i off) (.cells cs')
  | map (k : Nat) (es es' : List (PV × PV)) (h : σ k = some (.map es)) (h' : σ' k = none) (hl : es'.length = es.length) (hf : ∀ (i : Nat) (x y : PV × PV), es[i]? = some x → es'[i]? = some y → Fz σ σ' x.1 y.1)
      (hf' : ∀ (i : Nat) (x y : PV × PV), es[i]? = some x → es'[i]? = some y → Fz σ σ' x.2 y.2) : Fz σ σ' (.map k) (.imap es')
  | agg (cs cs' : List PV) (hl : cs'.length = cs.length) (hf : ∀ (j : Nat) (x y : PV), cs[j]? = some x → cs'[j]? = some y → Fz σ σ' x y) : Fz σ σ' (.agg cs) (.agg cs')
  | tup (cs cs' : List PV) (hl : cs'.length = cs.length) (hf : ∀ (j : Nat) (x y : PV), cs[j]? = some x → cs'[j]? = some y → Fz σ σ' x y) : Fz σ σ' (.tup cs) (.tup cs')
  | fn (f : FuncId) (a b a' b' : List PV) (hl : a'.length = a.length) (hl' : b'.length = b.length) (hf : ∀ (j : Nat) (x y : PV), a[j]? = some x → a'[j]? = some y → Fz σ σ' x y) (hf' : ∀ (j : Nat) (x y : PV), b[j]? = some x → b'[j]? = some y → Fz σ σ' x y) :
      Fz σ σ' (.fn f a b) (.fn f a' b')

/-- A smaller store: what was represented stays so, where handles to what was given up become values. -/
theorem Rep.fz {E : Env} {σ σ' : Store} {μ : Mu} {w : World} (S : Sim E σ μ w) (hsub : ∀ k o, σ' k = some o → σ k = some o ∨ ∃ o', σ k = some o') {p q : PV} (h : Fz σ σ' p q) : ∀ {v : Value}, Rep (Used σ μ) μ w p v → Rep (Used σ' μ) μ w q v := by
  have hU : ∀ b, Used σ' μ b → Used σ μ b := by
    rintro b ⟨k, o, l, h1, h2, h3⟩
    rcases hsub k o h1 with h4 | ⟨o', h4⟩
    · exact ⟨k, o, l, h4, h2, h3⟩
    · exact ⟨k, o', l, h4, h2, h3⟩
  have same : ∀ (p : PV) (v : Value), Rep (Used σ μ) μ w p v → Rep (Used σ' μ) μ w p v := by
    intro p v h
    exact h.moves ⟨fun _ _ h => h, Nat.le_refl _, fun _ _ _ => rfl, fun b _ h => hU b h, rfl, rfl, rfl⟩
  have free : ∀ k l o, σ k = some o → σ' k = none → μ k = some l → ¬ Used σ' μ l.b := by
    rintro k l o h1 h2 h3 ⟨k', o', l', h4, h5, h6⟩
    have h7 : ∃ o2, σ k' = some o2 := by rcases hsub k' o' h4 with h | ⟨o2, h⟩ <;> exact ⟨_, h⟩
    obtain ⟨o2, h7⟩ := h7
    have := S.inj k' k o2 o l' l h7 h1 h5 h3 h6
    subst this
    rw [h2] at h4; cases h4
  induction h with
  | refl v => exact same _ _
  | junk v => intro _ _; exact .junk _
  | row k off len es es' h h' hl hl' hc hf ih =>
    intro v hv
    obtain ⟨l, hl1, ho⟩ := S.obj k _ h
    cases hv with
    | row _ _ _ l' a hm ha =>
    rw [hl1] at hm; cases hm
    obtain ⟨c, t, g0, g1, g2, g3, g4, g5⟩ := ho
    have hb : l.b < w.heap.size := (Array.getElem?_eq_some_iff.1 g0).1
    rw [← hl']
    have get : ∀ (j : Nat) (cs' : List PV) (i : Nat) (y : PV), es'[j]? = some cs' → cs'[i]? = some y → ∃ v, w.cell? ⟨l.b, l.base + off * l.sz + j * l.sz + i, none⟩ = some v ∧ Rep (Used σ' μ) μ w y v := by
      intro j cs' i y hj hi
      have hjl : j < len := by rw [← hl']; exact (List.getElem?_eq_some_iff.1 hj).1
      have hes : es[off + j]? = some es[off + j] := List.getElem?_eq_getElem (by omega)
      have hcl := hc j _ cs' hes hj
      have hil : i < (es[off + j]).length := by rw [← hcl]; exact (List.getElem?_eq_some_iff.1 hi).1
      obtain ⟨v, hv, hr⟩ := obj_cell (U := Used σ μ) (l := l) ⟨c, t, g0, g1, g2, g3, g4, g5⟩ hes (List.getElem?_eq_getElem hil)
      refine ⟨v, ?_, ih j _ cs' i _ y hes hj (List.getElem?_eq_getElem hil) hi hr⟩
      rw [show l.base + off * l.sz + j * l.sz + i = l.base + (off + j) * l.sz + i by rw [Nat.add_mul]; omega]
      exact hv
    refine .list es' (some a) (l.cap - off) l.sz l.b (l.base + off * l.sz) (fun j i => (w.cell? ⟨l.b, l.base + off * l.sz + j * l.sz + i, none⟩).getD undef) rfl (by omega) (fun j cs' hj => ?_) (fun hne => ?_) (fun j cs' i y hj hi => ?_) (fun j cs' i y hj hi => ?_)
    · have hjl : j < len := by rw [← hl']; exact (List.getElem?_eq_some_iff.1 hj).1
      have hes : es[off + j]? = some es[off + j] := List.getElem?_eq_getElem (by omega)
      rw [hc j _ cs' hes hj, g1 _ _ hes]
    · have : 0 < es'.length := List.length_pos_iff.2 hne
      exact ⟨by rw [ha (by omega)], hb, free k l _ h h' hl1⟩
    · obtain ⟨v, hv, _⟩ := get j cs' i y hj hi
      rw [hv]; rfl
    · obtain ⟨v, hv, hr⟩ := get j cs' i y hj hi
      rw [hv]; exact hr
  | ptr k i off es cs cs' h h' hi hl hf ih =>
    intro v hv
    obtain ⟨l, hl1, ho⟩ := S.obj k _ h
    cases hv with
    | ptr _ _ _ l' hm =>
    rw [hl1] at hm; cases hm
    obtain ⟨c, t, g0, g1, g2, g3, g4, g5⟩ := ho
    have hb : l.b < w.heap.size := (Array.getElem?_eq_some_iff.1 g0).1
    have get : ∀ (j : Nat) (y : PV), cs'[j]? = some y → ∃ v, w.cell? ⟨l.b, l.base + i * l.sz + off + j, none⟩ = some v ∧ Rep (Used σ' μ) μ w y v := by
      intro j y hj
      have hjl : off + j < cs.length := by have := (List.getElem?_eq_some_iff.1 hj).1; omega
      obtain ⟨v, hv, hr⟩ := obj_cell (U := Used σ μ) (l := l) ⟨c, t, g0, g1, g2, g3, g4, g5⟩ hi (List.getElem?_eq_getElem hjl)
      exact ⟨v, by rw [Nat.add_assoc]; exact hv, ih j _ y (List.getElem?_eq_getElem hjl) hj hr⟩
    refine .cells cs' l.b _ (fun j => (w.cell? ⟨l.b, l.base + i * l.sz + off + j, none⟩).getD undef) ⟨hb, free k l _ h h' hl1⟩ (fun j y hj => ?_) (fun j y hj => ?_)
    · obtain ⟨v, hv, _⟩ := get j y hj
      rw [hv]; rfl
    · obtain ⟨v, hv, hr⟩ := get j y hj
      rw [hv]; exact hr
  | map k es es' h h' hl hf hf' ih ih' =>
    intro v hv
    obtain ⟨l, hl1, ho⟩ := S.obj k _ h
    cases hv with
    | map _ l' hm =>
    rw [hl1] at hm; cases hm
    obtain ⟨ms, ck, g0, g1, g2, g3, g4⟩ := ho
    refine .imap es' l.b ms ck (free k l _ h h' hl1) g0 (by rw [g1, hl]) (fun i p e hp he => ?_) (fun i p e hp he => ?_)
    all_goals
      have hlt : i < es.length := by rw [← hl]; exact (List.getElem?_eq_some_iff.1 hp).1
      have hes := List.getElem?_eq_getElem hlt
    · exact ih i _ p hes hp (g2 i _ e hes he)
    · exact ih' i _ p hes hp (g3 i _ e hes he)
  | agg cs cs' hl hf ih =>
    intro v hv
    cases hv with
    | agg _ vs hvl hr =>
    refine .agg cs' vs (by rw [hvl, hl]) fun i y x hy hx => ?_
    have hlt : i < cs.length := by rw [← hl]; exact (List.getElem?_eq_some_iff.1 hy).1
    exact ih i _ y (List.getElem?_eq_getElem hlt) hy (hr i _ x (List.getElem?_eq_getElem hlt) hx)
  | tup cs cs' hl hf ih =>
    intro v hv
    cases hv with
    | tup _ vs hvl hr =>
    refine .tup cs' vs (by rw [hvl, hl]) fun i y x hy hx => ?_
    have hlt : i < cs.length := by rw [← hl]; exact (List.getElem?_eq_some_iff.1 hy).1
    exact ih i _ y (List.getElem?_eq_getElem hlt) hy (hr i _ x (List.getElem?_eq_getElem hlt) hx)
  | fn f a b a' b' hl hl' hf hf' ih ih' =>
    intro v hv
    cases hv with
    | fn _ _ _ vs us hvl hul hr hr' =>
    refine .fn f a' b' vs us (by rw [hvl, hl]) (by rw [hul, hl']) (fun i y x hy hx => ?_) (fun i y x hy hx => ?_)
    · have hlt : i < a.length := by rw [← hl]; exact (List.getElem?_eq_some_iff.1 hy).1
      exact ih i _ y (List.getElem?_eq_getElem hlt) hy (hr i _ x (List.getElem?_eq_getElem hlt) hx)
    · have hlt : i < b.length := by rw [← hl']; exact (List.getElem?_eq_some_iff.1 hy).1
      exact ih' i _ y (List.getElem?_eq_getElem hlt) hy (hr' i _ x (List.getElem?_eq_getElem hlt) hx)

end Go.Proofs.YtdajoilaakiinaaGreatDoor.Awp

/- From a body of code to its function's contract. -/
namespace Go.Proofs.YtdajoilaakiinaaGreatDoor.Awp
open Go

/-- The slots when a body begins. -/
def initSl (args : List PV) : Nat → PV := fun t => args[t]?.getD .junk

/-- The results of a function, read off its slots. -/
def resOf (E : Env) (st : St) : ResultVar → Option (Prop × PV)
  | .tmp t => some (True, st.sl t)
  | .cell t ty => match evLoad E st.σ ty (st.sl t) with
    | some (c, eff) => some (c, eff.val)
    | none => none
def resultsOf (E : Env) (st : St) : List ResultVar → Option (Prop × List PV)
  | [] => some (True, [])
  | r :: rs => match resOf E st r, resultsOf E st rs with
    | some (c, v), some (d, vs) => some (c ∧ d, v :: vs)
    | _, _ => none
def tupOf : List PV → PV
  | [v] => v
  | vs => .tup vs

/-- What a function leaves behind: fewer objects, and what it hands back may now be memory that nobody writes. -/
structure Leaves (σ0 : Store) (nx0 : Nat) (st : St) (v : PV) (σ' : Store) (nx' : Nat) (v' : PV) : Prop where
  le : nx0 ≤ nx'
  sub : ∀ k o, σ' k = some o → σ0 k = some o ∧ st.σ k = some o ∨ (k < nx' ∧ ObjLt nx' o ∧ st.σ k = some o)
  fz : Fz st.σ σ' v v'
  lt : Lt nx' v'

/-- What a body must come to. -/
def Ends (E : Env) (σ0 : Store) (nx0 : Nat) (rs : List ResultVar) (out : Out) (σ' : Store) (nx' : Nat) : AExit → St → Prop
  | .ret, st => ∃ c vs v', resultsOf E st rs = some (c, vs) ∧ c ∧ out = .ret v' ∧ Leaves σ0 nx0 st (tupOf vs) σ' nx' v'
  | .normal, st => ∃ c vs v', resultsOf E st rs = some (c, vs) ∧ c ∧ out = .ret v' ∧ Leaves σ0 nx0 st (tupOf vs) σ' nx' v'
  | .panic p, st => ∃ v', out = .panic v' ∧ Leaves σ0 nx0 st p σ' nx' v'
  | _, _ => False

def cutMu (n : Nat) (μ : Mu) : Mu := fun k => if k < n then μ k else none

theorem Rep.cut {U U' : Nat → Prop} {μ : Mu} {w : World} {n : Nat} (hU : ∀ b, U' b → U b) {p : PV} {v : Value} (h : Rep U μ w p v) (hl : Lt n p) : Rep U' (cutMu n μ) w p v := by
  have get : ∀ k l, k < n → μ k = some l → cutMu n μ k = some l := fun k l hk h => by unfold cutMu; rw [if_pos hk]; exact h
  induction h with
  | int k m => exact .int _ _
  | bool b => exact .bool _
  | str s => exact .str _
  | nil => exact .nil
  | empty a => exact .empty _
  | list es a c sz b off vs hn hc hs ha hv hr ih =>
    rw [lt_list] at hl
    exact .list es a c sz b off vs hn hc hs (fun h => ⟨(ha h).1, (ha h).2.1, fun hu => (ha h).2.2 (hU _ hu)⟩) hv fun j cs i pv hj hi => ih j cs i pv hj hi (hl cs (List.mem_of_getElem? hj) pv (List.mem_of_getElem? hi))
  | row k off len l a hm ha => exact .row k off len l a (get k l (lt_row.1 hl) hm) ha
  | agg cs vs hl' hr ih => exact .agg cs vs hl' fun i pv v hi hv => ih i pv v hi hv (lt_agg.1 hl pv (List.mem_of_getElem? hi))
  | tup cs vs hl' hr ih => exact .tup cs vs hl' fun i pv v hi hv => ih i pv v hi hv (lt_tup.1 hl pv (List.mem_of_getElem? hi))
  | ptr k i off l hm => exact .ptr k i off l (get k l (lt_ptr.1 hl) hm)
  | cells cs b off vs hu hv hr ih => exact .cells cs b off vs ⟨hu.1, fun h => hu.2 (hU _ h)⟩ hv fun i pv hi => ih i pv hi (lt_cells.1 hl pv (List.mem_of_getElem? hi))
  | nilp => exact .nilp
  | fn f a b vs us h1 h2 hr hr' ih ih' =>
    obtain ⟨g1, g2⟩ := lt_fn.1 hl
    exact .fn f a b vs us h1 h2 (fun i pv v hi hv => ih i pv v hi hv (g1 pv (List.mem_of_getElem? hi))) (fun i pv v hi hv => ih' i pv v hi hv (g2 pv (List.mem_of_getElem? hi)))
  | nilfn => exact .nilfn
  | map k l hm => exact .map k l (get k l (lt_map.1 hl) hm)
  | imap es r ms ck hu hw hl' hk hv ihk ihv =>
    obtain ⟨g1, g2⟩ := lt_imap.1 hl
    exact .imap es r ms ck (fun h => hu (hU _ h)) hw hl' (fun i p e hp he => ihk i p e hp he (g1 p (List.mem_of_getElem? hp))) (fun i p e hp he => ihv i p e hp he (g2 p (List.mem_of_getElem? hp)))
  | nilmap => exact .nilmap
  | iface t v x hr ih => exact .iface t v x (ih (lt_iface.1 hl))
  | nili => exact .nili
  | junk v => exact .junk v

section
variable {E : Env} {N : Nat}

/-- The world behind a call, in the caller's words. -/
theorem leaves_sim (hG : ∀ g cs, E.G g = some cs → ∀ n, Lt n (.cells cs)) {σ0 : Store} {nx0 : Nat} {μ0 μ : Mu} {w0 w : World} {st : St} {v v' : PV} {σ' : Store} {nx' : Nat} (hwf : Wf σ0 nx0) (S : Sim E st.σ μ w) (g : Moves σ0 μ0 w0 st.σ μ w) (hold : ∀ k, k < nx0 → μ k = μ0 k) (h0 : ∀ k, nx0 ≤ k → μ0 k = none) (hcap : ∀ k c, E.C k = some c → ∃ l, μ0 k = some l ∧ l.cap = c)
    (L : Leaves σ0 nx0 st v σ' nx' v') {cv : Value} (hv : Rep (Used st.σ μ) μ w v cv) :
    ∃ μ', Rep (Used σ' μ') μ' w v' cv ∧ Sim E σ' μ' w ∧ Moves σ0 μ0 w0 σ' μ' w ∧ (∀ k, k < nx0 → μ' k = μ0 k) ∧ ∀ k, nx' ≤ k → μ' k = none := by
  have hk : ∀ k o, σ' k = some o → k < nx' ∧ ObjLt nx' o ∧ st.σ k = some o := by
    intro k o h
    rcases L.sub k o h with ⟨h1, h2⟩ | h1
    · obtain ⟨h3, h4⟩ := hwf k o h1
      refine ⟨Nat.lt_of_lt_of_le h3 L.le, ?_, h2⟩
      have up : ∀ p, Lt nx0 p → Lt nx' p := by
        intro p hp
        induction hp with
        | list es h ih => exact .list es ih
        | row k off len h => exact .row k off len (Nat.lt_of_lt_of_le h L.le)
        | agg cs h ih => exact .agg cs ih
        | tup cs h ih => exact .tup cs ih
        | ptr k i off h => exact .ptr k i off (Nat.lt_of_lt_of_le h L.le)
        | cells cs h ih => exact .cells cs ih
        | fn f a b h h' ih ih' => exact .fn f a b ih ih'
        | map k h => exact .map k (Nat.lt_of_lt_of_le h L.le)
        | imap es h h' ih ih' => exact .imap es ih ih'
        | iface t v h ih => exact .iface t v ih
        | int k m => exact .int k m
        | bool b => exact .bool b
        | str s => exact .str s
        | nil => exact .nil
        | empty => exact .empty
        | nilp => exact .nilp
        | nilfn => exact .nilfn
        | nilmap => exact .nilmap
        | nili => exact .nili
        | junk => exact .junk
      cases o with
      | row es => exact fun cs hcs c hc => up c (h4 cs hcs c hc)
      | map es => exact ⟨fun p hp => up p.1 (h4.1 p hp), fun p hp => up p.2 (h4.2 p hp)⟩
    · exact h1
  have hU : ∀ b, Used σ' (cutMu nx' μ) b → Used st.σ μ b := by
    rintro b ⟨k, o, l, h1, h2, h3⟩
    obtain ⟨h4, _, h5⟩ := hk k o h1
    unfold cutMu at h2
    rw [if_pos h4] at h2
    exact ⟨k, o, l, h5, h2, h3⟩
  have hrep : ∀ p x, Rep (Used st.σ μ) μ w p x → Lt nx' p → Rep (Used σ' (cutMu nx' μ)) (cutMu nx' μ) w p x := fun p x h hl => h.cut hU hl
  have get : ∀ k, k < nx' → cutMu nx' μ k = μ k := fun k h => by unfold cutMu; rw [if_pos h]
  have hcaps : ∀ k c, E.C k = some c → ∃ l, cutMu nx' μ k = some l ∧ l.cap = c := fun k c h => by
    obtain ⟨l, h1, h2⟩ := hcap k c h
    have hlt : k < nx0 := Nat.lt_of_not_le fun hle => by rw [h0 k hle] at h1; cases h1
    exact ⟨l, by rw [get k (Nat.lt_of_lt_of_le hlt L.le), hold k hlt]; exact h1, h2⟩
  refine ⟨cutMu nx' μ, ?_, ⟨?_, ?_, ?_, hcaps⟩, ?_, fun k h => ?_, fun k h => ?_⟩
  · have h1 := Rep.fz S (fun k o h => .inl (hk k o h).2.2) L.fz hv
    refine h1.cut ?_ L.lt
    rintro b ⟨k, o, l, h1, h2, h3⟩
    obtain ⟨h4, _, _⟩ := hk k o h1
    rw [get k h4] at h2
    exact ⟨k, o, l, h1, h2, h3⟩
  · intro k k' o o' l l' h1 h2 h3 h4 e
    obtain ⟨a1, _, a2⟩ := hk k o h1
    obtain ⟨b1, _, b2⟩ := hk k' o' h2
    rw [get k a1] at h3
    rw [get k' b1] at h4
    exact S.inj k k' o o' l l' a2 b2 h3 h4 e
  · intro k o h
    obtain ⟨h1, h2, h3⟩ := hk k o h
    obtain ⟨l, hl, ho⟩ := S.obj k o h3
    refine ⟨l, by rw [get k h1]; exact hl, ?_⟩
    cases o with
    | row es =>
      obtain ⟨c, t, g0, g1, g2, g3, g4, g5⟩ := ho
      refine ⟨c, t, g0, g1, g2, g3, fun j cs i pv hj hi => ?_, g5⟩
      obtain ⟨v, hv, hr⟩ := g4 j cs i pv hj hi
      exact ⟨v, hv, hrep _ _ hr (h2 cs (List.mem_of_getElem? hj) pv (List.mem_of_getElem? hi))⟩
    | map es =>
      obtain ⟨ms, ck, g0, g1, g2, g3, g4⟩ := ho
      exact ⟨ms, ck, g0, g1, fun i p e hp he => hrep _ _ (g2 i p e hp he) (h2.1 p (List.mem_of_getElem? hp)), fun i p e hp he => hrep _ _ (g3 i p e hp he) (h2.2 p (List.mem_of_getElem? hp)), g4⟩
  · intro gl cs hgl
    exact ⟨hrep _ _ (S.glob gl cs hgl).1 (hG gl cs hgl nx'), (S.glob gl cs hgl).2⟩
  · refine ⟨fun k l h => ?_, g.size, g.keep, fun b hb h => g.used b hb (hU b h), g.os, g.tape, g.output⟩
    have hk' : k < nx0 := Nat.lt_of_not_le fun hle => by rw [h0 k hle] at h; cases h
    rw [get k (Nat.lt_of_lt_of_le hk' L.le)]
    exact g.mu k l h
  · rw [get k (Nat.lt_of_lt_of_le h L.le)]; exact hold k h
  · unfold cutMu; rw [if_neg (by omega)]

theorem run_results {st : St} {μ : Mu} {a : Act} {w : World} (R : Rel E N st μ a w) : ∀ (rs : List ResultVar) (c : Prop) (vs : List PV), resultsOf E st rs = some (c, vs) → c →
    ∃ xs : List Value, (rs.mapM (fun r => match r with
      | .tmp t => pure (a.tmps.getD t undef)
      | .cell x t => do loadVar t (← asAddr (a.tmps.getD x undef))) : Sem (List Value)).run E.P w = .ok xs w ∧ xs.length = vs.length ∧ ∀ (i : Nat) (p : PV) (x : Value), vs[i]? = some p → xs[i]? = some x → Rep (Used st.σ μ) μ w p x
  | [], c, vs, h, _ => by cases h; exact ⟨[], rfl, rfl, fun i p x h => by simp at h⟩
  | r :: rs, c, vs, h, hc => by
    have slot : ∀ t, Rep (Used st.σ μ) μ w (st.sl t) (a.tmps.getD t undef) := fun t => rep_opd (E := E) R.sim R.slots (fun t ht => R.big t (by rw [R.size] at ht; exact ht)) (.tmp t)
    simp only [resultsOf] at h
    split at h
    · rename_i c1 v1 d1 vs1 h1 h2
      cases h
      obtain ⟨xs, e1, e2, e3⟩ := run_results R rs d1 vs1 h2 hc.2
      have hone : ∃ x, ((match r with
          | .tmp t => pure (a.tmps.getD t undef)
          | .cell x t => do loadVar t (← asAddr (a.tmps.getD x undef))) : Sem Value).run E.P w = .ok x w ∧ Rep (Used st.σ μ) μ w v1 x := by
        cases r with
        | tmp t => cases h1; exact ⟨_, rfl, slot t⟩
        | cell t ty =>
          simp only [resOf] at h1
          split at h1
          · rename_i c2 eff he
            cases h1
            obtain ⟨_, ad, x, hv, hx, hr⟩ := load_plain R.sim (slot t) he hc.1
            refine ⟨x, ?_, hr⟩
            simp only [hv, asAddr, Sem.run_bind, Sem.run_pure, Result.andThen_ok, hx]
          · cases h1
      obtain ⟨x, hx1, hx2⟩ := hone
      refine ⟨x :: xs, ?_, by simp [e2], fun i p y hp hy => ?_⟩
      · rw [List.mapM_cons]
        simp only [Sem.run_bind, hx1, Result.andThen_ok, e1, Sem.run_pure]
      · cases i with
        | zero => simp at hp hy; subst hp; subst hy; exact hx2
        | succ i => exact e3 i p y (by simpa using hp) (by simpa using hy)
    · cases h

structure Good (E : Env) : Prop where
  ok : EnvOk E
  glob : ∀ g cs, E.G g = some cs → ∀ n, Lt n (.cells cs)

theorem results_run {st : St} {μ : Mu} {a : Act} {w : World} (R : Rel E N st μ a w) {fn : Func} {c : Prop} {vs : List PV} (h : resultsOf E st fn.results.toList = some (c, vs)) (hc : c) :
    ∃ x, (results fn a.tmps).run E.P w = .ok x w ∧ Rep (Used st.σ μ) μ w (tupOf vs) x := by
  obtain ⟨xs, e1, e2, e3⟩ := run_results R fn.results.toList c vs h hc
  have e1' : (fn.results.mapM (fun r => match r with
      | .tmp t => pure (a.tmps.getD t undef)
      | .cell x t => do loadVar t (← asAddr (a.tmps.getD x undef))) : Sem (Array Value)).run E.P w = .ok xs.toArray w := by
    rw [Array.mapM_eq_mapM_toList, Sem.run_map, e1]; rfl
  have hres : results fn a.tmps = (fn.results.mapM (fun r => match r with
      | .tmp t => pure (a.tmps.getD t undef)
      | .cell x t => do loadVar t (← asAddr (a.tmps.getD x undef))) : Sem (Array Value)) >>= fun vs => pure (if h : vs.size = 1 then vs[0] else .tuple vs) := by
    unfold results
    congr 1
  rw [hres, Sem.run_bind, e1']
  simp only [Result.andThen_ok]
  by_cases h1 : vs.length = 1
  · obtain ⟨p, rfl⟩ := List.length_eq_one_iff.1 h1
    obtain ⟨x, rfl⟩ := List.length_eq_one_iff.1 (e2.trans h1)
    exact ⟨x, rfl, e3 0 p x rfl rfl⟩
  · have h2 : ¬ xs.toArray.size = 1 := by simp only [List.size_toArray]; omega
    refine ⟨.tuple xs.toArray, by rw [dif_neg h2]; rfl, ?_⟩
    have : tupOf vs = .tup vs := by
      match vs, h1 with
      | [], _ => rfl
      | [_], h => exact (h rfl).elim
      | _ :: _ :: _, _ => rfl
    rw [this]
    exact .tup vs _ (by simp [e2]) fun i p x hp hx => e3 i p x hp (by simpa using hx)

theorem fn_of_body (hE : Good E) {f : FuncId} {fn : Func} {code : Code} {σ σ' : Store} {nx nx' : Nat} {args : List PV} {out : Out} (hf : E.P.funcs[f]? = some fn) (hb : fn.body = some code) (hname : (fn.name == "runtime.NumGoroutine") = false)
    (hok : okC fn.ntmps code = true) (hargs : args.length ≤ fn.ntmps) (hle : nx ≤ nx') (h : Wf σ nx → (∀ a ∈ args, Lt nx a) → awp E code (Ends E σ nx fn.results.toList out σ' nx') ⟨initSl args, σ, nx⟩) : Fn E f σ nx args out σ' nx' := by
  refine ⟨⟨fn, hf, by rw [hb]; rfl, hname⟩, hle, fun μ w vs S hμ hvs => ?_⟩
  refine calls_of_wp hf hb ?_
  have hwf := S.wf hμ
  have hlt : ∀ a ∈ args, Lt nx a := by
    intro a ha
    obtain ⟨i, hi⟩ := List.getElem?_of_mem ha
    have hl : i < vs.size := by rw [hvs.1]; exact (List.getElem?_eq_some_iff.1 hi).1
    exact (hvs.2 i a _ hi (Array.getElem?_eq_getElem hl)).lt hμ
  have hsz : vs.size = args.length := hvs.1
  have R : Rel E fn.ntmps ⟨initSl args, σ, nx⟩ μ { tmps := vs ++ Array.replicate (fn.ntmps - vs.size) undef, defers := [] } w := by
    refine ⟨S, fun t v hv => ?_, fun t ht => ?_, by simp; omega, rfl, hμ⟩
    · simp only [initSl] at *
      rw [Array.getElem?_append] at hv
      split at hv
      · rename_i hlt'
        have hl : t < args.length := by omega
        rw [List.getElem?_eq_getElem hl]
        exact hvs.2 t _ v (List.getElem?_eq_getElem hl) hv
      · rename_i hge
        rw [List.getElem?_eq_none (by omega)]
        exact .junk _
    · simp only [initSl]
      rw [List.getElem?_eq_none (by omega)]
      rfl
  refine wp_mono (awp_sound hE.ok code hok _ _ μ _ w R (h hwf hlt)) fun e a' w' hp => ?_
  have fin : ∀ (st' : St) (μ' : Mu) (c : Prop) (vs' : List PV) (v' : PV), Rel E fn.ntmps st' μ' a' w' → Goes ⟨initSl args, σ, nx⟩ μ w st' μ' w' → resultsOf E st' fn.results.toList = some (c, vs') → c → out = .ret v' → Leaves σ nx st' (tupOf vs') σ' nx' v' →
      a'.defers = [] ∧ ∃ v, (results fn a'.tmps).run E.P w' = .ok v w' ∧ ∃ μ', OutRep (Used σ' μ') μ' w' out (.returned v) ∧ Sim E σ' μ' w' ∧ Moves σ μ w σ' μ' w' ∧ (∀ k, k < nx → μ' k = μ k) ∧ ∀ k, nx' ≤ k → μ' k = none := by
    intro st' μ' c vs' v' R' g hres hc hout L
    obtain ⟨x, hx, hr⟩ := results_run R' hres hc
    obtain ⟨μ2, q1, q2, q3, q4, q5⟩ := leaves_sim hE.glob hwf R'.sim g.moves g.old hμ S.caps L hr
    subst hout
    exact ⟨R'.defers, x, hx, μ2, ⟨x, rfl, q1⟩, q2, q3, q4, q5⟩
  cases e with
  | normal =>
    obtain ⟨st', μ', ⟨c, vs', v', h1, h2, h3, h4⟩, R', g⟩ := hp
    exact fin st' μ' c vs' v' R' g h1 h2 h3 h4
  | ret =>
    obtain ⟨st', μ', ⟨c, vs', v', h1, h2, h3, h4⟩, R', g⟩ := hp
    exact fin st' μ' c vs' v' R' g h1 h2 h3 h4
  | panic ch =>
    obtain ⟨st', μ', p, v, ⟨v', h1, L⟩, rfl, hr, R', g⟩ := hp
    obtain ⟨μ2, q1, q2, q3, q4, q5⟩ := leaves_sim hE.glob hwf R'.sim g.moves g.old hμ S.caps L hr
    subst h1
    exact ⟨R'.defers, μ2, ⟨v, rfl, q1⟩, q2, q3, q4, q5⟩
  | exit id => obtain ⟨st', μ', q, _⟩ := hp; exact q.elim
  | goto l => exact hp.elim
  | outgrown => exact hp.elim
end
end Go.Proofs.YtdajoilaakiinaaGreatDoor.Awp

/- The rules by which a body of code is worked off, and the shapes in which contracts are stated. -/
namespace Go.Proofs.YtdajoilaakiinaaGreatDoor.Awp
open Go

/-- A loop, shut. -/
def ALoop (E : Env) (c : Code) (Q : AExit → St → Prop) (st : St) : Prop := ∃ n, aloop (awp E c) Q n st

theorem awp_skip (E : Env) (Q : AExit → St → Prop) (st : St) : awp E .skip Q st = Q .normal st := rfl
theorem awp_region (E : Env) (id : Nat) (ops : Array Oper) (Q : AExit → St → Prop) (st : St) :
    awp E (.region id ops false) Q st = aops E st.nx ops (Q .normal) (fun v st' => Q (.panic v) st') ops.toList 0 ⟨st.sl, st.σ, st.nx + ops.size⟩ := rfl
theorem awp_draw (E : Env) (id : Nat) (ops : Array Oper) (Q : AExit → St → Prop) (st : St) :
    awp E (.region id ops true) Q st = adraw E st.nx ops (Q .normal) ops.toList 0 [] ⟨st.sl, st.σ, st.nx + ops.size⟩ := rfl
theorem awp_seq (E : Env) (a b : Code) (Q : AExit → St → Prop) (st : St) : awp E (.seq a b) Q st = awp E a (fun e st' => match e with
    | .normal => awp E b Q st'
    | e => Q e st') st := rfl
theorem awp_cond (E : Env) (c : Operand) (x y : Code) (Q : AExit → St → Prop) (st : St) : awp E (.cond c x y) Q st = (match opd E st.sl c with
    | .bool b => (b = true → awp E x Q st) ∧ (b = false → awp E y Q st)
    | _ => False) := rfl
theorem awp_block (E : Env) (id : Nat) (c : Code) (Q : AExit → St → Prop) (st : St) : awp E (.block id c) Q st = awp E c (fun e st' => match e with
    | .exit j => if j = id then Q .normal st' else Q (.exit j) st'
    | e => Q e st') st := rfl
theorem awp_loop (E : Env) (c : Code) (Q : AExit → St → Prop) (st : St) : awp E (.loop c) Q st = ALoop E c Q st := rfl
theorem awp_exit (E : Env) (id : Nat) (Q : AExit → St → Prop) (st : St) : awp E (.exit id) Q st = Q (.exit id) st := rfl
theorem awp_ret (E : Env) (Q : AExit → St → Prop) (st : St) : awp E .ret Q st = Q .ret st := rfl
theorem aops_nil (E : Env) (kb : Nat) (ops : Array Oper) (K : St → Prop) (Q : PV → St → Prop) (i : Nat) (st : St) : aops E kb ops K Q [] i st = K st := rfl
theorem aops_cons (E : Env) (kb : Nat) (ops : Array Oper) (K : St → Prop) (Q : PV → St → Prop) (o : Oper) (rest : List Oper) (i : Nat) (st : St) : aops E kb ops K Q (o :: rest) i st = (match o.guard with
    | none => aop E (kb + i) o st (aops E kb ops K Q rest (i + 1)) Q
    | some (j, want) => match guarded ops st.sl j with
      | .bool b => (b = want → aop E (kb + i) o st (aops E kb ops K Q rest (i + 1)) Q) ∧ (b = !want → aops E kb ops K Q rest (i + 1) (askip o st))
      | .tup [] => aops E kb ops K Q rest (i + 1) (askip o st)
      | _ => False) := rfl
theorem adraw_nil (E : Env) (kb : Nat) (ops : Array Oper) (K : St → Prop) (i : Nat) (acc : List (Nat × Mem)) (st : St) : adraw E kb ops K [] i acc st = K st := rfl
/-- One operation of a region that draws. -/
def adrawGo (E : Env) (kb : Nat) (ops : Array Oper) (K : St → Prop) (o : Oper) (rest : List Oper) (i : Nat) (acc : List (Nat × Mem)) (st : St) : Prop := match callee E st.sl o.op with
  | some (g, args) => (∃ v, Pure E g args v ∧ adraw E kb ops K rest (i + 1) acc ⟨putSl st.sl o.dst v, st.σ, st.nx⟩) ∨
      (∃ v σ' nx', Fn E g st.σ st.nx args (.ret v) σ' nx' ∧ (∀ p ∈ acc, before ops p.1 i = true) ∧ adraw E kb ops K rest (i + 1) ((i, { imp := true }) :: acc) ⟨putSl st.sl o.dst v, σ', nx'⟩)
  | none => match evalOp E (kb + i) st.sl st.σ o.op with
    | some (c, eff) => c ∧ (∀ p ∈ acc, Mem.apart p.2 { rd := eff.rd, wr := eff.wr.map (·.1) } ∨ before ops p.1 i = true) ∧
        adraw E kb ops K rest (i + 1) (accAdd i eff.rd (eff.wr.map (·.1)) acc) ⟨putSl st.sl o.dst eff.val, app st.σ eff.wr, st.nx⟩
    | none => False
theorem adraw_cons (E : Env) (kb : Nat) (ops : Array Oper) (K : St → Prop) (o : Oper) (rest : List Oper) (i : Nat) (acc : List (Nat × Mem)) (st : St) : adraw E kb ops K (o :: rest) i acc st = (match o.guard with
    | none => adrawGo E kb ops K o rest i acc st
    | some (j, want) => match guarded ops st.sl j with
      | .bool b => (b = want → adrawGo E kb ops K o rest i acc st) ∧ (b = !want → adraw E kb ops K rest (i + 1) acc (askip o st))
      | .tup [] => adraw E kb ops K rest (i + 1) acc (askip o st)
      | _ => False) := rfl

theorem aop_mono {E : Env} {key : Nat} {o : Oper} {st : St} {K K' : St → Prop} {Q Q' : PV → St → Prop} (hK : ∀ st, K st → K' st) (hQ : ∀ p st, Q p st → Q' p st) (h : aop E key o st K Q) : aop E key o st K' Q' := by
  unfold aop at *
  split at h
  · obtain ⟨out, σ', nx', h1, h2⟩ := h
    refine ⟨out, σ', nx', h1, ?_⟩
    cases out with
    | ret v => exact hK _ h2
    | panic v => exact hQ _ _ h2
  · split at h
    · exact ⟨h.1, hK _ h.2⟩
    · exact h
theorem aops_mono {E : Env} {kb : Nat} {ops : Array Oper} {K K' : St → Prop} {Q Q' : PV → St → Prop} (hK : ∀ st, K st → K' st) (hQ : ∀ p st, Q p st → Q' p st) : ∀ (l : List Oper) (i : Nat) (st : St), aops E kb ops K Q l i st → aops E kb ops K' Q' l i st
  | [], i, st, h => hK _ h
  | o :: rest, i, st, h => by
    rw [aops_cons] at *
    split at h
    · exact aop_mono (aops_mono hK hQ rest (i + 1)) hQ h
    · split at h
      · exact ⟨fun e => aop_mono (aops_mono hK hQ rest (i + 1)) hQ (h.1 e), fun e => aops_mono hK hQ rest (i + 1) _ (h.2 e)⟩
      · exact aops_mono hK hQ rest (i + 1) _ h
      · exact h
theorem adraw_mono {E : Env} {kb : Nat} {ops : Array Oper} {K K' : St → Prop} (hK : ∀ st, K st → K' st) : ∀ (l : List Oper) (i : Nat) (acc : List (Nat × Mem)) (st : St), adraw E kb ops K l i acc st → adraw E kb ops K' l i acc st
  | [], i, acc, st, h => hK _ h
  | o :: rest, i, acc, st, h => by
    have go : adrawGo E kb ops K o rest i acc st → adrawGo E kb ops K' o rest i acc st := by
      intro h
      unfold adrawGo at *
      split at h
      · rcases h with ⟨v, h1, h2⟩ | ⟨v, σ', nx', h1, h2, h3⟩
        · exact .inl ⟨v, h1, adraw_mono hK rest (i + 1) acc _ h2⟩
        · exact .inr ⟨v, σ', nx', h1, h2, adraw_mono hK rest (i + 1) _ _ h3⟩
      · split at h
        · exact ⟨h.1, h.2.1, adraw_mono hK rest (i + 1) _ _ h.2.2⟩
        · exact h
    rw [adraw_cons] at *
    split at h
    · exact go h
    · split at h
      · exact ⟨fun e => go (h.1 e), fun e => adraw_mono hK rest (i + 1) acc _ (h.2 e)⟩
      · exact adraw_mono hK rest (i + 1) acc _ h
      · exact h
theorem aloop_mono {body : (AExit → St → Prop) → St → Prop} (hb : ∀ Q Q' st, (∀ e st, Q e st → Q' e st) → body Q st → body Q' st) {Q Q' : AExit → St → Prop} (hQ : ∀ e st, Q e st → Q' e st) : ∀ (n m : Nat) (st : St), n ≤ m → aloop body Q n st → aloop body Q' m st
  | 0, _, _, _, h => h.elim
  | n + 1, 0, _, h, _ => by omega
  | n + 1, m + 1, st, hnm, h => by
    refine hb _ _ st (fun e st' he => ?_) h
    cases e with
    | normal => exact aloop_mono hb hQ n m st' (by omega) he
    | exit id => exact hQ _ _ he
    | ret => exact hQ _ _ he
    | panic v => exact hQ _ _ he
theorem awp_mono {E : Env} : ∀ (c : Code) (Q Q' : AExit → St → Prop) (st : St), (∀ e st, Q e st → Q' e st) → awp E c Q st → awp E c Q' st
  | .skip, _, _, _, hq, h => hq _ _ h
  | .region _ _ false, _, _, _, hq, h => aops_mono (fun _ h => hq _ _ h) (fun _ _ h => hq _ _ h) _ _ _ h
  | .region _ _ true, _, _, _, hq, h => adraw_mono (fun _ h => hq _ _ h) _ _ _ _ h
  | .seq a b, Q, Q', st, hq, h => by
    refine awp_mono a _ _ st (fun e st' he => ?_) h
    cases e with
    | normal => exact awp_mono b Q Q' st' hq he
    | exit id => exact hq _ _ he
    | ret => exact hq _ _ he
    | panic v => exact hq _ _ he
  | .cond c x y, Q, Q', st, hq, h => by
    rw [awp_cond] at *
    split at h
    · exact ⟨fun e => awp_mono x Q Q' st hq (h.1 e), fun e => awp_mono y Q Q' st hq (h.2 e)⟩
    · exact h
  | .block id c, Q, Q', st, hq, h => by
    refine awp_mono c _ _ st (fun e st' he => ?_) h
    cases e with
    | normal => exact hq _ _ he
    | exit j =>
      simp only at he ⊢
      split
      · rename_i hj; rw [if_pos hj] at he; exact hq _ _ he
      · rename_i hj; rw [if_neg hj] at he; exact hq _ _ he
    | ret => exact hq _ _ he
    | panic v => exact hq _ _ he
  | .loop c, Q, Q', st, hq, h => by
    obtain ⟨n, h⟩ := h
    exact ⟨n, aloop_mono (awp_mono c) hq n n st (Nat.le_refl _) h⟩
  | .exit _, _, _, _, hq, h => hq _ _ h
  | .ret, _, _, _, hq, h => hq _ _ h
  | .rangeFunc .., _, _, _, _, h => h.elim
  | .scope .., _, _, _, _, h => h.elim
  | .label .., _, _, _, _, h => h.elim
  | .goto .., _, _, _, _, h => h.elim
  | .refuse .., _, _, _, _, h => h.elim

/-- A loop by what holds at the head of each round, and a number that goes down. -/
theorem aloop_by {E : Env} {c : Code} {Q : AExit → St → Prop} {st : St} (I : Nat → St → Prop) (n : Nat) (h0 : I n st)
    (round : ∀ m st, I m st → awp E c (fun e st' => match e with
      | .normal => ∃ k, k < m ∧ I k st'
      | e => Q e st') st) : ALoop E c Q st := by
  have key : ∀ m st, I m st → aloop (awp E c) Q (m + 1) st := by
    intro m
    induction m using Nat.strongRecOn with
    | _ m ih =>
      intro st h
      refine awp_mono c _ _ st (fun e st' he => ?_) (round m st h)
      cases e with
      | normal =>
        obtain ⟨k, hk, hi⟩ := he
        exact aloop_mono (awp_mono c) (fun _ _ h => h) (k + 1) m st' hk (ih k hk st' hi)
      | exit id => exact he
      | ret => exact he
      | panic v => exact he
  exact ⟨n + 1, key n st h0⟩

end Go.Proofs.YtdajoilaakiinaaGreatDoor.Awp

/- Code made small: what an operation's text, position and edges say is worked out once; and the rules by which a body of small code is worked off by rewriting. -/
namespace Go.Proofs.YtdajoilaakiinaaGreatDoor.Awp
open Go

/-- An operation, made small: where its result goes, the operation, the slot of its guard, and which operations before it in the text may come behind it. -/
structure CO where
  dst : Option Tmp
  op : Op
  gd : Option (Option Tmp × Bool)
  un : List Nat
inductive CC where
  | skip
  | region (l : List CO)
  | draw (l : List CO)
  | seq (a b : CC)
  | cond (c : Operand) (x y : CC)
  | block (id : Nat) (c : CC)
  | loop (c : CC)
  | exit (id : Nat)
  | ret
  | fail
def gdOf (ops : List Oper) (o : Oper) : Option (Option Tmp × Bool) := match o.guard with
  | none => none
  | some (j, w) => some ((ops[j]?).bind (·.dst), w)
def coOf (ops : List Oper) (o : Oper) : CO := ⟨o.dst, o.op, gdOf ops o, []⟩
def drawOf (ops : List Oper) (masks : List Nat) : List Oper → Nat → List CO
  | [], _ => []
  | o :: l, i => ⟨o.dst, o.op, gdOf ops o, (List.range i).filter fun j => !(masks.getD i 0).testBit j⟩ :: drawOf ops masks l (i + 1)
def small : Code → CC
  | .skip => .skip
  | .region _ ops false => .region (ops.toList.map (coOf ops.toList))
  | .region _ ops true => .draw (drawOf ops.toList (befs ops.toList []) ops.toList 0)
  | .seq a b => .seq (small a) (small b)
  | .cond c x y => .cond c (small x) (small y)
  | .block id c => .block id (small c)
  | .loop c => .loop (small c)
  | .exit id => .exit id
  | .ret => .ret
  | _ => .fail

/-! ### what is still to be done -/
def kops (E : Env) (kb : Nat) (K : St → Prop) (Q : PV → St → Prop) : List CO → Nat → St → Prop
  | [], _, st => K st
  | o :: rest, i, st => match o.gd with
    | none => aop E (kb + i) ⟨o.dst, o.op, 0, "", #[], none⟩ st (kops E kb K Q rest (i + 1)) Q
    | some (none, _) => False
    | some (some d, want) => match st.sl d with
      | .bool b => (b = want → aop E (kb + i) ⟨o.dst, o.op, 0, "", #[], none⟩ st (kops E kb K Q rest (i + 1)) Q) ∧ (b = !want → kops E kb K Q rest (i + 1) ⟨putSl st.sl o.dst (.tup []), st.σ, st.nx⟩)
      | .tup [] => kops E kb K Q rest (i + 1) ⟨putSl st.sl o.dst (.tup []), st.σ, st.nx⟩
      | _ => False
def okAcc (m : Mem) (un : List Nat) : List (Nat × Mem) → Prop
  | [] => True
  | p :: acc => (un.contains p.1 = true → Mem.apart p.2 m) ∧ okAcc m un acc
def kdraw (E : Env) (kb : Nat) (K : St → Prop) : List CO → Nat → List (Nat × Mem) → St → Prop
  | [], _, _, st => K st
  | o :: rest, i, acc, st =>
    let go : Prop := match callee E st.sl o.op with
      | some (g, args) => (∃ v, Pure E g args v ∧ kdraw E kb K rest (i + 1) acc ⟨putSl st.sl o.dst v, st.σ, st.nx⟩) ∨
          (∃ v σ' nx', Fn E g st.σ st.nx args (.ret v) σ' nx' ∧ (∀ p ∈ acc, o.un.contains p.1 = false) ∧ kdraw E kb K rest (i + 1) ((i, { imp := true }) :: acc) ⟨putSl st.sl o.dst v, σ', nx'⟩)
      | none => match evalOp E (kb + i) st.sl st.σ o.op with
        | some (c, eff) => c ∧ okAcc { rd := eff.rd, wr := eff.wr.map (·.1) } o.un acc ∧ kdraw E kb K rest (i + 1) (accAdd i eff.rd (eff.wr.map (·.1)) acc) ⟨putSl st.sl o.dst eff.val, app st.σ eff.wr, st.nx⟩
        | none => False
    match o.gd with
    | none => go
    | some (none, _) => False
    | some (some d, want) => match st.sl d with
      | .bool b => (b = want → go) ∧ (b = !want → kdraw E kb K rest (i + 1) acc ⟨putSl st.sl o.dst (.tup []), st.σ, st.nx⟩)
      | .tup [] => kdraw E kb K rest (i + 1) acc ⟨putSl st.sl o.dst (.tup []), st.σ, st.nx⟩
      | _ => False
def cwp (E : Env) : CC → (AExit → St → Prop) → St → Prop
  | .skip, Q, st => Q .normal st
  | .region l, Q, st => kops E st.nx (Q .normal) (fun v st' => Q (.panic v) st') l 0 ⟨st.sl, st.σ, st.nx + l.length⟩
  | .draw l, Q, st => kdraw E st.nx (Q .normal) l 0 [] ⟨st.sl, st.σ, st.nx + l.length⟩
  | .seq a b, Q, st => cwp E a (fun e st' => match e with
    | .normal => cwp E b Q st'
    | e => Q e st') st
  | .cond c x y, Q, st => match opd E st.sl c with
    | .bool b => (b = true → cwp E x Q st) ∧ (b = false → cwp E y Q st)
    | _ => False
  | .block id c, Q, st => cwp E c (fun e st' => match e with
    | .exit j => if j = id then Q .normal st' else Q (.exit j) st'
    | e => Q e st') st
  | .loop c, Q, st => ∃ n, aloop (cwp E c) Q n st
  | .exit id, Q, st => Q (.exit id) st
  | .ret, Q, st => Q .ret st
  | .fail, _, _ => False

theorem aop_small {E : Env} {key : Nat} {o : Oper} {st : St} {K : St → Prop} {Q : PV → St → Prop} (h : aop E key ⟨o.dst, o.op, 0, "", #[], none⟩ st K Q) : aop E key o st K Q := h
theorem kops_aops {E : Env} {kb : Nat} {ops : Array Oper} {K : St → Prop} {Q : PV → St → Prop} : ∀ (l : List Oper) (i : Nat) (st : St), kops E kb K Q (l.map (coOf ops.toList)) i st → aops E kb ops K Q l i st
  | [], i, st, h => h
  | o :: rest, i, st, h => by
    rw [aops_cons]
    simp only [List.map_cons, kops, coOf, gdOf] at h
    have next := fun st => kops_aops (E := E) (kb := kb) (ops := ops) (K := K) (Q := Q) rest (i + 1) st
    cases hg : o.guard with
    | none =>
      rw [hg] at h
      exact aop_small (aop_mono next (fun _ _ h => h) h)
    | some jw =>
      obtain ⟨j, want⟩ := jw
      rw [hg] at h
      simp only at h ⊢
      unfold guarded
      rw [Array.getElem?_toList] at h
      cases hd : (ops[j]?).bind (·.dst) with
      | none => rw [hd] at h; exact h.elim
      | some d =>
        rw [hd] at h
        simp only at h ⊢
        generalize hv : st.sl d = pv at h ⊢
        split at h
        · exact ⟨fun e => aop_small (aop_mono next (fun _ _ h => h) (h.1 e)), fun e => next _ (h.2 e)⟩
        · exact next _ h
        · exact h.elim
theorem kdraw_adraw {E : Env} {kb : Nat} {ops : Array Oper} {K : St → Prop} : ∀ (l : List Oper) (i : Nat) (acc : List (Nat × Mem)) (st : St), (∀ p ∈ acc, p.1 < i) → kdraw E kb K (drawOf ops.toList (befs ops.toList []) l i) i acc st → adraw E kb ops K l i acc st
  | [], i, acc, st, _, h => h
  | o :: rest, i, acc, st, hacc, h => by
    rw [adraw_cons]
    simp only [drawOf, kdraw, gdOf] at h
    have hun : ∀ j, j < i → ((List.range i).filter fun j => !((befs ops.toList []).getD i 0).testBit j).contains j = false → before ops j i = true := by
      intro j hj h
      have : ¬ j ∈ (List.range i).filter fun j => !((befs ops.toList []).getD i 0).testBit j := by simpa using h
      rw [List.mem_filter] at this
      unfold before
      cases hb : ((befs ops.toList []).getD i 0).testBit j with
      | true => rfl
      | false => exact (this ⟨List.mem_range.2 hj, by rw [hb]; rfl⟩).elim
    have hok : ∀ (m : Mem) (acc : List (Nat × Mem)), (∀ p ∈ acc, p.1 < i) → okAcc m ((List.range i).filter fun j => !((befs ops.toList []).getD i 0).testBit j) acc → ∀ p ∈ acc, Mem.apart p.2 m ∨ before ops p.1 i = true := by
      intro m acc
      induction acc with
      | nil => intro _ _ p hp; cases hp
      | cons q acc ih =>
        intro hlt h p hp
        rcases List.mem_cons.1 hp with rfl | hp
        · cases hc : ((List.range i).filter fun j => !((befs ops.toList []).getD i 0).testBit j).contains p.1 with
          | true => exact .inl (h.1 hc)
          | false => exact .inr (hun _ (hlt p (List.mem_cons_self ..)) hc)
        · exact ih (fun p hp => hlt p (List.mem_cons_of_mem _ hp)) h.2 p hp
    have lt1 : ∀ p ∈ acc, p.1 < i + 1 := fun p hp => Nat.lt_succ_of_lt (hacc p hp)
    have lt2 : ∀ m, ∀ p ∈ (i, m) :: acc, p.1 < i + 1 := by
      intro m p hp
      rcases List.mem_cons.1 hp with rfl | hp
      · exact Nat.lt_succ_self _
      · exact lt1 p hp
    have go : ∀ st, (match callee E st.sl o.op with
      | some (g, args) => (∃ v, Pure E g args v ∧ kdraw E kb K (drawOf ops.toList (befs ops.toList []) rest (i + 1)) (i + 1) acc ⟨putSl st.sl o.dst v, st.σ, st.nx⟩) ∨
          (∃ v σ' nx', Fn E g st.σ st.nx args (.ret v) σ' nx' ∧ (∀ p ∈ acc, ((List.range i).filter fun j => !((befs ops.toList []).getD i 0).testBit j).contains p.1 = false) ∧ kdraw E kb K (drawOf ops.toList (befs ops.toList []) rest (i + 1)) (i + 1) ((i, { imp := true }) :: acc) ⟨putSl st.sl o.dst v, σ', nx'⟩)
      | none => match evalOp E (kb + i) st.sl st.σ o.op with
        | some (c, eff) => c ∧ okAcc { rd := eff.rd, wr := eff.wr.map (·.1) } ((List.range i).filter fun j => !((befs ops.toList []).getD i 0).testBit j) acc ∧ kdraw E kb K (drawOf ops.toList (befs ops.toList []) rest (i + 1)) (i + 1) (accAdd i eff.rd (eff.wr.map (·.1)) acc) ⟨putSl st.sl o.dst eff.val, app st.σ eff.wr, st.nx⟩
        | none => False) → adrawGo E kb ops K o rest i acc st := by
      intro st h
      unfold adrawGo
      cases hc : callee E st.sl o.op with
      | some ga =>
        obtain ⟨g, args⟩ := ga
        rw [hc] at h
        simp only at h ⊢
        rcases h with ⟨v, h1, h2⟩ | ⟨v, σ', nx', h1, h2, h3⟩
        · exact .inl ⟨v, h1, kdraw_adraw rest (i + 1) acc _ lt1 h2⟩
        · exact .inr ⟨v, σ', nx', h1, fun p hp => hun _ (hacc p hp) (h2 p hp), kdraw_adraw rest (i + 1) _ _ (lt2 _) h3⟩
      | none =>
        rw [hc] at h
        simp only at h ⊢
        cases he : evalOp E (kb + i) st.sl st.σ o.op with
        | some ce =>
          obtain ⟨c, eff⟩ := ce
          rw [he] at h
          simp only at h ⊢
          refine ⟨h.1, hok _ acc hacc h.2.1, kdraw_adraw rest (i + 1) _ _ ?_ h.2.2⟩
          unfold accAdd
          split
          · exact lt1
          · exact lt2 _
        | none => rw [he] at h; exact h.elim
    cases hg : o.guard with
    | none =>
      rw [hg] at h
      exact go st h
    | some jw =>
      obtain ⟨j, want⟩ := jw
      rw [hg] at h
      simp only at h ⊢
      unfold guarded
      rw [Array.getElem?_toList] at h
      cases hd : (ops[j]?).bind (·.dst) with
      | none => rw [hd] at h; exact h.elim
      | some d =>
        rw [hd] at h
        simp only at h ⊢
        generalize hv : st.sl d = pv at h ⊢
        split at h
        · exact ⟨fun e => go st (h.1 e), fun e => kdraw_adraw rest (i + 1) acc _ lt1 (h.2 e)⟩
        · exact kdraw_adraw rest (i + 1) acc _ lt1 h
        · exact h.elim
theorem drawOf_length (ops : List Oper) (masks : List Nat) : ∀ (l : List Oper) (i : Nat), (drawOf ops masks l i).length = l.length
  | [], _ => rfl
  | _ :: l, i => by simp [drawOf, drawOf_length ops masks l (i + 1)]
theorem aloop_of {body body' : (AExit → St → Prop) → St → Prop} (hm : ∀ Q Q' st, (∀ e st, Q e st → Q' e st) → body Q st → body Q' st) (hb : ∀ Q st, body' Q st → body Q st) (Q : AExit → St → Prop) : ∀ (n : Nat) (st : St), aloop body' Q n st → aloop body Q n st
  | 0, _, h => h.elim
  | n + 1, st, h => by
    refine hm _ _ st (fun e st' he => ?_) (hb _ _ h)
    cases e with
    | normal => exact aloop_of hm hb Q n st' he
    | exit id => exact he
    | ret => exact he
    | panic v => exact he
theorem cwp_awp {E : Env} : ∀ (c : Code) (Q : AExit → St → Prop) (st : St), cwp E (small c) Q st → awp E c Q st
  | .skip, _, _, h => h
  | .region _ ops false, Q, st, h => by
    simp only [small, cwp, List.length_map, Array.length_toList] at h
    exact kops_aops _ _ _ h
  | .region _ ops true, Q, st, h => by
    simp only [small, cwp, drawOf_length, Array.length_toList] at h
    exact kdraw_adraw _ _ _ _ (fun p hp => by cases hp) h
  | .seq a b, Q, st, h => by
    rw [awp_seq]
    refine awp_mono a _ _ st (fun e st' he => ?_) (cwp_awp a _ st h)
    cases e with
    | normal => exact cwp_awp b Q st' he
    | exit id => exact he
    | ret => exact he
    | panic v => exact he
  | .cond c x y, Q, st, h => by
    rw [awp_cond]
    simp only [small, cwp] at h
    generalize opd E st.sl c = pv at h ⊢
    split at h
    · exact ⟨fun e => cwp_awp x Q st (h.1 e), fun e => cwp_awp y Q st (h.2 e)⟩
    · exact h.elim
  | .block id c, Q, st, h => cwp_awp c _ st h
  | .loop c, Q, st, h => by
    obtain ⟨n, h⟩ := h
    exact ⟨n, aloop_of (awp_mono c) (cwp_awp c) Q n st h⟩
  | .exit _, _, _, h => h
  | .ret, _, _, h => h
  | .rangeFunc .., _, _, h => h.elim
  | .scope .., _, _, h => h.elim
  | .label .., _, _, h => h.elim
  | .goto .., _, _, h => h.elim
  | .refuse .., _, _, h => h.elim
end Go.Proofs.YtdajoilaakiinaaGreatDoor.Awp

/- The rules by which a body of small code is worked off by rewriting: what is still to be done is data. -/
namespace Go.Proofs.YtdajoilaakiinaaGreatDoor.Awp
open Go

theorem kops_mono {E : Env} {kb : Nat} {K K' : St → Prop} {Q Q' : PV → St → Prop} (hK : ∀ st, K st → K' st) (hQ : ∀ p st, Q p st → Q' p st) : ∀ (l : List CO) (i : Nat) (st : St), kops E kb K Q l i st → kops E kb K' Q' l i st
  | [], i, st, h => hK _ h
  | o :: rest, i, st, h => by
    unfold kops at *
    generalize o.gd = gd at h ⊢
    rcases gd with _ | ⟨_ | d, want⟩
    · exact aop_mono (kops_mono hK hQ rest (i + 1)) hQ h
    · exact h.elim
    · simp only at h ⊢
      generalize st.sl d = pv at h ⊢
      split at h
      · exact ⟨fun e => aop_mono (kops_mono hK hQ rest (i + 1)) hQ (h.1 e), fun e => kops_mono hK hQ rest (i + 1) _ (h.2 e)⟩
      · exact kops_mono hK hQ rest (i + 1) _ h
      · exact h.elim
def kdrawGo (E : Env) (kb : Nat) (K : St → Prop) (o : CO) (rest : List CO) (i : Nat) (acc : List (Nat × Mem)) (st : St) : Prop := match callee E st.sl o.op with
  | some (g, args) => (∃ v, Pure E g args v ∧ kdraw E kb K rest (i + 1) acc ⟨putSl st.sl o.dst v, st.σ, st.nx⟩) ∨
      (∃ v σ' nx', Fn E g st.σ st.nx args (.ret v) σ' nx' ∧ (∀ p ∈ acc, o.un.contains p.1 = false) ∧ kdraw E kb K rest (i + 1) ((i, { imp := true }) :: acc) ⟨putSl st.sl o.dst v, σ', nx'⟩)
  | none => match evalOp E (kb + i) st.sl st.σ o.op with
    | some (c, eff) => c ∧ okAcc { rd := eff.rd, wr := eff.wr.map (·.1) } o.un acc ∧ kdraw E kb K rest (i + 1) (accAdd i eff.rd (eff.wr.map (·.1)) acc) ⟨putSl st.sl o.dst eff.val, app st.σ eff.wr, st.nx⟩
    | none => False
theorem kdraw_cons (E : Env) (kb : Nat) (K : St → Prop) (o : CO) (rest : List CO) (i : Nat) (acc : List (Nat × Mem)) (st : St) : kdraw E kb K (o :: rest) i acc st = (match o.gd with
    | none => kdrawGo E kb K o rest i acc st
    | some (none, _) => False
    | some (some d, want) => match st.sl d with
      | .bool b => (b = want → kdrawGo E kb K o rest i acc st) ∧ (b = !want → kdraw E kb K rest (i + 1) acc ⟨putSl st.sl o.dst (.tup []), st.σ, st.nx⟩)
      | .tup [] => kdraw E kb K rest (i + 1) acc ⟨putSl st.sl o.dst (.tup []), st.σ, st.nx⟩
      | _ => False) := rfl
theorem kdraw_mono {E : Env} {kb : Nat} {K K' : St → Prop} (hK : ∀ st, K st → K' st) : ∀ (l : List CO) (i : Nat) (acc : List (Nat × Mem)) (st : St), kdraw E kb K l i acc st → kdraw E kb K' l i acc st
  | [], i, acc, st, h => hK _ h
  | o :: rest, i, acc, st, h => by
    have go : kdrawGo E kb K o rest i acc st → kdrawGo E kb K' o rest i acc st := by
      intro h
      unfold kdrawGo at *
      generalize callee E st.sl o.op = cc at h ⊢
      rcases cc with _ | ⟨g, args⟩
      · simp only at h ⊢
        generalize evalOp E (kb + i) st.sl st.σ o.op = ee at h ⊢
        rcases ee with _ | ⟨c, eff⟩
        · exact h
        · exact ⟨h.1, h.2.1, kdraw_mono hK rest (i + 1) _ _ h.2.2⟩
      · rcases h with ⟨v, h1, h2⟩ | ⟨v, σ', nx', h1, h2, h3⟩
        · exact .inl ⟨v, h1, kdraw_mono hK rest (i + 1) acc _ h2⟩
        · exact .inr ⟨v, σ', nx', h1, h2, kdraw_mono hK rest (i + 1) _ _ h3⟩
    rw [kdraw_cons] at *
    generalize o.gd = gd at h ⊢
    rcases gd with _ | ⟨_ | d, want⟩
    · exact go h
    · exact h.elim
    · simp only at h ⊢
      generalize st.sl d = pv at h ⊢
      split at h
      · exact ⟨fun e => go (h.1 e), fun e => kdraw_mono hK rest (i + 1) acc _ (h.2 e)⟩
      · exact kdraw_mono hK rest (i + 1) acc _ h
      · exact h.elim
theorem cwp_mono {E : Env} : ∀ (c : CC) (Q Q' : AExit → St → Prop) (st : St), (∀ e st, Q e st → Q' e st) → cwp E c Q st → cwp E c Q' st
  | .skip, _, _, _, hq, h => hq _ _ h
  | .region _, _, _, _, hq, h => kops_mono (fun _ h => hq _ _ h) (fun _ _ h => hq _ _ h) _ _ _ h
  | .draw _, _, _, _, hq, h => kdraw_mono (fun _ h => hq _ _ h) _ _ _ _ h
  | .seq a b, Q, Q', st, hq, h => by
    refine cwp_mono a _ _ st (fun e st' he => ?_) h
    cases e with
    | normal => exact cwp_mono b Q Q' st' hq he
    | exit id => exact hq _ _ he
    | ret => exact hq _ _ he
    | panic v => exact hq _ _ he
  | .cond c x y, Q, Q', st, hq, h => by
    unfold cwp at *
    generalize opd E st.sl c = pv at h ⊢
    split at h
    · exact ⟨fun e => cwp_mono x Q Q' st hq (h.1 e), fun e => cwp_mono y Q Q' st hq (h.2 e)⟩
    · exact h.elim
  | .block id c, Q, Q', st, hq, h => by
    refine cwp_mono c _ _ st (fun e st' he => ?_) h
    cases e with
    | normal => exact hq _ _ he
    | exit j =>
      simp only at he ⊢
      split
      · rename_i hj; rw [if_pos hj] at he; exact hq _ _ he
      · rename_i hj; rw [if_neg hj] at he; exact hq _ _ he
    | ret => exact hq _ _ he
    | panic v => exact hq _ _ he
  | .loop c, Q, Q', st, hq, h => by
    obtain ⟨n, h⟩ := h
    exact ⟨n, aloop_mono (cwp_mono c) hq n n st (Nat.le_refl _) h⟩
  | .exit _, _, _, _, hq, h => hq _ _ h
  | .ret, _, _, _, hq, h => hq _ _ h
  | .fail, _, _, _, _, h => h.elim

inductive Fr where
  | code (c : CC)
  | block (id : Nat)
def kont (E : Env) (Q : AExit → St → Prop) : List Fr → AExit → St → Prop
  | [], e, st => Q e st
  | .code c :: k, .normal, st => cwp E c (kont E Q k) st
  | .code _ :: k, e, st => kont E Q k e st
  | .block id :: k, .exit j, st => if j = id then kont E Q k .normal st else kont E Q k (.exit j) st
  | .block _ :: k, e, st => kont E Q k e st

/-- What is to be done, from a state on. -/
def W (E : Env) (Q : AExit → St → Prop) (k : List Fr) (e : AExit) (sl : Nat → PV) (σ : Store) (nx : Nat) : Prop := kont E Q k e ⟨sl, σ, nx⟩
def WCond (E : Env) (Q : AExit → St → Prop) (x y : CC) (k : List Fr) (sl : Nat → PV) (σ : Store) (nx : Nat) : PV → Prop
  | .bool b => (b = true → W E Q (.code x :: k) .normal sl σ nx) ∧ (b = false → W E Q (.code y :: k) .normal sl σ nx)
  | _ => False
def WLoop (E : Env) (Q : AExit → St → Prop) (c : CC) (k : List Fr) (sl : Nat → PV) (σ : Store) (nx : Nat) : Prop := ∃ n, aloop (cwp E c) (kont E Q k) n ⟨sl, σ, nx⟩
def WOps (E : Env) (Q : AExit → St → Prop) (k : List Fr) (kb : Nat) (l : List CO) (i : Nat) (sl : Nat → PV) (σ : Store) (nx : Nat) : Prop :=
  kops E kb (kont E Q k .normal) (fun v st => Q (.panic v) st) l i ⟨sl, σ, nx⟩
def WEval (E : Env) (Q : AExit → St → Prop) (k : List Fr) (kb : Nat) (dst : Option Tmp) (rest : List CO) (i : Nat) (sl : Nat → PV) (σ : Store) (nx : Nat) : Ev → Prop
  | some (c, eff) => c ∧ WOps E Q k kb rest (i + 1) (putSl sl dst eff.val) (app σ eff.wr) nx
  | none => False
/-- A call: its contract, and what is to be done behind it. -/
def WCall (E : Env) (Q : AExit → St → Prop) (k : List Fr) (kb : Nat) (dst : Option Tmp) (rest : List CO) (i : Nat) (sl : Nat → PV) (σ : Store) (nx : Nat) (g : FuncId) (args : List PV) : Prop :=
  ∃ out σ' nx', Fn E g σ nx args out σ' nx' ∧ (match out with
    | .ret v => WOps E Q k kb rest (i + 1) (putSl sl dst v) σ' nx'
    | .panic v => Q (.panic v) ⟨sl, σ', nx'⟩)
def WOp (E : Env) (Q : AExit → St → Prop) (k : List Fr) (kb : Nat) (dst : Option Tmp) (op : Op) (rest : List CO) (i : Nat) (sl : Nat → PV) (σ : Store) (nx : Nat) : Option (FuncId × List PV) → Prop
  | some (g, args) => WCall E Q k kb dst rest i sl σ nx g args
  | none => WEval E Q k kb dst rest i sl σ nx (evalOp E (kb + i) sl σ op)
/-- An operation with a guard: in each of the two ways the guard's slot holds what it was found to be. -/
def WGuard (E : Env) (Q : AExit → St → Prop) (k : List Fr) (kb : Nat) (dst : Option Tmp) (op : Op) (rest : List CO) (i : Nat) (sl : Nat → PV) (σ : Store) (nx : Nat) (want : Bool) (d : Nat) : PV → Prop
  | .bool b => (b = want → WOp E Q k kb dst op rest i (upd sl d (.bool want)) σ nx (callee E (upd sl d (.bool want)) op)) ∧ (b = !want → WOps E Q k kb rest (i + 1) (putSl (upd sl d (.bool (!want))) dst (.tup [])) σ nx)
  | .tup [] => WOps E Q k kb rest (i + 1) (putSl sl dst (.tup [])) σ nx
  | _ => False

section
variable (E : Env) (Q : AExit → St → Prop) (k : List Fr) (sl : Nat → PV) (σ : Store) (nx : Nat)
theorem w_nil (e : AExit) : W E Q [] e sl σ nx = Q e ⟨sl, σ, nx⟩ := rfl
theorem w_seq (a b : CC) : W E Q (.code (.seq a b) :: k) .normal sl σ nx = W E Q (.code a :: .code b :: k) .normal sl σ nx := by
  show cwp E a _ _ = cwp E a _ _
  congr 1
  funext e st
  cases e <;> rfl
theorem w_skip : W E Q (.code .skip :: k) .normal sl σ nx = W E Q k .normal sl σ nx := rfl
theorem w_ret : W E Q (.code .ret :: k) .normal sl σ nx = W E Q k .ret sl σ nx := rfl
theorem w_exit (id : Nat) : W E Q (.code (.exit id) :: k) .normal sl σ nx = W E Q k (.exit id) sl σ nx := rfl
theorem w_block (id : Nat) (c : CC) : W E Q (.code (.block id c) :: k) .normal sl σ nx = W E Q (.code c :: .block id :: k) .normal sl σ nx := by
  show cwp E c _ _ = cwp E c _ _
  congr 1
  funext e st
  cases e <;> rfl
theorem w_cond (c : Operand) (x y : CC) : W E Q (.code (.cond c x y) :: k) .normal sl σ nx = WCond E Q x y k sl σ nx (opd E sl c) := by
  show (match opd E sl c with | .bool b => _ | _ => False) = _
  cases opd E sl c <;> rfl
theorem w_loop (c : CC) : W E Q (.code (.loop c) :: k) .normal sl σ nx = WLoop E Q c k sl σ nx := rfl
theorem w_code_ret (c : CC) : W E Q (.code c :: k) .ret sl σ nx = W E Q k .ret sl σ nx := rfl
theorem w_code_exit (c : CC) (id : Nat) : W E Q (.code c :: k) (.exit id) sl σ nx = W E Q k (.exit id) sl σ nx := rfl
theorem w_block_normal (id : Nat) : W E Q (.block id :: k) .normal sl σ nx = W E Q k .normal sl σ nx := rfl
theorem w_block_ret (id : Nat) : W E Q (.block id :: k) .ret sl σ nx = W E Q k .ret sl σ nx := rfl
theorem w_block_exit (id j : Nat) : W E Q (.block id :: k) (.exit j) sl σ nx = if j = id then W E Q k .normal sl σ nx else W E Q k (.exit j) sl σ nx := rfl
theorem kont_panic (v : PV) (st : St) : ∀ k, kont E Q k (.panic v) st = Q (.panic v) st
  | [] => rfl
  | .code _ :: k => kont_panic v st k
  | .block _ :: k => kont_panic v st k
theorem w_region (l : List CO) : W E Q (.code (.region l) :: k) .normal sl σ nx = WOps E Q k nx l 0 sl σ (nx + l.length) := by
  show kops E nx _ (fun v st' => kont E Q k (.panic v) st') l 0 _ = kops E nx _ _ _ _ _
  congr 1
  funext v st
  exact kont_panic E Q v st k
theorem wops_nil (kb : Nat) (i : Nat) : WOps E Q k kb [] i sl σ nx = W E Q k .normal sl σ nx := rfl
theorem wop_eq (kb : Nat) (dst : Option Tmp) (op : Op) (rest : List CO) (i : Nat) : aop E (kb + i) ⟨dst, op, 0, "", #[], none⟩ ⟨sl, σ, nx⟩ (kops E kb (kont E Q k .normal) (fun v st => Q (.panic v) st) rest (i + 1)) (fun v st => Q (.panic v) st) = WOp E Q k kb dst op rest i sl σ nx (callee E sl op) := by
  unfold aop
  simp only
  cases h : callee E sl op with
  | some p => obtain ⟨g, args⟩ := p; rfl
  | none =>
    simp only [WOp]
    cases he : evalOp E (kb + i) sl σ op with
    | none => rfl
    | some p => obtain ⟨c, eff⟩ := p; rfl
theorem wops_cons (kb : Nat) (dst : Option Tmp) (op : Op) (un : List Nat) (rest : List CO) (i : Nat) :
    WOps E Q k kb (⟨dst, op, none, un⟩ :: rest) i sl σ nx = WOp E Q k kb dst op rest i sl σ nx (callee E sl op) := wop_eq E Q k sl σ nx kb dst op rest i
theorem upd_is (sl : Nat → PV) {d : Nat} {v : PV} (h : sl d = v) : upd sl d v = sl := by rw [← h]; exact upd_self sl d
theorem wops_guard (kb : Nat) (dst : Option Tmp) (op : Op) (un : List Nat) (d : Nat) (want : Bool) (rest : List CO) (i : Nat) :
    WOps E Q k kb (⟨dst, op, some (some d, want), un⟩ :: rest) i sl σ nx = WGuard E Q k kb dst op rest i sl σ nx want d (sl d) := by
  have hop := wop_eq E Q k sl σ nx kb dst op rest i
  unfold WOps
  unfold kops
  simp only
  cases h : sl d <;> try rfl
  · rename_i b
    simp only [WGuard]
    rw [hop]
    apply propext
    cases b <;> cases want <;> simp only [upd_is sl h, Bool.not_true, Bool.not_false, reduceCtorEq, false_implies, true_implies, true_and, and_true, forall_const] <;> rfl
  · rename_i vs
    cases vs <;> rfl
theorem wop_none (kb : Nat) (dst : Option Tmp) (op : Op) (rest : List CO) (i : Nat) : WOp E Q k kb dst op rest i sl σ nx none = WEval E Q k kb dst rest i sl σ nx (evalOp E (kb + i) sl σ op) := rfl
theorem wop_some (kb : Nat) (dst : Option Tmp) (op : Op) (rest : List CO) (i : Nat) (g : FuncId) (args : List PV) : WOp E Q k kb dst op rest i sl σ nx (some (g, args)) = WCall E Q k kb dst rest i sl σ nx g args := rfl
theorem weval_some (kb : Nat) (dst : Option Tmp) (rest : List CO) (i : Nat) (c : Prop) (v : PV) (wr : List (Nat × Option AObj)) (rd : List Nat) :
    WEval E Q k kb dst rest i sl σ nx (some (c, ⟨v, wr, rd⟩)) = (c ∧ WOps E Q k kb rest (i + 1) (putSl sl dst v) (app σ wr) nx) := rfl
theorem wguard_bool (kb : Nat) (dst : Option Tmp) (op : Op) (rest : List CO) (i : Nat) (want : Bool) (d : Nat) (b : Bool) :
    WGuard E Q k kb dst op rest i sl σ nx want d (.bool b) = ((b = want → WOp E Q k kb dst op rest i (upd sl d (.bool want)) σ nx (callee E (upd sl d (.bool want)) op)) ∧ (b = !want → WOps E Q k kb rest (i + 1) (putSl (upd sl d (.bool (!want))) dst (.tup [])) σ nx)) := rfl
theorem wguard_skip (kb : Nat) (dst : Option Tmp) (op : Op) (rest : List CO) (i : Nat) (want : Bool) (d : Nat) :
    WGuard E Q k kb dst op rest i sl σ nx want d (.tup []) = WOps E Q k kb rest (i + 1) (putSl sl dst (.tup [])) σ nx := rfl
theorem wguard_tt (kb : Nat) (dst : Option Tmp) (op : Op) (rest : List CO) (i : Nat) (d : Nat) : WGuard E Q k kb dst op rest i sl σ nx true d (.bool true) = WOp E Q k kb dst op rest i (upd sl d (.bool true)) σ nx (callee E (upd sl d (.bool true)) op) := by
  show (_ ∧ _) = _
  simp
theorem wguard_tf (kb : Nat) (dst : Option Tmp) (op : Op) (rest : List CO) (i : Nat) (d : Nat) : WGuard E Q k kb dst op rest i sl σ nx true d (.bool false) = WOps E Q k kb rest (i + 1) (putSl (upd sl d (.bool false)) dst (.tup [])) σ nx := by
  show (_ ∧ _) = _
  simp
theorem wguard_tp (kb : Nat) (dst : Option Tmp) (op : Op) (rest : List CO) (i : Nat) (d : Nat) (p : Prop) [Decidable p] : WGuard E Q k kb dst op rest i sl σ nx true d (.bool (decide p)) = ((p → WOp E Q k kb dst op rest i (upd sl d (.bool true)) σ nx (callee E (upd sl d (.bool true)) op)) ∧ (¬p → WOps E Q k kb rest (i + 1) (putSl (upd sl d (.bool false)) dst (.tup [])) σ nx)) := by
  show (_ ∧ _) = _
  simp
theorem wguard_ff (kb : Nat) (dst : Option Tmp) (op : Op) (rest : List CO) (i : Nat) (d : Nat) : WGuard E Q k kb dst op rest i sl σ nx false d (.bool false) = WOp E Q k kb dst op rest i (upd sl d (.bool false)) σ nx (callee E (upd sl d (.bool false)) op) := by
  show (_ ∧ _) = _
  simp
theorem wguard_ft (kb : Nat) (dst : Option Tmp) (op : Op) (rest : List CO) (i : Nat) (d : Nat) : WGuard E Q k kb dst op rest i sl σ nx false d (.bool true) = WOps E Q k kb rest (i + 1) (putSl (upd sl d (.bool true)) dst (.tup [])) σ nx := by
  show (_ ∧ _) = _
  simp
theorem wguard_fp (kb : Nat) (dst : Option Tmp) (op : Op) (rest : List CO) (i : Nat) (d : Nat) (p : Prop) [Decidable p] : WGuard E Q k kb dst op rest i sl σ nx false d (.bool (decide p)) = ((¬p → WOp E Q k kb dst op rest i (upd sl d (.bool false)) σ nx (callee E (upd sl d (.bool false)) op)) ∧ (p → WOps E Q k kb rest (i + 1) (putSl (upd sl d (.bool true)) dst (.tup [])) σ nx)) := by
  show (_ ∧ _) = _
  simp
theorem wcond_t (x y : CC) : WCond E Q x y k sl σ nx (.bool true) = W E Q (.code x :: k) .normal sl σ nx := by
  show (_ ∧ _) = _
  simp
theorem wcond_f (x y : CC) : WCond E Q x y k sl σ nx (.bool false) = W E Q (.code y :: k) .normal sl σ nx := by
  show (_ ∧ _) = _
  simp
theorem wcond_p (x y : CC) (p : Prop) [Decidable p] : WCond E Q x y k sl σ nx (.bool (decide p)) = ((p → W E Q (.code x :: k) .normal sl σ nx) ∧ (¬p → W E Q (.code y :: k) .normal sl σ nx)) := by
  show (_ ∧ _) = _
  simp
theorem wcond_bool (x y : CC) (b : Bool) : WCond E Q x y k sl σ nx (.bool b) = ((b = true → W E Q (.code x :: k) .normal sl σ nx) ∧ (b = false → W E Q (.code y :: k) .normal sl σ nx)) := rfl
/-- What a call needs, from its contract. -/
theorem wcall_of {kb : Nat} {dst : Option Tmp} {rest : List CO} {i : Nat} {g : FuncId} {args : List PV} {v : PV} {σ' : Store} {nx' : Nat} (h : Fn E g σ nx args (.ret v) σ' nx') :
    WOps E Q k kb rest (i + 1) (putSl sl dst v) σ' nx' → WCall E Q k kb dst rest i sl σ nx g args := fun hw => ⟨.ret v, σ', nx', h, hw⟩
theorem wcall_pure {kb : Nat} {dst : Option Tmp} {rest : List CO} {i : Nat} {g : FuncId} {args : List PV} {v : PV} (h : Pure E g args v) :
    WOps E Q k kb rest (i + 1) (putSl sl dst v) σ nx → WCall E Q k kb dst rest i sl σ nx g args := fun hw => ⟨.ret v, σ, nx, h σ nx, hw⟩
end

/-! ### a region that draws -/
def WD (E : Env) (Q : AExit → St → Prop) (k : List Fr) (kb : Nat) (l : List CO) (i : Nat) (acc : List (Nat × Mem)) (sl : Nat → PV) (σ : Store) (nx : Nat) : Prop :=
  kdraw E kb (kont E Q k .normal) l i acc ⟨sl, σ, nx⟩
def WDEval (E : Env) (Q : AExit → St → Prop) (k : List Fr) (kb : Nat) (dst : Option Tmp) (un : List Nat) (rest : List CO) (i : Nat) (acc : List (Nat × Mem)) (sl : Nat → PV) (σ : Store) (nx : Nat) : Ev → Prop
  | some (c, eff) => c ∧ okAcc { rd := eff.rd, wr := eff.wr.map (·.1) } un acc ∧ WD E Q k kb rest (i + 1) (accAdd i eff.rd (eff.wr.map (·.1)) acc) (putSl sl dst eff.val) (app σ eff.wr) nx
  | none => False
def WDCall (E : Env) (Q : AExit → St → Prop) (k : List Fr) (kb : Nat) (dst : Option Tmp) (un : List Nat) (rest : List CO) (i : Nat) (acc : List (Nat × Mem)) (sl : Nat → PV) (σ : Store) (nx : Nat) (g : FuncId) (args : List PV) : Prop :=
  (∃ v, Pure E g args v ∧ WD E Q k kb rest (i + 1) acc (putSl sl dst v) σ nx) ∨
  (∃ v σ' nx', Fn E g σ nx args (.ret v) σ' nx' ∧ (∀ p ∈ acc, un.contains p.1 = false) ∧ WD E Q k kb rest (i + 1) ((i, { imp := true }) :: acc) (putSl sl dst v) σ' nx')
def WDOp (E : Env) (Q : AExit → St → Prop) (k : List Fr) (kb : Nat) (dst : Option Tmp) (op : Op) (un : List Nat) (rest : List CO) (i : Nat) (acc : List (Nat × Mem)) (sl : Nat → PV) (σ : Store) (nx : Nat) : Option (FuncId × List PV) → Prop
  | some (g, args) => WDCall E Q k kb dst un rest i acc sl σ nx g args
  | none => WDEval E Q k kb dst un rest i acc sl σ nx (evalOp E (kb + i) sl σ op)
def WDGuard (E : Env) (Q : AExit → St → Prop) (k : List Fr) (kb : Nat) (dst : Option Tmp) (op : Op) (un : List Nat) (rest : List CO) (i : Nat) (acc : List (Nat × Mem)) (sl : Nat → PV) (σ : Store) (nx : Nat) (want : Bool) (d : Nat) : PV → Prop
  | .bool b => (b = want → WDOp E Q k kb dst op un rest i acc (upd sl d (.bool want)) σ nx (callee E (upd sl d (.bool want)) op)) ∧ (b = !want → WD E Q k kb rest (i + 1) acc (putSl (upd sl d (.bool (!want))) dst (.tup [])) σ nx)
  | .tup [] => WD E Q k kb rest (i + 1) acc (putSl sl dst (.tup [])) σ nx
  | _ => False

section
variable (E : Env) (Q : AExit → St → Prop) (k : List Fr) (sl : Nat → PV) (σ : Store) (nx : Nat)
theorem w_draw (l : List CO) : W E Q (.code (.draw l) :: k) .normal sl σ nx = WD E Q k nx l 0 [] sl σ (nx + l.length) := rfl
theorem wd_nil (kb : Nat) (i : Nat) (acc : List (Nat × Mem)) : WD E Q k kb [] i acc sl σ nx = W E Q k .normal sl σ nx := rfl
theorem wdop_eq (kb : Nat) (dst : Option Tmp) (op : Op) (gd : Option (Option Tmp × Bool)) (un : List Nat) (rest : List CO) (i : Nat) (acc : List (Nat × Mem)) : kdrawGo E kb (kont E Q k .normal) ⟨dst, op, gd, un⟩ rest i acc ⟨sl, σ, nx⟩ = WDOp E Q k kb dst op un rest i acc sl σ nx (callee E sl op) := by
  unfold kdrawGo
  simp only
  cases h : callee E sl op with
  | some p => obtain ⟨g, args⟩ := p; rfl
  | none =>
    simp only [WDOp]
    cases he : evalOp E (kb + i) sl σ op with
    | none => rfl
    | some p => obtain ⟨c, eff⟩ := p; rfl
theorem wd_cons (kb : Nat) (dst : Option Tmp) (op : Op) (un : List Nat) (rest : List CO) (i : Nat) (acc : List (Nat × Mem)) :
    WD E Q k kb (⟨dst, op, none, un⟩ :: rest) i acc sl σ nx = WDOp E Q k kb dst op un rest i acc sl σ nx (callee E sl op) := wdop_eq E Q k sl σ nx kb dst op none un rest i acc
theorem wd_guard (kb : Nat) (dst : Option Tmp) (op : Op) (un : List Nat) (d : Nat) (want : Bool) (rest : List CO) (i : Nat) (acc : List (Nat × Mem)) :
    WD E Q k kb (⟨dst, op, some (some d, want), un⟩ :: rest) i acc sl σ nx = WDGuard E Q k kb dst op un rest i acc sl σ nx want d (sl d) := by
  have hop := wdop_eq E Q k sl σ nx kb dst op (some (some d, want)) un rest i acc
  unfold WD
  rw [kdraw_cons]
  simp only
  cases h : sl d <;> try rfl
  · rename_i b
    simp only [WDGuard]
    rw [hop]
    apply propext
    cases b <;> cases want <;> simp only [upd_is sl h, Bool.not_true, Bool.not_false, reduceCtorEq, false_implies, true_implies, true_and, and_true, forall_const] <;> rfl
  · rename_i vs
    cases vs <;> rfl
theorem wdop_none (kb : Nat) (dst : Option Tmp) (op : Op) (un : List Nat) (rest : List CO) (i : Nat) (acc : List (Nat × Mem)) : WDOp E Q k kb dst op un rest i acc sl σ nx none = WDEval E Q k kb dst un rest i acc sl σ nx (evalOp E (kb + i) sl σ op) := rfl
theorem wdop_some (kb : Nat) (dst : Option Tmp) (op : Op) (un : List Nat) (rest : List CO) (i : Nat) (acc : List (Nat × Mem)) (g : FuncId) (args : List PV) : WDOp E Q k kb dst op un rest i acc sl σ nx (some (g, args)) = WDCall E Q k kb dst un rest i acc sl σ nx g args := rfl
theorem wdeval_some (kb : Nat) (dst : Option Tmp) (un : List Nat) (rest : List CO) (i : Nat) (acc : List (Nat × Mem)) (c : Prop) (v : PV) (wr : List (Nat × Option AObj)) (rd : List Nat) :
    WDEval E Q k kb dst un rest i acc sl σ nx (some (c, ⟨v, wr, rd⟩)) = (c ∧ okAcc ⟨rd, wr.map (·.1), false⟩ un acc ∧ WD E Q k kb rest (i + 1) (accAdd i rd (wr.map (·.1)) acc) (putSl sl dst v) (app σ wr) nx) := rfl
theorem wdguard_bool (kb : Nat) (dst : Option Tmp) (op : Op) (un : List Nat) (rest : List CO) (i : Nat) (acc : List (Nat × Mem)) (want : Bool) (d : Nat) (b : Bool) :
    WDGuard E Q k kb dst op un rest i acc sl σ nx want d (.bool b) = ((b = want → WDOp E Q k kb dst op un rest i acc (upd sl d (.bool want)) σ nx (callee E (upd sl d (.bool want)) op)) ∧ (b = !want → WD E Q k kb rest (i + 1) acc (putSl (upd sl d (.bool (!want))) dst (.tup [])) σ nx)) := rfl
theorem wdguard_skip (kb : Nat) (dst : Option Tmp) (op : Op) (un : List Nat) (rest : List CO) (i : Nat) (acc : List (Nat × Mem)) (want : Bool) (d : Nat) :
    WDGuard E Q k kb dst op un rest i acc sl σ nx want d (.tup []) = WD E Q k kb rest (i + 1) acc (putSl sl dst (.tup [])) σ nx := rfl
theorem wdguard_tt (kb : Nat) (dst : Option Tmp) (op : Op) (un : List Nat) (rest : List CO) (i : Nat) (acc : List (Nat × Mem)) (d : Nat) : WDGuard E Q k kb dst op un rest i acc sl σ nx true d (.bool true) = WDOp E Q k kb dst op un rest i acc (upd sl d (.bool true)) σ nx (callee E (upd sl d (.bool true)) op) := by
  show (_ ∧ _) = _
  simp
theorem wdguard_tf (kb : Nat) (dst : Option Tmp) (op : Op) (un : List Nat) (rest : List CO) (i : Nat) (acc : List (Nat × Mem)) (d : Nat) : WDGuard E Q k kb dst op un rest i acc sl σ nx true d (.bool false) = WD E Q k kb rest (i + 1) acc (putSl (upd sl d (.bool false)) dst (.tup [])) σ nx := by
  show (_ ∧ _) = _
  simp
theorem wdguard_tp (kb : Nat) (dst : Option Tmp) (op : Op) (un : List Nat) (rest : List CO) (i : Nat) (acc : List (Nat × Mem)) (d : Nat) (p : Prop) [Decidable p] : WDGuard E Q k kb dst op un rest i acc sl σ nx true d (.bool (decide p)) = ((p → WDOp E Q k kb dst op un rest i acc (upd sl d (.bool true)) σ nx (callee E (upd sl d (.bool true)) op)) ∧ (¬p → WD E Q k kb rest (i + 1) acc (putSl (upd sl d (.bool false)) dst (.tup [])) σ nx)) := by
  show (_ ∧ _) = _
  simp
theorem wdguard_ff (kb : Nat) (dst : Option Tmp) (op : Op) (un : List Nat) (rest : List CO) (i : Nat) (acc : List (Nat × Mem)) (d : Nat) : WDGuard E Q k kb dst op un rest i acc sl σ nx false d (.bool false) = WDOp E Q k kb dst op un rest i acc (upd sl d (.bool false)) σ nx (callee E (upd sl d (.bool false)) op) := by
  show (_ ∧ _) = _
  simp
theorem wdguard_ft (kb : Nat) (dst : Option Tmp) (op : Op) (un : List Nat) (rest : List CO) (i : Nat) (acc : List (Nat × Mem)) (d : Nat) : WDGuard E Q k kb dst op un rest i acc sl σ nx false d (.bool true) = WD E Q k kb rest (i + 1) acc (putSl (upd sl d (.bool true)) dst (.tup [])) σ nx := by
  show (_ ∧ _) = _
  simp
theorem wdguard_fp (kb : Nat) (dst : Option Tmp) (op : Op) (un : List Nat) (rest : List CO) (i : Nat) (acc : List (Nat × Mem)) (d : Nat) (p : Prop) [Decidable p] : WDGuard E Q k kb dst op un rest i acc sl σ nx false d (.bool (decide p)) = ((¬p → WDOp E Q k kb dst op un rest i acc (upd sl d (.bool false)) σ nx (callee E (upd sl d (.bool false)) op)) ∧ (p → WD E Q k kb rest (i + 1) acc (putSl (upd sl d (.bool true)) dst (.tup [])) σ nx)) := by
  show (_ ∧ _) = _
  simp
theorem ok_nil (m : Mem) (un : List Nat) : okAcc m un [] = True := rfl
/-- What surely comes in this order. -/
theorem ok_cons (m : Mem) (un : List Nat) (j : Nat) (n : Mem) (acc : List (Nat × Mem)) : okAcc m un ((j, n) :: acc) = ((un.contains j = true → Mem.apart n m) ∧ okAcc m un acc) := rfl
theorem apart_read (rd rd' : List Nat) : Mem.apart ⟨rd, [], false⟩ ⟨rd', [], false⟩ = True := by simp [Mem.apart]
theorem apart_none (rd wr : List Nat) : Mem.apart ⟨rd, wr, false⟩ ⟨[], [], false⟩ = True := by simp [Mem.apart]
theorem apart_calls (rd wr : List Nat) : Mem.apart ⟨rd, wr, true⟩ ⟨[], [], false⟩ = True := by simp [Mem.apart]
theorem accadd_none (i : Nat) (acc : List (Nat × Mem)) : accAdd i [] [] acc = acc := rfl
theorem accadd_rd (i x : Nat) (rd wr : List Nat) (acc : List (Nat × Mem)) : accAdd i (x :: rd) wr acc = (i, ⟨x :: rd, wr, false⟩) :: acc := rfl
theorem accadd_wr (i x : Nat) (wr : List Nat) (acc : List (Nat × Mem)) : accAdd i [] (x :: wr) acc = (i, ⟨[], x :: wr, false⟩) :: acc := rfl
theorem wdcall_pure {kb : Nat} {dst : Option Tmp} {un : List Nat} {rest : List CO} {i : Nat} {acc : List (Nat × Mem)} {g : FuncId} {args : List PV} {v : PV} (h : Pure E g args v) :
    WD E Q k kb rest (i + 1) acc (putSl sl dst v) σ nx → WDCall E Q k kb dst un rest i acc sl σ nx g args := fun hw => .inl ⟨v, h, hw⟩
theorem wdcall_of {kb : Nat} {dst : Option Tmp} {un : List Nat} {rest : List CO} {i : Nat} {acc : List (Nat × Mem)} {g : FuncId} {args : List PV} {v : PV} {σ' : Store} {nx' : Nat} (h : Fn E g σ nx args (.ret v) σ' nx')
    (hacc : ∀ p ∈ acc, un.contains p.1 = false) : WD E Q k kb rest (i + 1) ((i, { imp := true }) :: acc) (putSl sl dst v) σ' nx' → WDCall E Q k kb dst un rest i acc sl σ nx g args := fun hw => .inr ⟨v, σ', nx', h, hacc, hw⟩

/-- What a loop's round must leave. -/
def Again (E : Env) (Q : AExit → St → Prop) (k : List Fr) (I : Nat → (Nat → PV) → Store → Nat → Prop) (m : Nat) : AExit → St → Prop
  | .normal, st => ∃ j, j < m ∧ I j st.sl st.σ st.nx
  | e, st => kont E Q k e st
theorem again_normal (I : Nat → (Nat → PV) → Store → Nat → Prop) (m : Nat) : Again E Q k I m .normal ⟨sl, σ, nx⟩ = ∃ j, j < m ∧ I j sl σ nx := rfl
theorem again_ret (I : Nat → (Nat → PV) → Store → Nat → Prop) (m : Nat) : Again E Q k I m .ret ⟨sl, σ, nx⟩ = W E Q k .ret sl σ nx := rfl
theorem again_exit (I : Nat → (Nat → PV) → Store → Nat → Prop) (m : Nat) (id : Nat) : Again E Q k I m (.exit id) ⟨sl, σ, nx⟩ = W E Q k (.exit id) sl σ nx := rfl
theorem again_panic (I : Nat → (Nat → PV) → Store → Nat → Prop) (m : Nat) (v : PV) : Again E Q k I m (.panic v) ⟨sl, σ, nx⟩ = Q (.panic v) ⟨sl, σ, nx⟩ := kont_panic E Q v _ k
variable {E Q k sl σ nx} in
/-- A loop by what holds at the head of each round, and a number that goes down. -/
theorem wloop_by {c : CC} (I : Nat → (Nat → PV) → Store → Nat → Prop) (n : Nat) (h0 : I n sl σ nx)
    (round : ∀ m sl σ nx, I m sl σ nx → W E (Again E Q k I m) [.code c] .normal sl σ nx) : WLoop E Q c k sl σ nx := by
  have key : ∀ m sl σ nx, I m sl σ nx → aloop (cwp E c) (kont E Q k) (m + 1) ⟨sl, σ, nx⟩ := by
    intro m
    induction m using Nat.strongRecOn with
    | _ m ih =>
      intro sl σ nx h
      refine cwp_mono c _ _ _ (fun e st' he => ?_) (round m sl σ nx h)
      cases e with
      | normal =>
        obtain ⟨j, hj, hi⟩ := he
        exact aloop_mono (cwp_mono c) (fun _ _ h => h) (j + 1) m st' hj (ih j hj _ _ _ hi)
      | exit id => exact he
      | ret => exact he
      | panic v => exact he
  exact ⟨n + 1, key n sl σ nx h0⟩

/-- A body begins. -/
theorem awp_begin {c : Code} {cc : CC} (h : small c = cc) (hw : W E Q [.code cc] .normal sl σ nx) : awp E c Q ⟨sl, σ, nx⟩ := cwp_awp c Q _ (by rw [h]; exact hw)
end
end Go.Proofs.YtdajoilaakiinaaGreatDoor.Awp

/- The rules, as a set for simp. -/
namespace Go.Proofs.YtdajoilaakiinaaGreatDoor.Awp
open Go
theorem nil_eq_nil : (#[] : Array Operand).toList = [] := rfl
theorem bor_zero (n : Nat) : 0 ||| n = n := Nat.zero_or n
theorem not_decide (p : Prop) [Decidable p] : (!decide p) = decide (¬p) := by simp
theorem and_decide (p q : Prop) [Decidable p] [Decidable q] : (decide p && decide q) = decide (p ∧ q) := by simp
theorem testBit_def (m n : Nat) : m.testBit n = (1 &&& (m >>> n) != 0) := rfl
def isStr : PV → Bool
  | .str _ => true
  | _ => false
theorem isStr_str (s : ByteArray) : isStr (.str s) = true := rfl
theorem isStr_list (es : List (List PV)) : isStr (.list es) = false := rfl
theorem isStr_row (k off len : Nat) : isStr (.row k off len) = false := rfl
theorem isStr_nil : isStr .nil = false := rfl
theorem isStr_empty : isStr .empty = false := rfl
theorem lenP_str (s : ByteArray) : lenP (.str s) = some (s.size : Int) := rfl
theorem lenP_list (es : List (List PV)) : lenP (.list es) = some (es.length : Int) := rfl
theorem lenP_row (k off len : Nat) : lenP (.row k off len) = some (len : Int) := rfl
theorem lenP_nil : lenP .nil = some 0 := rfl
theorem lenP_empty : lenP .empty = some 0 := rfl
theorem elems_nil (σ : Store) : elems σ .nil = some (True, [], []) := rfl
theorem elems_empty (σ : Store) : elems σ .empty = some (True, [], []) := rfl
theorem elems_list (σ : Store) (es : List (List PV)) : elems σ (.list es) = some (True, es, []) := rfl
theorem elems_row (σ : Store) (k off len : Nat) : elems σ (.row k off len) = match σ k with
    | some (.row es) => some (off + len ≤ es.length, (es.drop off).take len, [k])
    | _ => none := rfl
theorem one_int (k : IntKind) (n : Int) : one (.int k n) = true := rfl
theorem one_bool (b : Bool) : one (.bool b) = true := rfl
theorem one_str (s : ByteArray) : one (.str s) = true := rfl
theorem one_nil : one .nil = true := rfl
theorem one_empty : one .empty = true := rfl
theorem one_list (es : List (List PV)) : one (.list es) = true := rfl
theorem one_row (k off len : Nat) : one (.row k off len) = true := rfl
theorem one_ptr (k i off : Nat) : one (.ptr k i off) = true := rfl
theorem one_cells (cs : List PV) : one (.cells cs) = true := rfl
theorem one_nilp : one .nilp = true := rfl
theorem one_fn (f : FuncId) (a b : List PV) : one (.fn f a b) = true := rfl
theorem one_nilfn : one .nilfn = true := rfl
theorem one_map (k : Nat) : one (.map k) = true := rfl
theorem one_nilmap : one .nilmap = true := rfl
theorem one_iface (t : TypeId) (v : PV) : one (.iface t v) = true := rfl
theorem one_nili : one .nili = true := rfl
theorem cellsP_agg (cs : List PV) : cellsP (.agg cs) = cs := rfl
theorem cellsP_int (k : IntKind) (n : Int) : cellsP (.int k n) = [.int k n] := rfl
theorem cellsP_bool (b : Bool) : cellsP (.bool b) = [.bool b] := rfl
theorem cellsP_str (s : ByteArray) : cellsP (.str s) = [.str s] := rfl
theorem cellsP_nil  : cellsP .nil = [.nil] := rfl
theorem cellsP_empty  : cellsP .empty = [.empty] := rfl
theorem cellsP_list (es : List (List PV)) : cellsP (.list es) = [.list es] := rfl
theorem cellsP_row (k off len : Nat) : cellsP (.row k off len) = [.row k off len] := rfl
theorem cellsP_ptr (k i off : Nat) : cellsP (.ptr k i off) = [.ptr k i off] := rfl
theorem cellsP_cells (cs : List PV) : cellsP (.cells cs) = [.cells cs] := rfl
theorem cellsP_nilp  : cellsP .nilp = [.nilp] := rfl
theorem cellsP_fn (f : FuncId) (a b : List PV) : cellsP (.fn f a b) = [.fn f a b] := rfl
theorem cellsP_nilfn  : cellsP .nilfn = [.nilfn] := rfl
theorem cellsP_map (k : Nat) : cellsP (.map k) = [.map k] := rfl
theorem cellsP_nilmap  : cellsP .nilmap = [.nilmap] := rfl
theorem cellsP_iface (t : TypeId) (v : PV) : cellsP (.iface t v) = [.iface t v] := rfl
theorem cellsP_nili  : cellsP .nili = [.nili] := rfl
theorem evb_len (E : Env) (key : Nat) (σ : Store) (tys : Array TypeId) (x : PV) : evBuiltin E key σ .len tys [x] = match lenP x with
    | some n => if isStr x = true then (if (tys[0]?).any (tstr E.P) = true then evP (.int .i64 n) else none) else (if (tys[0]?).any (fun t => telem E.P t ≠ none) = true then evP (.int .i64 n) else none)
    | none => none := by
  unfold evBuiltin isStr
  cases x <;> rfl
theorem evb_append (E : Env) (key : Nat) (σ : Store) (tys : Array TypeId) (s x : PV) : evBuiltin E key σ .append tys [s, x] = match tys[0]?, tys[1]? with
    | some t, some u => if telem E.P u = none then (if tint E.P u = none then none else evAppZeros E key σ t s x) else evAppend E key σ t s x
    | _, _ => none := rfl
theorem evb_copy (E : Env) (key : Nat) (σ : Store) (tys : Array TypeId) (d s : PV) : evBuiltin E key σ .copy tys [d, s] = match tys[0]?, tys[1]? with
    | some t, some u => if telem E.P u = none then none else evCopy E σ t d s
    | _, _ => none := rfl
theorem evb_clear (E : Env) (key : Nat) (σ : Store) (tys : Array TypeId) (x : PV) : evBuiltin E key σ .clear tys [x] = match tys[0]? with
    | some t => evClear E σ t x
    | none => none := rfl
theorem evb_cap (E : Env) (key : Nat) (σ : Store) (tys : Array TypeId) (x : PV) : evBuiltin E key σ .cap tys [x] = match tys[0]? with
    | some t => evCap E t x
    | none => none := rfl
theorem single_eq (a b : Nat) : ([a] = [b]) = (a = b) := by simp
theorem two_eq (a b c : Nat) (l : List Nat) : (a :: b :: l = [c]) = False := by simp
theorem none_eq (c : Nat) : (([] : List Nat) = [c]) = False := by simp
theorem bytesL_nil : bytesL [] = some [] := rfl
theorem bytesL_cons (n : Int) (xs : List (List PV)) : bytesL ([.int .u8 n] :: xs) = (bytesL xs).map (UInt8.ofNat n.toNat :: ·) := rfl
theorem keyOk_int (P : Program) (t : TypeId) (k : IntKind) (n : Int) : keyOk P t (.int k n) = (tint P t).isSome := rfl
theorem keyOk_str (P : Program) (t : TypeId) (s : ByteArray) : keyOk P t (.str s) = tstr P t := rfl
theorem keyOk_bool (P : Program) (t : TypeId) (b : Bool) : keyOk P t (.bool b) = tbool P t := rfl
theorem mgot_some (z v : PV) (ok : Bool) (rd : List Nat) : mgot z ok rd (some (some v)) = some (True, { val := if ok = true then .tup [v, .bool true] else v, rd := rd }) := rfl
theorem mgot_none (z : PV) (ok : Bool) (rd : List Nat) : mgot z ok rd (some none) = some (True, { val := if ok = true then .tup [z, .bool false] else z, rd := rd }) := rfl
theorem mfind_nil (k : PV) : mfind k [] = some none := rfl
theorem evb_max (E : Env) (key : Nat) (σ : Store) (tys : Array TypeId) (k k' : IntKind) (a b : Int) : evBuiltin E key σ .max tys [.int k a, .int k' b] = if k = k' then evP (.int k (if b > a then b else a)) else none := rfl
theorem evb_min (E : Env) (key : Nat) (σ : Store) (tys : Array TypeId) (k k' : IntKind) (a b : Int) : evBuiltin E key σ .min tys [.int k a, .int k' b] = if k = k' then evP (.int k (if b < a then b else a)) else none := rfl
theorem mode_any_gc : (Region.Mode.any == Region.Mode.gc) = false := rfl
theorem mode_any_text : (Region.Mode.any == Region.Mode.text) = false := rfl
theorem apart_eq (rd wr rd' wr' : List Nat) : Mem.apart ⟨rd, wr, false⟩ ⟨rd', wr', false⟩ = ((∀ k ∈ wr, k ∉ rd' ∧ k ∉ wr') ∧ ∀ k ∈ wr', k ∉ rd) := by
  unfold Mem.apart
  apply propext
  constructor
  · rintro (⟨rfl, rfl, _⟩ | ⟨rfl, rfl, _⟩ | ⟨_, _, h⟩)
    · simp
    · simp
    · exact h
  · exact fun h => .inr (.inr ⟨rfl, rfl, h⟩)
theorem key_ne {k nx : Nat} (h : k < nx) : (∀ c, (k = nx + c) = False) ∧ (∀ c, (nx + c = k) = False) ∧ (k = nx) = False ∧ (nx = k) = False :=
  ⟨fun c => eq_false (by omega), fun c => eq_false (by omega), eq_false (by omega), eq_false (by omega)⟩
theorem ne_keys {k j : Nat} (h : k ≠ j) : (k = j) = False ∧ (j = k) = False := ⟨eq_false h, eq_false (Ne.symm h)⟩
/-- A slice that nobody writes. -/
inductive SliceP (es : List (List PV)) : PV → Prop
  | list : SliceP es (.list es)
  | nil (h : es = []) : SliceP es .nil
  | empty (h : es = []) : SliceP es .empty
theorem SliceP.len {es : List (List PV)} {v : PV} (h : SliceP es v) : lenP v = some (es.length : Int) := by
  cases h with
  | list => rfl
  | nil h => rw [h]; rfl
  | empty h => rw [h]; rfl
theorem SliceP.str {es : List (List PV)} {v : PV} (h : SliceP es v) : isStr v = false := by cases h <;> rfl
theorem SliceP.one {es : List (List PV)} {v : PV} (h : SliceP es v) : one v = true := by cases h <;> rfl
theorem SliceP.cells {es : List (List PV)} {v : PV} (h : SliceP es v) : cellsP v = [v] := by cases h <;> rfl
theorem SliceP.elems {es : List (List PV)} {v : PV} (h : SliceP es v) (σ : Store) : elems σ v = some (True, es, []) := by
  cases h with
  | list => rfl
  | nil h => rw [h]; rfl
  | empty h => rw [h]; rfl
theorem SliceP.lt {es : List (List PV)} {v : PV} (h : SliceP es v) {i : Nat} (hi : i < es.length) : v = .list es := by
  cases h with
  | list => rfl
  | nil h => rw [h] at hi; simp at hi
  | empty h => rw [h] at hi; simp at hi
section
variable {E : Env} {Q : AExit → St → Prop} {k : List Fr} {sl : Nat → PV} {σ : Store} {nx : Nat}
/-- A guard whose value is not known: both ways. -/
theorem wguard_split_t {kb : Nat} {dst : Option Tmp} {op : Op} {rest : List CO} {i : Nat} {d : Nat} {b : Bool} (h1 : b = true → WOp E Q k kb dst op rest i (upd sl d (.bool true)) σ nx (callee E (upd sl d (.bool true)) op))
    (h2 : b = false → WOps E Q k kb rest (i + 1) (putSl (upd sl d (.bool false)) dst (.tup [])) σ nx) : WGuard E Q k kb dst op rest i sl σ nx true d (.bool b) := ⟨h1, h2⟩
theorem wguard_split_f {kb : Nat} {dst : Option Tmp} {op : Op} {rest : List CO} {i : Nat} {d : Nat} {b : Bool} (h1 : b = false → WOp E Q k kb dst op rest i (upd sl d (.bool false)) σ nx (callee E (upd sl d (.bool false)) op))
    (h2 : b = true → WOps E Q k kb rest (i + 1) (putSl (upd sl d (.bool true)) dst (.tup [])) σ nx) : WGuard E Q k kb dst op rest i sl σ nx false d (.bool b) := ⟨h1, h2⟩
theorem wdguard_split_t {kb : Nat} {dst : Option Tmp} {op : Op} {un : List Nat} {rest : List CO} {i : Nat} {acc : List (Nat × Mem)} {d : Nat} {b : Bool} (h1 : b = true → WDOp E Q k kb dst op un rest i acc (upd sl d (.bool true)) σ nx (callee E (upd sl d (.bool true)) op))
    (h2 : b = false → WD E Q k kb rest (i + 1) acc (putSl (upd sl d (.bool false)) dst (.tup [])) σ nx) : WDGuard E Q k kb dst op un rest i acc sl σ nx true d (.bool b) := ⟨h1, h2⟩
theorem wdguard_split_f {kb : Nat} {dst : Option Tmp} {op : Op} {un : List Nat} {rest : List CO} {i : Nat} {acc : List (Nat × Mem)} {d : Nat} {b : Bool} (h1 : b = false → WDOp E Q k kb dst op un rest i acc (upd sl d (.bool false)) σ nx (callee E (upd sl d (.bool false)) op))
    (h2 : b = true → WD E Q k kb rest (i + 1) acc (putSl (upd sl d (.bool true)) dst (.tup [])) σ nx) : WDGuard E Q k kb dst op un rest i acc sl σ nx false d (.bool b) := ⟨h1, h2⟩
theorem wguard_split {kb : Nat} {dst : Option Tmp} {op : Op} {rest : List CO} {i : Nat} {want : Bool} {d : Nat} {b : Bool} (h1 : b = want → WOp E Q k kb dst op rest i (upd sl d (.bool want)) σ nx (callee E (upd sl d (.bool want)) op))
    (h2 : b = !want → WOps E Q k kb rest (i + 1) (putSl (upd sl d (.bool (!want))) dst (.tup [])) σ nx) : WGuard E Q k kb dst op rest i sl σ nx want d (.bool b) := ⟨h1, h2⟩
theorem wdguard_split {kb : Nat} {dst : Option Tmp} {op : Op} {un : List Nat} {rest : List CO} {i : Nat} {acc : List (Nat × Mem)} {want : Bool} {d : Nat} {b : Bool} (h1 : b = want → WDOp E Q k kb dst op un rest i acc (upd sl d (.bool want)) σ nx (callee E (upd sl d (.bool want)) op))
    (h2 : b = !want → WD E Q k kb rest (i + 1) acc (putSl (upd sl d (.bool (!want))) dst (.tup [])) σ nx) : WDGuard E Q k kb dst op un rest i acc sl σ nx want d (.bool b) := ⟨h1, h2⟩
theorem wcond_split {x y : CC} {b : Bool} (h1 : b = true → W E Q (.code x :: k) .normal sl σ nx) (h2 : b = false → W E Q (.code y :: k) .normal sl σ nx) : WCond E Q x y k sl σ nx (.bool b) := ⟨h1, h2⟩
end
/-- So many rounds of a loop. -/
def WLoopN (E : Env) (Q : AExit → St → Prop) (c : CC) (k : List Fr) (n : Nat) (sl : Nat → PV) (σ : Store) (nx : Nat) : Prop := aloop (cwp E c) (kont E Q k) n ⟨sl, σ, nx⟩
def UnrollN (E : Env) (Q : AExit → St → Prop) (k : List Fr) (c : CC) (n : Nat) : AExit → St → Prop
  | .normal, st => WLoopN E Q c k n st.sl st.σ st.nx
  | e, st => kont E Q k e st
section
variable {E : Env} {Q : AExit → St → Prop} {k : List Fr} {c : CC} {sl : Nat → PV} {σ : Store} {nx : Nat}
theorem unrolln_normal (n : Nat) : UnrollN E Q k c n .normal ⟨sl, σ, nx⟩ = WLoopN E Q c k n sl σ nx := rfl
theorem unrolln_ret (n : Nat) : UnrollN E Q k c n .ret ⟨sl, σ, nx⟩ = W E Q k .ret sl σ nx := rfl
theorem unrolln_exit (n : Nat) (id : Nat) : UnrollN E Q k c n (.exit id) ⟨sl, σ, nx⟩ = W E Q k (.exit id) sl σ nx := rfl
theorem unrolln_panic (n : Nat) (v : PV) : UnrollN E Q k c n (.panic v) ⟨sl, σ, nx⟩ = Q (.panic v) ⟨sl, σ, nx⟩ := kont_panic E Q v _ k
theorem wloopn_succ (n : Nat) : WLoopN E Q c k (n + 1) sl σ nx = W E (UnrollN E Q k c n) [.code c] .normal sl σ nx := by
  show cwp E c _ _ = cwp E c _ _
  congr 1
  funext e st
  cases e <;> rfl
theorem wloop_n (n : Nat) (h : WLoopN E Q c k n sl σ nx) : WLoop E Q c k sl σ nx := ⟨n, h⟩
/-- A loop that ends in its first round. -/
theorem wloop_once (h : W E (UnrollN E Q k c 0) [.code c] .normal sl σ nx) : WLoop E Q c k sl σ nx := wloop_n 1 (by rw [wloopn_succ]; exact h)
end
attribute [push_cast] mode_any_gc mode_any_text apart_eq List.mem_cons List.not_mem_nil or_false false_or not_false_eq_true forall_eq_or_imp forall_eq ck eq_self unrolln_normal unrolln_ret unrolln_exit unrolln_panic
theorem wrap_fits {n : Int} (h : -9223372036854775808 ≤ n) (h' : n ≤ 9223372036854775807) : IntKind.i64.wrap n = n := by
  rw [IntKind.wrap_i64]
  omega
attribute [push_cast] w_nil w_seq w_skip w_ret w_exit w_block w_cond w_loop w_code_ret w_code_exit w_block_normal w_block_ret w_block_exit w_region wops_nil wops_cons wops_guard wop_none wop_some weval_some wguard_tt wguard_tf wguard_tp wguard_ff wguard_ft wguard_fp wguard_skip wcond_t wcond_f wcond_p w_draw wd_nil wd_cons wd_guard wdop_none wdop_some wdeval_some wdguard_tt wdguard_tf wdguard_tp wdguard_ff wdguard_ft wdguard_fp wdguard_skip ok_nil ok_cons apart_none accadd_none accadd_rd accadd_wr again_normal again_ret again_exit again_panic callee evalOp opd List.size_toArray List.length_cons List.length_nil evP evIf putSl app upd_at evUn evBin evIntBin evStrBin evb_len evb_append evb_max evb_min isStr_str isStr_list isStr_row isStr_nil isStr_empty List.map_cons List.map_nil List.foldl_nil List.foldl_cons ofC Option.getD_some Option.getD_none true_and and_true Nat.add_assoc Nat.zero_add Nat.add_zero List.getElem?_cons_zero List.getElem?_cons_succ List.getElem?_nil decide_eq_true_eq decide_eq_false_iff_not List.not_mem_nil false_implies implies_true and_self forall_const true_implies cellsP_agg cellsP_int cellsP_bool cellsP_str cellsP_nil cellsP_empty cellsP_list cellsP_row cellsP_ptr cellsP_cells cellsP_nilp cellsP_fn cellsP_nilfn cellsP_map cellsP_nilmap cellsP_iface cellsP_nili ones one_int one_bool one_str one_nil one_empty one_list one_row one_ptr one_cells one_nilp one_fn one_nilfn one_map one_nilmap one_iface one_nili List.all_cons List.all_nil Bool.and_true Bool.true_and evFieldAddr evLoad mk List.drop_zero List.drop_succ_cons List.take_succ_cons List.take_zero List.headD_cons Option.bind_some Option.bind_none List.getElem?_toArray Bool.false_eq_true Bool.true_eq_false Bool.not_true Bool.not_false Nat.add_right_cancel_iff Nat.add_left_cancel_iff Nat.add_eq_left Nat.left_eq_add and_false false_and Nat.lt_irrefl Nat.zero_lt_one List.cons_append List.nil_append List.append_nil ne_eq not_false_eq_true not_true_eq_false initSl or_false false_or
attribute [push_cast] single_eq two_eq none_eq evb_copy evb_clear evb_cap bytesL_nil bytesL_cons keyOk_int keyOk_str keyOk_bool mgot_some mgot_none mfind_nil evAppZeros evCopy evClear evCap evLookup evMapUpdate evMapEntry evEntryStore evMakeMap evMakeSlice Option.map_some Option.isSome_some Option.isSome_none
attribute [push_cast] List.contains_nil List.contains_cons Bool.or_false Bool.false_or Bool.true_or Bool.or_true beq_self_eq_true evStore patch List.set_cons_zero List.set_cons_succ List.drop_nil List.take_nil evIndexAddr evIndex evField evConvert evSlice bounds evAppend elems_nil elems_empty elems_list elems_row lenP_str lenP_list lenP_row lenP_nil lenP_empty fillP placeP cellsEq bAt Option.any_some Option.any_none Option.map_some Option.map_none List.all_cons List.all_nil not_decide and_decide Decidable.not_not apart_calls small coOf gdOf drawOf befs befMask Region.binds List.range List.range.loop List.filter_cons List.filter_nil List.getD testBit_def ite_true ite_false Nat.zero_or Nat.or_zero
end Go.Proofs.YtdajoilaakiinaaGreatDoor.Awp

/- What a body comes to may be found by running it: contracts with an outcome that is not named beforehand. -/
namespace Go.Proofs.YtdajoilaakiinaaGreatDoor.Awp
open Go

section
variable {E : Env} {α : Type}
theorem aop_ex {key : Nat} {o : Oper} {st : St} {K : α → St → Prop} {Q : α → PV → St → Prop} (h : aop E key o st (fun st => ∃ x, K x st) (fun v st => ∃ x, Q x v st)) : ∃ x, aop E key o st (K x) (Q x) := by
  unfold aop at *
  split at h
  · obtain ⟨out, σ', nx', h1, h2⟩ := h
    cases out with
    | ret v =>
      obtain ⟨x, hx⟩ := h2
      exact ⟨x, .ret v, σ', nx', h1, hx⟩
    | panic v =>
      obtain ⟨x, hx⟩ := h2
      exact ⟨x, .panic v, σ', nx', h1, hx⟩
  · split at h
    · obtain ⟨h1, x, hx⟩ := h
      exact ⟨x, h1, hx⟩
    · exact h.elim
theorem aops_ex {kb : Nat} {ops : Array Oper} {K : α → St → Prop} {Q : α → PV → St → Prop} : ∀ (l : List Oper) (i : Nat) (st : St), aops E kb ops (fun st => ∃ x, K x st) (fun v st => ∃ x, Q x v st) l i st → ∃ x, aops E kb ops (K x) (Q x) l i st
  | [], i, st, h => h
  | o :: rest, i, st, h => by
    simp only [aops_cons] at *
    generalize o.guard = og at h ⊢
    have go : ∀ st, aop E (kb + i) o st (aops E kb ops (fun st => ∃ x, K x st) (fun v st => ∃ x, Q x v st) rest (i + 1)) (fun v st => ∃ x, Q x v st) → ∃ x, aop E (kb + i) o st (aops E kb ops (K x) (Q x) rest (i + 1)) (Q x) :=
      fun st h => aop_ex (aop_mono (fun st h => aops_ex rest (i + 1) st h) (fun _ _ h => h) h)
    cases og with
    | none => exact go st h
    | some jw =>
      obtain ⟨j, want⟩ := jw
      simp only at h ⊢
      generalize guarded ops st.sl j = pv at h ⊢
      split at h
      · rename_i b
        by_cases hb : b = want
        · obtain ⟨x, hx⟩ := go st (h.1 hb)
          refine ⟨x, fun _ => hx, fun hn => ?_⟩
          subst hb
          cases b <;> cases hn
        · have hb' : b = !want := by cases b <;> cases want <;> first | rfl | exact (hb rfl).elim
          obtain ⟨x, hx⟩ := aops_ex rest (i + 1) _ (h.2 hb')
          exact ⟨x, fun hn => (hb hn).elim, fun _ => hx⟩
      · exact aops_ex rest (i + 1) _ h
      · exact h.elim
theorem adraw_ex {kb : Nat} {ops : Array Oper} {K : α → St → Prop} : ∀ (l : List Oper) (i : Nat) (acc : List (Nat × Mem)) (st : St), adraw E kb ops (fun st => ∃ x, K x st) l i acc st → ∃ x, adraw E kb ops (K x) l i acc st
  | [], i, acc, st, h => h
  | o :: rest, i, acc, st, h => by
    have go : adrawGo E kb ops (fun st => ∃ x, K x st) o rest i acc st → ∃ x, adrawGo E kb ops (K x) o rest i acc st := by
      intro h
      unfold adrawGo at *
      split at h
      · rcases h with ⟨v, h1, h2⟩ | ⟨v, σ', nx', h1, h2, h3⟩
        · obtain ⟨x, hx⟩ := adraw_ex rest (i + 1) acc _ h2
          exact ⟨x, .inl ⟨v, h1, hx⟩⟩
        · obtain ⟨x, hx⟩ := adraw_ex rest (i + 1) _ _ h3
          exact ⟨x, .inr ⟨v, σ', nx', h1, h2, hx⟩⟩
      · split at h
        · obtain ⟨h1, h2, h3⟩ := h
          obtain ⟨x, hx⟩ := adraw_ex rest (i + 1) _ _ h3
          exact ⟨x, h1, h2, hx⟩
        · exact h.elim
    simp only [adraw_cons] at *
    generalize o.guard = og at h ⊢
    cases og with
    | none => exact go h
    | some jw =>
      obtain ⟨j, want⟩ := jw
      simp only at h ⊢
      generalize guarded ops st.sl j = pv at h ⊢
      split at h
      · rename_i b
        by_cases hb : b = want
        · obtain ⟨x, hx⟩ := go (h.1 hb)
          refine ⟨x, fun _ => hx, fun hn => ?_⟩
          subst hb
          cases b <;> cases hn
        · have hb' : b = !want := by cases b <;> cases want <;> first | rfl | exact (hb rfl).elim
          obtain ⟨x, hx⟩ := adraw_ex rest (i + 1) acc _ (h.2 hb')
          exact ⟨x, fun hn => (hb hn).elim, fun _ => hx⟩
      · exact adraw_ex rest (i + 1) acc _ h
      · exact h.elim
theorem aloop_ex {body : (AExit → St → Prop) → St → Prop} (hm : ∀ Q Q' st, (∀ e st, Q e st → Q' e st) → body Q st → body Q' st) (hb : ∀ (Q : α → AExit → St → Prop) st, body (fun e st => ∃ x, Q x e st) st → ∃ x, body (Q x) st) (Q : α → AExit → St → Prop) :
    ∀ (n : Nat) (st : St), aloop body (fun e st => ∃ x, Q x e st) n st → ∃ x, aloop body (Q x) n st
  | 0, _, h => h.elim
  | n + 1, st, h => by
    refine hb (fun x e st' => match e with
      | .normal => aloop body (Q x) n st'
      | e => Q x e st') st (hm _ _ st (fun e st' he => ?_) h)
    cases e with
    | normal => exact aloop_ex hm hb Q n st' he
    | exit id => exact he
    | ret => exact he
    | panic v => exact he
theorem awp_ex : ∀ (c : Code) (Q : α → AExit → St → Prop) (st : St), awp E c (fun e st => ∃ x, Q x e st) st → ∃ x, awp E c (Q x) st
  | .skip, _, _, h => h
  | .region _ _ false, Q, st, h => aops_ex (K := fun x => Q x .normal) (Q := fun x v st => Q x (.panic v) st) _ _ _ h
  | .region _ _ true, Q, st, h => adraw_ex (K := fun x => Q x .normal) _ _ _ _ h
  | .seq a b, Q, st, h => by
    simp only [awp_seq] at *
    refine awp_ex a (fun x e st' => match e with
      | .normal => awp E b (Q x) st'
      | e => Q x e st') st (awp_mono a _ _ st (fun e st' he => ?_) h)
    cases e with
    | normal => exact awp_ex b Q st' he
    | exit id => exact he
    | ret => exact he
    | panic v => exact he
  | .cond c x y, Q, st, h => by
    simp only [awp_cond] at *
    generalize opd E st.sl c = pv at h ⊢
    split at h
    · rename_i b
      cases b with
      | true =>
        obtain ⟨z, hz⟩ := awp_ex x Q st (h.1 rfl)
        exact ⟨z, fun _ => hz, fun e => by cases e⟩
      | false =>
        obtain ⟨z, hz⟩ := awp_ex y Q st (h.2 rfl)
        exact ⟨z, (fun e => by cases e), fun _ => hz⟩
    · exact h.elim
  | .block id c, Q, st, h => by
    simp only [awp_block] at *
    refine awp_ex c (fun x e st' => match e with
      | .exit j => if j = id then Q x .normal st' else Q x (.exit j) st'
      | e => Q x e st') st (awp_mono c _ _ st (fun e st' he => ?_) h)
    cases e with
    | normal => exact he
    | exit j =>
      simp only at he ⊢
      split
      · rename_i hj; rw [if_pos hj] at he; exact he
      · rename_i hj; rw [if_neg hj] at he; exact he
    | ret => exact he
    | panic v => exact he
  | .loop c, Q, st, h => by
    obtain ⟨n, h⟩ := h
    obtain ⟨x, hx⟩ := aloop_ex (awp_mono c) (fun Q st h => awp_ex c Q st h) Q n st h
    exact ⟨x, n, hx⟩
  | .exit _, _, _, h => h
  | .ret, _, _, h => h
  | .rangeFunc .., _, _, h => h.elim
  | .scope .., _, _, h => h.elim
  | .label .., _, _, h => h.elim
  | .goto .., _, _, h => h.elim
  | .refuse .., _, _, h => h.elim
end

/-- What the outcome of a call is, is found by running the body. -/
def EndsEx (E : Env) (σ : Store) (nx : Nat) (rs : List ResultVar) (P : Out → Store → Nat → Prop) (e : AExit) (st : St) : Prop := ∃ x : {x : Out × Store × Nat // nx ≤ x.2.2 ∧ P x.1 x.2.1 x.2.2}, Ends E σ nx rs x.1.1 x.1.2.1 x.1.2.2 e st
theorem fn_ex {E : Env} (hE : Good E) {f : FuncId} {fn : Func} {code : Code} {σ : Store} {nx : Nat} {args : List PV} {P : Out → Store → Nat → Prop} (hf : E.P.funcs[f]? = some fn) (hb : fn.body = some code) (hname : (fn.name == "runtime.NumGoroutine") = false)
    (hok : okC fn.ntmps code = true) (hargs : args.length ≤ fn.ntmps) (h : Wf σ nx → (∀ a ∈ args, Lt nx a) → awp E code (EndsEx E σ nx fn.results.toList P) ⟨initSl args, σ, nx⟩) :
    ∃ out σ' nx', Fn E f σ nx args out σ' nx' ∧ (Wf σ nx → (∀ a ∈ args, Lt nx a) → P out σ' nx') := by
  by_cases hw : Wf σ nx ∧ ∀ a ∈ args, Lt nx a
  · obtain ⟨x, hx⟩ := awp_ex code _ _ (h hw.1 hw.2)
    exact ⟨x.1.1, x.1.2.1, x.1.2.2, fn_of_body hE hf hb hname hok hargs x.2.1 fun _ _ => hx, fun _ _ => x.2.2⟩
  · refine ⟨.ret .junk, σ, nx, ⟨⟨fn, hf, by rw [hb]; rfl, hname⟩, Nat.le_refl _, fun μ w vs S hμ hvs => ?_⟩, fun h1 h2 => (hw ⟨h1, h2⟩).elim⟩
    exfalso
    refine hw ⟨S.wf hμ, fun a ha => ?_⟩
    obtain ⟨i, hi⟩ := List.getElem?_of_mem ha
    have hl : i < vs.size := by rw [hvs.1]; exact (List.getElem?_eq_some_iff.1 hi).1
    exact (hvs.2 i a _ hi (Array.getElem?_eq_getElem hl)).lt hμ
theorem endsEx {E : Env} {σ : Store} {nx : Nat} {rs : List ResultVar} {P : Out → Store → Nat → Prop} {e : AExit} {st : St} (out : Out) (σ' : Store) (nx' : Nat) (hle : nx ≤ nx') (hP : P out σ' nx') (h : Ends E σ nx rs out σ' nx' e st) : EndsEx E σ nx rs P e st := ⟨⟨(out, σ', nx'), hle, hP⟩, h⟩
/-- The store is handed on as it is. -/
theorem leaves_all {σ σ' : Store} {nx nx' : Nat} {sl : Nat → PV} {v : PV} (hle : nx ≤ nx') (hwf : Wf σ' nx') (hv : Lt nx' v) : Leaves σ nx ⟨sl, σ', nx'⟩ v σ' nx' v := ⟨hle, fun k o h => .inr ⟨(hwf k o h).1, (hwf k o h).2, h⟩, .refl _, hv⟩
end Go.Proofs.YtdajoilaakiinaaGreatDoor.Awp

/- A function that only reads may be handed what is still being written. -/
namespace Go.Proofs.YtdajoilaakiinaaGreatDoor.Awp
open Go

/-- Values that lead nowhere. -/
inductive FlatV : PV → Prop
  | int (k : IntKind) (n : Int) : FlatV (.int k n)
  | bool (b : Bool) : FlatV (.bool b)
  | str (s : ByteArray) : FlatV (.str s)
  | nil : FlatV .nil
  | empty : FlatV .empty
  | nilp : FlatV .nilp
  | nilfn : FlatV .nilfn
  | nilmap : FlatV .nilmap
  | nili : FlatV .nili
  | agg (cs : List PV) (h : ∀ c ∈ cs, FlatV c) : FlatV (.agg cs)
  | tup (cs : List PV) (h : ∀ c ∈ cs, FlatV c) : FlatV (.tup cs)
theorem FlatV.rep {U U' : Nat → Prop} {μ μ' : Mu} {w w' : World} {p : PV} (h : FlatV p) : ∀ {v : Value}, Rep U μ w p v → Rep U' μ' w' p v := by
  induction h with
  | int k n => intro v hr; cases hr; exact .int _ _
  | bool b => intro v hr; cases hr; exact .bool _
  | str s => intro v hr; cases hr; exact .str _
  | nil => intro v hr; cases hr; exact .nil
  | empty => intro v hr; cases hr; exact .empty _
  | nilp => intro v hr; cases hr; exact .nilp
  | nilfn => intro v hr; cases hr; exact .nilfn
  | nilmap => intro v hr; cases hr; exact .nilmap
  | nili => intro v hr; cases hr; exact .nili
  | agg cs h ih =>
    intro v hr
    cases hr with
    | agg _ vs hl hr => exact .agg _ vs hl fun i p v hp hv => ih p (List.mem_of_getElem? hp) (hr i p v hp hv)
  | tup cs h ih =>
    intro v hr
    cases hr with
    | tup _ vs hl hr => exact .tup _ vs hl fun i p v hp hv => ih p (List.mem_of_getElem? hp) (hr i p v hp hv)

def noObj : Store := fun _ => none
theorem noObj_used {μ : Mu} (b : Nat) : ¬ Used noObj μ b := fun ⟨k, o, l, h, _⟩ => by cases h
def FzA (σ : Store) : List PV → List PV → Prop
  | [], [] => True
  | x :: xs, y :: ys => Fz σ noObj x y ∧ FzA σ xs ys
  | _, _ => False
theorem FzA.get {σ : Store} : ∀ {xs ys : List PV}, FzA σ xs ys → ys.length = xs.length ∧ ∀ (j : Nat) (x y : PV), xs[j]? = some x → ys[j]? = some y → Fz σ noObj x y
  | [], [], _ => ⟨rfl, fun j x y h => by simp at h⟩
  | x :: xs, y :: ys, h => by
    obtain ⟨h1, h2⟩ := FzA.get h.2
    refine ⟨by simp [h1], fun j a b ha hb => ?_⟩
    cases j with
    | zero => simp at ha hb; subst ha; subst hb; exact h.1
    | succ j => exact h2 j a b (by simpa using ha) (by simpa using hb)

theorem Rep.same {U : Nat → Prop} {μ μ' : Mu} {w w' : World} (hμ : ∀ k l, μ k = some l → μ' k = some l) (hle : w.heap.size ≤ w'.heap.size) (hw : ∀ b, b < w.heap.size → w'.heap[b]? = w.heap[b]?) {U' : Nat → Prop} (hU' : ∀ b, b < w.heap.size → U' b → U b)
    {p : PV} {v : Value} (h : Rep U μ w p v) : Rep U' μ' w' p v := by
  induction h with
  | int k m => exact .int _ _
  | bool b => exact .bool _
  | str s => exact .str _
  | nil => exact .nil
  | empty a => exact .empty _
  | list es a c sz b off vs hn hc hs ha hv hr ih =>
    by_cases he : es = []
    · subst he
      exact .list [] a c sz b off vs hn hc hs (fun h => (h rfl).elim) (fun j cs i pv h => by simp at h) (fun j cs i pv h => by simp at h)
    · obtain ⟨h1, h2, h3⟩ := ha he
      exact .list es a c sz b off vs hn hc hs (fun _ => ⟨h1, Nat.lt_of_lt_of_le h2 hle, fun hu => h3 (hU' b h2 hu)⟩) (fun j cs i pv hj hi => (cell_same (hw b h2)).trans (hv j cs i pv hj hi)) ih
  | row k off len l a hm ha => exact .row k off len l a (hμ _ _ hm) ha
  | agg cs vs hl hr ih => exact .agg cs vs hl ih
  | tup cs vs hl hr ih => exact .tup cs vs hl ih
  | ptr k i off l hm => exact .ptr k i off l (hμ _ _ hm)
  | cells cs b off vs hu hv hr ih => exact .cells cs b off vs ⟨Nat.lt_of_lt_of_le hu.1 hle, fun h => hu.2 (hU' b hu.1 h)⟩ (fun i pv hi => (cell_same (hw b hu.1)).trans (hv i pv hi)) ih
  | nilp => exact .nilp
  | fn f a b vs us h1 h2 hr hr' ih ih' => exact .fn f a b vs us h1 h2 ih ih'
  | nilfn => exact .nilfn
  | map k l hm => exact .map k l (hμ _ _ hm)
  | imap es r ms ck hu hwr hl hk hv ihk ihv =>
    have hr : r < w.heap.size := (Array.getElem?_eq_some_iff.1 hwr).1
    exact .imap es r ms ck (fun h => hu (hU' r hr h)) ((hw r hr).trans hwr) hl ihk ihv
  | nilmap => exact .nilmap
  | iface t v x hr ih => exact .iface t v x ih
  | nili => exact .nili
  | junk v => exact .junk v

/-- Nothing that was there has changed: so the store is represented as it was. -/
theorem Sim.grown {E : Env} {σ : Store} {μ μ' : Mu} {w w' : World} (S : Sim E σ μ w) (hμ : ∀ k l, μ k = some l → μ' k = some l) (hle : w.heap.size ≤ w'.heap.size) (hw : ∀ b, b < w.heap.size → w'.heap[b]? = w.heap[b]?) : Sim E σ μ' w' ∧ ∀ b, Used σ μ' b → Used σ μ b := by
  have hused : ∀ b, Used σ μ' b → Used σ μ b := by
    rintro b ⟨k, o, l, h1, h2, h3⟩
    obtain ⟨l', hl', _⟩ := S.obj k o h1
    have := hμ k l' hl'
    rw [this] at h2
    cases h2
    exact ⟨k, o, _, h1, hl', h3⟩
  have hrep : ∀ p v, Rep (Used σ μ) μ w p v → Rep (Used σ μ') μ' w' p v := fun p v h => h.same hμ hle hw (fun b _ h => hused b h)
  have hget : ∀ k o l, σ k = some o → μ' k = some l → μ k = some l := by
    intro k o l h1 h2
    obtain ⟨l', hl', _⟩ := S.obj k o h1
    have := hμ k l' hl'
    rw [this] at h2
    cases h2
    exact hl'
  refine ⟨⟨fun k k' o o' l l' h1 h2 h3 h4 e => S.inj k k' o o' l l' h1 h2 (hget k o l h1 h3) (hget k' o' l' h2 h4) e, fun k o h => ?_, fun g cs hg => ⟨hrep _ _ (S.glob g cs hg).1, by
    obtain ⟨c, t, fr, h2, h3⟩ := (S.glob g cs hg).2
    exact ⟨c, t, fr, (hw g (S.glob g cs hg).1.unused.1).trans h2, h3⟩⟩, fun k c h => by obtain ⟨l, h1, h2⟩ := S.caps k c h; exact ⟨l, hμ k l h1, h2⟩⟩, hused⟩
  obtain ⟨l, hl, ho⟩ := S.obj k o h
  refine ⟨l, hμ k l hl, ?_⟩
  cases o with
  | row es =>
    obtain ⟨c, t, g0, g1, g2, g3, g4, g5⟩ := ho
    have hb : l.b < w.heap.size := (Array.getElem?_eq_some_iff.1 g0).1
    refine ⟨c, t, (hw _ hb).trans g0, g1, g2, g3, fun j cs i pv hj hi => ?_, g5⟩
    obtain ⟨v, hv, hr⟩ := g4 j cs i pv hj hi
    exact ⟨v, hv, hrep _ _ hr⟩
  | map es =>
    obtain ⟨ms, ck, g0, g1, g2, g3, g4⟩ := ho
    have hb : l.b < w.heap.size := (Array.getElem?_eq_some_iff.1 g0).1
    exact ⟨ms, ck, (hw _ hb).trans g0, g1, fun i p e hp he => hrep _ _ (g2 i p e hp he), fun i p e hp he => hrep _ _ (g3 i p e hp he), g4⟩

theorem fn_lend {E : Env} (hG : ∀ g cs, E.G g = some cs → ∀ n, Lt n (.cells cs)) {f : FuncId} {σ : Store} {nx : Nat} {ps qs : List PV} {v : PV} (h : Pure E f qs v) (hz : FzA σ ps qs) (hv : FlatV v) : Fn E f σ nx ps (.ret v) σ nx := by
  have hf := h noObj nx
  refine ⟨hf.callable, Nat.le_refl _, fun μ w vs S hμ hvs => ?_⟩
  obtain ⟨z1, z2⟩ := hz.get
  have hS : Sim E noObj μ w := ⟨(fun k k' o o' l l' h => by cases h), (fun k o h => by cases h), fun g cs hg => by
    have := S.glob g cs hg
    exact ⟨this.1.same (fun _ _ h => h) (Nat.le_refl _) (fun _ _ => rfl) (fun b _ h => (noObj_used b h).elim), this.2⟩, S.caps⟩
  have hvs' : RepL (Used noObj μ) μ w qs vs := by
    refine ⟨by rw [hvs.1, z1], fun i q x hq hx => ?_⟩
    have hi : i < ps.length := by rw [← z1]; exact (List.getElem?_eq_some_iff.1 hq).1
    exact Rep.fz S (fun k o h => by cases h) (z2 i _ q (List.getElem?_eq_getElem hi) hq) (hvs.2 i _ x (List.getElem?_eq_getElem hi) hx)
  refine (hf.calls μ w vs hS hμ hvs').mono fun e w' ⟨μ', ho, _, hm, h1, h2⟩ => ?_
  have hk : ∀ b, b < w.heap.size → w'.heap[b]? = w.heap[b]? := fun b hb => hm.keep b hb (noObj_used b)
  obtain ⟨hS', hu⟩ := S.grown hm.mu hm.size hk
  obtain ⟨x, rfl, hx⟩ := ho
  exact ⟨μ', ⟨x, rfl, hv.rep hx⟩, hS', ⟨hm.mu, hm.size, fun b hb _ => hk b hb, fun b hb h => hu b h, hm.os, hm.tape, hm.output⟩, h1, h2⟩
/-- A function whose call adds to the heap at most. -/
theorem pure_of_calls {E : Env} {f : FuncId} {args : List PV} {v : PV} (hc : Callable E.P f) (h : ∀ σ μ w vs, Sim E σ μ w → RepL (Used σ μ) μ w args vs →
    Calls E.P f vs w fun e w' => ∃ x, e = .returned x ∧ (∀ U μ w, Rep U μ w v x) ∧ w.heap.size ≤ w'.heap.size ∧ (∀ b, b < w.heap.size → w'.heap[b]? = w.heap[b]?) ∧ w'.os = w.os ∧ w'.tape = w.tape ∧ w'.output = w.output) : Pure E f args v := by
  refine fun σ nx => ⟨hc, Nat.le_refl _, fun μ w vs S hμ hvs => ?_⟩
  refine (h σ μ w vs S hvs).mono fun e w' ⟨x, h1, h2, h3, h4, h5, h6, h7⟩ => ?_
  obtain ⟨hS', hu⟩ := S.grown (μ' := μ) (fun _ _ h => h) h3 h4
  exact ⟨μ, ⟨x, h1, h2 _ _ _⟩, hS', ⟨fun _ _ h => h, h3, fun b hb _ => h4 b hb, fun b _ h => h, h5, h6, h7⟩, fun _ _ => rfl, hμ⟩
section
variable {E : Env} {Q : AExit → St → Prop} {k : List Fr} {sl : Nat → PV} {σ : Store} {nx : Nat}
theorem wcall_lend (hE : Good E) {kb : Nat} {dst : Option Tmp} {rest : List CO} {i : Nat} {g : FuncId} {ps qs : List PV} {v : PV} (h : Pure E g qs v) (hz : FzA σ ps qs) (hv : FlatV v)
    (hw : WOps E Q k kb rest (i + 1) (putSl sl dst v) σ nx) : WCall E Q k kb dst rest i sl σ nx g ps := ⟨_, σ, nx, fn_lend hE.glob h hz hv, hw⟩
theorem wdcall_lend (hE : Good E) {kb : Nat} {dst : Option Tmp} {un : List Nat} {rest : List CO} {i : Nat} {acc : List (Nat × Mem)} {g : FuncId} {ps qs : List PV} {v : PV} (h : Pure E g qs v) (hz : FzA σ ps qs) (hv : FlatV v)
    (hacc : ∀ p ∈ acc, un.contains p.1 = false) (hw : WD E Q k kb rest (i + 1) ((i, { imp := true }) :: acc) (putSl sl dst v) σ nx) : WDCall E Q k kb dst un rest i acc sl σ nx g ps := .inr ⟨v, σ, nx, fn_lend hE.glob h hz hv, hacc, hw⟩
theorem fza_row {k : Nat} {es : List (List PV)} {len : Nat} (h : σ k = some (.row es)) (hl : len = es.length) : Fz σ noObj (.row k 0 len) (.list es) := by
  refine .row k 0 len es es h rfl (by omega) (by omega) ?_ ?_
  · intro j cs cs' h1 h2
    rw [Nat.zero_add, h2] at h1
    cases h1
    rfl
  · intro j cs cs' i x y h1 h2 h3 h4
    rw [Nat.zero_add, h2] at h1
    cases h1
    rw [h3] at h4
    cases h4
    exact .refl _
end
end Go.Proofs.YtdajoilaakiinaaGreatDoor.Awp

/- A row that is handed to a function that only reads, and is not written again. -/
namespace Go.Proofs.YtdajoilaakiinaaGreatDoor.Awp
open Go

def Sub (σ σ' : Store) : Prop := ∀ k o, σ' k = some o → σ k = some o
theorem Sub.refl (σ : Store) : Sub σ σ := fun _ _ h => h
theorem Sub.drop {σ σ' : Store} (h : Sub σ σ') (k : Nat) : Sub σ (upd σ' k none) := fun j o hj => by
  by_cases hjk : j = k
  · subst hjk
    rw [upd_same] at hj
    cases hj
  · rw [upd_other _ _ hjk] at hj
    exact h j o hj
def FzTo (σ σ' : Store) : List PV → List PV → Prop
  | [], [] => True
  | x :: xs, y :: ys => Fz σ σ' x y ∧ FzTo σ σ' xs ys
  | _, _ => False
theorem FzTo.get {σ σ' : Store} : ∀ {xs ys : List PV}, FzTo σ σ' xs ys → ys.length = xs.length ∧ ∀ (j : Nat) (x y : PV), xs[j]? = some x → ys[j]? = some y → Fz σ σ' x y
  | [], [], _ => ⟨rfl, fun j x y h => by simp at h⟩
  | x :: xs, y :: ys, h => by
    obtain ⟨h1, h2⟩ := h
    obtain ⟨h3, h4⟩ := h2.get
    refine ⟨by simp [h3], fun j a b ha hb => ?_⟩
    cases j with
    | zero => simp at ha hb; subst ha; subst hb; exact h1
    | succ j => exact h4 j a b (by simpa using ha) (by simpa using hb)
  | [], _ :: _, h => by cases h
  | _ :: _, [], h => by cases h
theorem Sub.used {σ σ' : Store} (h : Sub σ σ') {μ : Mu} (b : Nat) : Used σ' μ b → Used σ μ b := fun ⟨k, o, l, h1, h2⟩ => ⟨k, o, l, h k o h1, h2⟩
theorem Sim.sub {E : Env} {σ σ' : Store} {μ : Mu} {w : World} (S : Sim E σ μ w) (h : Sub σ σ') : Sim E σ' μ w := by
  have m : Moves σ μ w σ' μ w := ⟨fun _ _ h => h, Nat.le_refl _, fun _ _ _ => rfl, fun b _ hu => h.used b hu, rfl, rfl, rfl⟩
  refine ⟨fun k k' o o' l l' h1 h2 h3 h4 h5 => S.inj k k' o o' l l' (h k o h1) (h k' o' h2) h3 h4 h5, fun k o hk => ?_, fun g cs hg => ?_, S.caps⟩
  · obtain ⟨l, h1, h2⟩ := S.obj k o (h k o hk)
    exact ⟨l, h1, h2.moves m rfl⟩
  · have := S.glob g cs hg
    exact ⟨this.1.moves m, this.2⟩
theorem fn_freeze {E : Env} {f : FuncId} {σ σ' : Store} {nx : Nat} {ps qs : List PV} {v : PV} (h : Pure E f qs v) (hs : Sub σ σ') (hz : FzTo σ σ' ps qs) : Fn E f σ nx ps (.ret v) σ' nx := by
  have hf := h σ' nx
  refine ⟨hf.callable, Nat.le_refl _, fun μ w vs S hμ hvs => ?_⟩
  obtain ⟨z1, z2⟩ := hz.get
  have hvs' : RepL (Used σ' μ) μ w qs vs := by
    refine ⟨by rw [hvs.1, z1], fun i q x hq hx => ?_⟩
    have hi : i < ps.length := by rw [← z1]; exact (List.getElem?_eq_some_iff.1 hq).1
    exact Rep.fz S (fun k o h => .inl (hs k o h)) (z2 i _ q (List.getElem?_eq_getElem hi) hq) (hvs.2 i _ x (List.getElem?_eq_getElem hi) hx)
  refine (hf.calls μ w vs (S.sub hs) hμ hvs').mono fun e w' ⟨μ', ho, hS, hm, h1, h2⟩ => ?_
  exact ⟨μ', ho, hS, ⟨hm.mu, hm.size, fun b hb hu => hm.keep b hb fun h => hu (hs.used b h), fun b hb hu => hs.used b (hm.used b hb hu), hm.os, hm.tape, hm.output⟩, h1, h2⟩
section
variable {E : Env} {Q : AExit → St → Prop} {k : List Fr} {sl : Nat → PV} {σ : Store} {nx : Nat}
theorem wcall_freeze {kb : Nat} {dst : Option Tmp} {rest : List CO} {i : Nat} {g : FuncId} {ps qs : List PV} {v : PV} {σ' : Store} (h : Pure E g qs v) (hs : Sub σ σ') (hz : FzTo σ σ' ps qs)
    (hw : WOps E Q k kb rest (i + 1) (putSl sl dst v) σ' nx) : WCall E Q k kb dst rest i sl σ nx g ps := ⟨_, σ', nx, fn_freeze h hs hz, hw⟩
end
end Go.Proofs.YtdajoilaakiinaaGreatDoor.Awp

/- Arguments that are plain data: their reading as pure values. -/
namespace Go.Proofs.YtdajoilaakiinaaGreatDoor.Awp
open Go

/-- The cells of a value of a type that is plain data. -/
inductive Cells (P : Program) : TypeId → List PV → Prop
  | int {t : TypeId} {k : IntKind} {n : Int} (h : P.underlying t = some (.int k)) (wf : (Lit.int k n).wf = true) : Cells P t [.int k n]
  | bool {t : TypeId} {b : Bool} (h : P.underlying t = some .bool) : Cells P t [.bool b]
  | str {t : TypeId} {s : ByteArray} (h : P.underlying t = some .string) (hs : s.size ≤ maxLen) : Cells P t [.str s]
  | nil {t e : TypeId} (h : P.underlying t = some (.slice e)) : Cells P t [.nil]
  | list {t e : TypeId} {es : List (List PV)} (h : P.underlying t = some (.slice e)) (hl : es.length ≤ maxLen) (hes : ∀ c ∈ es, Cells P e c) : Cells P t [.list es]
  | struct {t : TypeId} {fs : Array Field} {parts : List (List PV)} (h : P.underlying t = some (.struct fs)) (hl : parts.length = fs.size)
      (hc : ∀ (i : Nat) (f : Field) (c : List PV), fs.toList[i]? = some f → parts[i]? = some c → Cells P f.type c) : Cells P t parts.flatten

/-- A set of types that are plain data. -/
def Plain (P : Program) (T : TypeId → Prop) : Prop := ∀ t, T t → match P.underlying t with
  | some .bool => True
  | some (.int _) => True
  | some .string => True
  | some (.slice e) => T e ∧ 0 < P.cellsOf e
  | some (.struct fs) => (∀ f ∈ fs.toList, T f.type) ∧ P.cellsOf t = (fs.toList.map fun f => P.cellsOf f.type).sum ∧ ∀ (j : Nat) f, fs.toList[j]? = some f → f.offset = ((fs.toList.take j).map fun f => P.cellsOf f.type).sum
  | _ => False

section
variable {H : Type} {enc : TypeId × Value → H} {P : Program} {w : World} {U : Nat → Prop} {μ : Mu} {T : TypeId → Prop}

def RepC (U : Nat → Prop) (μ : Mu) (w : World) (ps : List PV) (cs : List Value) : Prop := ps.length = cs.length ∧ ∀ (i : Nat) (p : PV) (v : Value), ps[i]? = some p → cs[i]? = some v → Rep U μ w p v
theorem RepC.one {p : PV} {v : Value} (h : Rep U μ w p v) : RepC U μ w [p] [v] := ⟨rfl, fun i p' v' hp hv => by
  cases i with
  | zero => simp at hp hv; subst hp; subst hv; exact h
  | succ i => simp at hp⟩
theorem RepC.append {ps qs : List PV} {cs ds : List Value} (h : RepC U μ w ps cs) (h' : RepC U μ w qs ds) : RepC U μ w (ps ++ qs) (cs ++ ds) := by
  refine ⟨by simp [h.1, h'.1], fun i p v hp hv => ?_⟩
  rw [List.getElem?_append] at hp hv
  rw [h.1] at hp
  split at hp
  · rename_i hi
    rw [if_pos hi] at hv
    exact h.2 i p v hp hv
  · rename_i hi
    rw [if_neg hi] at hv
    exact h'.2 _ p v hp hv

theorem mapM_reads {α β : Type} {f : α → Option β} : ∀ {l : List α} {r : List β}, l.mapM f = some r → r.length = l.length ∧ ∀ (i : Nat) (x : α), l[i]? = some x → ∃ y, r[i]? = some y ∧ f x = some y
  | [], r, h => by
    rw [List.mapM_nil] at h
    cases h
    exact ⟨rfl, fun i x hx => by simp at hx⟩
  | a :: l, r, h => by
    rw [List.mapM_cons] at h
    simp only [Option.pure_def, Option.bind_eq_bind, Option.bind_eq_some_iff, Option.some.injEq] at h
    obtain ⟨b, hb, rs, hrs, rfl⟩ := h
    obtain ⟨h1, h2⟩ := mapM_reads hrs
    refine ⟨by simp [h1], fun i x hx => ?_⟩
    cases i with
    | zero => simp at hx; subst hx; exact ⟨b, rfl, hb⟩
    | succ i => exact h2 i x (by simpa using hx)

/-- Parts of a row of cells, one behind the other. -/
theorem parts_reads {g : Field → List PV → Prop} {sz : Field → Nat} : ∀ (fs : List Field) (cs : List Value) (off : Nat), (∀ (j : Nat) f, fs[j]? = some f → ∃ pv, g f pv ∧ RepC U μ w pv ((cs.drop (off + ((fs.take j).map sz).sum)).take (sz f))) →
    cs.length = off + (fs.map sz).sum → ∃ parts : List (List PV), parts.length = fs.length ∧ (∀ (i : Nat) (f : Field) (c : List PV), fs[i]? = some f → parts[i]? = some c → g f c) ∧ RepC U μ w parts.flatten (cs.drop off)
  | [], cs, off, _, hl => ⟨[], rfl, fun i f c h => by simp at h, by
    have : cs.drop off = [] := List.drop_eq_nil_of_le (by simp at hl; omega)
    rw [this]
    exact ⟨rfl, fun i p v h => by simp at h⟩⟩
  | f :: fs, cs, off, h, hl => by
    obtain ⟨pv, hg, hr⟩ := h 0 f rfl
    have hlen : cs.length = (off + sz f) + (fs.map sz).sum := by simp at hl; omega
    obtain ⟨parts, h1, h2, h3⟩ := parts_reads (g := g) (sz := sz) fs cs (off + sz f) (fun j f' hj => by
      obtain ⟨pv', hg', hr'⟩ := h (j + 1) f' (by simpa using hj)
      refine ⟨pv', hg', ?_⟩
      have e : off + ((List.take (j + 1) (f :: fs)).map sz).sum = off + sz f + ((List.take j fs).map sz).sum := by simp; omega
      rw [e] at hr'
      exact hr') hlen
    refine ⟨pv :: parts, by simp [h1], fun i f' c hf hc => ?_, ?_⟩
    · cases i with
      | zero => simp at hf hc; subst hf; subst hc; exact hg
      | succ i => exact h2 i f' c (by simpa using hf) (by simpa using hc)
    · have e : cs.drop off = (cs.drop off).take (sz f) ++ cs.drop (off + sz f) := by
        rw [← List.drop_drop]
        exact (List.take_append_drop (sz f) (cs.drop off)).symm
      rw [e, List.flatten_cons]
      simp only [List.take_zero, List.map_nil, List.sum_nil, Nat.add_zero] at hr
      exact hr.append h3

theorem read_cells (hT : Plain P T) (hU : ∀ b, ¬ U b) {sp : Nat → Bool} {held : Bool} {base : Nat} : ∀ (n : Nat) (t : TypeId) (cs : List Value) (x : DataW H × List MemPlace), T t → cs.length = P.cellsOf t → DataW.trod enc P w base sp held n t cs = some x →
    ∃ pv : List PV, Cells P t pv ∧ RepC U μ w pv cs := by
  intro n
  induction n with
  | zero => intro t cs x _ _ h; simp [DataW.trod] at h
  | succ n ih =>
    intro t cs x ht hlen h
    have hp := hT t ht
    rw [DataW.trod_step] at h
    unfold DataW.trodStep at h
    split at h
    case h_1 b hu => exact ⟨[.bool b], .bool hu, .one (.bool b)⟩
    case h_2 k k' m hu =>
      split at h
      · rename_i hk
        obtain ⟨rfl, hw⟩ := hk
        exact ⟨[.int _ m], .int hu hw, .one (.int _ m)⟩
      · cases h
    case h_4 s hu =>
      split at h
      · rename_i hs
        exact ⟨[.str s], .str hu hs, .one (.str s)⟩
      · cases h
    case h_7 e hu => exact ⟨[.nil], .nil hu, .one .nil⟩
    case h_8 e a len cap hu =>
      rw [hu] at hp
      obtain ⟨hTe, hpos⟩ := hp
      simp only at h
      split at h
      · rename_i hcond
        simp only [Option.bind_eq_some_iff, Option.map_eq_some_iff] at h
        obtain ⟨elems, hel, _⟩ := h
        obtain ⟨h1, h2⟩ := mapM_reads hel
        simp only [List.length_range] at h1
        have hall : ∀ i, i < len → ∃ (cs' : List Value) (pv : List PV), w.cells? base (a.add (i * P.cellsOf e)) (P.cellsOf e) = some cs' ∧ Cells P e pv ∧ RepC U μ w pv cs' := by
          intro i hi
          obtain ⟨y, hy1, hy2⟩ := h2 i i (by simp [hi])
          obtain ⟨cs', hc1, hc2⟩ := Option.bind_eq_some_iff.1 hy2
          have hl' : cs'.length = P.cellsOf e := (World.cells?_some hc1).2.1
          obtain ⟨pv, hpv, hr⟩ := ih e cs' y hTe hl' hc2
          exact ⟨cs', pv, hc1, hpv, hr⟩
        have hch : ∃ f : Nat → List Value × List PV, ∀ i, i < len → w.cells? base (a.add (i * P.cellsOf e)) (P.cellsOf e) = some (f i).1 ∧ Cells P e (f i).2 ∧ RepC U μ w (f i).2 (f i).1 := by
          refine ⟨fun i => if hi : i < len then ((hall i hi).choose, (hall i hi).choose_spec.choose) else ([], []), fun i hi => ?_⟩
          simp only [hi, dite_true]
          exact (hall i hi).choose_spec.choose_spec
        obtain ⟨f, hf⟩ := hch
        have hlen' : ((List.range len).map fun i => (f i).2).length = len := by simp
        have hget : ∀ (j : Nat) (cs : List PV), ((List.range len).map fun i => (f i).2)[j]? = some cs → j < len ∧ cs = (f j).2 := by
          intro j cs h
          have hj : j < len := by
            have := (List.getElem?_eq_some_iff.1 h).1
            simpa using this
          refine ⟨hj, ?_⟩
          rw [List.getElem?_map, List.getElem?_range hj] at h
          simpa using h.symm
        have hsz : ∀ i, i < len → (f i).2.length = P.cellsOf e := fun i hi => by
          obtain ⟨g1, _, g3⟩ := hf i hi
          rw [g3.1, (World.cells?_some g1).2.1]
        have hcell : ∀ i j, i < len → j < P.cellsOf e → w.cell? ((a.add (i * P.cellsOf e)).add j) = (f i).1[j]? := fun i j hi hj => (World.cells?_some (hf i hi).1).2.2 j hj
        have hnn : (some a).isSome = true := rfl
        refine ⟨[.list ((List.range len).map fun i => (f i).2)], .list hu (by rw [hlen']; omega) (fun c hc => ?_), .one ?_⟩
        · obtain ⟨i, hi, rfl⟩ := List.mem_map.1 hc
          exact (hf i (List.mem_range.1 hi)).2.1
        · have key : 0 < len → a = ⟨a.block, a.off, none⟩ := by
            intro h0
            have hc0 := hcell 0 0 h0 hpos
            have hl0 : 0 < (f 0).1.length := by rw [(World.cells?_some (hf 0 h0).1).2.1]; exact hpos
            rw [List.getElem?_eq_getElem hl0] at hc0
            simp only [Addr.add, Nat.zero_mul, if_true] at hc0
            unfold World.cell? at hc0
            split at hc0
            · split at hc0
              · cases hc0
              · rename_i hs
                obtain ⟨b, o, sp⟩ := a
                cases sp with
                | none => rfl
                | some s => exact (hs rfl).elim
            · cases hc0
          have := Rep.list (U := U) (μ := μ) (w := w) ((List.range len).map fun i => (f i).2) (some a) cap (P.cellsOf e) a.block a.off (fun j i => ((f j).1)[i]?.getD default) hnn (by rw [hlen']; exact hcond.2.1)
            (fun j cs hj => by obtain ⟨h3, rfl⟩ := hget j cs hj; exact hsz j h3)
            (fun hne => by
              have h0 : 0 < len := by
                cases len with
                | zero => simp at hne
                | succ l => omega
              have hk := key h0
              refine ⟨by rw [← hk], ?_, hU _⟩
              have := World.cells?_block (hf 0 h0).1 hpos
              simpa [Addr.add] using this)
            (fun j cs i pv hj hi => by
              obtain ⟨h3, rfl⟩ := hget j cs hj
              have hi' : i < P.cellsOf e := by rw [← hsz j h3]; exact (List.getElem?_eq_some_iff.1 hi).1
              have hc1 := hcell j i h3 hi'
              have hl1 : i < (f j).1.length := by rw [(World.cells?_some (hf j h3).1).2.1]; exact hi'
              rw [List.getElem?_eq_getElem hl1] at hc1 ⊢
              have hk := key (by omega)
              have ea : ((a.add (j * P.cellsOf e)).add i) = ⟨a.block, a.off + j * P.cellsOf e + i, none⟩ := by
                have eb : ∀ (b o x y : Nat), ((⟨b, o, none⟩ : Addr).add x).add y = ⟨b, o + x + y, none⟩ := by
                  intro b o x y
                  by_cases h1 : x = 0 <;> by_cases h2 : y = 0 <;> simp [Addr.add, h1, h2]
                calc (a.add (j * P.cellsOf e)).add i = ((⟨a.block, a.off, none⟩ : Addr).add (j * P.cellsOf e)).add i := by rw [← hk]
                  _ = _ := eb _ _ _ _
              rw [ea] at hc1
              exact hc1)
            (fun j cs i pv hj hi => by
              obtain ⟨h3, rfl⟩ := hget j cs hj
              obtain ⟨g1, _, g3⟩ := hf j h3
              have hl1 : i < (f j).1.length := by rw [← g3.1]; exact (List.getElem?_eq_some_iff.1 hi).1
              have := g3.2 i pv ((f j).1[i]) hi (List.getElem?_eq_getElem hl1)
              rw [List.getElem?_eq_getElem hl1]
              exact this)
          rw [hlen'] at this
          exact this
      · cases h
    case h_9 cs' fs hu =>
      clear cs'
      rename_i cs xo
      rw [hu] at hp
      obtain ⟨hTf, hsum, hoff⟩ := hp
      have hl := hlen
      rw [if_pos hlen] at h
      · skip
        simp only [Option.map_eq_some_iff] at h
        obtain ⟨xs, hxs, _⟩ := h
        obtain ⟨_, h2⟩ := mapM_reads hxs
        obtain ⟨parts, g1, g2, g3⟩ := parts_reads (U := U) (μ := μ) (w := w) (g := fun f c => Cells P f.type c) (sz := fun f => P.cellsOf f.type) fs.toList cs 0 (fun j f hj => by
          obtain ⟨y, _, hy⟩ := h2 j f hj
          have hmem := List.mem_of_getElem? hj
          have hle : ((fs.toList.take j).map fun f => P.cellsOf f.type).sum + P.cellsOf f.type ≤ cs.length := by
            rw [hl, hsum]
            have e : fs.toList = fs.toList.take j ++ f :: fs.toList.drop (j + 1) := by
              obtain ⟨hlt, hfe⟩ := List.getElem?_eq_some_iff.1 hj
              rw [← hfe, ← List.drop_eq_getElem_cons hlt, List.take_append_drop]
            conv => rhs; rw [e]
            simp
          have hl' : ((cs.drop f.offset).take (P.cellsOf f.type)).length = P.cellsOf f.type := by
            rw [List.length_take, List.length_drop, hoff j f hj]
            omega
          obtain ⟨pv, hpv, hr⟩ := ih f.type _ y (hTf f hmem) hl' hy
          refine ⟨pv, hpv, ?_⟩
          rw [hoff j f hj] at hr
          simpa using hr) (by rw [hl, hsum]; simp)
        exact ⟨parts.flatten, .struct hu (by simpa using g1) g2, by simpa using g3⟩
    all_goals (first | (cases h; done) | (rename_i hu; rw [hu] at hp; exact hp.elim) | (rename_i hu _; rw [hu] at hp; exact hp.elim) | skip)
end
end Go.Proofs.YtdajoilaakiinaaGreatDoor.Awp

/- From a law's contract to what the form asks of its call. -/
namespace Go.Proofs.YtdajoilaakiinaaGreatDoor.Awp
open Go Go.ChangeShapes Go.WideShapes Go.ChangeAt Go.RowKit

theorem Plain.kids {P : Program} {T : TypeId → Prop} (h : Plain P T) : Kids P T := by
  refine ⟨fun {t e} ht hu => ?_, fun {t e} ht hu => ?_, fun {t e n} ht hu => ?_, fun {t fs} ht hu => ?_, fun {t k e} ht hu => ?_⟩
  · have := h t ht; rw [hu] at this; exact this.elim
  · have := h t ht; rw [hu] at this; exact this.1
  · have := h t ht; rw [hu] at this; exact this.elim
  · have := h t ht; rw [hu] at this; exact this
  · have := h t ht; rw [hu] at this; exact this.elim
theorem Plain.pos {P : Program} {T : TypeId → Prop} (h : Plain P T) {t e : TypeId} (ht : T t) (hu : P.underlying t = some (.slice e)) : 0 < P.cellsOf e := by
  have := h t ht; rw [hu] at this; exact this.2

/-- The same, to be reckoned out. -/
def plainB (P : Program) (l : List TypeId) : Bool := l.all fun t => match P.underlying t with
  | some .bool => true
  | some (.int _) => true
  | some .string => true
  | some (.slice e) => l.contains e && decide (0 < P.cellsOf e)
  | some (.struct fs) => fs.toList.all (fun f => l.contains f.type) && decide (P.cellsOf t = (fs.toList.map fun f => P.cellsOf f.type).sum) && (List.range fs.toList.length).all fun j => match fs.toList[j]? with
    | some f => decide (f.offset = ((fs.toList.take j).map fun f => P.cellsOf f.type).sum)
    | none => true
  | _ => false
theorem plain_of {P : Program} {l : List TypeId} (h : plainB P l = true) : Plain P (· ∈ l) := by
  intro t ht
  have := List.all_eq_true.1 h t ht
  revert this
  cases P.underlying t with
  | none => simp
  | some d =>
    cases d <;> simp only [Bool.false_eq_true, imp_self, implies_true, Bool.and_eq_true, decide_eq_true_eq]
    case slice e => exact fun h => ⟨List.contains_iff_mem.1 h.1, h.2⟩
    case struct fs =>
      rintro ⟨⟨h1, h2⟩, h3⟩
      refine ⟨fun f hf => List.contains_iff_mem.1 (List.all_eq_true.1 h1 f hf), h2, fun j f hj => ?_⟩
      have := List.all_eq_true.1 h3 j (List.mem_range.2 (List.getElem?_eq_some_iff.1 hj).1)
      rw [hj] at this
      simpa using this

/-- Arguments of types that are plain data. -/
def Args (P : Program) : List TypeId → List PV → Prop
  | [], [] => True
  | t :: ts, p :: ps => (∃ c, Cells P t c ∧ p = mk P t c) ∧ Args P ts ps
  | _, _ => False

section
variable {H : Type} {enc : TypeId × Value → H} {P : Program} {w : World} {U : Nat → Prop} {μ : Mu} {T : TypeId → Prop}

theorem tagg_agg {t : TypeId} {c : Array Value} {b : Nat} {r : Reach} (hv : Value.okWide P w r b t (.agg c)) (hp : Plain P T) (ht : T t) (hlt : P.info? t ≠ none) : tagg P t = true := by
  have := hp t ht
  unfold Value.okWide at hv
  unfold tagg ti
  cases hi : P.info? t with
  | none => exact (hlt hi).elim
  | some i =>
    cases hu : P.underlying t with
    | none => rw [hu] at this; exact this.elim
    | some d =>
      rw [hu] at this hv
      cases d <;> simp only at this hv ⊢ <;> first | rfl | exact this.elim | (unfold Cell.okWide Cell.ok at hv; rw [hu] at hv; exact hv.elim)
theorem tagg_one {t : TypeId} {v : Value} {b : Nat} {r : Reach} (hv : Value.okWide P w r b t v) (hp : Plain P T) (ht : T t) (hna : ∀ c, v ≠ .agg c) : tagg P t = false := by
  have := hp t ht
  unfold Value.okWide at hv
  unfold tagg ti
  cases hi : P.info? t with
  | none => rfl
  | some i =>
    cases hu : P.underlying t with
    | none => rfl
    | some d =>
      rw [hu] at this hv
      cases d <;> simp only at this hv ⊢ <;> first | rfl | exact this.elim | (obtain ⟨cs, rfl, _⟩ := hv; exact (hna cs rfl).elim)

theorem read_arg (hp : Plain P T) (hU : ∀ b, ¬ U b) {t : TypeId} {v : Value} {d : DataW H} {ps : List MemPlace} {sp : Nat → Bool} {held : Bool} {base b : Nat} {r : Reach} (ht : T t) (hlt : P.info? t ≠ none)
    (hcells : (∀ x, P.underlying t ≠ some (.struct x)) → P.cellsOf t = 1) (hv : Value.okWide P w r b t v) (h : DataW.Trod enc P w base sp held t v d ps) :
    ∃ p c, Cells P t c ∧ p = mk P t c ∧ Rep U μ w p v := by
  obtain ⟨n, hn⟩ := h
  by_cases ha : ∃ c, v = .agg c
  · obtain ⟨c, rfl⟩ := ha
    have hl : c.toList.length = P.cellsOf t := by
      unfold Value.okWide at hv
      have := hp t ht
      cases hu : P.underlying t with
      | none => rw [hu] at this; exact this.elim
      | some d =>
        rw [hu] at this hv
        cases d <;> simp only at this hv <;> first | exact this.elim | (obtain ⟨cs, he, hs, _⟩ := hv; cases he; simpa using hs) | (unfold Cell.okWide Cell.ok at hv; rw [hu] at hv; exact hv.elim)
    obtain ⟨pv, h1, h2⟩ := read_cells (U := U) (μ := μ) hp hU n t _ _ ht (by simpa [Value.cells] using hl) hn
    refine ⟨mk P t pv, pv, h1, rfl, ?_⟩
    unfold mk
    rw [tagg_agg hv hp ht hlt, if_pos rfl]
    refine .agg pv c (by rw [h2.1]; simp [Value.cells]) fun i p v hi hv => h2.2 i p v hi (by simpa [Value.cells] using hv)
  · have hna : ∀ c, v ≠ .agg c := fun c e => ha ⟨c, e⟩
    have hc : v.cells.toList = [v] := by cases v <;> first | rfl | exact (hna _ rfl).elim
    have hagg := tagg_one hv hp ht hna
    have hnstruct : ∀ x, P.underlying t ≠ some (.struct x) := by
      intro x hu
      unfold Value.okWide at hv
      rw [hu] at hv
      obtain ⟨cs, rfl, _⟩ := hv
      exact hna cs rfl
    rw [hc] at hn
    obtain ⟨pv, h1, h2⟩ := read_cells (U := U) (μ := μ) hp hU n t _ _ ht (by rw [hcells hnstruct]; rfl) hn
    refine ⟨mk P t pv, pv, h1, rfl, ?_⟩
    unfold mk
    rw [hagg]
    obtain ⟨p, rfl⟩ := List.length_eq_one_iff.1 h2.1
    exact h2.2 0 p v rfl rfl

theorem read_args (hp : Plain P T) (hU : ∀ b, ¬ U b) {sp : Nat → Bool} {held : Bool} {base b : Nat} {r : Reach} (hlt : ∀ t, T t → P.info? t ≠ none) (hcells : ∀ t, T t → (∀ x, P.underlying t ≠ some (.struct x)) → P.cellsOf t = 1) :
    ∀ (ts : List TypeId) (vs : List Value) (ds : List (DataW H)) (ps : List MemPlace), (∀ t ∈ ts, T t) → (∀ (j : Nat) t v, ts[j]? = some t → vs[j]? = some v → Value.okWide P w r b t v) → DataW.TrodAll enc P w base sp held ts vs ds ps →
    ∃ pvs, Args P ts pvs ∧ RepC U μ w pvs vs
  | [], [], [], ps, _, _, _ => ⟨[], trivial, rfl, fun i p v h => by simp at h⟩
  | t :: ts, v :: vs, d :: ds, ps, ht, hv, h => by
    obtain ⟨p, q, h1, h2, _⟩ := h
    obtain ⟨pv, c, g1, g2, g3⟩ := read_arg (U := U) (μ := μ) hp hU (ht t (List.mem_cons_self ..)) (hlt t (ht t (List.mem_cons_self ..))) (hcells t (ht t (List.mem_cons_self ..))) (hv 0 t v rfl rfl) h1
    obtain ⟨pvs, g4, g5⟩ := read_args hp hU hlt hcells ts vs ds q (fun t h => ht t (List.mem_cons_of_mem _ h)) (fun j t v hj hw => hv (j + 1) t v (by simpa using hj) (by simpa using hw)) h2
    exact ⟨pv :: pvs, ⟨⟨c, g1, g2⟩, g4⟩, (RepC.one g3).append g5⟩

theorem trodAll_stays (hp : Plain P T) {w' : World} {sp : Nat → Bool} : ∀ (ts : List TypeId) (vs : List Value) (ds : List (DataW H)) (ps : List MemPlace), (∀ t ∈ ts, T t) → DataW.TrodAll enc P w 0 (fun _ => true) true ts vs ds ps → (∀ p ∈ ps, w.sameAt w' p) →
    (∀ p ∈ ps, sp p.block = true) → DataW.TrodAll enc P w' 0 sp true ts vs ds ps
  | [], [], [], ps, _, h, _, _ => h
  | t :: ts, v :: vs, d :: ds, ps, ht, h, hs, hb => by
    obtain ⟨p, q, ⟨n, h1⟩, h2, rfl⟩ := h
    exact ⟨p, q, ⟨n, DataW.trod_stays hp.kids hp.pos (fun h => by cases h) (ht t (List.mem_cons_self ..)) h1 (fun x hx => hs x (List.mem_append_left _ hx)) (fun x hx => hb x (List.mem_append_left _ hx))⟩,
      trodAll_stays hp ts vs ds q (fun t h => ht t (List.mem_cons_of_mem _ h)) h2 (fun x hx => hs x (List.mem_append_right _ hx)) (fun x hx => hb x (List.mem_append_right _ hx)), rfl⟩
end

/-- A call that leaves its arguments as they were. -/
theorem post_same {H : Type} {enc : TypeId × Value → H} {P : Program} {f : Func} {s : ChangeSpec} {apart fresh handsOn again : Bool} {W W' : World} {args : Array Value} {v : Value} {ds gs : List (DataW H)} {before pa pv : List MemPlace}
    (hW : DataW.Whole enc P f.params.toList s.vars apart W args.toList ds gs before)
    (hres : ∀ (b : Nat) (sp : Nat → Bool) (hd : Bool), DataW.TrodAll enc P W' b sp hd f.resultTypes.toList (v.resultList f.resultTypes.size) (s.fn H (ds ++ gs)).results [])
    (hargs : ∀ sp : Nat → Bool, (∀ p ∈ before, sp p.block = true) → DataW.TrodAll enc P W' 0 sp true f.params.toList args.toList (s.fn H (ds ++ gs)).args pa)
    (hvars : ∀ sp : Nat → Bool, (∀ p ∈ before, sp p.block = true) → DataW.TrodVars enc P W' sp s.vars (s.fn H (ds ++ gs)).vars pv)
    (hps : before = pa ++ pv) (hk : W.keptBut W' (· ∈ before)) (hfz : ∀ b off, b < W.heap.size → W'.frozen? ⟨b, off, none⟩ = W.frozen? ⟨b, off, none⟩)
    (hok : ∀ (j : Nat) (t : TypeId) (r : Value), f.resultTypes[j]? = some t → (v.resultList f.resultTypes.size)[j]? = some r → Value.okWide P W' .any 0 t r) :
    s.post enc P f apart fresh handsOn again W args v W' := by
  have hold : ∀ p ∈ before, (fun b => decide (b < W.heap.size)) p.block = true := fun p hp => by simpa using hW.lt p hp
  refine ⟨ds, gs, before, [], pa, pv, hW, hres _ _ _, hargs _ hold, hvars _ hold, World.keptBut_mono (fun p hp => ⟨hp, ?_⟩) hk, fun _ => ?_⟩
  · rw [hps, List.mem_append] at hp
    exact Or.inr hp
  · have hlt := hW.lt
    obtain ⟨_, _, _, _, _, hz, hn⟩ := hW
    refine ⟨hok, _, _, ([] ++ pa) ++ pv, ⟨[] ++ pa, pv, trodAll_append (hargs _ (fun _ _ => rfl)) (hres _ _ _), hvars _ (fun _ _ => rfl), rfl, ?_, ?_⟩, ?_⟩
    · intro b off hp
      have hm : MemPlace.cell b off ∈ before := by rw [hps]; simpa using hp
      rw [hfz b off (hlt _ hm)]
      exact hz b off hm
    · intro ha
      have := hn ha
      rw [hps] at this
      simpa using this
    · intro p hp _
      rw [hps]
      simpa using hp

def noStore : Store := fun _ => none
def noMu : Mu := fun _ => none
theorem no_used (b : Nat) : ¬ Used noStore noMu b := fun ⟨k, o, l, h, _⟩ => by cases h

/-- What the form asks of a law's call. -/
theorem law_calls {E : Env} (hC : ∀ k, E.C k = none := by intro; rfl) {H : Type} {enc : TypeId × Value → H} {l : List TypeId} {f : FuncId} {fn : Func} {s : ChangeSpec} {apart fresh handsOn again : Bool} {tb : TypeId}
    (hpl : plainB E.P l = true) (hlt : (l.all fun t => (E.P.info? t).isSome) = true) (hcells : (l.all fun t => match E.P.underlying t with | some (.struct _) => true | _ => decide (E.P.cellsOf t = 1)) = true)
    (hparams : (fn.params.toList.all fun t => l.contains t) = true) (hvars : s.vars = []) (hs : ∀ ds : List (DataW H), ds.length = fn.params.toList.length → s.fn H ds = { results := [.lit (.bool true)], args := ds })
    (hres : fn.resultTypes = #[tb]) (hbool : E.P.underlying tb = some .bool)
    (law : ∀ pvs, Args E.P fn.params.toList pvs → Pure E f pvs (.bool true))
    (W : World) (base : Nat) (args : Array Value) (ds gs : List (DataW H)) (before : List MemPlace)
    (hglob : ∀ g cs, E.G g = some cs → GlobRep (Used noStore noMu) noMu W g cs)
    (hval : ∀ (j : Nat) t v, fn.params[j]? = some t → args[j]? = some v → Value.okWide E.P W .any base t v)
    (hW : DataW.Whole enc E.P fn.params.toList s.vars apart W args.toList ds gs before) :
    Calls E.P f args W fun e W' => ∃ v, e = .returned v ∧ s.post enc E.P fn apart fresh handsOn again W args v W' := by
  have hW' := hW
  obtain ⟨p, q, hA, hV, rfl, hfz, hnd⟩ := hW
  have hp := plain_of hpl
  have ht : ∀ t ∈ fn.params.toList, t ∈ l := fun t h => List.contains_iff_mem.1 (List.all_eq_true.1 hparams t h)
  have hV' : gs = [] ∧ q = [] := by
    rw [hvars] at hV
    cases gs with
    | nil => exact ⟨rfl, hV⟩
    | cons g gs => exact hV.elim
  obtain ⟨rfl, rfl⟩ := hV'
  obtain ⟨pvs, h1, h2⟩ := read_args (U := Used noStore noMu) (μ := noMu) (r := .any) (b := base) hp no_used (fun t h => by
      have := List.all_eq_true.1 hlt t h
      intro e; rw [e] at this; cases this)
    (fun t h hx => by
      have := List.all_eq_true.1 hcells t h
      split at this
      · rename_i y hy
        exact (hx y hy).elim
      · simpa using this) fn.params.toList args.toList ds p ht (fun j t v hj hv => hval j t v (by simpa using hj) (by simpa using hv)) hA
  have hsim : Sim E noStore noMu W := ⟨(fun k k' o o' l l' h => by cases h), (fun k o h => by cases h), hglob, fun k c h => by rw [hC k] at h; cases h⟩
  have hlen : ds.length = fn.params.toList.length := by
    have : ∀ (ts : List TypeId) (vs : List Value) (ds : List (DataW H)) (p : List MemPlace), DataW.TrodAll enc E.P W 0 (fun _ => true) true ts vs ds p → ds.length = ts.length := by
      intro ts
      induction ts with
      | nil => intro vs ds p h; cases vs <;> cases ds <;> first | rfl | exact h.elim
      | cons t ts ih =>
        intro vs ds p h
        cases vs <;> cases ds <;> first | exact h.elim | skip
        obtain ⟨p, q, _, h2, _⟩ := h
        simp [ih _ _ _ h2]
    exact this _ _ _ _ hA
  have hrl : RepL (Used noStore noMu) noMu W pvs args := ⟨by rw [h2.1]; simp, fun i p v hi hv => h2.2 i p v hi (by simpa using hv)⟩
  refine ((law pvs h1 noStore 0).calls noMu W args hsim (fun k _ => rfl) hrl).mono fun e W' ⟨μ', ho, _, hm, _⟩ => ?_
  obtain ⟨v, rfl, hv⟩ := ho
  obtain rfl : v = .bool true := by cases hv; rfl
  have hkeep : ∀ b, b < W.heap.size → W'.heap[b]? = W.heap[b]? := fun b hb => hm.keep b hb (no_used b)
  have hplt : ∀ x ∈ p, x.block < W.heap.size := fun x hx => hW'.lt x (by simpa using hx)
  have hsame : ∀ x ∈ p, W.sameAt W' x := by
    intro x hx
    have := hkeep _ (hplt x hx)
    cases x with
    | cell b off => exact cell_same this
    | map b => exact this
  simp only [List.append_nil] at hW'
  refine ⟨_, rfl, post_same (pa := p) (pv := []) hW' ?_ ?_ ?_ (by simp) ?_ ?_ ?_⟩
  · intro b sp hd
    rw [List.append_nil, hs ds hlen, hres]
    have hb1 : DataW.Trod enc E.P W' b sp hd tb (.bool true) (.lit (.bool true)) [] := ⟨1, by simp [DataW.trod, Value.cells, hbool]⟩
    exact trodAll_cons_mk hb1 trodAll_mk0
  · intro sp hsp
    rw [List.append_nil, hs ds hlen]
    exact trodAll_stays hp _ _ _ _ ht hA hsame hsp
  · intro sp _
    rw [List.append_nil, hs ds hlen, hvars]
    rfl
  · refine ⟨hm.os, hm.output, fun i hi => ?_⟩
    rw [hkeep i hi]
    split <;> simp_all
  · intro b off hb
    exact World.frozen?_of_block (hkeep b hb)
  · exact ok_one hres rfl (okWide_bool_mk hbool _)
end Go.Proofs.YtdajoilaakiinaaGreatDoor.Awp

/- Package-level variables that are laid: their reading as pure values. -/
namespace Go.Proofs.YtdajoilaakiinaaGreatDoor.Awp
open Go Go.ChangeShapes Go.WideShapes Go.ChangeAt Go.RowKit

/-- The cells of a datum without pointers. -/
def litP : Lit → Option PV
  | .bool b => some (.bool b)
  | .int k n => some (.int k n)
  | _ => none
mutual
def flatD {H : Type} : DataW H → Option (List PV)
  | .lit l => (litP l).map fun p => [p]
  | .agg ds => flatDs ds
  | _ => none
def flatDs {H : Type} : List (DataW H) → Option (List PV)
  | [] => some []
  | d :: ds => match flatD d, flatDs ds with
    | some a, some b => some (a ++ b)
    | _, _ => none
end

/-- Types whose values are whole numbers and bools in structs and arrays. -/
def FlatT (P : Program) (T : TypeId → Prop) : Prop := ∀ t, T t → match P.underlying t with
  | some .bool => True
  | some (.int _) => True
  | some (.array n e) => T e ∧ P.cellsOf t = n * P.cellsOf e
  | some (.struct fs) => (∀ f ∈ fs.toList, T f.type) ∧ P.cellsOf t = (fs.toList.map fun f => P.cellsOf f.type).sum ∧ ∀ (j : Nat) f, fs.toList[j]? = some f → f.offset = ((fs.toList.take j).map fun f => P.cellsOf f.type).sum
  | _ => False
def flatB (P : Program) (l : List TypeId) : Bool := l.all fun t => match P.underlying t with
  | some .bool => true
  | some (.int _) => true
  | some (.array n e) => l.contains e && decide (P.cellsOf t = n * P.cellsOf e)
  | some (.struct fs) => fs.toList.all (fun f => l.contains f.type) && decide (P.cellsOf t = (fs.toList.map fun f => P.cellsOf f.type).sum) && (List.range fs.toList.length).all fun j => match fs.toList[j]? with
    | some f => decide (f.offset = ((fs.toList.take j).map fun f => P.cellsOf f.type).sum)
    | none => true
  | _ => false
theorem flatT_of {P : Program} {l : List TypeId} (h : flatB P l = true) : FlatT P (· ∈ l) := by
  intro t ht
  have := List.all_eq_true.1 h t ht
  revert this
  cases P.underlying t with
  | none => simp
  | some d =>
    cases d <;> simp only [Bool.false_eq_true, imp_self, implies_true, Bool.and_eq_true, decide_eq_true_eq]
    case array n e => exact fun h => ⟨List.contains_iff_mem.1 h.1, h.2⟩
    case struct fs =>
      rintro ⟨⟨h1, h2⟩, h3⟩
      refine ⟨fun f hf => List.contains_iff_mem.1 (List.all_eq_true.1 h1 f hf), h2, fun j f hj => ?_⟩
      have := List.all_eq_true.1 h3 j (List.mem_range.2 (List.getElem?_eq_some_iff.1 hj).1)
      rw [hj] at this
      simpa using this

section
variable {H : Type} {enc : TypeId × Value → H} {P : Program} {w : World} {U : Nat → Prop} {μ : Mu} {T : TypeId → Prop}

/-- Parts that lie one behind the other. -/
theorem flat_parts {α : Type} {sz off : α → Nat} {g : α → List Value → Option (DataW H × List MemPlace)} {cs : List Value} :
    ∀ (fs : List α) (xs : List (DataW H × List MemPlace)) (o : Nat) (pvs : List PV), (∀ a ∈ fs, ∀ y pv, g a ((cs.drop (off a)).take (sz a)) = some y → flatD y.1 = some pv → RepC U μ w pv ((cs.drop (off a)).take (sz a))) →
      (∀ (j : Nat) f, fs[j]? = some f → off f = o + ((fs.take j).map sz).sum) → fs.mapM (fun a => g a ((cs.drop (off a)).take (sz a))) = some xs →
      flatDs (xs.map (·.1)) = some pvs → cs.length = o + (fs.map sz).sum → RepC U μ w pvs (cs.drop o)
  | [], xs, o, pvs, _, _, h, hp, hl => by
    rw [List.mapM_nil] at h
    cases h
    simp only [List.map_nil, flatDs, Option.some.injEq] at hp
    subst hp
    have : cs.drop o = [] := List.drop_eq_nil_of_le (by simp at hl; omega)
    rw [this]
    exact ⟨rfl, fun i p v h => by simp at h⟩
  | f :: fs, xs, o, pvs, hg, ho, h, hp, hl => by
    rw [List.mapM_cons] at h
    simp only [Option.pure_def, Option.bind_eq_bind, Option.bind_eq_some_iff, Option.some.injEq] at h
    obtain ⟨y, hy, ys, hys, rfl⟩ := h
    simp only [List.map_cons, flatDs] at hp
    split at hp
    · rename_i a b ha hb
      cases hp
      have h0 := ho 0 f rfl
      simp only [List.take_zero, List.map_nil, List.sum_nil, Nat.add_zero] at h0
      have h1 := hg f (List.mem_cons_self ..) y a hy ha
      rw [h0] at h1
      have h2 := flat_parts fs ys (o + sz f) b (fun a ha => hg a (List.mem_cons_of_mem _ ha)) (fun j f' hj => by
        have := ho (j + 1) f' (by simpa using hj)
        rw [this]
        simp
        omega) hys hb (by simp at hl; omega)
      have e : cs.drop o = (cs.drop o).take (sz f) ++ cs.drop (o + sz f) := by
        rw [← List.drop_drop]
        exact (List.take_append_drop (sz f) (cs.drop o)).symm
      rw [e]
      exact h1.append h2
    · cases hp

theorem flat_cells (K : FlatT P T) {sp : Nat → Bool} {held : Bool} {base : Nat} : ∀ (n : Nat) (t : TypeId) (cs : List Value) (x : DataW H × List MemPlace) (pvs : List PV), T t → DataW.trod enc P w base sp held n t cs = some x → flatD x.1 = some pvs → RepC U μ w pvs cs := by
  intro n
  induction n with
  | zero => intro t cs x pvs _ h; simp [DataW.trod] at h
  | succ n ih =>
    intro t cs x pvs ht h hf
    have hq := K t ht
    rw [DataW.trod_step] at h
    unfold DataW.trodStep at h
    split at h
    case h_1 b hu =>
      cases h
      simp only [flatD, litP, Option.map_some, Option.some.injEq] at hf
      subst hf
      exact .one (.bool b)
    case h_2 k k' m hu =>
      split at h
      · rename_i hk
        obtain ⟨rfl, hw⟩ := hk
        cases h
        simp only [flatD, litP, Option.map_some, Option.some.injEq] at hf
        subst hf
        exact .one (.int _ m)
      · cases h
    case h_9 cs' fs hu =>
      clear cs'
      rename_i cs xo
      rw [hu] at hq
      obtain ⟨h1, h2, h3⟩ := hq
      split at h
      · rename_i hl
        simp only [Option.map_eq_some_iff] at h
        obtain ⟨xs, hxs, rfl⟩ := h
        simp only [flatD] at hf
        have := flat_parts (U := U) (μ := μ) (w := w) (off := fun f : Field => f.offset) (sz := fun f => P.cellsOf f.type) (g := fun f c => DataW.trod enc P w base sp held n f.type c) (cs := cs) fs.toList xs 0 pvs
          (fun f hf y pv hy hpv => ih f.type _ y pv (h1 f hf) hy hpv) (fun j f hj => by rw [h3 j f hj, Nat.zero_add]) hxs hf (by rw [hl, h2, Nat.zero_add])
        simpa using this
      · cases h
    case h_10 cs' len e hu =>
      clear cs'
      rename_i cs xo
      rw [hu] at hq
      obtain ⟨h1, h2⟩ := hq
      split at h
      · rename_i hl
        simp only [Option.map_eq_some_iff] at h
        obtain ⟨xs, hxs, rfl⟩ := h
        simp only [flatD] at hf
        have hs : ∀ (m : Nat), ((List.range m).map fun _ => P.cellsOf e).sum = m * P.cellsOf e := by
          intro m
          induction m with
          | zero => simp
          | succ m ih => rw [List.range_succ, List.map_append, List.sum_append, ih]; simp [Nat.succ_mul]
        have := flat_parts (U := U) (μ := μ) (w := w) (off := fun i : Nat => i * P.cellsOf e) (sz := fun _ => P.cellsOf e) (g := fun _ c => DataW.trod enc P w base sp held n e c) (cs := cs) (List.range len) xs 0 pvs
          (fun i _ y pv hy hpv => ih e _ y pv h1 hy hpv) (fun j f hj => by
            obtain ⟨hj1, hj2⟩ := List.getElem?_eq_some_iff.1 hj
            simp only [List.length_range] at hj1
            simp only [List.getElem_range] at hj2
            subst hj2
            rw [List.take_range, hs, Nat.zero_add, Nat.min_eq_left (by omega)]) hxs hf (by rw [hl, h2, Nat.zero_add, hs])
        simpa using this
      · cases h
    all_goals (first | (cases h; done) | (rename_i hu; rw [hu] at hq; exact hq.elim))

/-- A laid variable's cells. -/
theorem laid_var (K : FlatT P T) {l : List (String × DataW Unit)} (hl : laidMetH P l w) (hh : (l.filter fun x => x.2.handleName?.isSome).isEmpty = true) {n : String} {d : DataW Unit} {g : Nat} {t : TypeId} {pvs : List PV} (hm : (n, d) ∈ l) (hg : P.globalNamed n = some g)
    (ht : (P.globals[g]?).map (·.type) = some t) (hT : T t) (hf : flatD d = some pvs) : ∃ cs : Array Value, P.globalNamed n = some g ∧ w.var? P n = some cs ∧ RepC U μ w pvs cs.toList := by
  have hmet : laidMet P l w := by
    unfold laidMetH at hl
    rw [List.isEmpty_iff.1 hh] at hl
    exact hl
  obtain ⟨ps, hlv, hrest⟩ := hmet
  clear hl hh hrest
  induction l generalizing ps with
  | nil => cases hm
  | cons x l ih =>
    obtain ⟨n', d'⟩ := x
    obtain ⟨g', t', cs, fuel, p, q, h1, h2, h3, h4, h5, _⟩ := hlv
    rcases List.mem_cons.1 hm with h | h
    · cases h
      have eg : g' = g := Option.some.inj (h1.symm.trans hg)
      subst eg
      have et : t' = t := Option.some.inj (h2.symm.trans ht)
      subst et
      exact ⟨cs, hg, h3, flat_cells K fuel _ _ _ _ hT h4 hf⟩
    · exact ih h _ h5
theorem glob_of (hU : ∀ b, ¬ U b) {n : String} {g : Nat} {pvs : List PV} (h : ∃ cs : Array Value, P.globalNamed n = some g ∧ w.var? P n = some cs ∧ RepC U μ w pvs cs.toList) : GlobRep U μ w g pvs := by
  obtain ⟨cs, h1, h2, h3⟩ := h
  have hb : ∃ t fr, w.heap[g]? = some (.cells cs t fr) := by
    unfold World.var? at h2
    rw [h1] at h2
    simp only [Option.bind_some] at h2
    split at h2
    · rename_i c t fr hc
      cases h2
      exact ⟨t, fr, hc⟩
    · cases h2
  obtain ⟨t, fr, hb⟩ := hb
  have hcell : ∀ i, w.cell? ⟨g, 0 + i, none⟩ = cs[i]? := by
    intro i
    simp [World.cell?, hb]
  refine ⟨?_, cs, t, fr, hb, by rw [h3.1]; simp⟩
  refine .cells pvs g 0 (fun i => cs[i]?.getD default) ⟨(Array.getElem?_eq_some_iff.1 hb).1, hU _⟩ (fun i pv hi => ?_) (fun i pv hi => ?_)
  · have hlt : i < cs.size := by have := (List.getElem?_eq_some_iff.1 hi).1; rw [h3.1] at this; simpa using this
    rw [hcell, Array.getElem?_eq_getElem hlt]
    rfl
  · have hlt : i < cs.size := by have := (List.getElem?_eq_some_iff.1 hi).1; rw [h3.1] at this; simpa using this
    refine h3.2 i pv _ hi ?_
    rw [Array.getElem?_toList, Array.getElem?_eq_getElem hlt]
    rfl
end
end Go.Proofs.YtdajoilaakiinaaGreatDoor.Awp
