/- A small abstract machine over pure values, and what it is for a machine's state to be represented by one of its states. -/
import Derived.WalkKit
set_option linter.unusedSimpArgs false
set_option linter.unusedVariables false
namespace Go.Proofs.YtdajoilaakiinaaGreatDoor.Awp
open Go

/-- Pure values: what a slot or a cell holds, with the memory behind it that nobody will ever write. -/
inductive PV where
  | int (k : IntKind) (n : Int)
  | bool (b : Bool)
  | str (s : ByteArray)
  | nil
  | empty
  | list (es : List (List PV))
  | row (k off len : Nat)
  | agg (cs : List PV)
  | tup (vs : List PV)
  | ptr (k idx off : Nat)
  | cells (cs : List PV)
  | nilp
  | fn (f : FuncId) (first caps : List PV)
  | nilfn
  | map (k : Nat)
  | imap (es : List (PV × PV))
  | nilmap
  | iface (t : TypeId) (v : PV)
  | nili
  | junk
  deriving Inhabited

/-- Objects that may still be written: rows of elements (a variable is a row of one element) and maps. -/
inductive AObj where
  | row (es : List (List PV))
  | map (es : List (PV × PV))
  deriving Inhabited

abbrev Store := Nat → Option AObj

def upd {α : Type} (f : Nat → α) (k : Nat) (v : α) : Nat → α := fun t => if t = k then v else f t
theorem upd_same {α : Type} (f : Nat → α) (k : Nat) (v : α) : upd f k v k = v := by simp [upd]
theorem upd_other {α : Type} (f : Nat → α) {k t : Nat} (v : α) (h : t ≠ k) : upd f k v t = f t := by simp [upd, h]
theorem upd_at {α : Type} (f : Nat → α) (k t : Nat) (v : α) : upd f k v t = if t = k then v else f t := rfl
theorem upd_self {α : Type} (f : Nat → α) (k : Nat) : upd f k (f k) = f := by funext t; simp only [upd]; split <;> simp_all
theorem upd_upd {α : Type} (f : Nat → α) (k : Nat) (v v' : α) : upd (upd f k v) k v' = upd f k v' := by funext t; simp only [upd]; split <;> simp_all
theorem upd_comm {α : Type} (f : Nat → α) {k k' : Nat} (v v' : α) (h : k ≠ k') : upd (upd f k v) k' v' = upd (upd f k' v') k v := by
  funext t; simp only [upd]; split <;> split <;> simp_all

/-- Where an object lies: its block, the cell at which it begins, how many elements there is room for, the cells of an element. -/
structure Loc where
  b : Nat
  base : Nat
  cap : Nat
  sz : Nat
abbrev Mu := Nat → Option Loc

def Used (σ : Store) (μ : Mu) (b : Nat) : Prop := ∃ k o l, σ k = some o ∧ μ k = some l ∧ l.b = b

inductive Rep (U : Nat → Prop) (μ : Mu) (w : World) : PV → Value → Prop
  | int (k : IntKind) (n : Int) : Rep U μ w (.int k n) (.int k n)
  | bool (b : Bool) : Rep U μ w (.bool b) (.bool b)
  | str (s : ByteArray) : Rep U μ w (.str s) (.string s)
  | nil : Rep U μ w .nil (.slice none 0 0)
  | empty (a : Addr) : Rep U μ w .empty (.slice (some a) 0 0)
  | list (es : List (List PV)) (a : Option Addr) (c sz b off : Nat) (vs : Nat → Nat → Value) (hn : a.isSome = true) (hc : es.length ≤ c) (hs : ∀ (j : Nat) (cs : List PV), es[j]? = some cs → cs.length = sz)
      (ha : es ≠ [] → a = some ⟨b, off, none⟩ ∧ b < w.heap.size ∧ ¬ U b)
      (hv : ∀ (j : Nat) (cs : List PV) (i : Nat) (pv : PV), es[j]? = some cs → cs[i]? = some pv → w.cell? ⟨b, off + j * sz + i, none⟩ = some (vs j i))
      (hr : ∀ (j : Nat) (cs : List PV) (i : Nat) (pv : PV), es[j]? = some cs → cs[i]? = some pv → Rep U μ w pv (vs j i)) : Rep U μ w (.list es) (.slice a es.length c)
  | row (k off len : Nat) (l : Loc) (a : Addr) (hm : μ k = some l) (ha : off < l.cap → a = ⟨l.b, l.base + off * l.sz, none⟩) :
      Rep U μ w (.row k off len) (.slice (some a) len (l.cap - off))
  | agg (cs : List PV) (vs : Array Value) (hl : vs.size = cs.length) (hr : ∀ (i : Nat) (pv : PV) (v : Value), cs[i]? = some pv → vs[i]? = some v → Rep U μ w pv v) : Rep U μ w (.agg cs) (.agg vs)
  | tup (cs : List PV) (vs : Array Value) (hl : vs.size = cs.length) (hr : ∀ (i : Nat) (pv : PV) (v : Value), cs[i]? = some pv → vs[i]? = some v → Rep U μ w pv v) : Rep U μ w (.tup cs) (.tuple vs)
  | ptr (k idx off : Nat) (l : Loc) (hm : μ k = some l) : Rep U μ w (.ptr k idx off) (.pointer (some ⟨l.b, l.base + idx * l.sz + off, none⟩))
  | cells (cs : List PV) (b off : Nat) (vs : Nat → Value) (hu : b < w.heap.size ∧ ¬ U b) (hv : ∀ (i : Nat) (pv : PV), cs[i]? = some pv → w.cell? ⟨b, off + i, none⟩ = some (vs i))
      (hr : ∀ (i : Nat) (pv : PV), cs[i]? = some pv → Rep U μ w pv (vs i)) : Rep U μ w (.cells cs) (.pointer (some ⟨b, off, none⟩))
  | nilp : Rep U μ w .nilp (.pointer none)
  | fn (f : FuncId) (first caps : List PV) (vs us : Array Value) (hl : vs.size = first.length) (hl' : us.size = caps.length)
      (hr : ∀ (i : Nat) (pv : PV) (v : Value), first[i]? = some pv → vs[i]? = some v → Rep U μ w pv v) (hr' : ∀ (i : Nat) (pv : PV) (v : Value), caps[i]? = some pv → us[i]? = some v → Rep U μ w pv v) :
      Rep U μ w (.fn f first caps) (.func (.func f) vs us)
  | nilfn : Rep U μ w .nilfn .nilFunc
  | map (k : Nat) (l : Loc) (hm : μ k = some l) : Rep U μ w (.map k) (.map (some l.b))
  | imap (es : List (PV × PV)) (r : Nat) (ms : Array MapEntry) (ck : Nat) (hu : ¬ U r) (hw : w.heap[r]? = some (.map ms ck)) (hl : ms.size = es.length)
      (hk : ∀ (i : Nat) (p : PV × PV) (e : MapEntry), es[i]? = some p → ms[i]? = some e → Rep U μ w p.1 e.key) (hv : ∀ (i : Nat) (p : PV × PV) (e : MapEntry), es[i]? = some p → ms[i]? = some e → Rep U μ w p.2 e.val) :
      Rep U μ w (.imap es) (.map (some r))
  | nilmap : Rep U μ w .nilmap (.map none)
  | iface (t : TypeId) (v : PV) (x : Value) (hr : Rep U μ w v x) : Rep U μ w (.iface t v) (.iface t x)
  | nili : Rep U μ w .nili .nilIface
  | junk (v : Value) : Rep U μ w .junk v

/-- What an object's block holds. -/
def ObjRep (U : Nat → Prop) (μ : Mu) (w : World) (l : Loc) : AObj → Prop
  | .row es => ∃ c t, w.heap[l.b]? = some (.cells c t (0, 0)) ∧ (∀ (j : Nat) (cs : List PV), es[j]? = some cs → cs.length = l.sz) ∧ es.length ≤ l.cap ∧ l.base + l.cap * l.sz ≤ c.size ∧
      (∀ (j : Nat) (cs : List PV) (i : Nat) (pv : PV), es[j]? = some cs → cs[i]? = some pv → (∃ v, c[l.base + j * l.sz + i]? = some v ∧ Rep U μ w pv v)) ∧ (es = [] → l.cap = 0)
  | .map es => ∃ ms ck, w.heap[l.b]? = some (.map ms ck) ∧ ms.size = es.length ∧ (∀ (i : Nat) (p : PV × PV) (e : MapEntry), es[i]? = some p → ms[i]? = some e → Rep U μ w p.1 e.key) ∧ (∀ (i : Nat) (p : PV × PV) (e : MapEntry), es[i]? = some p → ms[i]? = some e → Rep U μ w p.2 e.val) ∧
      (∀ (i : Nat) (e : MapEntry), ms[i]? = some e → e.born = i) ∧ ck = ms.size

/-- The kinds of cells that a comparison of structs may meet. -/
inductive CK where
  | int
  | bool
  | str
  | other
  deriving DecidableEq
def ck : PV → CK
  | .int _ _ => .int
  | .bool _ => .bool
  | .str _ => .str
  | _ => .other

structure Env where
  P : Program
  G : Nat → Option (List PV)
  seq : TypeId → Option (List CK)
  C : Nat → Option Nat := fun _ => none

/-- A package-level variable that nobody writes: its cells, and no more. -/
def GlobRep (U : Nat → Prop) (μ : Mu) (w : World) (g : Nat) (cs : List PV) : Prop := Rep U μ w (.cells cs) (.pointer (some ⟨g, 0, none⟩)) ∧ ∃ c t fr, w.heap[g]? = some (.cells c t fr) ∧ c.size = cs.length
structure Sim (E : Env) (σ : Store) (μ : Mu) (w : World) : Prop where
  inj : ∀ k k' o o' l l', σ k = some o → σ k' = some o' → μ k = some l → μ k' = some l' → l.b = l'.b → k = k'
  obj : ∀ k o, σ k = some o → ∃ l, μ k = some l ∧ ObjRep (Used σ μ) μ w l o
  glob : ∀ g cs, E.G g = some cs → GlobRep (Used σ μ) μ w g cs
  caps : ∀ k c, E.C k = some c → ∃ l, μ k = some l ∧ l.cap = c

/-- What a run may have done: nothing that was there and is no object of the store has changed. -/
structure Moves (σ : Store) (μ : Mu) (w : World) (σ' : Store) (μ' : Mu) (w' : World) : Prop where
  mu : ∀ k l, μ k = some l → μ' k = some l
  size : w.heap.size ≤ w'.heap.size
  keep : ∀ b, b < w.heap.size → ¬ Used σ μ b → w'.heap[b]? = w.heap[b]?
  used : ∀ b, b < w.heap.size → Used σ' μ' b → Used σ μ b
  os : w'.os = w.os
  tape : w'.tape = w.tape
  output : w'.output = w.output

theorem Moves.refl (σ : Store) (μ : Mu) (w : World) : Moves σ μ w σ μ w := ⟨fun _ _ h => h, Nat.le_refl _, fun _ _ _ => rfl, fun _ _ h => h, rfl, rfl, rfl⟩
theorem Moves.trans {σ σ' σ'' : Store} {μ μ' μ'' : Mu} {w w' w'' : World} (h : Moves σ μ w σ' μ' w') (k : Moves σ' μ' w' σ'' μ'' w'') : Moves σ μ w σ'' μ'' w'' :=
  ⟨fun x l hx => k.mu x l (h.mu x l hx), Nat.le_trans h.size k.size, fun b hb hu => (k.keep b (Nat.lt_of_lt_of_le hb h.size) fun hx => hu (h.used b hb hx)).trans (h.keep b hb hu),
    fun b hb hu => h.used b hb (k.used b (Nat.lt_of_lt_of_le hb h.size) hu), k.os.trans h.os, k.tape.trans h.tape, k.output.trans h.output⟩

theorem cell_same {w w' : World} {b off : Nat} (h : w'.heap[b]? = w.heap[b]?) : w'.cell? ⟨b, off, none⟩ = w.cell? ⟨b, off, none⟩ := by
  simp only [World.cell?, h]

/-- What is represented stays represented. -/
theorem Rep.moves {σ σ' : Store} {μ μ' : Mu} {w w' : World} (m : Moves σ μ w σ' μ' w') {p : PV} {v : Value} (h : Rep (Used σ μ) μ w p v) : Rep (Used σ' μ') μ' w' p v := by
  induction h with
  | int k n => exact .int k n
  | bool b => exact .bool b
  | str s => exact .str s
  | nil => exact .nil
  | empty a => exact .empty a
  | list es a c sz b off vs hn hc hs ha hv hr ih =>
    by_cases he : es = []
    · subst he
      exact .list [] a c sz b off vs hn hc hs (fun h => (h rfl).elim) (fun j cs i pv h => by simp at h) (fun j cs i pv h => by simp at h)
    · obtain ⟨h1, h2, h3⟩ := ha he
      exact .list es a c sz b off vs hn hc hs (fun _ => ⟨h1, Nat.lt_of_lt_of_le h2 m.size, fun hu => h3 (m.used b h2 hu)⟩)
        (fun j cs i pv hj hi => (cell_same (m.keep b h2 h3)).trans (hv j cs i pv hj hi)) ih
  | row k off len l a hm ha => exact .row k off len l a (m.mu _ _ hm) ha
  | agg cs vs hl hr ih => exact .agg cs vs hl ih
  | tup cs vs hl hr ih => exact .tup cs vs hl ih
  | ptr k idx off l hm => exact .ptr k idx off l (m.mu _ _ hm)
  | cells cs b off vs hu hv hr ih =>
    exact .cells cs b off vs ⟨Nat.lt_of_lt_of_le hu.1 m.size, fun h => hu.2 (m.used b hu.1 h)⟩ (fun i pv hi => (cell_same (m.keep b hu.1 hu.2)).trans (hv i pv hi)) ih
  | nilp => exact .nilp
  | fn f first caps vs us hl hl' hr hr' ih ih' => exact .fn f first caps vs us hl hl' ih ih'
  | nilfn => exact .nilfn
  | map k l hm => exact .map k l (m.mu _ _ hm)
  | imap es r ms ck hu hw hl hk hv ihk ihv =>
    have hr : r < w.heap.size := (Array.getElem?_eq_some_iff.1 hw).1
    exact .imap es r ms ck (fun h => hu (m.used r hr h)) ((m.keep r hr hu).trans hw) hl ihk ihv
  | nilmap => exact .nilmap
  | iface t v x hr ih => exact .iface t v x ih
  | nili => exact .nili
  | junk v => exact .junk v

theorem Rep.unused {U : Nat → Prop} {μ : Mu} {w : World} {g : Nat} {cs : List PV} (h : Rep U μ w (.cells cs) (.pointer (some ⟨g, 0, none⟩))) : g < w.heap.size ∧ ¬ U g := by
  cases h with
  | cells cs b off vs hu hv hr => exact hu
theorem GlobRep.moves {σ σ' : Store} {μ μ' : Mu} {w w' : World} (m : Moves σ μ w σ' μ' w') {g : Nat} {cs : List PV} (h : GlobRep (Used σ μ) μ w g cs) : GlobRep (Used σ' μ') μ' w' g cs := by
  obtain ⟨h1, c, t, fr, h2, h3⟩ := h
  exact ⟨h1.moves m, c, t, fr, (m.keep g h1.unused.1 h1.unused.2).trans h2, h3⟩
/-- The values of a list, each represented. -/
def RepL (U : Nat → Prop) (μ : Mu) (w : World) (ps : List PV) (vs : Array Value) : Prop := vs.size = ps.length ∧ ∀ (i : Nat) (pv : PV) (v : Value), ps[i]? = some pv → vs[i]? = some v → Rep U μ w pv v
theorem RepL.moves {σ σ' : Store} {μ μ' : Mu} {w w' : World} (m : Moves σ μ w σ' μ' w') {p : List PV} {v : Array Value} (h : RepL (Used σ μ) μ w p v) : RepL (Used σ' μ') μ' w' p v :=
  ⟨h.1, fun i pv v hi hv => (h.2 i pv v hi hv).moves m⟩

/-- How a call ends: with a value, or with a panic's value. -/
inductive Out where
  | ret (v : PV)
  | panic (v : PV)

def OutRep (U : Nat → Prop) (μ : Mu) (w : World) : Out → Ending → Prop
  | .ret p, e => ∃ v, e = .returned v ∧ Rep U μ w p v
  | .panic p, e => ∃ v, e = .panicked [{ v, recovered := false }] ∧ Rep U μ w p v

def Callable (P : Program) (f : FuncId) : Prop := ∃ fn, P.funcs[f]? = some fn ∧ fn.body.isSome = true ∧ (fn.name == "runtime.NumGoroutine") = false

/-- The contract of a function: called in a state that the store represents, it ends so, and the state is then represented so. -/
structure Fn (E : Env) (f : FuncId) (σ : Store) (nx : Nat) (args : List PV) (out : Out) (σ' : Store) (nx' : Nat) : Prop where
  callable : Callable E.P f
  le : nx ≤ nx'
  calls : ∀ μ w vs, Sim E σ μ w → (∀ k, nx ≤ k → μ k = none) → RepL (Used σ μ) μ w args vs →
    Calls E.P f vs w fun e w' => ∃ μ', OutRep (Used σ' μ') μ' w' out e ∧ Sim E σ' μ' w' ∧ Moves σ μ w σ' μ' w' ∧ (∀ k, k < nx → μ' k = μ k) ∧ (∀ k, nx' ≤ k → μ' k = none)

/-- The contract of a function that only computes. -/
def Pure (E : Env) (f : FuncId) (args : List PV) (v : PV) : Prop := ∀ σ nx, Fn E f σ nx args (.ret v) σ nx

end Go.Proofs.YtdajoilaakiinaaGreatDoor.Awp

/- What each operation of the machine does to a state of the abstract machine. -/
namespace Go.Proofs.YtdajoilaakiinaaGreatDoor.Awp
open Go

/-! ### types -/
/-- A type's cells, and whether its values are made of several. -/
def ti (P : Program) (t : TypeId) : Option (Nat × Bool) := match P.info? t, P.underlying t with
  | some i, some (.struct _) => some (i.size, true)
  | some i, some (.array _ _) => some (i.size, true)
  | some i, some _ => some (i.size, false)
  | _, _ => none
def tsz (P : Program) (t : TypeId) : Nat := ((ti P t).getD (0, false)).1
def tagg (P : Program) (t : TypeId) : Bool := ((ti P t).getD (0, false)).2
def tbytes (P : Program) (t : TypeId) : Nat := ((P.info? t).map (·.bytes)).getD 0
/-- A struct's fields: where they begin, and their cells. -/
def tpl (P : Program) (t : TypeId) : Option (List (Nat × Nat)) := match P.underlying t with
  | some (.struct fs) => fs.toList.mapM fun f => (P.info? f.type).map fun i => (f.offset, i.size)
  | _ => none
def tfld (P : Program) (t : TypeId) (f : Nat) : Option (Nat × TypeId) := match P.underlying t with
  | some (.struct fs) => (fs[f]?).map fun x => (x.offset, x.type)
  | _ => none
def telem (P : Program) (t : TypeId) : Option TypeId := match P.underlying t with
  | some (.slice e) => some e
  | _ => none
def tarr (P : Program) (t : TypeId) : Option (Nat × TypeId) := match P.underlying t with
  | some (.array n e) => some (n, e)
  | _ => none
def tint (P : Program) (t : TypeId) : Option IntKind := match P.underlying t with
  | some (.int k) => some k
  | _ => none
def tstr (P : Program) (t : TypeId) : Bool := match P.underlying t with
  | some .string => true
  | _ => false
def tbool (P : Program) (t : TypeId) : Bool := match P.underlying t with
  | some .bool => true
  | _ => false
def tptr (P : Program) (t : TypeId) : Bool := match P.underlying t with
  | some (.pointer _) => true
  | _ => false
def tfunc (P : Program) (t : TypeId) : Bool := match P.underlying t with
  | some (.func _ _ _) => true
  | _ => false

def tiface (P : Program) (t : TypeId) : Bool := match P.underlying t with
  | some (.interface _) => true
  | _ => false
/-! ### values -/
def ofC : Value → Option PV
  | .int k n => some (.int k n)
  | .bool b => some (.bool b)
  | .string s => some (.str s)
  | .slice none 0 0 => some .nil
  | .pointer none => some .nilp
  | .nilFunc => some .nilfn
  | .map none => some .nilmap
  | .nilIface => some .nili
  | _ => none
def opd (E : Env) (sl : Nat → PV) : Operand → PV
  | .tmp t => sl t
  | .const v => (ofC v).getD .junk
  | .global g => match E.G g with
    | some cs => .cells cs
    | none => .junk
  | .func f => .fn f [] []
/-- The cells of a value. -/
def cellsP : PV → List PV
  | .agg cs => cs
  | v => [v]
/-- Is it surely the value of one cell? -/
def one : PV → Bool
  | .agg _ => false
  | .tup _ => false
  | .junk => false
  | _ => true
def ones (cs : List PV) : Bool := cs.all one
def tzero (P : Program) (t : TypeId) : Option (List PV) := ((P.info? t).bind (·.zero)).bind fun v => v.cells.toList.mapM ofC
/-- A value of a type, out of its cells. -/
def mk (P : Program) (t : TypeId) (cs : List PV) : PV := if tagg P t then .agg cs else cs.headD .junk

structure Eff where
  val : PV
  wr : List (Nat × Option AObj) := []
  rd : List Nat := []
abbrev Ev := Option (Prop × Eff)
def evP (v : PV) : Ev := some (True, { val := v })
def evIf (c : Prop) (v : PV) : Ev := some (c, { val := v })

def patch (cs : List PV) (off : Nat) (xs : List PV) : List PV := cs.take off ++ xs ++ cs.drop (off + xs.length)

def evLoad (E : Env) (σ : Store) (t : TypeId) (a : PV) : Ev := if ti E.P t = none then none else match a with
  | .ptr k i off => match σ k with
    | some (.row es) => some (i < es.length ∧ off + tsz E.P t ≤ (es[i]?.getD []).length ∧ (tagg E.P t = false → tsz E.P t = 1), { val := mk E.P t (((es[i]?.getD []).drop off).take (tsz E.P t)), rd := [k] })
    | _ => none
  | .cells cs => some (tsz E.P t ≤ cs.length ∧ (tagg E.P t = false → tsz E.P t = 1), { val := mk E.P t (cs.take (tsz E.P t)) })
  | _ => none

def evStore (E : Env) (σ : Store) (t : TypeId) (x a : PV) : Ev := if ti E.P t = none then none else match a with
  | .ptr k i off => match σ k with
    | some (.row es) => some (i < es.length ∧ off + tsz E.P t ≤ (es[i]?.getD []).length ∧ (cellsP x).length = tsz E.P t ∧ ones (cellsP x) = true,
        { val := .junk, wr := [(k, some (.row (es.set i (patch (es[i]?.getD []) off (cellsP x)))))], rd := [k] })
    | _ => none
  | _ => none

/-- A struct's or an array's cells, out of parts. -/
def fillP (place : Nat → Option (Nat × Nat)) (cs : List PV) : List (Nat × PV) → Option (List PV)
  | [] => some cs
  | (i, v) :: rest => match place i with
    | none => none
    | some (off, size) => if (cellsP v).length = size ∧ off + size ≤ cs.length ∧ ones (cellsP v) = true then fillP place (patch cs off (cellsP v)) rest else none
def placeP (P : Program) (t : TypeId) : Option (Nat → Option (Nat × Nat)) := match tpl P t with
  | some l => some fun i => l[i]?
  | none => match tarr P t with
    | some (_, e) => if ti P e = none then none else some fun i => some (i * tsz P e, tsz P e)
    | none => none

def evIntBin (op : BinOp) (k : IntKind) (a b : Int) : Ev := match op with
  | .add => evP (.int k (k.wrap (a + b)))
  | .sub => evP (.int k (k.wrap (a - b)))
  | .mul => evP (.int k (k.wrap (a * b)))
  | .quo => evIf (b ≠ 0) (.int k (k.wrap (a.tdiv b)))
  | .rem => evIf (b ≠ 0) (.int k (a.tmod b))
  | .eql => evP (.bool (decide (a = b)))
  | .neq => evP (.bool (!decide (a = b)))
  | .lss => evP (.bool (decide (a < b)))
  | .leq => evP (.bool (decide (a ≤ b)))
  | .gtr => evP (.bool (decide (a > b)))
  | .geq => evP (.bool (decide (a ≥ b)))
  | _ => none
def evStrBin (op : BinOp) (a b : ByteArray) : Ev := match op with
  | .add => evIf (a.size + b.size ≤ 9223372036854775807) (.str (a ++ b))
  | .eql => evP (.bool (decide (a = b)))
  | .neq => evP (.bool (!decide (a = b)))
  | _ => none
/-- Are two rows of cells of whole numbers, bools and strings equal? -/
def cellsEq : List PV → List PV → Option Bool
  | [], [] => some true
  | .int k a :: xs, .int k' b :: ys => if k = k' then (cellsEq xs ys).map fun r => decide (a = b) && r else none
  | .bool a :: xs, .bool b :: ys => (cellsEq xs ys).map fun r => (a == b) && r
  | .str a :: xs, .str b :: ys => (cellsEq xs ys).map fun r => decide (a = b) && r
  | _, _ => none
def isPtr : PV → Bool
  | .ptr _ _ _ => true
  | .cells _ => true
  | _ => false
def evBin (E : Env) (op : BinOp) (t : TypeId) (x y : PV) : Ev := match x, y with
  | .int k a, .int k' b => match op with
    | .shl => if k = .i64 then evIf (0 ≤ b) (.int k (k.wrap (a * 2 ^ (min b.toNat 64)))) else none
    | .shr => none
    | _ => if k = k' then evIntBin op k a b else none
  | .str a, .str b => evStrBin op a b
  | .bool a, .bool b => if tbool E.P t then (match op with
    | .eql => evP (.bool (a == b))
    | .neq => evP (.bool (!(a == b)))
    | _ => none) else none
  | .agg xs, .agg ys => match E.seq t with
    | some sh => if xs.map ck = sh ∧ ys.map ck = sh then (match op, cellsEq xs ys with
      | .eql, some r => evP (.bool r)
      | .neq, some r => evP (.bool (!r))
      | _, _ => none) else none
    | none => none
  | .ptr _ _ _, .nilp => if tptr E.P t then (match op with
    | .eql => evP (.bool false)
    | .neq => evP (.bool true)
    | _ => none) else none
  | .cells _, .nilp => if tptr E.P t then (match op with
    | .eql => evP (.bool false)
    | .neq => evP (.bool true)
    | _ => none) else none
  | .nilp, .nilp => if tptr E.P t then (match op with
    | .eql => evP (.bool true)
    | .neq => evP (.bool false)
    | _ => none) else none
  | .nil, .nil => if telem E.P t ≠ none then (match op with
    | .eql => evP (.bool true)
    | .neq => evP (.bool false)
    | _ => none) else none
  | .row _ _ _, .nil => if telem E.P t ≠ none then (match op with
    | .eql => evP (.bool false)
    | .neq => evP (.bool true)
    | _ => none) else none
  | .list _, .nil => if telem E.P t ≠ none then (match op with
    | .eql => evP (.bool false)
    | .neq => evP (.bool true)
    | _ => none) else none
  | .empty, .nil => if telem E.P t ≠ none then (match op with
    | .eql => evP (.bool false)
    | .neq => evP (.bool true)
    | _ => none) else none
  | .nilfn, .nilfn => if tfunc E.P t then (match op with
    | .eql => evP (.bool true)
    | .neq => evP (.bool false)
    | _ => none) else none
  | .fn _ _ _, .nilfn => if tfunc E.P t then (match op with
    | .eql => evP (.bool false)
    | .neq => evP (.bool true)
    | _ => none) else none
  | _, _ => none
def evUn (op : UnOp) (x : PV) : Ev := match op, x with
  | .neg, .int k n => evP (.int k (k.wrap (0 - n)))
  | .not, .bool b => evP (.bool (!b))
  | _, _ => none

def bAt (s : ByteArray) (i : Int) : Int := ((s[i.toNat]?.getD 0).toNat : Int)
def evIndex (E : Env) (t : TypeId) (x i : PV) : Ev := match x, i with
  | .str s, .int _ n => if tstr E.P t then evIf (0 ≤ n ∧ n < s.size) (.int .u8 (bAt s n)) else none
  | .agg cs, .int _ n => match tarr E.P t with
    | some (len, e) => evIf (0 ≤ n ∧ n < len ∧ cs.length = len * tsz E.P e ∧ tsz E.P e ≠ 0 ∧ (tagg E.P e = false → tsz E.P e = 1)) (mk E.P e ((cs.drop (n.toNat * tsz E.P e)).take (tsz E.P e)))
    | none => none
  | _, _ => none
def evIndexAddr (E : Env) (σ : Store) (t : TypeId) (x i : PV) : Ev := match telem E.P t with
  | none => none
  | some e => match x, i with
    | .row k off len, .int _ n => match σ k with
      | some (.row es) => some (0 ≤ n ∧ n < len ∧ off + len ≤ es.length ∧ tsz E.P e ≠ 0 ∧ (es[off + n.toNat]?.getD []).length = tsz E.P e, { val := .ptr k (off + n.toNat) 0, rd := [k] })
      | _ => none
    | .list es, .int _ n => evIf (0 ≤ n ∧ n < es.length ∧ tsz E.P e ≠ 0 ∧ (es[n.toNat]?.getD []).length = tsz E.P e) (.cells (es[n.toNat]?.getD []))
    | _, _ => none
def evFieldAddr (E : Env) (t : TypeId) (f : Nat) (x : PV) : Ev := match tfld E.P t f with
  | none => none
  | some (off, ft) => if tsz E.P ft = 0 then none else match x with
    | .ptr k i o => evP (.ptr k i (o + off))
    | .cells cs => evP (.cells (cs.drop off))
    | _ => none
def evField (E : Env) (t : TypeId) (f : Nat) (x : PV) : Ev := match tfld E.P t f, x with
  | some (off, ft), .agg cs => evIf (off + tsz E.P ft ≤ cs.length ∧ tsz E.P ft ≠ 0 ∧ (tagg E.P ft = false → tsz E.P ft = 1)) (mk E.P ft ((cs.drop off).take (tsz E.P ft)))
  | _, _ => none
def intOfP : PV → Option Int
  | .int _ n => some n
  | _ => none
/-- The bounds of a slice expression without a third index. -/
def bounds (lo hi : Option PV) (len : Int) : Option (Int × Int) := match lo, hi with
  | none, none => some (0, len)
  | some (.int _ l), none => some (l, len)
  | none, some (.int _ h) => some (0, h)
  | some (.int _ l), some (.int _ h) => some (l, h)
  | _, _ => none
def evSlice (E : Env) (σ : Store) (t : TypeId) (x : PV) (lo hi mx : Option PV) : Ev := match mx with
  | some (.int _ m) => (match telem E.P t with
    | none => none
    | some e => if ti E.P e = none then none else match lo, hi, x with
      | some (.int _ l), some (.int _ h), .list es => evIf (0 ≤ l ∧ l ≤ h ∧ h ≤ m ∧ m ≤ es.length) .junk
      | some (.int _ l), some (.int _ h), .nil => evIf (0 ≤ l ∧ l ≤ h ∧ h ≤ m ∧ m ≤ 0) .junk
      | some (.int _ l), some (.int _ h), .row k off len => (match σ k with
        | some (.row es) => some (0 ≤ l ∧ l ≤ h ∧ h ≤ m ∧ m ≤ len ∧ off + len ≤ es.length, { val := .junk, rd := [k] })
        | _ => none)
      | none, some (.int _ h), .list _ => evIf (h = 0 ∧ m = 0) .empty
      | none, some (.int _ h), .row _ _ _ => evIf (h = 0 ∧ m = 0) .empty
      | none, some (.int _ h), .nil => evIf (h = 0 ∧ m = 0) .nil
      | _, _, _ => none)
  | some _ => none
  | none => match x with
    | .str s => if tstr E.P t then (match bounds lo hi s.size with
      | some (l, h) => evIf (0 ≤ l ∧ l ≤ h ∧ h ≤ s.size) (.str (s.extract l.toNat h.toNat))
      | none => none) else none
    | .list es => (match telem E.P t with
      | none => none
      | some e => if ti E.P e = none then none else match bounds lo hi es.length with
        | some (l, h) => evIf (0 ≤ l ∧ l ≤ h ∧ h ≤ es.length ∧ ∀ c ∈ es, c.length = tsz E.P e) (.list ((es.drop l.toNat).take (h - l).toNat))
        | none => none)
    | .row k off len => (match telem E.P t, σ k with
      | some e, some (.row es) => if ti E.P e = none then none else (match bounds lo hi len with
        | some (l, h) => some (0 ≤ l ∧ l ≤ h ∧ (h ≤ len ∨ off + h ≤ es.length) ∧ off + len ≤ es.length ∧ ∀ c ∈ es, c.length = tsz E.P e, { val := .row k (off + l.toNat) (h - l).toNat, rd := [k] })
        | none => none)
      | _, _ => none)
    | .nil => (match telem E.P t with
      | none => none
      | some e => if ti E.P e = none then none else match bounds lo hi 0 with
        | some (l, h) => evIf (l = 0 ∧ h = 0) .nil
        | none => none)
    | _ => none
def lenP : PV → Option Int
  | .str s => some s.size
  | .list es => some es.length
  | .row _ _ len => some len
  | .nil => some 0
  | .empty => some 0
  | _ => none
/-- The text that a row of bytes makes. -/
def bytesL : List (List PV) → Option (List UInt8)
  | [] => some []
  | [.int .u8 n] :: xs => (bytesL xs).map (UInt8.ofNat n.toNat :: ·)
  | _ => none
def evConvert (E : Env) (σ : Store) (src dst : TypeId) (x : PV) : Ev := match x with
  | .row k off len => (match telem E.P src, σ k with
    | some e, some (.row es) => if tint E.P e = some .u8 ∧ tstr E.P dst = true then (match bytesL ((es.drop off).take len) with
      | some bs => some (off + len ≤ es.length ∧ tsz E.P e = 1, { val := .str ⟨bs.toArray⟩, rd := [k] })
      | none => none) else none
    | _, _ => none)
  | .int _ n => match tint E.P dst with
    | some k => if ti E.P src ≠ none then evP (.int k (k.wrap n)) else none
    | none => none
  | .str s => if tstr E.P src && tstr E.P dst then evP (.str s) else none
  | _ => none

/-- What is read of a slice. -/
def elems (σ : Store) : PV → Option (Prop × List (List PV) × List Nat)
  | .nil => some (True, [], [])
  | .empty => some (True, [], [])
  | .list es => some (True, es, [])
  | .row k off len => match σ k with
    | some (.row es) => some (off + len ≤ es.length, (es.drop off).take len, [k])
    | _ => none
  | _ => none
/-- May so many elements of a type be appended? -/
def roomFor (P : Program) (e : TypeId) (n : Nat) : Prop := n * tbytes P e ≤ 140737488355328 ∧ tbytes P e ≠ 0 ∧ (tzero P e).map List.length = some (tsz P e)
def evAppend (E : Env) (key : Nat) (σ : Store) (t : TypeId) (s x : PV) : Ev := match telem E.P t with
  | none => none
  | some e => if ti E.P e = none then none else match elems σ x with
    | none => none
    | some (c, xs, rd) => match s with
      | .nil => if xs = [] then some (c, { val := .nil, rd := rd }) else some (c ∧ xs ≠ [] ∧ roomFor E.P e xs.length ∧ (∀ c ∈ xs, c.length = tsz E.P e ∧ ones c = true), { val := .row key 0 xs.length, wr := [(key, some (.row xs))], rd := rd })
      | .empty => if xs = [] then some (c, { val := .empty, rd := rd }) else some (c ∧ xs ≠ [] ∧ roomFor E.P e xs.length ∧ (∀ c ∈ xs, c.length = tsz E.P e ∧ ones c = true), { val := .row key 0 xs.length, wr := [(key, some (.row xs))], rd := rd })
      | .row k off len => match σ k with
        | some (.row es) => if rd = [k] then some (c ∧ off + len + xs.length ≤ es.length ∧ (∀ c ∈ xs, c.length = tsz E.P e ∧ ones c = true) ∧ (∀ c ∈ es, c.length = tsz E.P e),
            { val := .row k off (len + xs.length), wr := [(k, some (.row (es.take (off + len) ++ xs ++ es.drop (off + len + xs.length))))], rd := [k] }) else
          some (c ∧ off + len = es.length ∧ rd ≠ [k] ∧ (len ≠ 0 ∨ es = []) ∧ roomFor E.P e (len + xs.length) ∧ (∀ c ∈ xs, c.length = tsz E.P e ∧ ones c = true) ∧ (∀ c ∈ es, c.length = tsz E.P e),
            { val := .row key 0 (len + xs.length), wr := [(k, none), (key, some (.row (es.drop off ++ xs)))], rd := k :: rd })
        | _ => none
      | _ => none

/-- Zero values behind a row that has no room for them. -/
def evAppZeros (E : Env) (key : Nat) (σ : Store) (t : TypeId) (s x : PV) : Ev := match telem E.P t with
  | none => none
  | some e => if ti E.P e = none then none else match s, x, tzero E.P e with
    | .row k off len, .int _ n, some z => (match σ k, E.C k with
      | some (.row es), some c => some (off + len ≤ es.length ∧ 0 ≤ n ∧ c - off < len + n.toNat ∧ roomFor E.P e (len + n.toNat) ∧ (∀ c ∈ es, c.length = tsz E.P e),
          { val := .row key 0 (len + n.toNat), wr := [(key, some (.row ((es.drop off).take len ++ List.replicate n.toNat z)))], rd := [k] })
      | _, _ => none)
    | _, _, _ => none
def evCopy (E : Env) (σ : Store) (t : TypeId) (d s : PV) : Ev := match telem E.P t with
  | none => none
  | some e => if ti E.P e = none then none else match s with
    | .row k' off' len' => (match σ k' with
      | some (.row es') => (match d with
        | .row k off len => (match σ k with
          | some (.row es) => some (off' + len' ≤ es'.length ∧ off + len ≤ es.length ∧ (∀ c ∈ (es'.drop off').take (min len' len), c.length = tsz E.P e ∧ ones c = true) ∧ (∀ c ∈ es, c.length = tsz E.P e),
              { val := .int .i64 (min len' len : Nat), wr := [(k, some (.row (es.take off ++ (es'.drop off').take (min len' len) ++ es.drop (off + min len' len))))], rd := [k, k'] })
          | _ => none)
        | _ => none)
      | _ => none)
    | _ => none
def evClear (E : Env) (σ : Store) (t : TypeId) (x : PV) : Ev := match telem E.P t with
  | none => none
  | some e => match x with
    | .row k off len => (match tzero E.P e, σ k with
      | some z, some (.row es) => if ti E.P e = none then none else some (off + len ≤ es.length ∧ (∀ c ∈ es, c.length = tsz E.P e) ∧ z.length = tsz E.P e,
          { val := .tup [], wr := [(k, some (.row (es.take off ++ List.replicate len z ++ es.drop (off + len))))], rd := [k] })
      | _, _ => none)
    | .nil => evP (.tup [])
    | .empty => evP (.tup [])
    | _ => none
def evCap (E : Env) (t : TypeId) (x : PV) : Ev := match telem E.P t with
  | none => none
  | some _ => match x with
    | .row k off _ => (match E.C k with
      | some c => evP (.int .i64 ((c - off : Nat) : Int))
      | none => none)
    | .nil => evP (.int .i64 0)
    | .empty => evP (.int .i64 0)
    | _ => none

/-! ### maps -/
def tmap (P : Program) (t : TypeId) : Option (TypeId × TypeId) := match P.underlying t with
  | some (.map k e) => some (k, e)
  | _ => none
def ofZ : Value → Option PV
  | .agg vs => (vs.toList.mapM ofC).map .agg
  | v => ofC v
/-- A type's zero value. -/
def tzv (P : Program) (t : TypeId) : Option PV := ((P.info? t).bind (·.zero)).bind ofZ
def keyOk (P : Program) (t : TypeId) : PV → Bool
  | .int _ _ => (tint P t).isSome
  | .str _ => tstr P t
  | .bool _ => tbool P t
  | _ => false
def keyEq : PV → PV → Option Bool
  | .int k a, .int k' b => if k = k' then some (decide (a = b)) else none
  | .str a, .str b => some (decide (a = b))
  | .bool a, .bool b => some (decide (a = b))
  | _, _ => none
/-- The value of a key, if the keys can be told apart. -/
def mfind (k : PV) : List (PV × PV) → Option (Option PV)
  | [] => some none
  | (k', v) :: es => match keyEq k k' with
    | some true => some (some v)
    | some false => mfind k es
    | none => none
def mset (k v : PV) : List (PV × PV) → List (PV × PV)
  | [] => [(k, v)]
  | (k', v') :: es => if keyEq k k' = some true then (k', v) :: es else (k', v') :: mset k v es
/-- The place of a key. -/
def midx (k : PV) : List (PV × PV) → Nat
  | [] => 0
  | (k', _) :: es => if keyEq k k' = some true then 0 else midx k es + 1
def mgot (z : PV) (ok : Bool) (rd : List Nat) : Option (Option PV) → Ev
  | some (some v) => some (True, { val := if ok = true then .tup [v, .bool true] else v, rd := rd })
  | some none => some (True, { val := if ok = true then .tup [z, .bool false] else z, rd := rd })
  | none => none
def evLookup (E : Env) (σ : Store) (t : TypeId) (m k : PV) (ok : Bool) : Ev := match tmap E.P t with
  | none => none
  | some (kt, et) => if keyOk E.P kt k = true then (match tzv E.P et with
    | none => none
    | some z => match m with
      | .nilmap => mgot z ok [] (some none)
      | .map kk => (match σ kk with
        | some (.map es) => mgot z ok [kk] (mfind k es)
        | _ => none)
      | _ => none) else none
def evMapUpdate (E : Env) (σ : Store) (t : TypeId) (m k v : PV) : Ev := match tmap E.P t with
  | none => none
  | some (kt, _) => if keyOk E.P kt k = true then (match m with
    | .map kk => (match σ kk with
      | some (.map es) => (match mfind k es with
        | some _ => some (True, { val := .junk, wr := [(kk, some (.map (mset k v es)))], rd := [kk] })
        | none => none)
      | _ => none)
    | _ => none) else none
def evMapEntry (E : Env) (σ : Store) (t : TypeId) (m k : PV) : Ev := match tmap E.P t with
  | none => none
  | some (kt, et) => if keyOk E.P kt k = true then (match tzv E.P et with
    | none => none
    | some z => match m with
      | .map kk => (match σ kk with
        | some (.map es) => (match mfind k es with
          | some (some v) => some (True, { val := .tup [v, .int .i64 (midx k es : Nat)], wr := [(kk, some (.map es))], rd := [kk] })
          | some none => some (True, { val := .tup [z, .int .i64 (es.length : Nat)], wr := [(kk, some (.map (es ++ [(k, z)])))], rd := [kk] })
          | none => none)
        | _ => none)
      | _ => none) else none
def evEntryStore (σ : Store) (m s x : PV) : Ev := match m, s with
  | .map kk, .int _ n => (match σ kk with
    | some (.map es) => some (0 ≤ n ∧ n.toNat < es.length, { val := .junk, wr := [(kk, some (.map (es.modify n.toNat fun p => (p.1, x))))], rd := [kk] })
    | _ => none)
  | _, _ => none
def evMakeMap (E : Env) (key : Nat) (t : TypeId) (r : Option PV) : Ev := match r with
  | none => some (True, { val := .map key, wr := [(key, some (.map []))] })
  | some (.int _ _) => if tmap E.P t = none then none else some (True, { val := .map key, wr := [(key, some (.map []))] })
  | some _ => none
def evMakeSlice (E : Env) (key : Nat) (t : TypeId) (l c : PV) : Ev := match telem E.P t with
  | none => none
  | some e => if ti E.P e = none then none else match l, c, tzero E.P e with
    | .int _ l, .int _ c, some z => some (0 ≤ l ∧ c = l ∧ l.toNat * tbytes E.P e ≤ 140737488355328 ∧ l ≤ 1152921504606846976 ∧ z.length = tsz E.P e ∧ tsz E.P e ≠ 0, { val := .row key 0 l.toNat, wr := [(key, some (.row (List.replicate l.toNat z)))] })
    | _, _, _ => none

def evBuiltin (E : Env) (key : Nat) (σ : Store) (b : Builtin) (tys : Array TypeId) (xs : List PV) : Ev := match b, xs with
  | .len, [x] => match lenP x with
    | some n => (match x with
      | .str _ => if (tys[0]?).any (tstr E.P) then evP (.int .i64 n) else none
      | _ => if (tys[0]?).any (fun t => telem E.P t ≠ none) then evP (.int .i64 n) else none)
    | none => none
  | .append, [s, x] => match tys[0]?, tys[1]? with
    | some t, some u => if telem E.P u = none then (if tint E.P u = none then none else evAppZeros E key σ t s x) else evAppend E key σ t s x
    | _, _ => none
  | .copy, [d, s] => match tys[0]?, tys[1]? with
    | some t, some u => if telem E.P u = none then none else evCopy E σ t d s
    | _, _ => none
  | .clear, [x] => match tys[0]? with
    | some t => evClear E σ t x
    | none => none
  | .cap, [x] => match tys[0]? with
    | some t => evCap E t x
    | none => none
  | .max, [.int k a, .int k' b] => if k = k' then evP (.int k (if b > a then b else a)) else none
  | .min, [.int k a, .int k' b] => if k = k' then evP (.int k (if b < a then b else a)) else none
  | _, _ => none

/-- What an operation does that calls no function of the program. -/
def evalOp (E : Env) (key : Nat) (sl : Nat → PV) (σ : Store) : Op → Ev
  | .move x => evP (opd E sl x)
  | .assign x => evP (opd E sl x)
  | .pick c a b => match opd E sl c with
    | .bool true => evP (opd E sl a)
    | .bool false => evP (opd E sl b)
    | _ => none
  | .alloc t => match tzero E.P t with
    | some z => some (True, { val := .ptr key 0 0, wr := [(key, some (.row [z]))] })
    | none => none
  | .box t x => some (ones (cellsP (opd E sl x)) = true, { val := .ptr key 0 0, wr := [(key, some (.row [cellsP (opd E sl x)]))] })
  | .build t parts => match tzero E.P t, placeP E.P t with
    | some z, some pl => (match fillP pl z (parts.toList.map fun p => (p.1, opd E sl p.2)) with
      | some cs => evP (.agg cs)
      | none => none)
    | _, _ => none
  | .buildSlice t len parts => match telem E.P t with
    | some e => if parts.toList.map (·.1) = List.range len ∧ ti E.P e ≠ none ∧ tzero E.P e ≠ none then
        some (len ≤ 1048576 ∧ tsz E.P e ≤ 16 ∧ (parts.toList.map fun p => cellsP (opd E sl p.2)).all (fun c => decide (c.length = tsz E.P e) && ones c) = true,
          { val := .row key 0 len, wr := [(key, some (.row (parts.toList.map fun p => cellsP (opd E sl p.2))))] }) else none
    | none => none
  | .load t a => evLoad E σ t (opd E sl a)
  | .store t a x => evStore E σ t (opd E sl x) (opd E sl a)
  | .nilCheck x => match opd E sl x with
    | .ptr k i off => evP (.ptr k i off)
    | .cells cs => evP (.cells cs)
    | .fn f a b => evP (.fn f a b)
    | _ => none
  | .binOp op t x y _ => evBin E op t (opd E sl x) (opd E sl y)
  | .unOp op _ x => evUn op (opd E sl x)
  | .convert src dst x => evConvert E σ src dst (opd E sl x)
  | .makeFunc (.func f) first caps => evP (.fn f (first.toList.map (opd E sl)) (caps.toList.map (opd E sl)))
  | .slice t x lo hi mx => evSlice E σ t (opd E sl x) (lo.map (opd E sl)) (hi.map (opd E sl)) (mx.map (opd E sl))
  | .fieldAddr t x f => evFieldAddr E t f (opd E sl x)
  | .field t x f => evField E t f (opd E sl x)
  | .indexAddr t x i => evIndexAddr E σ t (opd E sl x) (opd E sl i)
  | .index t x i => evIndex E t (opd E sl x) (opd E sl i)
  | .extract x i => match opd E sl x with
    | .tup vs => (match vs[i]? with
      | some v => evP v
      | none => none)
    | _ => none
  | .call c => match c.callee with
    | .builtin b => evBuiltin E key σ b c.argTypes (c.args.toList.map (opd E sl))
    | _ => none
  | .makeMap t r => evMakeMap E key t (r.map (opd E sl))
  | .makeSlice t l c => evMakeSlice E key t (opd E sl l) (opd E sl c)
  | .lookup t m k ok => evLookup E σ t (opd E sl m) (opd E sl k) ok
  | .mapUpdate t m k v => evMapUpdate E σ t (opd E sl m) (opd E sl k) (opd E sl v)
  | .insert t m k v => evMapUpdate E σ t (opd E sl m) (opd E sl k) (opd E sl v)
  | .mapEntry t m k => evMapEntry E σ t (opd E sl m) (opd E sl k)
  | .entryStore _ m s x => evEntryStore σ (opd E sl m) (opd E sl s) (opd E sl x)
  | .makeInterface t x => if ti E.P t = none ∨ tiface E.P t = true then none else evP (.iface t (opd E sl x))
  | _ => none

end Go.Proofs.YtdajoilaakiinaaGreatDoor.Awp

/- How the store's objects and the machine's memory go together when a block is made, written, or left alone. -/
namespace Go.Proofs.YtdajoilaakiinaaGreatDoor.Awp
open Go

def app (σ : Store) (wr : List (Nat × Option AObj)) : Store := wr.foldl (fun s p => upd s p.1 p.2) σ
theorem app_nil (σ : Store) : app σ [] = σ := rfl
theorem app_one (σ : Store) (k : Nat) (o : Option AObj) : app σ [(k, o)] = upd σ k o := rfl
theorem app_two (σ : Store) (k k' : Nat) (o o' : Option AObj) : app σ [(k, o), (k', o')] = upd (upd σ k o) k' o' := rfl

/-- An operation does what the abstract machine says. -/
def Does (E : Env) (σ : Store) (μ : Mu) (w : World) (key : Nat) (eff : Eff) (r : Result Next) : Prop :=
  ∃ v w' μ', (r = .ok (.value v) w' ∨ (r = .ok .skip w' ∧ v = undef)) ∧ Rep (Used (app σ eff.wr) μ') μ' w' eff.val v ∧ Sim E (app σ eff.wr) μ' w' ∧ Moves σ μ w (app σ eff.wr) μ' w' ∧ ∀ k, k ≠ key → μ' k = μ k

theorem does_val {E : Env} {σ : Store} {μ : Mu} {w : World} {key : Nat} {p : PV} {rd : List Nat} {v : Value} {r : Result Next} (S : Sim E σ μ w) (hp : Rep (Used σ μ) μ w p v) (hr : r = .ok (.value v) w) :
    Does E σ μ w key { val := p, rd := rd } r := ⟨v, w, μ, .inl hr, hp, S, Moves.refl _ _ _, fun _ _ => rfl⟩

theorem cell_at {w : World} {b : Nat} {c : Array Value} {t : TypeId} {fr : Nat × Nat} (h : w.heap[b]? = some (.cells c t fr)) (off : Nat) : w.cell? ⟨b, off, none⟩ = c[off]? := cell_of_row w b off c t fr h

theorem Sim.none_of {E : Env} {σ : Store} {μ : Mu} {w : World} (S : Sim E σ μ w) {key : Nat} (h : μ key = none) : σ key = none := by
  cases hs : σ key with
  | none => rfl
  | some o => obtain ⟨l, hl, _⟩ := S.obj key o hs; rw [h] at hl; cases hl

theorem Sim.lt {E : Env} {σ : Store} {μ : Mu} {w : World} (S : Sim E σ μ w) {b : Nat} (h : Used σ μ b) : b < w.heap.size := by
  obtain ⟨k, o, l, hs, hm, rfl⟩ := h
  obtain ⟨l', hl', ho⟩ := S.obj k o hs
  rw [hm] at hl'; cases hl'
  cases o with
  | row es => obtain ⟨c, t, hc, _⟩ := ho; exact (Array.getElem?_eq_some_iff.1 hc).1
  | map es => obtain ⟨c, t, hc, _⟩ := ho; exact (Array.getElem?_eq_some_iff.1 hc).1

theorem heap_old {w : World} {o : Obj} {b : Nat} (h : b < w.heap.size) : (w.alloc o).heap[b]? = w.heap[b]? := by
  unfold World.alloc; simp [Array.getElem?_push, Nat.ne_of_lt h]
theorem heap_new (w : World) (o : Obj) : (w.alloc o).heap[w.heap.size]? = some o := by unfold World.alloc; simp

/-- Represented objects stay represented where their blocks and what they hold stay. -/
theorem ObjRep.moves {σ σ' : Store} {μ μ' : Mu} {w w' : World} (m : Moves σ μ w σ' μ' w') {l : Loc} {o : AObj} (hb : w'.heap[l.b]? = w.heap[l.b]?) (h : ObjRep (Used σ μ) μ w l o) : ObjRep (Used σ' μ') μ' w' l o := by
  cases o with
  | row es =>
    obtain ⟨c, t, hc, h1, h2, h3, h4, h5⟩ := h
    exact ⟨c, t, hb.trans hc, h1, h2, h3, fun j cs i pv hj hi => by obtain ⟨v, hv, hr⟩ := h4 j cs i pv hj hi; exact ⟨v, hv, hr.moves m⟩, h5⟩
  | map es =>
    obtain ⟨ms, ck, hc, h1, h2, h3, h4⟩ := h
    exact ⟨ms, ck, hb.trans hc, h1, fun i p e hp he => (h2 i p e hp he).moves m, fun i p e hp he => (h3 i p e hp he).moves m, h4⟩

/-- A new object. -/
theorem sim_new {E : Env} {σ : Store} {μ : Mu} {w : World} {key : Nat} {o : AObj} {ob : Obj} {l : Loc} (S : Sim E σ μ w) (hk : μ key = none) (hl : l.b = w.heap.size)
    (ho : ∀ U μ' , (∀ p v, Rep (Used σ μ) μ w p v → Rep U μ' (w.alloc ob) p v) → ObjRep U μ' (w.alloc ob) l o) :
    Sim E (upd σ key (some o)) (upd μ key (some l)) (w.alloc ob) ∧ Moves σ μ w (upd σ key (some o)) (upd μ key (some l)) (w.alloc ob) := by
  have hσ := S.none_of hk
  have m : Moves σ μ w (upd σ key (some o)) (upd μ key (some l)) (w.alloc ob) := by
    refine ⟨fun k l' h => ?_, by simp, fun b hb _ => heap_old hb, fun b hb hu => ?_, rfl, rfl, rfl⟩
    · rw [upd_other]; exact h
      intro e; subst e; rw [hk] at h; cases h
    · obtain ⟨k, o', l', hs, hm, rfl⟩ := hu
      by_cases e : k = key
      · subst e
        rw [upd_same] at hm
        cases hm
        omega
      · rw [upd_other _ _ e] at hs hm
        exact ⟨k, o', l', hs, hm, rfl⟩
  refine ⟨⟨?_, ?_, ?_, fun k c h => by obtain ⟨l, h1, h2⟩ := S.caps k c h; exact ⟨l, m.mu k l h1, h2⟩⟩, m⟩
  · intro k k' o1 o2 l1 l2 hs hs' hm hm' e
    by_cases e1 : k = key
    · by_cases e2 : k' = key
      · rw [e1, e2]
      · subst e1
        rw [upd_same] at hm
        rw [upd_other _ _ e2] at hs' hm'
        cases hm
        have := S.lt ⟨k', o2, l2, hs', hm', rfl⟩
        omega
    · by_cases e2 : k' = key
      · subst e2
        rw [upd_same] at hm'
        rw [upd_other _ _ e1] at hs hm
        cases hm'
        have := S.lt ⟨k, o1, l1, hs, hm, rfl⟩
        omega
      · rw [upd_other _ _ e1] at hs hm
        rw [upd_other _ _ e2] at hs' hm'
        exact S.inj k k' o1 o2 l1 l2 hs hs' hm hm' e
  · intro k o' hs
    by_cases e : k = key
    · subst e
      rw [upd_same] at hs
      cases hs
      exact ⟨l, upd_same _ _ _, ho _ _ fun p v h => h.moves m⟩
    · rw [upd_other _ _ e] at hs
      obtain ⟨l', hl', hr⟩ := S.obj k o' hs
      exact ⟨l', by rw [upd_other _ _ e]; exact hl', hr.moves m (heap_old (S.lt ⟨k, o', l', hs, hl', rfl⟩))⟩
  · intro g cs hg
    exact (S.glob g cs hg).moves m

/-- An object's new contents. -/
theorem sim_set {E : Env} {σ : Store} {μ : Mu} {w w' : World} {key : Nat} {o o' : AObj} {l : Loc} (S : Sim E σ μ w) (hs : σ key = some o) (hm : μ key = some l)
    (hsize : w'.heap.size = w.heap.size) (hkeep : ∀ b, b ≠ l.b → w'.heap[b]? = w.heap[b]?) (hos : w'.os = w.os) (ht : w'.tape = w.tape) (hout : w'.output = w.output)
    (ho : ∀ U, (∀ p v, Rep (Used σ μ) μ w p v → Rep U μ w' p v) → ObjRep U μ w' l o') :
    Sim E (upd σ key (some o')) μ w' ∧ Moves σ μ w (upd σ key (some o')) μ w' := by
  have hu : ∀ b, Used (upd σ key (some o')) μ b → Used σ μ b := by
    rintro b ⟨k, o1, l1, h1, h2, rfl⟩
    by_cases e : k = key
    · subst e; exact ⟨k, o, l1, hs, h2, rfl⟩
    · rw [upd_other _ _ e] at h1; exact ⟨k, o1, l1, h1, h2, rfl⟩
  have m : Moves σ μ w (upd σ key (some o')) μ w' := by
    refine ⟨fun k l' h => h, by omega, fun b hb hn => hkeep b fun e => hn ⟨key, o, l, hs, hm, e.symm⟩, fun b _ h => hu b h, hos, ht, hout⟩
  refine ⟨⟨?_, ?_, fun g cs hg => (S.glob g cs hg).moves m, S.caps⟩, m⟩
  · intro k k' o1 o2 l1 l2 h1 h2 hm1 hm2 e
    have f : ∀ k o1, upd σ key (some o') k = some o1 → ∃ o2, σ k = some o2 := by
      intro k o1 h
      by_cases e : k = key
      · subst e; exact ⟨o, hs⟩
      · rw [upd_other _ _ e] at h; exact ⟨o1, h⟩
    obtain ⟨p1, q1⟩ := f k o1 h1
    obtain ⟨p2, q2⟩ := f k' o2 h2
    exact S.inj k k' p1 p2 l1 l2 q1 q2 hm1 hm2 e
  · intro k o1 h1
    by_cases e : k = key
    · subst e
      rw [upd_same] at h1
      cases h1
      exact ⟨l, hm, ho _ fun p v h => h.moves m⟩
    · rw [upd_other _ _ e] at h1
      obtain ⟨l1, hl1, hr⟩ := S.obj k o1 h1
      refine ⟨l1, hl1, hr.moves m (hkeep _ fun eb => e (S.inj k key o1 o l1 l h1 hs hl1 hm eb))⟩

/-- An object that is given up: its block is never written again. -/
theorem sim_drop {E : Env} {σ : Store} {μ : Mu} {w : World} (key : Nat) (S : Sim E σ μ w) : Sim E (upd σ key none) μ w ∧ Moves σ μ w (upd σ key none) μ w := by
  have hu : ∀ b, Used (upd σ key none) μ b → Used σ μ b := by
    rintro b ⟨k, o1, l1, h1, h2, rfl⟩
    by_cases e : k = key
    · subst e; rw [upd_same] at h1; cases h1
    · rw [upd_other _ _ e] at h1; exact ⟨k, o1, l1, h1, h2, rfl⟩
  have m : Moves σ μ w (upd σ key none) μ w := ⟨fun k l' h => h, Nat.le_refl _, fun b hb hn => rfl, fun b _ h => hu b h, rfl, rfl, rfl⟩
  refine ⟨⟨?_, ?_, fun g cs hg => (S.glob g cs hg).moves m, S.caps⟩, m⟩
  · intro k k' o1 o2 l1 l2 h1 h2 hm1 hm2 e
    have f : ∀ k o1, upd σ key none k = some o1 → σ k = some o1 := by
      intro k o1 h
      by_cases e : k = key
      · subst e; rw [upd_same] at h; cases h
      · rw [upd_other _ _ e] at h; exact h
    exact S.inj k k' o1 o2 l1 l2 (f _ _ h1) (f _ _ h2) hm1 hm2 e
  · intro k o1 h1
    by_cases e : k = key
    · subst e; rw [upd_same] at h1; cases h1
    · rw [upd_other _ _ e] at h1
      obtain ⟨l1, hl1, hr⟩ := S.obj k o1 h1
      exact ⟨l1, hl1, hr.moves m rfl⟩

/-- A draw changes nothing. -/
theorem moves_drew (σ : Store) (μ : Mu) (w : World) : Moves σ μ w σ μ w.drew := ⟨fun _ _ h => h, Nat.le_refl _, fun _ _ _ => rfl, fun _ _ h => h, rfl, rfl, rfl⟩
theorem sim_drew {E : Env} {σ : Store} {μ : Mu} {w : World} (S : Sim E σ μ w) : Sim E σ μ w.drew := by
  have m := moves_drew σ μ w
  refine ⟨S.inj, fun k o h => ?_, fun g cs hg => (S.glob g cs hg).moves m, S.caps⟩
  obtain ⟨l, hl, hr⟩ := S.obj k o h
  exact ⟨l, hl, hr.moves m rfl⟩

/-! ### reading the cells of an object, or of memory that nobody writes -/
theorem Rep.one_of {U : Nat → Prop} {μ : Mu} {w : World} {p : PV} {v : Value} (h : Rep U μ w p v) (ho : one p = true) : v.oneCell' = true := by
  cases h <;> first | rfl | (simp [one] at ho)
theorem Rep.cells_of {U : Nat → Prop} {μ : Mu} {w : World} {p : PV} {v : Value} (h : Rep U μ w p v) (ho : ones (cellsP p) = true) :
    v.cells.size = (cellsP p).length ∧ (∀ (i : Nat) (pv : PV) (x : Value), (cellsP p)[i]? = some pv → v.cells[i]? = some x → Rep U μ w pv x) ∧ ∀ x ∈ v.cells.toList, x.oneCell' = true := by
  have key : ∀ (cs : List PV) (vs : Array Value), vs.size = cs.length → (∀ (i : Nat) (pv : PV) (x : Value), cs[i]? = some pv → vs[i]? = some x → Rep U μ w pv x) → ones cs = true → ∀ x ∈ vs.toList, x.oneCell' = true := by
    intro cs vs hl hr ho x hx
    obtain ⟨i, hi⟩ := List.getElem?_of_mem hx
    have hlt : i < vs.size := by
      have := (List.getElem?_eq_some_iff.1 hi).1
      simpa using this
    have hc : cs[i]? = some cs[i] := List.getElem?_eq_getElem (hl ▸ hlt)
    exact (hr i _ x hc (by simpa using hi)).one_of (List.all_eq_true.1 ho _ (List.getElem_mem _))
  have single : cellsP p = [p] → v.cells = #[v] → v.cells.size = (cellsP p).length ∧ (∀ (i : Nat) (pv : PV) (x : Value), (cellsP p)[i]? = some pv → v.cells[i]? = some x → Rep U μ w pv x) ∧ ∀ x ∈ v.cells.toList, x.oneCell' = true := by
    intro h1 h2
    rw [h1] at ho ⊢
    rw [h2]
    have hr : ∀ (i : Nat) (pv : PV) (x : Value), [p][i]? = some pv → #[v][i]? = some x → Rep U μ w pv x := by
      intro i pv x hi hx
      cases i with
      | zero => simp at hi hx; subst hi; subst hx; exact h
      | succ i => simp at hi
    exact ⟨rfl, hr, key [p] #[v] rfl hr ho⟩
  cases h with
  | agg cs vs hl hr => exact ⟨hl, hr, key cs vs hl hr ho⟩
  | tup cs vs hl hr => simp [cellsP, ones, one] at ho
  | junk v => simp [cellsP, ones, one] at ho
  | _ => exact single rfl rfl

theorem rep_const {U : Nat → Prop} {μ : Mu} {w : World} {v : Value} {p : PV} (h : ofC v = some p) : Rep U μ w p v := by
  unfold ofC at h
  split at h <;> first | (cases h; constructor) | cases h

/-- The slots of a frame, represented. -/
def Slots (U : Nat → Prop) (μ : Mu) (w : World) (sl : Nat → PV) (tmps : Array Value) : Prop := ∀ t v, tmps[t]? = some v → Rep U μ w (sl t) v

theorem rep_opd {E : Env} {σ : Store} {μ : Mu} {w : World} (S : Sim E σ μ w) {sl : Nat → PV} {a : Act} (h : Slots (Used σ μ) μ w sl a.tmps) (hN : ∀ t, a.tmps.size ≤ t → sl t = .junk) (x : Operand) :
    Rep (Used σ μ) μ w (opd E sl x) (a.eval x) := by
  cases x with
  | tmp t =>
    simp only [opd, Act.eval]
    by_cases ht : t < a.tmps.size
    · have := h t a.tmps[t] (Array.getElem?_eq_getElem ht)
      simpa [Array.getD, ht] using this
    · rw [hN t (Nat.le_of_not_lt ht)]; exact .junk _
  | const v =>
    simp only [opd, Act.eval]
    cases hv : ofC v with
    | none => exact .junk _
    | some p => exact rep_const hv
  | global g =>
    simp only [opd, Act.eval]
    cases hg : E.G g with
    | none => exact .junk _
    | some cs => exact (S.glob g cs hg).1
  | func f => exact .fn f [] [] #[] #[] rfl rfl (fun i pv v h => by simp at h) (fun i pv v h => by simp at h)

end Go.Proofs.YtdajoilaakiinaaGreatDoor.Awp

/- Each operation that calls no function of the program does what the abstract machine says: loads, stores, addresses. -/
namespace Go.Proofs.YtdajoilaakiinaaGreatDoor.Awp
open Go

theorem add_none (b off n : Nat) : (⟨b, off, none⟩ : Addr).add n = ⟨b, off + n, none⟩ := by unfold Addr.add; split <;> simp_all

theorem ti_some {P : Program} {t : TypeId} (h : ti P t ≠ none) : ∃ i d, P.info? t = some i ∧ P.underlying t = some d ∧ ti P t = some (i.size, match d with
    | .struct _ => true
    | .array _ _ => true
    | _ => false) := by
  unfold ti at *
  cases hi : P.info? t with
  | none => rw [hi] at h; simp at h
  | some i =>
    cases hd : P.underlying t with
    | none => rw [hi, hd] at h; simp at h
    | some d => refine ⟨i, d, rfl, rfl, ?_⟩; cases d <;> rfl

theorem run_und {P : Program} {t : TypeId} {d : TypeDesc} (hd : P.underlying t = some d) (w : World) : (underlying t).run P w = .ok d w := by
  unfold underlying
  simp [hd]

theorem run_isAgg {P : Program} {t : TypeId} {i : TypeInfo} {d : TypeDesc} (hi : P.info? t = some i) (hd : P.underlying t = some d) (w : World) : (isAgg t).run P w = .ok (tagg P t) w := by
  unfold isAgg tagg ti
  rw [hi, hd]
  simp only [Sem.run_bind, run_und hd, Result.andThen_ok]
  cases d <;> rfl

theorem run_sizeOf' {P : Program} {t : TypeId} {i : TypeInfo} (hi : P.info? t = some i) (w : World) : (sizeOf t).run P w = .ok i.size w := by
  unfold sizeOf typeInfo
  simp [hi]

theorem list_of {α β : Type} {R : α → β → Prop} : ∀ (ps : List α), (∀ (j : Nat) (p : α), ps[j]? = some p → ∃ v, R p v) → ∃ vs : List β, vs.length = ps.length ∧ ∀ (j : Nat) (p : α) (v : β), ps[j]? = some p → vs[j]? = some v → R p v
  | [], _ => ⟨[], rfl, fun j p v h => by simp at h⟩
  | p :: ps, h => by
    obtain ⟨v, hv⟩ := h 0 p rfl
    obtain ⟨vs, hl, hr⟩ := list_of ps fun j q hq => h (j + 1) q (by simpa using hq)
    refine ⟨v :: vs, by simp [hl], fun j q x hq hx => ?_⟩
    cases j with
    | zero => simp at hq hx; subst hq; subst hx; exact hv
    | succ j => exact hr j q x (by simpa using hq) (by simpa using hx)

/-- The values of a row of cells. -/
theorem cells_list {U : Nat → Prop} {μ : Mu} {w : World} {b o : Nat} (ps : List PV) (h : ∀ (j : Nat) (pv : PV), ps[j]? = some pv → ∃ v, w.cell? ⟨b, o + j, none⟩ = some v ∧ Rep U μ w pv v) :
    ∃ vs : List Value, vs.length = ps.length ∧ (∀ (j : Nat) (v : Value), vs[j]? = some v → w.cell? ⟨b, o + j, none⟩ = some v) ∧ ∀ (j : Nat) (pv : PV) (v : Value), ps[j]? = some pv → vs[j]? = some v → Rep U μ w pv v := by
  have h' : ∀ (j : Nat) (p : PV × Nat), (ps.zipIdx)[j]? = some p → ∃ v, w.cell? ⟨b, o + p.2, none⟩ = some v ∧ Rep U μ w p.1 v := by
    intro j p hp
    rw [List.getElem?_zipIdx] at hp
    cases hj : ps[j]? with
    | none => rw [hj] at hp; simp at hp
    | some q => rw [hj] at hp; simp at hp; subst hp; simpa using h j q hj
  obtain ⟨vs, hl, hr⟩ := list_of (ps.zipIdx) h'
  have hl' : vs.length = ps.length := by simpa using hl
  have get : ∀ (j : Nat) (pv : PV), ps[j]? = some pv → (ps.zipIdx)[j]? = some (pv, j) := by intro j pv hj; rw [List.getElem?_zipIdx, hj]; simp
  refine ⟨vs, hl', fun j v hv => ?_, fun j pv v hj hv => (hr j _ v (get j pv hj) hv).2⟩
  have hlt : j < ps.length := hl' ▸ (List.getElem?_eq_some_iff.1 hv).1
  exact (hr j _ v (get j ps[j] (List.getElem?_eq_getElem hlt)) hv).1

theorem run_load_cells {P : Program} {w : World} {b o : Nat} (vs : List Value) (h : ∀ (j : Nat) (v : Value), vs[j]? = some v → w.cell? ⟨b, o + j, none⟩ = some v) :
    (loadCells ⟨b, o, none⟩ vs.length).run P w = .ok vs.toArray w := run_loadCells_list (P := P) w ⟨b, o, none⟩ vs fun j v hv => by rw [add_none]; exact h j v hv

theorem load_does {P : Program} {U : Nat → Prop} {μ : Mu} {w : World} {b o : Nat} {t : TypeId} {ps : List PV} (ht : ti P t ≠ none) (hn : ps.length = tsz P t) (h1 : tagg P t = false → tsz P t = 1)
    (h : ∀ (j : Nat) (pv : PV), ps[j]? = some pv → ∃ v, w.cell? ⟨b, o + j, none⟩ = some v ∧ Rep U μ w pv v) :
    ∃ v, (loadVar t ⟨b, o, none⟩).run P w = .ok v w ∧ Rep U μ w (mk P t ps) v := by
  obtain ⟨i, d, hi, hd, e⟩ := ti_some ht
  have hsz : tsz P t = i.size := by unfold tsz; rw [e]; rfl
  obtain ⟨vs, hl, hc, hr⟩ := cells_list ps h
  unfold loadVar mk
  cases ha : tagg P t with
  | true =>
    refine ⟨.agg vs.toArray, ?_, .agg _ _ (by simp [hl]) (fun j pv v hj hv => hr j pv v hj (by simpa using hv))⟩
    have hz : vs.length = i.size := by omega
    simp only [Sem.run_bind, run_isAgg hi hd, ha, Result.andThen_ok, if_true, run_sizeOf' hi]
    rw [← hz, run_load_cells vs hc]
    rfl
  | false =>
    have hz := h1 ha
    have h1 : ps.length = 1 := by omega
    obtain ⟨p, rfl⟩ := List.length_eq_one_iff.1 h1
    obtain ⟨v, rfl⟩ := List.length_eq_one_iff.1 (hl.trans h1)
    refine ⟨v, ?_, by simpa using hr 0 p v rfl rfl⟩
    have hc0 := hc 0 v rfl
    simp only [Sem.run_bind, run_isAgg hi hd, ha, Result.andThen_ok]
    simp [Go.load, Sem.run, show w.cell? ⟨b, o, none⟩ = some v from hc0]

theorem get_some {α : Type} {l : List α} {i : Nat} {d : α} (h : i < l.length) : l[i]? = some (l[i]?.getD d) := by simp [List.getElem?_eq_getElem h]

/-- What an object's cells hold. -/
theorem obj_cell {U : Nat → Prop} {μ : Mu} {w : World} {l : Loc} {es : List (List PV)} (h : ObjRep U μ w l (.row es)) {i : Nat} {cs : List PV} (hi : es[i]? = some cs) {j : Nat} {pv : PV} (hj : cs[j]? = some pv) :
    ∃ v, w.cell? ⟨l.b, l.base + i * l.sz + j, none⟩ = some v ∧ Rep U μ w pv v := by
  obtain ⟨c, t, hc, _, _, _, h4, _⟩ := h
  obtain ⟨v, hv, hr⟩ := h4 i cs j pv hi hj
  exact ⟨v, by rw [cell_at hc]; exact hv, hr⟩

theorem drop_take_get {α : Type} {ps : List α} {off n j : Nat} {pv : α} (h : ((ps.drop off).take n)[j]? = some pv) : ps[off + j]? = some pv := by
  rw [List.getElem?_take] at h
  split at h
  · rwa [List.getElem?_drop] at h
  · cases h

section
variable {E : Env} {σ : Store} {μ : Mu} {w : World} {key : Nat}

/-- A load reads, and does nothing else. -/
theorem load_plain (S : Sim E σ μ w) {t : TypeId} {p : PV} {v : Value} {c : Prop} {eff : Eff} (hp : Rep (Used σ μ) μ w p v) (h : evLoad E σ t p = some (c, eff)) (hc : c) :
    eff.wr = [] ∧ ∃ ad x, v = .pointer (some ad) ∧ (loadVar t ad).run E.P w = .ok x w ∧ Rep (Used σ μ) μ w eff.val x := by
  unfold evLoad at h
  split at h
  · cases h
  rename_i ht
  split at h
  · rename_i k i off
    cases hk : σ k with
    | none => rw [hk] at h; cases h
    | some o =>
      rw [hk] at h
      cases o with
      | map es => cases h
      | row es =>
        simp only [Option.some.injEq, Prod.mk.injEq] at h
        obtain ⟨rfl, rfl⟩ := h
        obtain ⟨h1, h2, h3⟩ := hc
        cases hp with
        | ptr _ _ _ l hm =>
        obtain ⟨l', hl', ho⟩ := S.obj k _ hk
        rw [hm] at hl'; cases hl'
        have hes := get_some (d := []) h1
        obtain ⟨x, hx, hr⟩ := load_does (P := E.P) (U := Used σ μ) (μ := μ) (w := w) (b := l.b) (o := l.base + i * l.sz + off) (t := t) (ps := ((es[i]?.getD []).drop off).take (tsz E.P t)) ht
          (by rw [List.length_take, List.length_drop]; omega) h3 (fun j pv hj => by
            obtain ⟨y, hy, hr⟩ := obj_cell ho hes (drop_take_get hj)
            exact ⟨y, by rw [Nat.add_assoc]; exact hy, hr⟩)
        exact ⟨rfl, _, x, rfl, hx, hr⟩
  · rename_i cs
    simp only [Option.some.injEq, Prod.mk.injEq] at h
    obtain ⟨rfl, rfl⟩ := h
    obtain ⟨h1, h2⟩ := hc
    cases hp with
    | cells _ b off vs hu hv hr =>
    obtain ⟨x, hx, hr⟩ := load_does (P := E.P) (U := Used σ μ) (μ := μ) (w := w) (b := b) (o := off) (t := t) (ps := cs.take (tsz E.P t)) ht
      (by rw [List.length_take]; omega) h2 (fun j pv hj => by
        have hj' : cs[j]? = some pv := by simpa using drop_take_get (ps := cs) (off := 0) (n := tsz E.P t) (j := j) (by simpa using hj)
        exact ⟨vs j, hv j pv hj', hr j pv hj'⟩)
    exact ⟨rfl, _, x, rfl, hx, hr⟩
  · cases h

theorem load_sim (S : Sim E σ μ w) {t : TypeId} {p : PV} {v : Value} {c : Prop} {eff : Eff} (hp : Rep (Used σ μ) μ w p v) (h : evLoad E σ t p = some (c, eff)) (hc : c) :
    Does E σ μ w key eff ((do pure (Next.value (← Instr.loadAt t v)) : Sem Next).run E.P w) := by
  obtain ⟨h1, ad, x, rfl, hx, hr⟩ := load_plain S hp h hc
  obtain ⟨val, wr, rd⟩ := eff
  simp only at h1
  subst h1
  refine does_val (rd := rd) S hr ?_
  simp [Instr.loadAt, Instr.sureAddr, hx]

theorem patch_get {cs xs : List PV} {off j : Nat} (h : off + xs.length ≤ cs.length) : (patch cs off xs)[j]? = if j < off then cs[j]? else if j < off + xs.length then xs[j - off]? else cs[j]? := by
  unfold patch
  rw [List.append_assoc, List.getElem?_append]
  have hl : (cs.take off).length = off := by rw [List.length_take]; omega
  rw [hl]
  split
  · rename_i hj; rw [List.getElem?_take, if_pos hj]
  · rename_i hj
    rw [List.getElem?_append]
    split
    · rename_i h2; rw [if_pos (by omega)]
    · rename_i h2
      rw [if_neg (by omega), List.getElem?_drop]
      congr 1
      omega
theorem patch_length {cs xs : List PV} {off : Nat} (h : off + xs.length ≤ cs.length) : (patch cs off xs).length = cs.length := by
  unfold patch; simp only [List.length_append, List.length_take, List.length_drop]; omega

theorem store_sim (S : Sim E σ μ w) {t : TypeId} {p q : PV} {v x : Value} {c : Prop} {eff : Eff} (hp : Rep (Used σ μ) μ w p v) (hq : Rep (Used σ μ) μ w q x) (h : evStore E σ t q p = some (c, eff)) (hc : c) :
    Does E σ μ w key eff ((do Instr.storeAt t v x; pure .skip : Sem Next).run E.P w) := by
  unfold evStore at h
  split at h
  · cases h
  rename_i ht
  obtain ⟨ti, d, hti, hd, e⟩ := ti_some ht
  have hsz : tsz E.P t = ti.size := by unfold tsz; rw [e]; rfl
  split at h
  · rename_i k i off
    cases hk : σ k with
    | none => rw [hk] at h; cases h
    | some o =>
      rw [hk] at h
      cases o with
      | map es => cases h
      | row es =>
        simp only [Option.some.injEq, Prod.mk.injEq] at h
        obtain ⟨rfl, rfl⟩ := h
        obtain ⟨h1, h2, h3, h4⟩ := hc
        cases hp with
        | ptr _ _ _ l hm =>
        obtain ⟨l', hl', ho⟩ := S.obj k _ hk
        rw [hm] at hl'; cases hl'
        obtain ⟨cl, cr, cone⟩ := hq.cells_of h4
        obtain ⟨c, ty, hcc, g1, g2, g3, g4, g5⟩ := ho
        have hes := get_some (d := []) h1
        have hlen : (es[i]?.getD []).length = l.sz := g1 i _ hes
        have hin : (i + 1) * l.sz ≤ l.cap * l.sz := Nat.mul_le_mul_right _ (by omega)
        rw [Nat.add_mul, Nat.one_mul] at hin
        have hfit : l.base + i * l.sz + off + x.cells.toList.length ≤ c.size := by rw [Array.length_toList]; omega
        have hrun := run_storeCells_at (P := E.P) l.b (l.base + i * l.sz + off) ty x.cells.toList 0 c w hcc (by simpa using hfit) cone
        refine ⟨undef, w.setRow l.b (c.toList.take (l.base + i * l.sz + off) ++ x.cells.toList ++ c.toList.drop (l.base + i * l.sz + off + x.cells.toList.length)).toArray, μ, .inr ⟨?_, rfl⟩, .junk _, ?_⟩
        · simp only [Instr.storeAt, Instr.sureAddr, storeVar, Sem.run_bind, run_sizeOf' hti]
          simp [show ¬ (x.cells.size ≠ ti.size) from by rw [cl, h3, hsz]; simp, hrun]
        · have hO : ∀ U, (∀ p v, Rep (Used σ μ) μ w p v → Rep U μ (w.setRow l.b (c.toList.take (l.base + i * l.sz + off) ++ x.cells.toList ++ c.toList.drop (l.base + i * l.sz + off + x.cells.toList.length)).toArray) p v) →
              ObjRep U μ (w.setRow l.b (c.toList.take (l.base + i * l.sz + off) ++ x.cells.toList ++ c.toList.drop (l.base + i * l.sz + off + x.cells.toList.length)).toArray) l (.row (es.set i (patch (es[i]?.getD []) off (cellsP q)))) := by
            intro U hU
            have hpl : (patch (es[i]?.getD []) off (cellsP q)).length = l.sz := by rw [patch_length (by omega)]; exact hlen
            refine ⟨_, ty, setRow_heap w l.b c _ ty (0, 0) hcc, ?_, by simpa using g2, ?_, ?_, fun he => g5 (by simpa using he)⟩
            · intro j cs hj
              rw [List.getElem?_set] at hj
              by_cases hij : i = j
              · rw [if_pos hij, if_pos h1] at hj
                cases hj
                exact hpl
              · rw [if_neg hij] at hj
                exact g1 j cs hj
            · simp only [List.size_toArray, List.length_append, List.length_take, List.length_drop, Array.length_toList] at hfit ⊢
              omega
            · intro j cs m pv hj hm'
              have hget : ∀ n, ((c.toList.take (l.base + i * l.sz + off) ++ x.cells.toList ++ c.toList.drop (l.base + i * l.sz + off + x.cells.toList.length)).toArray)[n]? =
                  if n < l.base + i * l.sz + off then c[n]? else if n < l.base + i * l.sz + off + x.cells.size then x.cells[n - (l.base + i * l.sz + off)]? else c[n]? := by
                intro n
                simp only [List.getElem?_toArray]
                rw [List.append_assoc, List.getElem?_append]
                have hl1 : (c.toList.take (l.base + i * l.sz + off)).length = l.base + i * l.sz + off := by
                  rw [List.length_take, Array.length_toList]; rw [Array.length_toList] at hfit; omega
                rw [hl1]
                split
                · rename_i hn; rw [List.getElem?_take, if_pos hn]; simp
                · rename_i hn
                  rw [List.getElem?_append, Array.length_toList]
                  split
                  · rename_i h2; rw [if_pos (by omega)]; simp
                  · rename_i h2
                    rw [if_neg (by omega), List.getElem?_drop]
                    simp only [Array.getElem?_toList]
                    congr 1
                    omega
              rw [hget]
              rw [List.getElem?_set] at hj
              by_cases hij : i = j
              · subst hij
                rw [if_pos rfl, if_pos h1] at hj
                · simp only [Option.some.injEq] at hj
                  subst hj
                  rw [patch_get (by omega)] at hm'
                  by_cases m1 : m < off
                  · rw [if_pos m1] at hm'
                    rw [if_pos (by omega)]
                    obtain ⟨y, hy, hr⟩ := g4 i _ m pv hes hm'
                    exact ⟨y, hy, hU _ _ hr⟩
                  · rw [if_neg m1] at hm'
                    by_cases m2 : m < off + (cellsP q).length
                    · rw [if_pos m2] at hm'
                      rw [if_neg (by omega), if_pos (by omega)]
                      have hlt : m - off < x.cells.size := by omega
                      refine ⟨x.cells[m - off], ?_, hU _ _ (cr _ pv _ hm' (Array.getElem?_eq_getElem hlt))⟩
                      rw [show l.base + i * l.sz + m - (l.base + i * l.sz + off) = m - off by omega]
                      exact Array.getElem?_eq_getElem hlt
                    · rw [if_neg m2] at hm'
                      rw [if_neg (by omega), if_neg (by omega)]
                      obtain ⟨y, hy, hr⟩ := g4 i _ m pv hes hm'
                      exact ⟨y, hy, hU _ _ hr⟩
              · rw [if_neg hij] at hj
                obtain ⟨y, hy, hr⟩ := g4 j cs m pv hj hm'
                have hmlt : m < l.sz := (g1 j cs hj) ▸ (List.getElem?_eq_some_iff.1 hm').1
                refine ⟨y, ?_, hU _ _ hr⟩
                rcases Nat.lt_or_gt_of_ne hij with hh | hh
                · have : (i + 1) * l.sz ≤ j * l.sz := Nat.mul_le_mul_right _ (by omega)
                  rw [Nat.add_mul, Nat.one_mul] at this
                  rw [if_neg (by omega), if_neg (by omega)]
                  exact hy
                · have : (j + 1) * l.sz ≤ i * l.sz := Nat.mul_le_mul_right _ (by omega)
                  rw [Nat.add_mul, Nat.one_mul] at this
                  rw [if_pos (by omega)]
                  exact hy
          obtain ⟨s1, s2⟩ := sim_set (E := E) S hk hm (by simp) (fun b hb => setRow_other _ _ _ _ hb) rfl rfl rfl hO
          exact ⟨s1, s2, fun _ _ => rfl⟩
  · cases h
end
end Go.Proofs.YtdajoilaakiinaaGreatDoor.Awp

/- Each operation that calls no function of the program does what the abstract machine says: addresses, values, new objects. -/
namespace Go.Proofs.YtdajoilaakiinaaGreatDoor.Awp
open Go

theorem tsz_info {P : Program} {t : TypeId} (h : tsz P t ≠ 0) : ∃ i d, P.info? t = some i ∧ P.underlying t = some d ∧ tsz P t = i.size := by
  have ht : ti P t ≠ none := by intro e; apply h; unfold tsz; rw [e]; rfl
  obtain ⟨i, d, hi, hd, e⟩ := ti_some ht
  exact ⟨i, d, hi, hd, by unfold tsz; rw [e]; rfl⟩
theorem tfld_some {P : Program} {t : TypeId} {f off : Nat} {ft : TypeId} (h : tfld P t f = some (off, ft)) : ∃ fs x, P.underlying t = some (.struct fs) ∧ fs[f]? = some x ∧ x.offset = off ∧ x.type = ft := by
  unfold tfld at h
  split at h
  · rename_i fs hu
    cases hx : fs[f]? with
    | none => rw [hx] at h; cases h
    | some x => rw [hx] at h; simp at h; exact ⟨fs, x, hu, hx, h.1, h.2⟩
  · cases h
theorem telem_some {P : Program} {t e : TypeId} (h : telem P t = some e) : P.underlying t = some (.slice e) := by
  unfold telem at h; split at h <;> simp_all
theorem tarr_some {P : Program} {t e : TypeId} {n : Nat} (h : tarr P t = some (n, e)) : P.underlying t = some (.array n e) := by
  unfold tarr at h; split at h <;> simp_all
theorem tstr_some {P : Program} {t : TypeId} (h : tstr P t = true) : P.underlying t = some .string := by
  unfold tstr at h; split at h <;> simp_all
theorem tbool_some {P : Program} {t : TypeId} (h : tbool P t = true) : P.underlying t = some .bool := by
  unfold tbool at h; split at h <;> simp_all
theorem tptr_some {P : Program} {t : TypeId} (h : tptr P t = true) : ∃ e, P.underlying t = some (.pointer e) := by
  unfold tptr at h; split at h <;> simp_all
theorem tfunc_some {P : Program} {t : TypeId} (h : tfunc P t = true) : ∃ a b c, P.underlying t = some (.func a b c) := by
  unfold tfunc at h; split at h <;> simp_all
theorem tint_some {P : Program} {t : TypeId} {k : IntKind} (h : tint P t = some k) : P.underlying t = some (.int k) := by
  unfold tint at h; split at h <;> simp_all

section
variable {E : Env} {σ : Store} {μ : Mu} {w : World} {key : Nat}

abbrev valOf (s : Sem Value) : Sem Next := do pure (.value (← s))
theorem valOf_run {P : Program} {s : Sem Value} {v : Value} {w w' : World} (h : s.run P w = .ok v w') : (valOf s).run P w = .ok (.value v) w' := by simp [valOf, h]

theorem rep_drop {U : Nat → Prop} {cs : List PV} {b off n : Nat} (h : Rep U μ w (.cells cs) (.pointer (some ⟨b, off, none⟩))) : Rep U μ w (.cells (cs.drop n)) (.pointer (some ⟨b, off + n, none⟩)) := by
  cases h with
  | cells _ _ _ vs hu hv hr =>
  refine .cells _ b (off + n) (fun i => vs (n + i)) hu (fun i pv hi => ?_) (fun i pv hi => ?_)
  · rw [List.getElem?_drop] at hi; rw [Nat.add_assoc]; exact hv _ _ hi
  · rw [List.getElem?_drop] at hi; exact hr _ _ hi

theorem fieldAddr_sim (S : Sim E σ μ w) {t : TypeId} {f : Nat} {p : PV} {v : Value} {c : Prop} {eff : Eff} (hp : Rep (Used σ μ) μ w p v) (h : evFieldAddr E t f p = some (c, eff)) :
    Does E σ μ w key eff ((valOf (Instr.fieldAt t v f)).run E.P w) := by
  unfold evFieldAddr at h
  split at h
  · cases h
  rename_i off ft hf
  split at h
  · cases h
  rename_i hz
  obtain ⟨fs, x, hu, hx, rfl, rfl⟩ := tfld_some hf
  obtain ⟨i, d, hi, hd, he⟩ := tsz_info hz
  have run : ∀ a : Addr, (Instr.fieldAt t (.pointer (some a)) f).run E.P w = .ok (.pointer (some (a.add x.offset))) w := by
    intro a
    have hz' : ¬ (i.size = 0) := by omega
    simp [Instr.fieldAt, run_und hu, hx, Instr.sureAddr, fieldPlace, run_sizeOf' hi, hz']
  split at h
  · rename_i k i o
    cases h
    cases hp with
    | ptr _ _ _ l hm =>
    refine does_val S (.ptr k i (o + x.offset) l hm) (valOf_run ?_)
    rw [run, add_none, Nat.add_assoc]
  · rename_i cs
    cases h
    cases hp with
    | cells _ b o vs hu' hv hr =>
    refine does_val S (rep_drop (.cells _ b o vs hu' hv hr)) (valOf_run ?_)
    rw [run, add_none]
  · cases h

theorem mk_rep {P : Program} {U : Nat → Prop} {t : TypeId} {cs : List PV} {vs : Array Value} (hl : vs.size = cs.length) (hr : ∀ (i : Nat) (pv : PV) (v : Value), cs[i]? = some pv → vs[i]? = some v → Rep U μ w pv v) {off n : Nat} (h1 : off + n ≤ cs.length)
    (hn : n = tsz P t) (hz : tsz P t ≠ 0) (h2 : tagg P t = false → tsz P t = 1) : ∃ v, (part t vs off).run P w = .ok v w ∧ Rep U μ w (mk P t ((cs.drop off).take n)) v := by
  obtain ⟨i, d, hi, hd, he⟩ := tsz_info hz
  unfold part mk
  cases ha : tagg P t with
  | true =>
    refine ⟨.agg (vs.extract off (off + i.size)), by simp [run_isAgg hi hd, ha, run_sizeOf' hi], .agg _ _ (by simp; omega) (fun j pv v hj hv => ?_)⟩
    have hj' := drop_take_get hj
    refine hr _ pv v hj' ?_
    rw [Array.getElem?_extract] at hv
    split at hv
    · exact hv
    · cases hv
  | false =>
    have h3 := h2 ha
    have hlt : off < vs.size := by omega
    refine ⟨vs[off], by simp [run_isAgg hi hd, ha, Array.getElem?_eq_getElem hlt], ?_⟩
    have hlt' : off < cs.length := by omega
    have hh : ((cs.drop off).take n) = [cs[off]] := by
      rw [show n = 1 by omega, List.drop_eq_getElem_cons hlt']
      rfl
    rw [hh]
    exact hr off _ _ (List.getElem?_eq_getElem hlt') (Array.getElem?_eq_getElem hlt)

theorem field_sim (S : Sim E σ μ w) {t : TypeId} {f : Nat} {p : PV} {v : Value} {c : Prop} {eff : Eff} (hp : Rep (Used σ μ) μ w p v) (h : evField E t f p = some (c, eff)) (hc : c) :
    Does E σ μ w key eff ((valOf (Instr.field t v f)).run E.P w) := by
  unfold evField at h
  split at h
  · rename_i off ft cs hf
    cases h
    obtain ⟨h1, h2, h3⟩ := hc
    obtain ⟨fs, x, hu, hx, rfl, rfl⟩ := tfld_some hf
    cases hp with
    | agg _ vs hl hr =>
    obtain ⟨y, hy, hrep⟩ := mk_rep (P := E.P) (t := x.type) hl hr h1 rfl h2 h3
    exact does_val S hrep (valOf_run (by simp [Instr.field, run_und hu, hx, asAgg, hy]))
  · cases h

theorem index_sim (S : Sim E σ μ w) {t : TypeId} {p q : PV} {v x : Value} {c : Prop} {eff : Eff} (hp : Rep (Used σ μ) μ w p v) (hq : Rep (Used σ μ) μ w q x) (h : evIndex E t p q = some (c, eff)) (hc : c) :
    Does E σ μ w key eff ((valOf (Instr.index t v x)).run E.P w) := by
  unfold evIndex at h
  split at h
  · rename_i s k n
    split at h
    · rename_i hs
      cases h
      obtain ⟨h1, h2⟩ := hc
      cases hp; cases hq
      have hlt : n.toNat < s.size := by omega
      refine does_val S (.int .u8 (bAt s n)) (valOf_run ?_)
      have hb : s[n.toNat]? = some s[n.toNat] := by simp [hlt]
      simp [Instr.index, asIntOf, run_und (tstr_some hs), h1, hb, bAt]
    · cases h
  · rename_i cs k n
    split at h
    · rename_i len e ha
      cases h
      obtain ⟨h1, h2, h3, h4, h5⟩ := hc
      cases hq
      cases hp with
      | agg _ vs hl hr =>
      obtain ⟨i, d, hi, hd, he⟩ := tsz_info h4
      have hin : (n.toNat + 1) * tsz E.P e ≤ len * tsz E.P e := Nat.mul_le_mul_right _ (by omega)
      rw [Nat.add_mul, Nat.one_mul] at hin
      obtain ⟨y, hy, hrep⟩ := mk_rep (P := E.P) (t := e) (off := n.toNat * tsz E.P e) hl hr (by omega) rfl h4 h5
      refine does_val S hrep (valOf_run ?_)
      rw [he] at hy
      simp [Instr.index, asIntOf, run_und (tarr_some ha), h1, h2, run_sizeOf' hi, hy]
    · cases h
  · cases h

theorem list_cells {U : Nat → Prop} {es : List (List PV)} {a : Option Addr} {len cp : Nat} (h : Rep U μ w (.list es) (.slice a len cp)) {n : Nat} (hn : n < es.length) :
    ∃ b off sz, a = some ⟨b, off, none⟩ ∧ (es[n]?.getD []).length = sz ∧ Rep U μ w (.cells (es[n]?.getD [])) (.pointer (some ⟨b, off + n * sz, none⟩)) := by
  cases h with
  | list _ _ _ sz b off vs hn0 hc hs ha hv hr =>
  obtain ⟨h1, h2⟩ := ha (by intro e; subst e; simp at hn)
  have hes := get_some (d := []) hn
  exact ⟨b, off, sz, h1, hs n _ hes, .cells _ b (off + n * sz) (vs n) h2 (fun i pv hi => hv n _ i pv hes hi) (fun i pv hi => hr n _ i pv hes hi)⟩

theorem indexAddr_sim (S : Sim E σ μ w) {t : TypeId} {p q : PV} {v x : Value} {c : Prop} {eff : Eff} (hp : Rep (Used σ μ) μ w p v) (hq : Rep (Used σ μ) μ w q x) (h : evIndexAddr E σ t p q = some (c, eff)) (hc : c) :
    Does E σ μ w key eff ((valOf (Instr.indexAt t v x)).run E.P w) := by
  unfold evIndexAddr at h
  split at h
  · cases h
  rename_i e he
  have hu := telem_some he
  split at h
  · rename_i k off len ik n
    split at h
    · rename_i es hs
      cases h
      obtain ⟨h1, h2, h3, h4, h5⟩ := hc
      cases hq
      obtain ⟨i, d, hi, hd, hz⟩ := tsz_info h4
      cases hp with
      | row _ _ _ l a hm ha =>
      obtain ⟨l', hl', ho⟩ := S.obj k _ hs
      rw [hm] at hl'; cases hl'
      obtain ⟨cc, ty, g0, g1, g2, g3, g4, _⟩ := ho
      have hlt : off + n.toNat < es.length := by omega
      have hsz : l.sz = i.size := by rw [← g1 _ _ (get_some (d := []) hlt), h5, hz]
      have ha' := ha (by omega)
      refine does_val (rd := [k]) S (.ptr k (off + n.toNat) 0 l hm) (valOf_run ?_)
      rw [ha']
      simp only [Instr.indexAt, Sem.run_bind, asIntOf, run_und hu]
      simp [h1, h2, run_und hu, run_sizeOf' hi, hsz]
      rw [add_none, Nat.add_mul, Nat.add_assoc]
    · cases h
  · rename_i es ik n
    cases h
    obtain ⟨h1, h2, h3, h4⟩ := hc
    cases hq
    obtain ⟨i, d, hi, hd, hz⟩ := tsz_info h3
    have hp' := hp
    cases hp' with
    | list _ a cp sz b off vs hcl hsl hal hvl hrl =>
    obtain ⟨b, off, sz, rfl, hsz, hrep⟩ := list_cells hp (n := n.toNat) (by omega)
    refine does_val S hrep (valOf_run ?_)
    have : sz = i.size := by omega
    subst this
    simp [Instr.indexAt, asIntOf, run_und hu, h1, h2, run_sizeOf' hi, add_none]
  · cases h
end
end Go.Proofs.YtdajoilaakiinaaGreatDoor.Awp

/- Each operation that calls no function of the program does what the abstract machine says: slices, arithmetic, comparisons. -/
namespace Go.Proofs.YtdajoilaakiinaaGreatDoor.Awp
open Go

/-- Are two rows of cells of whole numbers, bools and strings equal, as the machine has them? -/
def veq : List Value → List Value → Option Bool
  | [], [] => some true
  | .int k a :: xs, .int k' b :: ys => if k = k' then (veq xs ys).map fun r => decide (a = b) && r else none
  | .bool a :: xs, .bool b :: ys => (veq xs ys).map fun r => (a == b) && r
  | .string a :: xs, .string b :: ys => (veq xs ys).map fun r => decide (a = b) && r
  | _, _ => none

def vk : Value → CK
  | .int _ _ => .int
  | .bool _ => .bool
  | .string _ => .str
  | _ => .other

/-- What the proofs know of the program at hand. -/
structure EnvOk (E : Env) : Prop where
  mixed : E.P.follows .mixedOrders = true
  seq : ∀ t sh, E.seq t = some sh → ∀ (xs ys : Array Value) r, xs.toList.map vk = sh → ys.toList.map vk = sh → veq xs.toList ys.toList = some r → ∀ x y w,
    (do eqGuard .eql t x y (.agg xs) (.agg ys); binOp .eql t (.agg xs) (.agg ys) : Sem Value).run E.P w = .ok (.bool r) w ∧
    (do eqGuard .neq t x y (.agg xs) (.agg ys); binOp .neq t (.agg xs) (.agg ys) : Sem Value).run E.P w = .ok (.bool (!r)) w

section
variable {E : Env} {σ : Store} {μ : Mu} {w : World} {key : Nat}

theorem cells_veq {U : Nat → Prop} : ∀ (ps qs : List PV) (xs ys : List Value) (r : Bool), xs.length = ps.length → ys.length = qs.length →
    (∀ (i : Nat) (pv : PV) (v : Value), ps[i]? = some pv → xs[i]? = some v → Rep U μ w pv v) → (∀ (i : Nat) (pv : PV) (v : Value), qs[i]? = some pv → ys[i]? = some v → Rep U μ w pv v) →
    cellsEq ps qs = some r → veq xs ys = some r ∧ xs.map vk = ps.map ck ∧ ys.map vk = qs.map ck
  | [], [], [], [], r, _, _, _, _, h => ⟨h, rfl, rfl⟩
  | [], q :: qs, _, _, r, _, _, _, _, h => by simp [cellsEq] at h
  | p :: ps, [], _, _, r, _, _, _, _, h => by cases p <;> simp [cellsEq] at h
  | p :: ps, q :: qs, [], _, _, h1, _, _, _, _ => by simp at h1
  | p :: ps, q :: qs, _ :: _, [], _, _, h2, _, _, _ => by simp at h2
  | p :: ps, q :: qs, x :: xs, y :: ys, r, h1, h2, hp, hq, h => by
    have a := hp 0 p x rfl rfl
    have b := hq 0 q y rfl rfl
    have ih := fun r hr => cells_veq ps qs xs ys r (by simpa using h1) (by simpa using h2) (fun i pv v hi hv => hp (i + 1) pv v (by simpa using hi) (by simpa using hv)) (fun i pv v hi hv => hq (i + 1) pv v (by simpa using hi) (by simpa using hv)) hr
    cases p <;> cases q <;> simp only [cellsEq, Option.map_eq_some_iff, reduceCtorEq] at h
    case int.int k m k' n =>
      cases a
      cases b
      by_cases hk : k = k'
      · rw [if_pos hk] at h
        obtain ⟨r', h3, rfl⟩ := Option.map_eq_some_iff.1 h
        obtain ⟨i1, i2, i3⟩ := ih r' h3
        exact ⟨by simp only [veq, i1, Option.map_some, if_pos hk], by simp only [List.map_cons, i2, vk, ck], by simp only [List.map_cons, i3, vk, ck]⟩
      · rw [if_neg hk] at h; cases h
    all_goals
      obtain ⟨r', h3, rfl⟩ := h
      cases a
      cases b
      obtain ⟨i1, i2, i3⟩ := ih r' h3
      exact ⟨by simp only [veq, i1, Option.map_some], by simp only [List.map_cons, i2, vk, ck], by simp only [List.map_cons, i3, vk, ck]⟩

theorem bytes_eq (a b : ByteArray) : (a.toList == b.toList) = decide (a = b) := by
  by_cases h : a = b
  · subst h; simp
  · simp only [h, decide_false]
    apply Bool.eq_false_iff.2
    intro e
    apply h
    have e := eq_of_beq e
    rw [ByteArray.toList_eq, ByteArray.toList_eq] at e
    cases a; cases b
    simp only [ByteArray.mk.injEq]
    exact Array.toList_inj.1 e

theorem eq_ptr_nil {P : Program} {t e : TypeId} (hu : P.underlying t = some (.pointer e)) (a : Addr) (w : World) : (Op.equal t (.pointer (some a)) (.pointer none)).run P w = .ok false w := by
  unfold Op.equal Op.maxDepth Op.equalIn
  simp [run_und hu]

theorem bin_sim (S : Sim E σ μ w) (hE : EnvOk E) {op : BinOp} {t : TypeId} {p q : PV} {v x : Value} {a b : Operand} {c : Prop} {eff : Eff} (hp : Rep (Used σ μ) μ w p v) (hq : Rep (Used σ μ) μ w q x)
    (h : evBin E op t p q = some (c, eff)) (hc : c) : Does E σ μ w key eff ((valOf (do eqGuard op t a b v x; binOp op t v x)).run E.P w) := by
  unfold evBin at h
  split at h
  · -- whole numbers
    rename_i k m k' n
    cases hp; cases hq
    have hg : (eqGuard op t a b (.int k m) (.int k' n)).run E.P w = .ok () w := by unfold eqGuard; cases op <;> simp
    split at h
    · split at h
      · rename_i hk
        subst hk
        cases h
        refine does_val S (.int _ _) (valOf_run ?_)
        simp only [Sem.run_bind, hg, Result.andThen_ok, binOp, Op.shift]
        rw [Sem.run_ite, if_neg (by have hc : 0 ≤ n := hc; omega)]
        rfl
      · cases h
    · cases h
    · rename_i h1 h2
      split at h
      · rename_i hk
        subst hk
        cases op <;> simp only [evIntBin, evP, evIf, reduceCtorEq, Option.some.injEq, Prod.mk.injEq] at h h1 h2 <;>
          (obtain ⟨hc', rfl⟩ := h) <;> (try subst hc') <;>
          first
            | (refine does_val S (.int _ _) (valOf_run ?_); simp [hg, binOp, Op.intArith]; done)
            | (refine does_val S (.int _ _) (valOf_run ?_); simp [hg, binOp, Op.intDiv, (show n ≠ 0 from hc)]; done)
            | (refine does_val S (.bool _) (valOf_run ?_); simp [hg, binOp, Op.intCmp]; done)
            | (refine does_val S (.bool _) (valOf_run ?_); simp [hg, binOp, Op.intCmp]; rw [Bool.eq_iff_iff]; simp)
      · cases h
  · -- strings
    rename_i s t'
    cases hp; cases hq
    have hg : (eqGuard op t a b (.string s) (.string t')).run E.P w = .ok () w := by unfold eqGuard; cases op <;> simp
    cases op <;> simp only [evStrBin, evP, evIf, reduceCtorEq, Option.some.injEq, Prod.mk.injEq] at h <;> (obtain ⟨hc', rfl⟩ := h) <;> (try subst hc')
    · refine does_val S (.str _) (valOf_run ?_)
      simp only [Sem.run_bind, hg, Result.andThen_ok, binOp, Op.stringOp]
      have hc : s.size + t'.size ≤ 9223372036854775807 := hc
      have hm : IntKind.i64.max = 9223372036854775807 := by decide
      rw [Sem.run_ite, if_neg (by rw [hm]; omega)]
      rfl
    · refine does_val S (.bool _) (valOf_run ?_)
      simp [hg, binOp, Op.stringOp, bytes_eq]
    · refine does_val S (.bool _) (valOf_run ?_)
      simp [hg, binOp, Op.stringOp, bytes_eq]
  · -- bools
    rename_i x' y'
    cases hp; cases hq
    have hg : (eqGuard op t a b (.bool x') (.bool y')).run E.P w = .ok () w := by unfold eqGuard; cases op <;> simp
    split at h
    · rename_i hb
      have he : (Op.equal t (.bool x') (.bool y')).run E.P w = .ok (x' == y') w := by
        unfold Op.equal Op.maxDepth Op.equalIn
        simp [run_und (tbool_some hb)]
      split at h <;> cases h
      · exact does_val S (.bool _) (valOf_run (by simp only [Sem.run_bind, hg, Result.andThen_ok, binOp, he]; rfl))
      · exact does_val S (.bool _) (valOf_run (by simp only [Sem.run_bind, hg, Result.andThen_ok, binOp, he]; rfl))
    · cases h
  · -- structs
    rename_i xs ys
    split at h
    · rename_i sh hs
      split at h
      · rename_i hsh
        cases hp with
        | agg _ vs hl hr =>
        cases hq with
        | agg _ us hl' hr' =>
        split at h
        · rename_i r he
          cases h
          obtain ⟨hv, s1, s2⟩ := cells_veq xs ys vs.toList us.toList r (by simpa using hl) (by simpa using hl') (fun i pv v hi hv => hr i pv v hi (by simpa using hv)) (fun i pv v hi hv => hr' i pv v hi (by simpa using hv)) he
          exact does_val S (.bool _) (valOf_run (hE.seq t sh hs vs us r (s1.trans hsh.1) (s2.trans hsh.2) hv a b w).1)
        · rename_i r he
          cases h
          obtain ⟨hv, s1, s2⟩ := cells_veq xs ys vs.toList us.toList r (by simpa using hl) (by simpa using hl') (fun i pv v hi hv => hr i pv v hi (by simpa using hv)) (fun i pv v hi hv => hr' i pv v hi (by simpa using hv)) he
          exact does_val S (.bool _) (valOf_run (hE.seq t sh hs vs us r (s1.trans hsh.1) (s2.trans hsh.2) hv a b w).2)
        · cases h
      · cases h
    · cases h
  · rename_i k1 k2 k3
    split at h
    · rename_i hb
      obtain ⟨e, hu⟩ := tptr_some hb
      cases hp; cases hq
      rename_i l hm
      have hg : (eqGuard op t a b (.pointer (some ⟨l.b, l.base + k2 * l.sz + k3, none⟩)) (.pointer none)).run E.P w = .ok () w := by unfold eqGuard; cases op <;> simp
      have he := eq_ptr_nil (P := E.P) hu ⟨l.b, l.base + k2 * l.sz + k3, none⟩ w
      split at h <;> cases h
      · exact does_val S (.bool _) (valOf_run (by simp only [Sem.run_bind, hg, Result.andThen_ok, binOp, he]; rfl))
      · exact does_val S (.bool _) (valOf_run (by simp only [Sem.run_bind, hg, Result.andThen_ok, binOp, he]; rfl))
    · cases h
  · split at h
    · rename_i hb
      obtain ⟨e, hu⟩ := tptr_some hb
      cases hq
      cases hp with
      | cells _ b1 off1 vs hu1 hv hr =>
      have hg : (eqGuard op t a b (.pointer (some ⟨b1, off1, none⟩)) (.pointer none)).run E.P w = .ok () w := by unfold eqGuard; cases op <;> simp
      have he := eq_ptr_nil (P := E.P) hu ⟨b1, off1, none⟩ w
      split at h <;> cases h
      · exact does_val S (.bool _) (valOf_run (by simp only [Sem.run_bind, hg, Result.andThen_ok, binOp, he]; rfl))
      · exact does_val S (.bool _) (valOf_run (by simp only [Sem.run_bind, hg, Result.andThen_ok, binOp, he]; rfl))
    · cases h
  · split at h
    · rename_i hb
      obtain ⟨e, hu⟩ := tptr_some hb
      cases hp; cases hq
      have hg : (eqGuard op t a b (.pointer none) (.pointer none)).run E.P w = .ok () w := by unfold eqGuard; cases op <;> simp
      have he : (Op.equal t (.pointer none) (.pointer none)).run E.P w = .ok true w := by
        unfold Op.equal Op.maxDepth Op.equalIn
        simp [run_und hu]
      split at h <;> cases h
      · exact does_val S (.bool _) (valOf_run (by simp only [Sem.run_bind, hg, Result.andThen_ok, binOp, he]; rfl))
      · exact does_val S (.bool _) (valOf_run (by simp only [Sem.run_bind, hg, Result.andThen_ok, binOp, he]; rfl))
    · cases h
  · skip
    split at h
    · rename_i hb
      obtain ⟨e1, hu0⟩ := Option.ne_none_iff_exists'.1 hb
      have hu := telem_some hu0
      cases hq
      cases hp
      have hg : (eqGuard op t a b (.slice none 0 0) (.slice none 0 0)).run E.P w = .ok () w := by unfold eqGuard; cases op <;> simp
      have he : (Op.equal t (.slice none 0 0) (.slice none 0 0)).run E.P w = .ok true w := by
        unfold Op.equal Op.maxDepth Op.equalIn
        simp [run_und hu]
      split at h <;> cases h
      · exact does_val S (.bool _) (valOf_run (by simp only [Sem.run_bind, hg, Result.andThen_ok, binOp, he]; rfl))
      · exact does_val S (.bool _) (valOf_run (by simp only [Sem.run_bind, hg, Result.andThen_ok, binOp, he]; rfl))
    · cases h
  · rename_i k0 off0 len0
    split at h
    · rename_i hb
      obtain ⟨e1, hu0⟩ := Option.ne_none_iff_exists'.1 hb
      have hu := telem_some hu0
      cases hq
      cases hp with
      | row _ _ _ l0 a0 hm0 ha0 =>
      have hg : (eqGuard op t a b (.slice (some a0) len0 (l0.cap - off0)) (.slice none 0 0)).run E.P w = .ok () w := by unfold eqGuard; cases op <;> simp
      have he : (Op.equal t (.slice (some a0) len0 (l0.cap - off0)) (.slice none 0 0)).run E.P w = .ok false w := by
        unfold Op.equal Op.maxDepth Op.equalIn
        simp [run_und hu]
      split at h <;> cases h
      · exact does_val S (.bool _) (valOf_run (by simp only [Sem.run_bind, hg, Result.andThen_ok, binOp, he]; rfl))
      · exact does_val S (.bool _) (valOf_run (by simp only [Sem.run_bind, hg, Result.andThen_ok, binOp, he]; rfl))
    · cases h
  · rename_i es0
    split at h
    · rename_i hb
      obtain ⟨e1, hu0⟩ := Option.ne_none_iff_exists'.1 hb
      have hu := telem_some hu0
      cases hq
      cases hp with
      | list _ aa c0 sz0 b0 o0 vs0 hn0 _ _ _ _ _ =>
      obtain ⟨a0, rfl⟩ := Option.isSome_iff_exists.1 hn0
      have hg : (eqGuard op t a b (.slice (some a0) es0.length c0) (.slice none 0 0)).run E.P w = .ok () w := by unfold eqGuard; cases op <;> simp
      have he : (Op.equal t (.slice (some a0) es0.length c0) (.slice none 0 0)).run E.P w = .ok false w := by
        unfold Op.equal Op.maxDepth Op.equalIn
        simp [run_und hu]
      split at h <;> cases h
      · exact does_val S (.bool _) (valOf_run (by simp only [Sem.run_bind, hg, Result.andThen_ok, binOp, he]; rfl))
      · exact does_val S (.bool _) (valOf_run (by simp only [Sem.run_bind, hg, Result.andThen_ok, binOp, he]; rfl))
    · cases h
  · skip
    split at h
    · rename_i hb
      obtain ⟨e1, hu0⟩ := Option.ne_none_iff_exists'.1 hb
      have hu := telem_some hu0
      cases hq
      cases hp with
      | empty a0 =>
      have hg : (eqGuard op t a b (.slice (some a0) 0 0) (.slice none 0 0)).run E.P w = .ok () w := by unfold eqGuard; cases op <;> simp
      have he : (Op.equal t (.slice (some a0) 0 0) (.slice none 0 0)).run E.P w = .ok false w := by
        unfold Op.equal Op.maxDepth Op.equalIn
        simp [run_und hu]
      split at h <;> cases h
      · exact does_val S (.bool _) (valOf_run (by simp only [Sem.run_bind, hg, Result.andThen_ok, binOp, he]; rfl))
      · exact does_val S (.bool _) (valOf_run (by simp only [Sem.run_bind, hg, Result.andThen_ok, binOp, he]; rfl))
    · cases h
  · split at h
    · rename_i hb
      obtain ⟨e1, e2, e3, hu⟩ := tfunc_some hb
      cases hp; cases hq
      have hg : (eqGuard op t a b .nilFunc .nilFunc).run E.P w = .ok () w := by unfold eqGuard; cases op <;> simp
      have he : (Op.equal t .nilFunc .nilFunc).run E.P w = .ok true w := by
        unfold Op.equal Op.maxDepth Op.equalIn
        simp [run_und hu]
      split at h <;> cases h
      · exact does_val S (.bool _) (valOf_run (by simp only [Sem.run_bind, hg, Result.andThen_ok, binOp, he]; rfl))
      · exact does_val S (.bool _) (valOf_run (by simp only [Sem.run_bind, hg, Result.andThen_ok, binOp, he]; rfl))
    · cases h
  · rename_i f1 f2 f3
    split at h
    · rename_i hb
      obtain ⟨e1, e2, e3, hu⟩ := tfunc_some hb
      cases hq
      cases hp with
      | fn _ _ _ vs us hl hl' hr hr' =>
      have hg : (eqGuard op t a b (.func (.func f1) vs us) .nilFunc).run E.P w = .ok () w := by unfold eqGuard; cases op <;> simp
      have he : (Op.equal t (.func (.func f1) vs us) .nilFunc).run E.P w = .ok false w := by
        unfold Op.equal Op.maxDepth Op.equalIn
        simp [run_und hu]
      split at h <;> cases h
      · exact does_val S (.bool _) (valOf_run (by simp only [Sem.run_bind, hg, Result.andThen_ok, binOp, he]; rfl))
      · exact does_val S (.bool _) (valOf_run (by simp only [Sem.run_bind, hg, Result.andThen_ok, binOp, he]; rfl))
    · cases h
  · cases h

theorem un_sim (S : Sim E σ μ w) {op : UnOp} {p : PV} {v : Value} {c : Prop} {eff : Eff} (hp : Rep (Used σ μ) μ w p v) (h : evUn op p = some (c, eff)) : Does E σ μ w key eff ((valOf (Op.unary op v)).run E.P w) := by
  unfold evUn at h
  split at h
  · cases h; cases hp
    exact does_val S (.int _ _) (valOf_run (by simp [Op.unary, Op.intArith]))
  · cases h; cases hp
    exact does_val S (.bool _) (valOf_run (by simp [Op.unary]))
  · cases h

end
end Go.Proofs.YtdajoilaakiinaaGreatDoor.Awp

/- Each operation that calls no function of the program does what the abstract machine says: slice expressions, new objects. -/
namespace Go.Proofs.YtdajoilaakiinaaGreatDoor.Awp
open Go

section
variable {E : Env} {σ : Store} {μ : Mu} {w : World} {key : Nat}

theorem run_bound (P : Program) (k : IntKind) (n : Int) (y : Nat) (code : BoundsCode) (h0 : 0 ≤ n) (h1 : n ≤ y) (w : World) : (Instr.sliceBound (.int k n) y code).run P w = .ok n.toNat w := by
  unfold Instr.sliceBound asIntOf
  simp [h0, h1]

theorem run_bounds {P : Program} {U : Nat → Prop} {lo hi : Option PV} {vl vh : Option Value} {len cap : Nat} {l h : Int} (hl : ∀ p, lo = some p → ∃ v, vl = some v ∧ Rep U μ w p v) (hl' : lo = none → vl = none)
    (hh : ∀ p, hi = some p → ∃ v, vh = some v ∧ Rep U μ w p v) (hh' : hi = none → vh = none) (hb : bounds lo hi len = some (l, h)) (h0 : 0 ≤ l) (h1 : l ≤ h) (hc : h ≤ cap) (b : Bool) (w' : World) :
    (Instr.sliceBounds b len cap vl vh none).run P w' = .ok (l.toNat, h.toNat, cap) w' := by
  unfold bounds at hb
  split at hb
  · cases hb
    rw [hl' rfl, hh' rfl]
    simp [Instr.sliceBounds]
  · cases hb
    obtain ⟨v, rfl, hv⟩ := hl _ rfl
    cases hv
    rw [hh' rfl]
    simp [Instr.sliceBounds, run_bound P _ l len _ h0 h1]
  · cases hb
    obtain ⟨v, rfl, hv⟩ := hh _ rfl
    cases hv
    rw [hl' rfl]
    cases b <;> simp [Instr.sliceBounds, run_bound P _ h cap _ h1 (by omega)]
  · cases hb
    obtain ⟨v, rfl, hv⟩ := hh _ rfl
    cases hv
    obtain ⟨v, rfl, hv⟩ := hl _ rfl
    cases hv
    have h3 : l ≤ (h.toNat : Int) := by omega
    cases b <;> simp [Instr.sliceBounds, run_bound P _ h cap _ (by omega) (by omega), run_bound P _ l h.toNat _ h0 h3]
  · cases hb

theorem rep_sub {U : Nat → Prop} {es : List (List PV)} {a : Option Addr} {c sz : Nat} (h : Rep U μ w (.list es) (.slice a es.length c)) (hs : ∀ cs ∈ es, cs.length = sz) {l m : Nat} (hlm : l ≤ m) (hm : m ≤ es.length) :
    Rep U μ w (.list ((es.drop l).take (m - l))) (.slice (if c = l then a else a.map (·.add (l * sz))) (m - l) (c - l)) := by
  have hlen : ((es.drop l).take (m - l)).length = m - l := by rw [List.length_take, List.length_drop]; omega
  cases h with
  | list _ _ _ sz' b off vs hn0 hc hs' ha hv hr =>
  suffices hh : Rep U μ w (.list ((es.drop l).take (m - l))) (.slice (if c = l then a else a.map (·.add (l * sz))) ((es.drop l).take (m - l)).length (c - l)) by rw [hlen] at hh; exact hh
  refine .list _ _ _ sz b (off + l * sz) (fun j i => vs (l + j) i) (by split <;> simpa using hn0) (by omega) (fun j cs hj => ?_) (fun hne => ?_) (fun j cs i pv hj hi => ?_) (fun j cs i pv hj hi => ?_)
  · exact hs cs (List.mem_of_mem_drop (List.mem_of_mem_take (List.mem_of_getElem? hj)))
  · have h1 : 0 < m - l := by
      rcases Nat.eq_zero_or_pos (m - l) with h0 | h0
      · rw [h0] at hne; simp at hne
      · exact h0
    obtain ⟨e1, e2⟩ := ha (by intro e; subst e; simp at hm; omega)
    refine ⟨?_, e2⟩
    rw [if_neg (by omega), e1, Option.map_some, add_none]
  all_goals
    rw [List.getElem?_take] at hj
    split at hj
    · rw [List.getElem?_drop] at hj
      first
        | (have hsz : sz' = sz := by rw [← hs' _ _ hj]; exact hs cs (List.mem_of_getElem? hj)
           subst hsz
           rw [show off + l * sz' + j * sz' + i = off + (l + j) * sz' + i by rw [Nat.add_mul]; omega]
           exact hv _ _ _ _ hj hi)
        | exact hr _ _ _ _ hj hi
    · cases hj

theorem slice_sim (S : Sim E σ μ w) {t : TypeId} {p : PV} {lo hi mx : Option PV} {v : Value} {vl vh vm : Option Value} {c : Prop} {eff : Eff} (hp : Rep (Used σ μ) μ w p v)
    (hl : ∀ p, lo = some p → ∃ v, vl = some v ∧ Rep (Used σ μ) μ w p v) (hl' : lo = none → vl = none) (hh : ∀ p, hi = some p → ∃ v, vh = some v ∧ Rep (Used σ μ) μ w p v) (hh' : hi = none → vh = none)
    (hm : ∀ p, mx = some p → ∃ v, vm = some v ∧ Rep (Used σ μ) μ w p v) (hm' : mx = none → vm = none)
    (h : evSlice E σ t p lo hi mx = some (c, eff)) (hc : c) : Does E σ μ w key eff ((valOf (Instr.sliceAt t v vl vh vm)).run E.P w) := by
  unfold evSlice at h
  split at h
  · rename_i k m
    split at h
    · cases h
    rename_i e he
    have hu := telem_some he
    split at h
    · cases h
    rename_i hti
    obtain ⟨ti, d, hi', hd', _⟩ := ti_some hti
    obtain ⟨vm, rfl, hvm⟩ := hm _ rfl
    cases hvm
    have three : ∀ (lo' hi' : Int) (k1 k2 : IntKind) (a : Option Addr) (n cp : Nat), vl = some (.int k1 lo') → vh = some (.int k2 hi') → v = .slice a n cp → 0 ≤ lo' → lo' ≤ hi' → hi' ≤ m → m ≤ cp → ∀ rd, Does E σ μ w key { val := .junk, rd := rd } ((valOf (Instr.sliceAt t v vl vh (some (.int k m)))).run E.P w) := by
      intro lo' hi2 k1 k2 a n cp e1 e2 e3 h0 h1 h2 h3 rd
      subst e1; subst e2; subst e3
      refine does_val S (.junk _) (valOf_run (v := .slice (if m.toNat = lo'.toNat then a else a.map (·.add (lo'.toNat * ti.size))) (hi2.toNat - lo'.toNat) (m.toNat - lo'.toNat)) ?_)
      have b1 : (Instr.sliceBounds true n cp (some (.int k1 lo')) (some (.int k2 hi2)) (some (.int k m))).run E.P w = .ok (lo'.toNat, hi2.toNat, m.toNat) w := by
        simp [Instr.sliceBounds, run_bound E.P k m cp _ (by omega) h3, run_bound E.P k2 hi2 m.toNat _ (by omega) (by omega), run_bound E.P k1 lo' hi2.toNat _ h0 (by omega)]
      simp only [Instr.sliceAt, Instr.slice, Sem.run_bind, run_und hu, Result.andThen_ok, b1, run_sizeOf' hi', Sem.run_pure]
    split at h
    · obtain ⟨v1, rfl, hv1⟩ := hl _ rfl
      obtain ⟨v2, rfl, hv2⟩ := hh _ rfl
      cases hv1; cases hv2
      cases h
      obtain ⟨q0, q1, q2, q3⟩ := hc
      cases hp with
      | list es a cp sz b off vs hn hcl hs ha hv hr => exact three _ _ _ _ _ _ _ rfl rfl rfl q0 q1 q2 (by omega) _
    · obtain ⟨v1, rfl, hv1⟩ := hl _ rfl
      obtain ⟨v2, rfl, hv2⟩ := hh _ rfl
      cases hv1; cases hv2
      cases h
      obtain ⟨q0, q1, q2, q3⟩ := hc
      cases hp
      exact three _ _ _ _ _ _ _ rfl rfl rfl q0 q1 q2 (by omega) _
    · obtain ⟨v1, rfl, hv1⟩ := hl _ rfl
      obtain ⟨v2, rfl, hv2⟩ := hh _ rfl
      cases hv1; cases hv2
      split at h
      · rename_i es hs
        cases h
        obtain ⟨q0, q1, q2, q3, q4⟩ := hc
        cases hp with
        | row _ _ _ L a hm2 ha =>
        obtain ⟨L', hL', ho⟩ := S.obj _ _ hs
        rw [hm2] at hL'; cases hL'
        obtain ⟨cc, ty, g0, g1, g2, g3, g4, _⟩ := ho
        exact three _ _ _ _ _ _ _ rfl rfl rfl q0 q1 q2 (by omega) _
      · cases h
    all_goals first | (cases h; done) | skip
    all_goals
      cases h
      obtain ⟨rfl, rfl⟩ := hc
      obtain ⟨vh, rfl, hvh⟩ := hh _ rfl
      cases hvh
      rw [hl' rfl]
      cases hp
      simp only [Instr.sliceAt, Instr.slice, Instr.sliceBounds]
    · rename_i a0 _ _ _ _ _ hn0 _ _ _ _ _
      obtain ⟨a1, rfl⟩ := Option.isSome_iff_exists.1 hn0
      exact does_val S (.empty _) (valOf_run (by simp [Instr.sliceAt, Instr.slice, Instr.sliceBounds, run_und hu, run_bound, run_sizeOf' hi']; rfl))
    · exact does_val S (.empty _) (valOf_run (by simp [Instr.sliceAt, Instr.slice, Instr.sliceBounds, run_und hu, run_bound, run_sizeOf' hi']; rfl))
    · exact does_val S .nil (valOf_run (by simp [Instr.sliceAt, Instr.slice, Instr.sliceBounds, run_und hu, run_bound, run_sizeOf' hi']))
  · cases h
  · rw [hm' rfl]
    split at h
    · rename_i s
      split at h
      · rename_i hs
        split at h
        · rename_i l h' hb
          cases h
          obtain ⟨h0, h1, h2⟩ := hc
          cases hp
          refine does_val S (.str _) (valOf_run ?_)
          simp [Instr.sliceAt, Instr.slice, run_und (tstr_some hs), run_bounds (P := E.P) hl hl' hh hh' hb h0 h1 (cap := s.size) (by omega) false w]
        · cases h
      · cases h
    · rename_i es
      split at h
      · cases h
      rename_i e he
      have hu := telem_some he
      split at h
      · cases h
      rename_i hti
      obtain ⟨ti, d, hi', hd', hz⟩ := ti_some hti
      have hsz : tsz E.P e = ti.size := by unfold tsz; rw [hz]; rfl
      split at h
      · rename_i l h' hb
        cases h
        obtain ⟨h0, h1, h2, h3⟩ := hc
        have hp' := hp
        cases hp' with
        | list _ a cp sz b off vs hn0 hcl hsl hal hvl hrl =>
        have hsub := rep_sub (sz := ti.size) hp (fun cs hcs => by rw [h3 cs hcs, hsz]) (l := l.toNat) (m := h'.toNat) (by omega) (by omega)
        rw [show (h' - l).toNat = h'.toNat - l.toNat by omega]
        refine does_val S hsub (valOf_run ?_)
        simp [Instr.sliceAt, Instr.slice, run_und hu, run_bounds (P := E.P) hl hl' hh hh' hb h0 h1 (cap := cp) (by omega) true w, run_sizeOf' hi']
      · cases h
    · rename_i k off len
      split at h
      · rename_i e es he hs
        have hu := telem_some he
        split at h
        · cases h
        rename_i hti
        obtain ⟨ti, d, hi', hd', hz⟩ := ti_some hti
        have hsz : tsz E.P e = ti.size := by unfold tsz; rw [hz]; rfl
        split at h
        · rename_i l h' hb
          cases h
          obtain ⟨h0, h1, h2, h3, h4⟩ := hc
          cases hp with
          | row _ _ _ L a hm ha =>
          obtain ⟨L', hL', ho⟩ := S.obj k _ hs
          rw [hm] at hL'; cases hL'
          obtain ⟨cc, ty, g0, g1, g2, g3, g4, g5⟩ := ho
          have hcap : h' ≤ ((L.cap - off : Nat) : Int) := by omega
          rw [show (h' - l).toNat = h'.toNat - l.toNat by omega]
          have hrep : Rep (Used σ μ) μ w (.row k (off + l.toNat) (h'.toNat - l.toNat)) (.slice (some (if L.cap - off = l.toNat then a else a.add (l.toNat * ti.size))) (h'.toNat - l.toNat) (L.cap - (off + l.toNat))) := by
            refine .row k _ _ L _ hm (fun hlt => ?_)
            rw [if_neg (by omega), ha (by omega), add_none]
            by_cases hes : es = []
            · have := g5 hes; omega
            · have hpos : 0 < es.length := List.length_pos_iff.2 hes
              have : L.sz = ti.size := by rw [← g1 0 _ (List.getElem?_eq_getElem hpos), h4 _ (List.getElem_mem hpos), hsz]
              rw [this, Nat.add_mul, Nat.add_assoc]
          refine does_val (rd := [k]) S hrep (valOf_run ?_)
          simp only [Instr.sliceAt, Instr.slice, Sem.run_bind, run_und hu, Result.andThen_ok, run_bounds (P := E.P) hl hl' hh hh' hb h0 h1 hcap true w, run_sizeOf' hi']
          simp [show L.cap - (off + l.toNat) = L.cap - off - l.toNat by omega]
          split <;> simp_all
        · cases h
      · cases h
    · split at h
      · cases h
      rename_i e he
      have hu := telem_some he
      split at h
      · cases h
      rename_i hti
      obtain ⟨ti, d, hi', hd', hz⟩ := ti_some hti
      split at h
      · rename_i l h' hb
        cases h
        obtain ⟨rfl, rfl⟩ := hc
        cases hp
        refine does_val S .nil (valOf_run ?_)
        simp [Instr.sliceAt, Instr.slice, run_und hu, run_bounds (P := E.P) (len := 0) (cap := 0) hl hl' hh hh' hb (by omega) (by omega) (by omega) true w, run_sizeOf' hi']
      · cases h
    · cases h
end
end Go.Proofs.YtdajoilaakiinaaGreatDoor.Awp

/- Each operation that calls no function of the program does what the abstract machine says: new objects, structs, literals. -/
namespace Go.Proofs.YtdajoilaakiinaaGreatDoor.Awp
open Go

section
variable {E : Env} {σ : Store} {μ : Mu} {w : World} {key : Nat}

theorem new_does (S : Sim E σ μ w) (hk : μ key = none) {es : List (List PV)} {sz cap : Nat} {arr : Array Value} {t : TypeId} (h1 : ∀ (j : Nat) (cs : List PV), es[j]? = some cs → cs.length = sz) (h2 : es.length ≤ cap) (h5 : es = [] → cap = 0) (h3 : cap * sz ≤ arr.size)
    (h4 : ∀ (j : Nat) (cs : List PV) (i : Nat) (pv : PV), es[j]? = some cs → cs[i]? = some pv → ∃ v, arr[j * sz + i]? = some v ∧ Rep (Used σ μ) μ w pv v) :
    Sim E (upd σ key (some (.row es))) (upd μ key (some ⟨w.heap.size, 0, cap, sz⟩)) (w.alloc (.cells arr t)) ∧ Moves σ μ w (upd σ key (some (.row es))) (upd μ key (some ⟨w.heap.size, 0, cap, sz⟩)) (w.alloc (.cells arr t)) := by
  refine sim_new S hk rfl fun U μ' hU => ⟨arr, t, heap_new w _, h1, h2, by simpa using h3, fun j cs i pv hj hi => by
    obtain ⟨v, hv, hr⟩ := h4 j cs i pv hj hi
    exact ⟨v, by simpa using hv, hU _ _ hr⟩, h5⟩

theorem new_other (μ : Mu) (key : Nat) (l : Option Loc) : ∀ k, k ≠ key → upd μ key l k = μ k := fun k hk => upd_other _ _ hk

/-- A variable's block. -/
theorem var_does (S : Sim E σ μ w) (hk : μ key = none) {cs : List PV} {arr : Array Value} {t : TypeId} (hl : arr.size = cs.length) (hr : ∀ (i : Nat) (pv : PV) (v : Value), cs[i]? = some pv → arr[i]? = some v → Rep (Used σ μ) μ w pv v) {r : Result Next}
    (h : r = .ok (.value (.pointer (some ⟨w.heap.size, 0, none⟩))) (w.alloc (.cells arr t))) : Does E σ μ w key { val := .ptr key 0 0, wr := [(key, some (.row [cs]))] } r := by
  obtain ⟨s1, s2⟩ := new_does (E := E) (es := [cs]) (sz := cs.length) (cap := 1) (t := t) (arr := arr) S hk (fun j c hj => by
      cases j with
      | zero => simp at hj; rw [hj]
      | succ j => simp at hj) (by simp) (fun h => by simp at h) (by omega) (fun j c i pv hj hi => by
      cases j with
      | zero =>
        simp at hj; subst hj
        have hlt : i < arr.size := by rw [hl]; exact (List.getElem?_eq_some_iff.1 hi).1
        exact ⟨arr[i], by simp [hlt], hr i pv _ hi (Array.getElem?_eq_getElem hlt)⟩
      | succ j => simp at hj)
  refine ⟨_, _, _, .inl h, ?_, s1, s2, new_other μ key _⟩
  have := Rep.ptr (U := Used (app σ [(key, some (.row [cs]))]) (upd μ key (some ⟨w.heap.size, 0, 1, cs.length⟩))) (μ := upd μ key (some ⟨w.heap.size, 0, 1, cs.length⟩)) (w := w.alloc (.cells arr t)) key 0 0 ⟨w.heap.size, 0, 1, cs.length⟩ (upd_same _ _ _)
  simpa using this

theorem mapM_get {α β : Type} {f : α → Option β} : ∀ {l : List α} {r : List β}, l.mapM f = some r → r.length = l.length ∧ ∀ (i : Nat) (x : β), r[i]? = some x → ∃ y, l[i]? = some y ∧ f y = some x
  | [], r, h => by simp at h; subst h; exact ⟨rfl, fun i x hx => by simp at hx⟩
  | a :: l, r, h => by
    rw [List.mapM_cons] at h
    cases ha : f a with
    | none => rw [ha] at h; cases h
    | some b =>
      rw [ha] at h
      cases hl : l.mapM f with
      | none => rw [hl] at h; cases h
      | some bs =>
        rw [hl] at h
        cases h
        obtain ⟨g1, g2⟩ := mapM_get hl
        refine ⟨by simp [g1], fun i x hx => ?_⟩
        cases i with
        | zero => simp at hx; subst hx; exact ⟨a, rfl, ha⟩
        | succ i => exact g2 i x (by simpa using hx)

theorem tzero_some {P : Program} {t : TypeId} {z : List PV} (h : tzero P t = some z) : ∃ i v, P.info? t = some i ∧ i.zero = some v ∧ v.cells.size = z.length ∧ ∀ (U : Nat → Prop) (μ : Mu) (w : World) (j : Nat) (pv : PV) (x : Value), z[j]? = some pv → v.cells[j]? = some x → Rep U μ w pv x := by
  unfold tzero at h
  cases hi : P.info? t with
  | none => rw [hi] at h; cases h
  | some i =>
    rw [hi] at h
    simp only [Option.bind_some] at h
    cases hz : i.zero with
    | none => rw [hz] at h; cases h
    | some v =>
      rw [hz] at h
      simp only [Option.bind_some] at h
      obtain ⟨g1, g2⟩ := mapM_get h
      refine ⟨i, v, rfl, hz, by simpa using g1.symm, fun U μ w j pv x hj hx => ?_⟩
      obtain ⟨y, hy, hf⟩ := g2 j pv hj
      have : y = x := by
        have hy' : v.cells[j]? = some y := by simpa using hy
        rw [hx] at hy'; cases hy'; rfl
      subst this
      exact rep_const hf

theorem run_zero {P : Program} {t : TypeId} {i : TypeInfo} {v : Value} (hi : P.info? t = some i) (hz : i.zero = some v) (w : World) : (zeroValue t).run P w = .ok v w := by
  unfold zeroValue typeInfo
  simp [hi, hz]

theorem alloc_sim (S : Sim E σ μ w) (hk : μ key = none) {t : TypeId} {z : List PV} (h : tzero E.P t = some z) : Does E σ μ w key { val := .ptr key 0 0, wr := [(key, some (.row [z]))] } ((valOf (Instr.alloc t true (.tuple #[]))).run E.P w) := by
  obtain ⟨i, v, hi, hz, hl, hr⟩ := tzero_some h
  refine var_does (t := t) S hk hl (fun j pv x hj hx => hr _ _ _ j pv x hj hx) ?_
  simp only [valOf, Instr.alloc, Sem.run_bind, run_zero hi hz, Result.andThen_ok]
  rfl

theorem box_sim (S : Sim E σ μ w) (hk : μ key = none) {t : TypeId} {p : PV} {v : Value} (hp : Rep (Used σ μ) μ w p v) (h : ones (cellsP p) = true) : Does E σ μ w key { val := .ptr key 0 0, wr := [(key, some (.row [cellsP p]))] } ((valOf (Instr.box t v)).run E.P w) := by
  obtain ⟨cl, cr, _⟩ := hp.cells_of h
  refine var_does (t := t) S hk cl cr ?_
  rfl

/-! ### structs and arrays out of parts -/
theorem foldl_set (off : Nat) : ∀ (l : List (Value × Nat)) (cells : Array Value), (∀ (i : Nat) (p : Value × Nat), l[i]? = some p → True) → (l.foldl (fun cs (x : Value × Nat) => cs.setIfInBounds (off + x.2) x.1) cells).size = cells.size
  | [], _, _ => rfl
  | _ :: l, cells, _ => by rw [List.foldl_cons, foldl_set off l _ fun _ _ _ => trivial]; simp
theorem foldl_get (off : Nat) : ∀ (xs : List Value) (k : Nat) (cells : Array Value) (n : Nat), off + k + xs.length ≤ cells.size →
    ((xs.zipIdx k).foldl (fun cs (x : Value × Nat) => cs.setIfInBounds (off + x.2) x.1) cells)[n]? = if off + k ≤ n ∧ n < off + k + xs.length then xs[n - (off + k)]? else cells[n]?
  | [], k, cells, n, _ => by simp; intro h1 h2; omega
  | x :: xs, k, cells, n, h => by
    rw [List.zipIdx_cons, List.foldl_cons, foldl_get off xs (k + 1) _ n (by simp at h ⊢; omega)]
    simp only [List.length_cons] at h ⊢
    by_cases h1 : off + k = n
    · subst h1
      rw [if_neg (by omega), if_pos (by omega)]
      simp [show off + k < cells.size by omega]
    · by_cases h2 : off + (k + 1) ≤ n ∧ n < off + (k + 1) + xs.length
      · rw [if_pos h2, if_pos (by omega)]
        rw [show n - (off + k) = (n - (off + (k + 1))) + 1 by omega]
        rfl
      · rw [if_neg h2, if_neg (by omega)]
        rw [Array.getElem?_setIfInBounds_ne h1]

theorem fill_rep {U : Nat → Prop} {place place' : Nat → Option (Nat × Nat)} (hpl : ∀ i x, place' i = some x → place i = some x) : ∀ (ps : List (Nat × PV)) (vs : List (Nat × Value)) (cs out : List PV) (arr : Array Value), ps.length = vs.length →
    (∀ (i : Nat) (p : Nat × PV) (v : Nat × Value), ps[i]? = some p → vs[i]? = some v → p.1 = v.1 ∧ Rep U μ w p.2 v.2) → arr.size = cs.length → (∀ (i : Nat) (pv : PV) (v : Value), cs[i]? = some pv → arr[i]? = some v → Rep U μ w pv v) →
    fillP place' cs ps = some out → ∃ arr', Instr.fill place arr vs = some arr' ∧ arr'.size = out.length ∧ ∀ (i : Nat) (pv : PV) (v : Value), out[i]? = some pv → arr'[i]? = some v → Rep U μ w pv v
  | [], [], cs, out, arr, _, _, h1, h2, h => by cases h; exact ⟨arr, rfl, h1, h2⟩
  | [], _ :: _, _, _, _, hl, _, _, _, _ => by simp at hl
  | _ :: _, [], _, _, _, hl, _, _, _, _ => by simp at hl
  | (i, p) :: ps, (i', v) :: vs, cs, out, arr, hl, hp, h1, h2, h => by
    obtain ⟨e, hr⟩ := hp 0 (i, p) (i', v) rfl rfl
    simp only at e hr
    subst e
    unfold fillP at h
    split at h
    · cases h
    rename_i off size hpi
    split at h
    · rename_i hc
      obtain ⟨c1, c2, c3⟩ := hc
      obtain ⟨g1, g2, g3⟩ := hr.cells_of c3
      have hfit : off + (cellsP p).length ≤ cs.length := by omega
      unfold Instr.fill
      simp only [hpl _ _ hpi]
      rw [if_neg (by rw [g1, c1, h1]; simp; omega)]
      refine fill_rep hpl ps vs (patch cs off (cellsP p)) out _ (by simpa using hl) (fun j a b ha hb => hp (j + 1) a b (by simpa using ha) (by simpa using hb)) ?_ ?_ h
      · rw [patch_length hfit, ← Array.foldl_toList, Array.toList_zipIdx]
        rw [foldl_set off _ _ fun _ _ _ => trivial, h1]
      · intro n pv x hn hx
        rw [← Array.foldl_toList, Array.toList_zipIdx, foldl_get off _ 0 _ n (by simp [g1]; omega)] at hx
        rw [patch_get hfit] at hn
        simp only [Nat.add_zero, Array.length_toList, g1, Array.getElem?_toList] at hx
        by_cases n1 : n < off
        · rw [if_pos n1] at hn
          rw [if_neg (by omega)] at hx
          exact h2 n pv x hn hx
        · rw [if_neg n1] at hn
          by_cases n2 : n < off + (cellsP p).length
          · rw [if_pos n2] at hn
            rw [if_pos (by omega)] at hx
            exact g2 _ pv x hn hx
          · rw [if_neg n2] at hn
            rw [if_neg (by omega)] at hx
            exact h2 n pv x hn hx
    · cases h

theorem run_places {P : Program} : ∀ (fs : List Field) (l : List (Nat × Nat)), (fs.mapM fun f => (P.info? f.type).map fun i => (f.offset, i.size)) = some l → ∀ w : World,
    (fs.mapM (fun f => do pure (f.offset, ← sizeOf f.type)) : Sem (List (Nat × Nat))).run P w = .ok l w
  | [], l, h, w => by simp at h; subst h; rfl
  | f :: fs, l, h, w => by
    rw [List.mapM_cons] at h
    cases hi : P.info? f.type with
    | none => rw [hi] at h; cases h
    | some i =>
      rw [hi] at h
      simp only [Option.map_some] at h
      cases hl : (fs.mapM fun f => (P.info? f.type).map fun i => (f.offset, i.size)) with
      | none => rw [hl] at h; cases h
      | some l' =>
        rw [hl] at h
        cases h
        rw [List.mapM_cons]
        simp only [Sem.run_bind, run_sizeOf' hi, Result.andThen_ok, Sem.run_pure, run_places fs l' hl w]

theorem parts_rep {U : Nat → Prop} {sl : Nat → PV} {a : Act} (ho : ∀ x, Rep U μ w (opd E sl x) (a.eval x)) (parts : Array (Nat × Operand)) :
    (parts.toList.map fun p => (p.1, opd E sl p.2)).length = (parts.map fun (p : Nat × Operand) => (p.1, a.eval p.2)).toList.length ∧
    ∀ (i : Nat) (p : Nat × PV) (v : Nat × Value), (parts.toList.map fun p => (p.1, opd E sl p.2))[i]? = some p → (parts.map fun (p : Nat × Operand) => (p.1, a.eval p.2)).toList[i]? = some v → p.1 = v.1 ∧ Rep U μ w p.2 v.2 := by
  refine ⟨by simp, fun i p v hp hv => ?_⟩
  simp only [Array.toList_map, List.getElem?_map, Option.map_eq_some_iff] at hp hv
  obtain ⟨x, hx, rfl⟩ := hp
  obtain ⟨y, hy, rfl⟩ := hv
  rw [hx] at hy
  cases hy
  exact ⟨rfl, ho _⟩

theorem build_sim (S : Sim E σ μ w) {sl : Nat → PV} {a : Act} (ho : ∀ x, Rep (Used σ μ) μ w (opd E sl x) (a.eval x)) {t : TypeId} {parts : Array (Nat × Operand)} {z cs : List PV} {pl : Nat → Option (Nat × Nat)} (hz : tzero E.P t = some z)
    (hpl : placeP E.P t = some pl) (hf : fillP pl z (parts.toList.map fun p => (p.1, opd E sl p.2)) = some cs) : Does E σ μ w key { val := .agg cs } ((valOf (Instr.build t (parts.map fun (p : Nat × Operand) => (p.1, a.eval p.2)))).run E.P w) := by
  obtain ⟨i, v, hi, hzv, hl, hr⟩ := tzero_some hz
  obtain ⟨p1, p2⟩ := parts_rep (E := E) ho parts
  unfold placeP at hpl
  split at hpl
  · rename_i l htpl
    cases hpl
    unfold tpl at htpl
    split at htpl
    · rename_i fs hu
      have hlen := (mapM_get htpl).1
      obtain ⟨arr', h1, h2, h3⟩ := fill_rep (w := w) (place := fun i => l.toArray[i]?) (place' := fun i => l[i]?) (fun i x h => by simpa using h) _ _ z cs v.cells p1 p2 hl (fun j pv x hj hx => hr _ _ _ j pv x hj hx) hf
      refine does_val S (.agg _ _ h2 h3) (valOf_run ?_)
      unfold Instr.build
      simp only [Sem.run_bind, run_zero hi hzv, run_und hu, Result.andThen_ok, Array.mapM_eq_mapM_toList, Sem.run_map, run_places fs.toList l htpl w]
      rw [h1]
      rfl
    · cases htpl
  · split at hpl
    · rename_i n e ha
      split at hpl
      · cases hpl
      rename_i hti
      cases hpl
      obtain ⟨i', d, hi', hd', hz'⟩ := ti_some hti
      have hsz : tsz E.P e = i'.size := by unfold tsz; rw [hz']; rfl
      obtain ⟨arr', h1, h2, h3⟩ := fill_rep (w := w) (place := fun i => some (i * i'.size, i'.size)) (place' := fun i => some (i * tsz E.P e, tsz E.P e)) (fun i x h => by rw [hsz] at h; exact h) _ _ z cs v.cells p1 p2 hl (fun j pv x hj hx => hr _ _ _ j pv x hj hx) hf
      refine does_val S (.agg _ _ h2 h3) (valOf_run ?_)
      unfold Instr.build
      simp only [Sem.run_bind, run_zero hi hzv, run_und (tarr_some ha), run_sizeOf' hi', Result.andThen_ok]
      rw [h1]
      rfl
    · cases hpl

/-! ### a literal of a slice -/
theorem fillP_seq {sz : Nat} : ∀ (ps : List (Nat × PV)) (k : Nat) (cs : List PV), ps.map (·.1) = List.range' k ps.length → (∀ p ∈ ps, (cellsP p.2).length = sz ∧ ones (cellsP p.2) = true) → (k + ps.length) * sz ≤ cs.length →
    ∃ out, fillP (fun i => some (i * sz, sz)) cs ps = some out ∧ out.length = cs.length ∧ (∀ m, m < k * sz → out[m]? = cs[m]?) ∧
      ∀ (j : Nat) (p : Nat × PV) (i : Nat), ps[j]? = some p → i < sz → out[(k + j) * sz + i]? = (cellsP p.2)[i]?
  | [], k, cs, _, _, _ => ⟨cs, rfl, rfl, fun _ _ => rfl, fun j p i hj => by simp at hj⟩
  | (n, p) :: ps, k, cs, hr, hp, hl => by
    simp only [List.map_cons, List.length_cons, List.range'_succ, List.cons.injEq] at hr
    obtain ⟨rfl, hr⟩ := hr
    obtain ⟨q1, q2⟩ := hp (n, p) (List.mem_cons_self ..)
    simp only [List.length_cons] at hl
    have e1 : (n + (ps.length + 1)) * sz = n * sz + sz + ps.length * sz := by rw [Nat.add_mul, Nat.add_mul, Nat.one_mul]; omega
    have hfit : n * sz + (cellsP p).length ≤ cs.length := by have := hl; rw [e1] at this; simp only at q1; omega
    obtain ⟨out, h1, h2, h3, h4⟩ := fillP_seq ps (n + 1) (patch cs (n * sz) (cellsP p)) hr (fun x hx => hp x (List.mem_cons_of_mem _ hx)) (by rw [patch_length hfit]; rw [show n + 1 + ps.length = n + (ps.length + 1) by omega]; exact hl)
    rw [patch_length hfit] at h2
    refine ⟨out, ?_, h2, fun m hm => ?_, fun j x i hj hi => ?_⟩
    · unfold fillP
      simp only
      rw [if_pos ⟨q1, by simp only at q1; omega, q2⟩]
      exact h1
    · rw [h3 m (by rw [Nat.add_mul]; omega), patch_get hfit, if_pos hm]
    · cases j with
      | zero =>
        simp at hj
        subst hj
        simp only at q1
        rw [Nat.add_zero, h3 _ (by rw [Nat.add_mul]; omega), patch_get hfit, if_neg (by omega), if_pos (by omega)]
        congr 1
        omega
      | succ j =>
        rw [show n + (j + 1) = n + 1 + j by omega]
        exact h4 j x i (by simpa using hj) hi

theorem buildSlice_sim (S : Sim E σ μ w) (hk : μ key = none) {sl : Nat → PV} {a : Act} (ho : ∀ x, Rep (Used σ μ) μ w (opd E sl x) (a.eval x)) {t e : TypeId} {len : Nat} {parts : Array (Nat × Operand)}
    (he : telem E.P t = some e) (hr : parts.toList.map (·.1) = List.range len) (hti : ti E.P e ≠ none) (htz : tzero E.P e ≠ none) (h1 : len ≤ 1048576) (h2 : tsz E.P e ≤ 16)
    (h3 : (parts.toList.map fun p => cellsP (opd E sl p.2)).all (fun c => decide (c.length = tsz E.P e) && ones c) = true) :
    Does E σ μ w key { val := .row key 0 len, wr := [(key, some (.row (parts.toList.map fun p => cellsP (opd E sl p.2))))] } ((valOf (Instr.buildSlice t len (parts.map fun (p : Nat × Operand) => (p.1, a.eval p.2)))).run E.P w) := by
  obtain ⟨z, hz⟩ : ∃ z, tzero E.P e = some z := by cases h : tzero E.P e with
    | none => exact (htz h).elim
    | some z => exact ⟨z, rfl⟩
  obtain ⟨i, v, hi, hzv, hl, _⟩ := tzero_some hz
  obtain ⟨i', d, hi', hd, hz'⟩ := ti_some hti
  rw [hi] at hi'; cases hi'
  have hsz : tsz E.P e = i.size := by unfold tsz; rw [hz']; rfl
  obtain ⟨p1, p2⟩ := parts_rep (E := E) ho parts
  have hplen : (parts.toList.map fun p => (p.1, opd E sl p.2)).length = len := by
    rw [List.length_map]; have := congrArg List.length hr; simpa using this
  obtain ⟨out, f1, f2, _, f4⟩ := fillP_seq (sz := i.size) (parts.toList.map fun p => (p.1, opd E sl p.2)) 0 (List.replicate (len * i.size) .junk) (by
      rw [hplen, ← List.range_eq_range', ← hr, List.map_map]; rfl) (fun p hp => by
      rw [List.mem_map] at hp
      obtain ⟨x, hx, rfl⟩ := hp
      have := List.all_eq_true.1 h3 (cellsP (opd E sl x.2)) (List.mem_map.2 ⟨x, hx, rfl⟩)
      rw [Bool.and_eq_true, decide_eq_true_eq, hsz] at this
      exact this) (by rw [hplen, List.length_replicate, Nat.zero_add]; exact Nat.le_refl _)
  have hbig : ¬ (len * i.size > 2 ^ 24) := by
    have : len * i.size ≤ 1048576 * 16 := Nat.mul_le_mul h1 (by omega)
    omega
  have harr : ∀ arr : Array Value, arr.size = len * i.size → ∃ arr', Instr.fill (fun i' => some (i' * i.size, i.size)) arr (parts.map fun (p : Nat × Operand) => (p.1, a.eval p.2)).toList = some arr' ∧ arr'.size = out.length ∧
      ∀ (j : Nat) (pv : PV) (v : Value), out[j]? = some pv → arr'[j]? = some v → Rep (Used σ μ) μ w pv v := fun arr hs => fill_rep (w := w) (fun _ _ h => h) _ _ _ out arr p1 p2 (by rw [hs]; simp) (fun j pv x hj _ => by
        rw [List.getElem?_replicate] at hj
        split at hj
        · cases hj; exact .junk _
        · cases hj) f1
  have hrun : ∃ arr', (Instr.buildSlice t len (parts.map fun (p : Nat × Operand) => (p.1, a.eval p.2))).run E.P w = .ok (.slice (some ⟨w.heap.size, 0, none⟩) len len) (w.alloc (.cells arr' e)) ∧ arr'.size = out.length ∧
      ∀ (j : Nat) (pv : PV) (v : Value), out[j]? = some pv → arr'[j]? = some v → Rep (Used σ μ) μ w pv v := by
    unfold Instr.buildSlice
    by_cases h0 : len * i.size = 0
    · obtain ⟨arr', g1, g2, g3⟩ := harr ((Array.range (len * i.size)).map ((#[] : Array Value)[· % (#[] : Array Value).size]!)) (by simp)
      refine ⟨arr', ?_, g2, g3⟩
      simp only [Sem.run_bind, run_und (telem_some he), run_sizeOf' hi, Result.andThen_ok, if_neg hbig, if_pos h0, Sem.run_pure]
      rw [g1]
      rfl
    · obtain ⟨arr', g1, g2, g3⟩ := harr ((Array.range (len * i.size)).map (v.cells[· % v.cells.size]!)) (by simp)
      refine ⟨arr', ?_, g2, g3⟩
      simp only [Sem.run_bind, run_und (telem_some he), run_sizeOf' hi, Result.andThen_ok, if_neg hbig, if_neg h0, Sem.run_pure, run_zero hi hzv]
      rw [g1]
      rfl
  obtain ⟨arr', g0, g1, g2⟩ := hrun
  have hout : out.length = len * i.size := by rw [f2, List.length_replicate]
  have hes : ∀ (j : Nat) (cs : List PV), (parts.toList.map fun p => cellsP (opd E sl p.2))[j]? = some cs → cs.length = i.size := by
    intro j cs hj
    have := List.all_eq_true.1 h3 cs (List.mem_of_getElem? hj)
    rw [Bool.and_eq_true, decide_eq_true_eq, hsz] at this
    exact this.1
  obtain ⟨s1, s2⟩ := new_does (E := E) (es := parts.toList.map fun p => cellsP (opd E sl p.2)) (sz := i.size) (cap := len) (t := e) (arr := arr') S hk hes (by simpa using Nat.le_of_eq hplen) (fun h => by rw [← hplen]; simpa using h) (by omega) (fun j cs m pv hj hm => by
    have hm' : m < i.size := by rw [← hes j cs hj]; exact (List.getElem?_eq_some_iff.1 hm).1
    simp only [List.getElem?_map, Option.map_eq_some_iff] at hj
    obtain ⟨x, hx, rfl⟩ := hj
    have hj4 := f4 j (x.1, opd E sl x.2) m (by simp [hx]) hm'
    rw [Nat.zero_add, hm] at hj4
    have hlt : j * i.size + m < arr'.size := by rw [g1]; exact (List.getElem?_eq_some_iff.1 hj4).1
    exact ⟨arr'[j * i.size + m], Array.getElem?_eq_getElem hlt, g2 _ pv _ hj4 (Array.getElem?_eq_getElem hlt)⟩)
  refine ⟨_, _, _, .inl (valOf_run g0), ?_, s1, s2, new_other μ key _⟩
  have := Rep.row (U := Used (app σ [(key, some (.row (parts.toList.map fun p => cellsP (opd E sl p.2))))]) (upd μ key (some ⟨w.heap.size, 0, len, i.size⟩))) (μ := upd μ key (some ⟨w.heap.size, 0, len, i.size⟩)) (w := w.alloc (.cells arr' e)) key 0 len ⟨w.heap.size, 0, len, i.size⟩ ⟨w.heap.size, 0, none⟩ (upd_same _ _ _) (fun _ => by simp)
  simpa using this
end
end Go.Proofs.YtdajoilaakiinaaGreatDoor.Awp

/- append does what the abstract machine says. -/
namespace Go.Proofs.YtdajoilaakiinaaGreatDoor.Awp
open Go

section
variable {E : Env} {σ : Store} {μ : Mu} {w : World} {key : Nat}

/-- Flat cells that hold a row of elements. -/
def Flat (U : Nat → Prop) (μ : Mu) (w : World) (sz : Nat) (xs : List (List PV)) (vs : List Value) : Prop :=
  vs.length = xs.length * sz ∧ ∀ (j : Nat) (cs : List PV) (i : Nat) (pv : PV), xs[j]? = some cs → cs[i]? = some pv → ∃ v, vs[j * sz + i]? = some v ∧ Rep U μ w pv v

theorem split_index {sz m n : Nat} (h : m < n * sz) : m / sz < n ∧ m % sz < sz ∧ m = m / sz * sz + m % sz := by
  have hs : 0 < sz := by
    rcases Nat.eq_zero_or_pos sz with h0 | h0
    · subst h0; simp at h
    · exact h0
  exact ⟨(Nat.div_lt_iff_lt_mul hs).2 h, Nat.mod_lt _ hs, by rw [Nat.mul_comm]; exact (Nat.div_add_mod m sz).symm⟩

/-- The cells of a row of elements, read at an address. -/
theorem flat_of {U : Nat → Prop} {b o sz : Nat} {xs : List (List PV)} (hs : ∀ c ∈ xs, c.length = sz)
    (h : ∀ (j : Nat) (cs : List PV) (i : Nat) (pv : PV), xs[j]? = some cs → cs[i]? = some pv → ∃ v, w.cell? ⟨b, o + j * sz + i, none⟩ = some v ∧ Rep U μ w pv v) :
    ∃ vs : List Value, Flat U μ w sz xs vs ∧ ∀ (m : Nat) (v : Value), vs[m]? = some v → w.cell? ⟨b, o + m, none⟩ = some v := by
  have h' : ∀ (m : Nat) (p : Nat), (List.range (xs.length * sz))[m]? = some p → ∃ v, p = m ∧ w.cell? ⟨b, o + p, none⟩ = some v ∧ ∀ (pv : PV), (xs[p / sz]?.getD [])[p % sz]? = some pv → Rep U μ w pv v := by
    intro m p hp
    have hm : m < xs.length * sz := by have := (List.getElem?_eq_some_iff.1 hp).1; simpa using this
    have hpm : p = m := by rw [List.getElem?_range hm] at hp; cases hp; rfl
    subst hpm
    obtain ⟨h1, h2, h3⟩ := split_index hm
    have hx := get_some (d := []) h1
    have hc := hs _ (List.mem_of_getElem? hx)
    have hlt : p % sz < (xs[p / sz]?.getD []).length := by rw [hc]; exact h2
    obtain ⟨v, hv, hr⟩ := h _ _ _ _ hx (List.getElem?_eq_getElem hlt)
    refine ⟨v, rfl, ?_, fun pv hpv => ?_⟩
    · rw [Nat.add_assoc, ← h3] at hv; exact hv
    · rw [List.getElem?_eq_getElem hlt] at hpv; cases hpv; exact hr
  obtain ⟨vs, hl, hr⟩ := list_of (R := fun p v => w.cell? ⟨b, o + p, none⟩ = some v ∧ ∀ (pv : PV), (xs[p / sz]?.getD [])[p % sz]? = some pv → Rep U μ w pv v) (List.range (xs.length * sz)) (fun m p hp => by
    obtain ⟨v, _, h1, h2⟩ := h' m p hp; exact ⟨v, h1, h2⟩)
  rw [List.length_range] at hl
  refine ⟨vs, ⟨hl, fun j cs i pv hj hi => ?_⟩, fun m v hv => ?_⟩
  · have hi' : i < sz := by rw [← hs cs (List.mem_of_getElem? hj)]; exact (List.getElem?_eq_some_iff.1 hi).1
    have hj' : j < xs.length := (List.getElem?_eq_some_iff.1 hj).1
    have hlt : j * sz + i < xs.length * sz := by
      have : (j + 1) * sz ≤ xs.length * sz := Nat.mul_le_mul_right _ hj'
      rw [Nat.add_mul, Nat.one_mul] at this; omega
    have hvl : j * sz + i < vs.length := by omega
    refine ⟨vs[j * sz + i], List.getElem?_eq_getElem hvl, (hr _ _ _ (List.getElem?_range hlt) (List.getElem?_eq_getElem hvl)).2 pv ?_⟩
    have hpos : 0 < sz := by omega
    rw [show (j * sz + i) / sz = j by rw [Nat.mul_comm, Nat.mul_add_div hpos, Nat.div_eq_of_lt hi']; omega, show (j * sz + i) % sz = i by rw [Nat.mul_comm, Nat.mul_add_mod]; exact Nat.mod_eq_of_lt hi', hj]
    exact hi
  · have hlt : m < xs.length * sz := by have := (List.getElem?_eq_some_iff.1 hv).1; omega
    exact (hr m m v (List.getElem?_range hlt) hv).1

/-- What is read of a slice: the machine's side. -/
theorem elems_run (S : Sim E σ μ w) {p : PV} {v : Value} {c : Prop} {xs : List (List PV)} {rd : List Nat} (hp : Rep (Used σ μ) μ w p v) (h : elems σ p = some (c, xs, rd)) (hc : c) {sz : Nat} (hs : ∀ x ∈ xs, x.length = sz) :
    ∃ (a : Option Addr) (cp : Nat) (vs : List Value), v = .slice a xs.length cp ∧ Flat (Used σ μ) μ w sz xs vs ∧ (Builtin.firstCells sz xs.length v).run E.P w = .ok vs.toArray w := by
  have nothing : ∀ (a : Option Addr), (Builtin.firstCells sz 0 (.slice a 0 0)).run E.P w = .ok (([] : List Value).toArray) w := by
    intro a
    cases a with
    | none => rfl
    | some a => simp [Builtin.firstCells, loadCells, loadCellsFrom]
  have flat0 : Flat (Used σ μ) μ w sz [] [] := ⟨by simp, fun j cs i pv hj => by simp at hj⟩
  cases hp with
  | nil => cases h; exact ⟨none, 0, [], rfl, flat0, nothing none⟩
  | empty a => cases h; exact ⟨a, 0, [], rfl, flat0, nothing a⟩
  | list es a cp sz' b off vs hn0 hcl hsl ha hv hr =>
    simp only [elems, Option.some.injEq, Prod.mk.injEq] at h
    obtain ⟨-, h2, -⟩ := h
    subst h2
    by_cases he : es = []
    · subst he
      refine ⟨a, cp, [], rfl, flat0, ?_⟩
      cases a with
      | none => rfl
      | some a => simp [Builtin.firstCells, loadCells, loadCellsFrom]
    · obtain ⟨rfl, _⟩ := ha he
      have hpos : 0 < es.length := List.length_pos_iff.2 he
      have hsz : sz' = sz := by rw [← hsl 0 _ (List.getElem?_eq_getElem hpos)]; exact hs _ (List.getElem_mem hpos)
      subst hsz
      obtain ⟨us, hf, hcell⟩ := flat_of (U := Used σ μ) (μ := μ) (w := w) (b := b) (o := off) hs (fun j cs i pv hj hi => ⟨vs j i, hv j cs i pv hj hi, hr j cs i pv hj hi⟩)
      refine ⟨_, cp, us, rfl, hf, ?_⟩
      simp only [Builtin.firstCells]
      rw [← hf.1]
      exact run_load_cells us hcell
  | row k off len l a hm ha =>
    simp only [elems] at h
    cases hk : σ k with
    | none => rw [hk] at h; cases h
    | some o =>
      rw [hk] at h
      cases o with
      | map _ => cases h
      | row es =>
        cases h
        obtain ⟨l', hl', ho⟩ := S.obj k _ hk
        rw [hm] at hl'; cases hl'
        have hlen : ((es.drop off).take len).length = len := by rw [List.length_take, List.length_drop]; omega
        rcases Nat.eq_zero_or_pos len with h0 | h0
        · subst h0
          simp only [List.take_zero, List.length_nil]
          refine ⟨some a, _, [], rfl, flat0, ?_⟩
          simp [Builtin.firstCells, loadCells, loadCellsFrom]
        · obtain ⟨cc, ty, g0, g1, g2, g3, g4, g5⟩ := ho
          have hoff : off < es.length := by omega
          have hsz : l.sz = sz := by
            rw [← g1 off _ (List.getElem?_eq_getElem hoff)]
            refine hs _ ?_
            have : ((es.drop off).take len)[0]? = some es[off] := by
              rw [List.getElem?_take, if_pos h0, List.getElem?_drop, Nat.add_zero]; exact List.getElem?_eq_getElem hoff
            exact List.mem_of_getElem? this
          have ha' := ha (by omega)
          obtain ⟨us, hf, hcell⟩ := flat_of (U := Used σ μ) (μ := μ) (w := w) (b := l.b) (o := l.base + off * l.sz) (sz := sz) hs (fun j cs i pv hj hi => by
            obtain ⟨y, hy, hr⟩ := obj_cell (U := Used σ μ) ⟨cc, ty, g0, g1, g2, g3, g4, g5⟩ (drop_take_get hj) hi
            refine ⟨y, ?_, hr⟩
            rw [← hsz, show l.base + off * l.sz + j * l.sz + i = l.base + (off + j) * l.sz + i by rw [Nat.add_mul]; omega]
            exact hy)
          refine ⟨some a, l.cap - off, us, by rw [hlen], hf, ?_⟩
          rw [ha']
          simp only [Builtin.firstCells]
          rw [← hf.1]
          exact run_load_cells us hcell
  | _ => cases h

theorem lenOf_slice (P : Program) (a : Option Addr) (n c : Nat) (w : World) : (Builtin.lenOf (.slice a n c)).run P w = .ok n w := rfl

theorem growBy_le (need : Nat) : ∀ (r c : Nat), 256 ≤ c → c < 2 * need → Builtin.growBy need r c ≤ 2 * need
  | 0, c, _, h => by simp only [Builtin.growBy]; omega
  | r + 1, c, h1, h2 => by
    simp only [Builtin.growBy]
    split
    · omega
    · rename_i hc
      exact growBy_le need r _ (by omega) (by omega)
theorem cap_le {need old : Nat} (h : old < need) : Builtin.nextslicecap need old ≤ 2 * need := by
  unfold Builtin.nextslicecap
  split
  · omega
  · split
    · omega
    · exact growBy_le need 4 old (by omega) (by omega)

/-- The length and the room of append's result. -/
theorem append_grow {P : Program} {t u e : TypeId} {i : TypeInfo} {z : Value} {sa xa : Option Addr} {sl sc n xc sz : Nat} {old new : List Value} (ht : P.underlying t = some (.slice e)) (hu : ∃ e', P.underlying u = some (.slice e'))
    (hi : P.info? e = some i) (hz : i.zero = some z) (hsz : i.size = sz) (hzs : z.cells.size = sz) (hb : (sl + n) * i.bytes ≤ 140737488355328) (hb0 : i.bytes ≠ 0) (hlt : sc < sl + n)
    (ho : (Builtin.firstCells sz sl (.slice sa sl sc)).run P w.drew = .ok old.toArray w.drew) (hn : (Builtin.firstCells sz n (.slice xa n xc)).run P w.drew = .ok new.toArray w.drew) (hol : old.length = sl * sz) (hnl : new.length = n * sz) (ty : TypeId) (args : Array TypeId) (h0 : args[0]? = some t) (h1 : args[1]? = some u) :
    ∃ cap rest, sl + n ≤ cap ∧ (old ++ new ++ rest).length = cap * sz ∧ (Builtin.append_ args ty #[.slice sa sl sc, .slice xa n xc]).run P w = .ok (.slice (some ⟨w.heap.size, 0, none⟩) (sl + n) cap) (w.drew.alloc (.cells (old ++ new ++ rest).toArray e)) := by
  obtain ⟨e', hu⟩ := hu
  have hcap : ∀ q, sl + n ≤ (Question.appendCap (sl + n) sc e).cut q := by intro q; simp only [Question.cut]; omega
  have hle := cap_le hlt
  have hbig : ¬ (Builtin.nextslicecap (sl + n) sc * i.bytes > 2 ^ 48) := by
    have h1 : Builtin.nextslicecap (sl + n) sc * i.bytes ≤ 2 * (sl + n) * i.bytes := Nat.mul_le_mul_right _ hle
    rw [Nat.mul_assoc] at h1
    omega
  have hzlen : ∀ m, (Builtin.zeroCells z.cells m).size = m * sz := by intro m; unfold Builtin.zeroCells; simp [hzs]
  refine ⟨(Question.appendCap (sl + n) sc e).cut (w.tape w.drawn (.appendCap (sl + n) sc e)), (Builtin.zeroCells z.cells ((Question.appendCap (sl + n) sc e).cut (w.tape w.drawn (.appendCap (sl + n) sc e)) - (sl + n))).toList, hcap _, ?_, ?_⟩
  · have := hcap (w.tape w.drawn (.appendCap (sl + n) sc e))
    have hr : ∀ m, (Builtin.zeroCells z.cells m).toList.length = m * sz := by intro m; rw [Array.length_toList, hzlen]
    rw [List.length_append, List.length_append, hr, hol, hnl, ← Nat.add_mul, ← Nat.add_mul]
    congr 1
    omega
  · unfold Builtin.append_
    simp only [h0, h1, Sem.run_bind, run_und ht, run_und hu, run_sizeOf' hi, Result.andThen_ok, Sem.run_pure]
    have hty : (typeInfo e).run P w = .ok i w := by unfold typeInfo; simp [hi]
    have hzr : (zeroValue e).run P w.drew = .ok z w.drew := run_zero hi hz _
    have hty' : (typeInfo e).run P w.drew = .ok i w.drew := by unfold typeInfo; simp [hi]
    simp only [List.getElem?_toArray, List.getElem?_cons_zero, List.getElem?_cons_succ, Sem.run_bind, run_und ht, Result.andThen_ok, run_sizeOf' hi, Sem.run_pure]
    have hq : ¬ (sl + n ≤ sc) := by omega
    have hforced : (Question.appendCap (sl + n) sc e).forced = false := rfl
    simp only [run_und hu, Result.andThen_ok, Bool.false_eq_true, if_false, Sem.run_bind, lenOf_slice, Sem.run_ite, if_neg hq, hty, hb0, or_false, and_false, if_neg hbig, run_choose, hforced, run_askRoom, Bool.not_false, if_true, hsz]
    have ho' : (Builtin.firstCells sz sl (.slice sa sl sc)).run P { w with drawn := w.drawn + 1 } = .ok old.toArray { w with drawn := w.drawn + 1 } := ho
    have hn' : (Builtin.firstCells sz n (.slice xa n xc)).run P { w with drawn := w.drawn + 1 } = .ok new.toArray { w with drawn := w.drawn + 1 } := hn
    have hzr' : (zeroValue e).run P { w with drawn := w.drawn + 1 } = .ok z { w with drawn := w.drawn + 1 } := hzr
    have hty'' : (typeInfo e).run P { w with drawn := w.drawn + 1 } = .ok i { w with drawn := w.drawn + 1 } := hty'
    simp only [hty'', Result.andThen_ok, ho', hn', hzr']
    show Result.ok _ _ = _
    congr 1
    show World.alloc _ _ = _
    congr 2
    apply Array.ext'
    simp

/-- Where there is room, the new elements are stored behind the old ones. -/
theorem append_fits {P : Program} {t u e : TypeId} {i : TypeInfo} {xa : Option Addr} {sl sc n xc sz b o : Nat} {new : List Value} {c : Array Value} {ce : TypeId} (ht : P.underlying t = some (.slice e)) (hu : ∃ e', P.underlying u = some (.slice e'))
    (hi : P.info? e = some i) (hsz : i.size = sz) (hle : sl + n ≤ sc) (hn : (Builtin.firstCells sz n (.slice xa n xc)).run P w = .ok new.toArray w) (hnl : new.length = n * sz)
    (hc : w.heap[b]? = some (.cells c ce (0, 0))) (hfit : o + sc * sz ≤ c.size) (hone : ∀ v ∈ new, v.oneCell' = true) (ty : TypeId) (args : Array TypeId) (h0 : args[0]? = some t) (h1 : args[1]? = some u) :
    (Builtin.append_ args ty #[.slice (some ⟨b, o, none⟩) sl sc, .slice xa n xc]).run P w = .ok (.slice (some ⟨b, o, none⟩) (sl + n) sc) (w.setRow b (c.toList.take (o + sl * sz) ++ new ++ c.toList.drop (o + sl * sz + new.length)).toArray) := by
  obtain ⟨e', hu⟩ := hu
  have hmul : (sl + n) * sz ≤ sc * sz := Nat.mul_le_mul_right _ hle
  rw [Nat.add_mul] at hmul
  have hrun := run_storeCells_at (P := P) b (o + sl * sz) ce new 0 c w hc (by omega) hone
  unfold Builtin.append_
  simp only [h0, h1, List.getElem?_toArray, List.getElem?_cons_zero, List.getElem?_cons_succ, Sem.run_bind, run_und ht, run_und hu, run_sizeOf' hi, Result.andThen_ok, Sem.run_pure, Bool.false_eq_true, if_false, lenOf_slice, Sem.run_ite, if_pos hle, hsz,
    Bool.not_false, if_true, hn, add_none, hrun, Nat.add_zero]

theorem append_nothing {P : Program} {t u e : TypeId} {i : TypeInfo} {sa xa : Option Addr} {sl sc xc : Nat} (ht : P.underlying t = some (.slice e)) (hu : ∃ e', P.underlying u = some (.slice e'))
    (hi : P.info? e = some i) (hle : sl ≤ sc) (ty : TypeId) (args : Array TypeId) (h0 : args[0]? = some t) (h1 : args[1]? = some u) (hn : (Builtin.firstCells i.size 0 (.slice xa 0 xc)).run P w = .ok #[] w) :
    (Builtin.append_ args ty #[.slice sa sl sc, .slice xa 0 xc]).run P w = .ok (.slice sa sl sc) w := by
  obtain ⟨e', hu⟩ := hu
  unfold Builtin.append_
  simp only [h0, h1, List.getElem?_toArray, List.getElem?_cons_zero, List.getElem?_cons_succ, Sem.run_bind, run_und ht, run_und hu, run_sizeOf' hi, Result.andThen_ok, Sem.run_pure, Bool.false_eq_true, if_false, lenOf_slice, Sem.run_ite, Nat.add_zero, if_pos hle,
    Bool.not_false, if_true, hn]
  cases sa <;> rfl

/-- A row that goes on under a new key, perhaps without its first elements. -/
theorem sim_move {k off : Nat} {es : List (List PV)} {l : Loc} (S : Sim E σ μ w) (hs : σ k = some (.row es)) (hm : μ k = some l) (hk : μ key = none) (hoff : off ≤ es.length) (hoff' : off < es.length ∨ es = []) :
    Sim E (upd (upd σ k none) key (some (.row (es.drop off)))) (upd μ key (some ⟨l.b, l.base + off * l.sz, l.cap - off, l.sz⟩)) w ∧
    Moves σ μ w (upd (upd σ k none) key (some (.row (es.drop off)))) (upd μ key (some ⟨l.b, l.base + off * l.sz, l.cap - off, l.sz⟩)) w := by
  have hne : k ≠ key := by intro e; subst e; rw [hm] at hk; cases hk
  have back : ∀ q o, upd (upd σ k none) key (some (.row (es.drop off))) q = some o → (q = key ∧ o = .row (es.drop off)) ∨ (q ≠ key ∧ q ≠ k ∧ σ q = some o) := by
    intro q o h
    by_cases e : q = key
    · subst e; rw [upd_same] at h; cases h; exact .inl ⟨rfl, rfl⟩
    · rw [upd_other _ _ e] at h
      by_cases e2 : q = k
      · subst e2; rw [upd_same] at h; cases h
      · rw [upd_other _ _ e2] at h; exact .inr ⟨e, e2, h⟩
  have m : Moves σ μ w (upd (upd σ k none) key (some (.row (es.drop off)))) (upd μ key (some ⟨l.b, l.base + off * l.sz, l.cap - off, l.sz⟩)) w := by
    refine ⟨fun q l' h => ?_, Nat.le_refl _, fun b hb hn => rfl, fun b _ h => ?_, rfl, rfl, rfl⟩
    · rw [upd_other]; exact h
      intro e; subst e; rw [hk] at h; cases h
    · obtain ⟨q, o, l', h1, h2, rfl⟩ := h
      rcases back q o h1 with ⟨rfl, rfl⟩ | ⟨e1, e2, h3⟩
      · rw [upd_same] at h2; cases h2; exact ⟨k, _, l, hs, hm, rfl⟩
      · rw [upd_other _ _ e1] at h2; exact ⟨q, o, l', h3, h2, rfl⟩
  refine ⟨⟨?_, ?_, fun g cs hg => (S.glob g cs hg).moves m, fun k c h => by obtain ⟨l, h1, h2⟩ := S.caps k c h; exact ⟨l, m.mu k l h1, h2⟩⟩, m⟩
  · intro q q' o o' l1 l2 h1 h2 hm1 hm2 e
    rcases back q o h1 with ⟨rfl, rfl⟩ | ⟨e1, e2, h3⟩
    · rcases back q' o' h2 with ⟨rfl, rfl⟩ | ⟨f1, f2, h4⟩
      · rfl
      · rw [upd_same] at hm1; cases hm1
        rw [upd_other _ _ f1] at hm2
        exact (f2 (S.inj k q' _ o' l l2 hs h4 hm hm2 e).symm).elim
    · rw [upd_other _ _ e1] at hm1
      rcases back q' o' h2 with ⟨rfl, rfl⟩ | ⟨f1, f2, h4⟩
      · rw [upd_same] at hm2; cases hm2
        exact (e2 (S.inj q k o _ l1 l h3 hs hm1 hm e)).elim
      · rw [upd_other _ _ f1] at hm2
        exact S.inj q q' o o' l1 l2 h3 h4 hm1 hm2 e
  · intro q o h1
    rcases back q o h1 with ⟨rfl, rfl⟩ | ⟨e1, e2, h3⟩
    · refine ⟨_, upd_same _ _ _, ?_⟩
      obtain ⟨l', hl', ho⟩ := S.obj k _ hs
      rw [hm] at hl'; cases hl'
      obtain ⟨c, t, g0, g1, g2, g3, g4, g5⟩ := ho.moves m rfl
      refine ⟨c, t, g0, fun j cs hj => ?_, by simp only [List.length_drop]; omega, ?_, fun j cs i pv hj hi => ?_, fun hnil => ?_⟩
      · rw [List.getElem?_drop] at hj; exact g1 _ cs hj
      · simp only
        by_cases hh : off ≤ l.cap
        · have : off * l.sz + (l.cap - off) * l.sz = l.cap * l.sz := by rw [← Nat.add_mul]; congr 1; omega
          omega
        · have : l.cap - off = 0 := by omega
          omega
      · rw [List.getElem?_drop] at hj
        obtain ⟨v, hv, hr⟩ := g4 _ cs i pv hj hi
        refine ⟨v, ?_, hr⟩
        simp only
        rw [show l.base + off * l.sz + j * l.sz + i = l.base + (off + j) * l.sz + i by rw [Nat.add_mul]; omega]
        exact hv
      · rcases hoff' with h5 | h5
        · exfalso
          have := congrArg List.length hnil
          rw [List.length_drop] at this
          simp at this
          omega
        · have := g5 h5
          simp only
          omega
    · obtain ⟨l', hl', ho⟩ := S.obj q o h3
      exact ⟨l', by rw [upd_other _ _ e1]; exact hl', ho.moves m rfl⟩

theorem flat_rep {U U' : Nat → Prop} {μ μ' : Mu} {w w' : World} {sz : Nat} {xs : List (List PV)} {vs : List Value} (h : Flat U μ w sz xs vs) (f : ∀ p v, Rep U μ w p v → Rep U' μ' w' p v) : Flat U' μ' w' sz xs vs :=
  ⟨h.1, fun j cs i pv hj hi => by obtain ⟨v, hv, hr⟩ := h.2 j cs i pv hj hi; exact ⟨v, hv, f _ _ hr⟩⟩

/-- Elements that are stored over those of a row, or behind them. -/
theorem put_row (S : Sim E σ μ w) {k : Nat} {es : List (List PV)} {l : Loc} (hs : σ k = some (.row es)) (hm : μ k = some l) {p : Nat} {xs : List (List PV)} {new : List Value} (hp : p ≤ es.length) (hcap : p + xs.length ≤ l.cap) (hsz : ∀ c ∈ xs, c.length = l.sz)
    (hf : Flat (Used σ μ) μ w l.sz xs new) (hone : ∀ y ∈ new, y.oneCell' = true) {c : Array Value} {ty : TypeId} (hc : w.heap[l.b]? = some (.cells c ty (0, 0))) :
    (storeCells ⟨l.b, l.base + p * l.sz, none⟩ new).run E.P w = .ok () (w.setRow l.b (c.toList.take (l.base + p * l.sz) ++ new ++ c.toList.drop (l.base + p * l.sz + new.length)).toArray) ∧
    Sim E (upd σ k (some (.row (es.take p ++ xs ++ es.drop (p + xs.length))))) μ (w.setRow l.b (c.toList.take (l.base + p * l.sz) ++ new ++ c.toList.drop (l.base + p * l.sz + new.length)).toArray) ∧
    Moves σ μ w (upd σ k (some (.row (es.take p ++ xs ++ es.drop (p + xs.length))))) μ (w.setRow l.b (c.toList.take (l.base + p * l.sz) ++ new ++ c.toList.drop (l.base + p * l.sz + new.length)).toArray) := by
  obtain ⟨l', hl', ho⟩ := S.obj k _ hs
  rw [hm] at hl'; cases hl'
  obtain ⟨cc, ty0, g0, g1, g2, g3, g4, g5⟩ := ho
  rw [hc] at g0
  cases g0
  have hnl : new.length = xs.length * l.sz := hf.1
  have hmul : p * l.sz + xs.length * l.sz ≤ l.cap * l.sz := by rw [← Nat.add_mul]; exact Nat.mul_le_mul_right _ hcap
  have hle : l.base + p * l.sz + new.length ≤ c.size := by omega
  obtain ⟨c', hc'⟩ : ∃ c' : Array Value, c' = (c.toList.take (l.base + p * l.sz) ++ new ++ c.toList.drop (l.base + p * l.sz + new.length)).toArray := ⟨_, rfl⟩
  have hrun := run_storeCells_at (P := E.P) l.b (l.base + p * l.sz) ty new 0 c w hc (by omega) hone
  rw [Nat.add_zero, ← hc'] at hrun
  rw [← hc']
  refine ⟨hrun, ?_⟩
  have hcsize : c'.size = c.size := by
    rw [hc']
    simp only [List.size_toArray, List.length_append, List.length_take, List.length_drop, Array.length_toList]
    omega
  have hget : ∀ m, c'[m]? = if m < l.base + p * l.sz then c[m]? else if m < l.base + p * l.sz + new.length then new[m - (l.base + p * l.sz)]? else c[m]? := by
    intro m
    rw [hc', List.getElem?_toArray, List.append_assoc, List.getElem?_append]
    have hl1 : (c.toList.take (l.base + p * l.sz)).length = l.base + p * l.sz := by rw [List.length_take, Array.length_toList]; omega
    rw [hl1]
    split
    · rename_i hn; rw [List.getElem?_take, if_pos hn]; simp
    · rename_i hn
      rw [List.getElem?_append]
      split
      · rename_i h2; rw [if_pos (by omega)]
      · rename_i h2
        rw [if_neg (by omega), List.getElem?_drop]
        simp only [Array.getElem?_toList]
        congr 1
        omega
  have htl : (es.take p).length = p := by rw [List.length_take]; omega
  have hlen : (es.take p ++ xs ++ es.drop (p + xs.length)).length = p + xs.length + (es.length - (p + xs.length)) := by
    simp only [List.length_append, htl, List.length_drop]
  have hmem : ∀ cs ∈ es.take p ++ xs ++ es.drop (p + xs.length), cs.length = l.sz := by
    intro cs hcs
    have old : ∀ cs ∈ es, cs.length = l.sz := fun cs h => by obtain ⟨j, hj⟩ := List.getElem?_of_mem h; exact g1 j cs hj
    rcases List.mem_append.1 hcs with h | h
    · rcases List.mem_append.1 h with h | h
      · exact old cs (List.mem_of_mem_take h)
      · exact hsz cs h
    · exact old cs (List.mem_of_mem_drop h)
  have hO : ∀ U, (∀ q v, Rep (Used σ μ) μ w q v → Rep U μ (w.setRow l.b c') q v) → ObjRep U μ (w.setRow l.b c') l (.row (es.take p ++ xs ++ es.drop (p + xs.length))) := by
    intro U hU
    refine ⟨c', ty, setRow_heap w l.b c _ ty (0, 0) hc, fun j cs hj => hmem cs (List.mem_of_getElem? hj), by omega, by omega, fun j cs m pv hj hm' => ?_, fun hnil => ?_⟩
    · have hcs := hmem cs (List.mem_of_getElem? hj)
      have hmlt : m < l.sz := by rw [← hcs]; exact (List.getElem?_eq_some_iff.1 hm').1
      rw [hget, hnl]
      rw [List.append_assoc, List.getElem?_append, htl] at hj
      split at hj
      · rename_i hjl
        have : (j + 1) * l.sz ≤ p * l.sz := Nat.mul_le_mul_right _ (by omega)
        rw [Nat.add_mul, Nat.one_mul] at this
        rw [if_pos (by omega)]
        rw [List.getElem?_take, if_pos hjl] at hj
        obtain ⟨y, hy, hr⟩ := g4 j cs m pv hj hm'
        exact ⟨y, hy, hU _ _ hr⟩
      · rename_i hjl
        have h6 : p * l.sz ≤ j * l.sz := Nat.mul_le_mul_right _ (by omega)
        have h7 : (j - p) * l.sz = j * l.sz - p * l.sz := Nat.sub_mul ..
        rw [if_neg (by omega)]
        rw [List.getElem?_append] at hj
        split at hj
        · rename_i hjx
          have h8 : (j - p + 1) * l.sz ≤ xs.length * l.sz := Nat.mul_le_mul_right _ (by omega)
          rw [Nat.add_mul, Nat.one_mul] at h8
          obtain ⟨y, hy, hr⟩ := hf.2 _ cs m pv hj hm'
          rw [if_pos (by omega), show l.base + j * l.sz + m - (l.base + p * l.sz) = (j - p) * l.sz + m by omega]
          exact ⟨y, hy, hU _ _ hr⟩
        · rename_i hjx
          have h8 : (p + xs.length) * l.sz ≤ j * l.sz := Nat.mul_le_mul_right _ (by omega)
          rw [Nat.add_mul] at h8
          rw [List.getElem?_drop, show p + xs.length + (j - p - xs.length) = j by omega] at hj
          rw [if_neg (by omega)]
          obtain ⟨y, hy, hr⟩ := g4 j cs m pv hj hm'
          exact ⟨y, hy, hU _ _ hr⟩
    · have : (es.take p ++ xs ++ es.drop (p + xs.length)).length = 0 := by rw [hnil]; rfl
      exact g5 (List.length_eq_zero_iff.1 (by omega))
  exact sim_set (E := E) (w' := w.setRow l.b c') S hs hm (by simp) (fun b hb => setRow_other _ _ _ _ hb) rfl rfl rfl hO
theorem ones_flat {sz : Nat} {U : Nat → Prop} {xs : List (List PV)} {new : List Value} (hf : Flat U μ w sz xs new) (hall : ∀ c ∈ xs, c.length = sz ∧ ones c = true) : ∀ y ∈ new, y.oneCell' = true := by
  intro y hy
  obtain ⟨m, hm'⟩ := List.getElem?_of_mem hy
  have hlt : m < xs.length * sz := by rw [← hf.1]; exact (List.getElem?_eq_some_iff.1 hm').1
  obtain ⟨s1, s2, s3⟩ := split_index hlt
  have hx := get_some (d := []) s1
  have hxm := List.mem_of_getElem? hx
  have hlt2 : m % sz < (xs[m / sz]?.getD []).length := by rw [(hall _ hxm).1]; exact s2
  obtain ⟨y', hy', hr⟩ := hf.2 _ _ _ _ hx (List.getElem?_eq_getElem hlt2)
  rw [← s3, hm'] at hy'
  cases hy'
  exact hr.one_of (List.all_eq_true.1 (hall _ hxm).2 _ (List.getElem_mem _))
theorem upd_id {σ : Store} {k : Nat} {o : AObj} (h : σ k = some o) : upd σ k (some o) = σ := by rw [← h]; exact upd_self σ k

theorem append_sim (S : Sim E σ μ w) (hk : μ key = none) {t u : TypeId} {p q : PV} {v x : Value} {c : Prop} {eff : Eff} (hp : Rep (Used σ μ) μ w p v) (hq : Rep (Used σ μ) μ w q x) (h : evAppend E key σ t p q = some (c, eff)) (hc : c)
    (hu : telem E.P u ≠ none) (ty : TypeId) (args : Array TypeId) (h0 : args[0]? = some t) (h1 : args[1]? = some u) : Does E σ μ w key eff ((valOf (Builtin.append_ args ty #[v, x])).run E.P w) := by
  have hu' : ∃ e', E.P.underlying u = some (.slice e') := by
    cases he : telem E.P u with
    | none => exact (hu he).elim
    | some e' => exact ⟨e', telem_some he⟩
  unfold evAppend at h
  split at h
  · cases h
  rename_i e he
  have ht := telem_some he
  split at h
  · cases h
  rename_i hti
  obtain ⟨i, d, hi, hd, hz⟩ := ti_some hti
  have hsz : i.size = tsz E.P e := by unfold tsz; rw [hz]; rfl
  split at h
  · cases h
  rename_i cx xs rd hel
  have m0 := moves_drew σ μ w
  have S0 := sim_drew S
  -- the new array of a row that has no elements yet
  have fresh : ∀ (a : Option Addr), cx → xs ≠ [] → roomFor E.P e xs.length → (∀ c ∈ xs, c.length = tsz E.P e ∧ ones c = true) →
      Does E σ μ w key { val := .row key 0 xs.length, wr := [(key, some (.row xs))], rd := rd } ((valOf (Builtin.append_ args ty #[.slice a 0 0, x])).run E.P w) := by
    intro a hcx hne hroom hall
    obtain ⟨hr1, hr2, hr3⟩ := hroom
    obtain ⟨xa, xc, new, rfl, hf, hfirst⟩ := elems_run S0 (hq.moves m0) hel hcx (fun y hy => (hall y hy).1)
    have hb : tbytes E.P e = i.bytes := by unfold tbytes; rw [hi]; rfl
    obtain ⟨z', hz'⟩ : ∃ z', tzero E.P e = some z' := by
      cases hzz : tzero E.P e with
      | none => rw [hzz] at hr3; cases hr3
      | some z' => exact ⟨z', rfl⟩
    obtain ⟨i', z, hi', hzi, hzl, _⟩ := tzero_some hz'
    rw [hi] at hi'; cases hi'
    have hpos : 0 < xs.length := List.length_pos_iff.2 hne
    rw [hz'] at hr3
    simp only [Option.map_some, Option.some.injEq] at hr3
    have hold : (Builtin.firstCells (tsz E.P e) 0 (.slice a 0 0)).run E.P w.drew = .ok (([] : List Value).toArray) w.drew := by
      cases a with
      | none => rfl
      | some a => simp [Builtin.firstCells, loadCells, loadCellsFrom]
    obtain ⟨cap, rest, g1, g2, g3⟩ := append_grow (w := w) (sl := 0) (sc := 0) (n := xs.length) (sz := tsz E.P e) (old := []) (new := new) ht hu' hi hzi hsz (by omega) (by rw [← hb, Nat.zero_add]; exact hr1) (by rw [← hb]; exact hr2) (by omega) hold hfirst (by simp) hf.1 ty args h0 h1
    simp only [Nat.zero_add, List.nil_append] at g1 g2 g3
    obtain ⟨s1, s2⟩ := new_does (E := E) (es := xs) (sz := tsz E.P e) (cap := cap) (t := e) (arr := (new ++ rest).toArray) S0 hk (fun j cs hj => (hall cs (List.mem_of_getElem? hj)).1) g1 (fun h => (hne h).elim) (by simp only [List.size_toArray]; omega) (fun j cs m pv hj hm => by
      obtain ⟨y, hy, hr⟩ := hf.2 j cs m pv hj hm
      refine ⟨y, ?_, hr⟩
      rw [List.getElem?_toArray, List.getElem?_append_left (List.getElem?_eq_some_iff.1 hy).1]
      exact hy)
    refine ⟨_, _, _, .inl (valOf_run g3), ?_, s1, m0.trans s2, new_other μ key _⟩
    have := Rep.row (U := Used (app σ [(key, some (.row xs))]) (upd μ key (some ⟨w.drew.heap.size, 0, cap, tsz E.P e⟩))) (μ := upd μ key (some ⟨w.drew.heap.size, 0, cap, tsz E.P e⟩)) (w := w.drew.alloc (.cells (new ++ rest).toArray e)) key 0 xs.length ⟨w.drew.heap.size, 0, cap, tsz E.P e⟩ ⟨w.heap.size, 0, none⟩ (upd_same _ _ _) (fun _ => by simp)
    simpa using this
  have none_ : ∀ (a : Option Addr), cx → xs = [] → (Builtin.append_ args ty #[.slice a 0 0, x]).run E.P w = .ok (.slice a 0 0) w := by
    intro a hcx hx0
    subst hx0
    obtain ⟨xa, xc, new, rfl, hf, hfirst⟩ := elems_run S hq hel hcx (sz := tsz E.P e) (fun y hy => by simp at hy)
    have hnil : new = [] := List.eq_nil_of_length_eq_zero (by rw [hf.1]; simp)
    subst hnil
    exact append_nothing (w := w) (sa := a) (sl := 0) (sc := 0) (xc := xc) (xa := xa) ht hu' hi (Nat.le_refl _) ty args h0 h1 (by rw [hsz]; exact hfirst)
  split at h
  · split at h
    · rename_i hx0
      cases h
      cases hp
      exact does_val S .nil (valOf_run (none_ none hc hx0))
    cases h
    cases hp
    exact fresh none hc.1 hc.2.1 hc.2.2.1 hc.2.2.2
  · split at h
    · rename_i hx0
      cases h
      cases hp
      exact does_val S (.empty _) (valOf_run (none_ _ hc hx0))
    cases h
    cases hp
    exact fresh _ hc.1 hc.2.1 hc.2.2.1 hc.2.2.2
  · rename_i k off len
    split at h
    · rename_i es hs
      split at h
      · cases h
        obtain ⟨hcx, hfit, hall, hes⟩ := hc
        have hp' := hp
        cases hp' with
        | row _ _ _ l a hm ha =>
        obtain ⟨l', hl', ho⟩ := S.obj k _ hs
        rw [hm] at hl'; cases hl'
        obtain ⟨cc, ty0, g0, g1, g2, g3, g4, g5⟩ := ho
        obtain ⟨xa, xc, new, rfl, hf, hfirst⟩ := elems_run S hq hel hcx (fun y hy => (hall y hy).1)
        by_cases hx0 : xs = []
        · subst hx0
          have hnil : new = [] := List.eq_nil_of_length_eq_zero (by rw [hf.1]; simp)
          subst hnil
          have hrun := append_nothing (w := w) (sa := some a) (sl := len) (sc := l.cap - off) (xc := xc) (xa := xa) ht hu' hi (by simp only [List.length_nil] at hfit; omega) ty args h0 h1 (by rw [hsz]; exact hfirst)
          have hid : upd σ k (some (.row (es.take (off + len) ++ [] ++ es.drop (off + len + ([] : List (List PV)).length)))) = σ := by
            simp only [List.length_nil, Nat.add_zero, List.append_nil, List.take_append_drop]
            exact upd_id hs
          refine ⟨_, w, μ, .inl (valOf_run hrun), ?_, ?_, ?_, fun _ _ => rfl⟩
          · show Rep (Used (upd σ k _) μ) μ w _ _
            rw [hid]
            exact hp
          · show Sim E (upd σ k _) μ w
            rw [hid]
            exact S
          · show Moves σ μ w (upd σ k _) μ w
            rw [hid]
            exact .refl _ _ _
        · have hxpos : 0 < xs.length := List.length_pos_iff.2 hx0
          have hpos : 0 < es.length := by omega
          have hlsz : l.sz = tsz E.P e := by
            rw [← g1 0 _ (List.getElem?_eq_getElem hpos)]
            exact hes _ (List.getElem_mem hpos)
          have ha' := ha (by omega)
          subst ha'
          have hone := ones_flat hf hall
          obtain ⟨p1, p2, p3⟩ := put_row S hs hm (p := off + len) (xs := xs) (new := new) (by omega) (by omega) (fun c hc => by rw [hlsz]; exact (hall c hc).1) (by rw [hlsz]; exact hf) hone g0
          have hmulc : off * l.sz + (l.cap - off) * l.sz = l.cap * l.sz := by rw [← Nat.add_mul]; congr 1; omega
          have hrun := append_fits (w := w) (b := l.b) (o := l.base + off * l.sz) (sl := len) (sc := l.cap - off) (n := xs.length) (sz := tsz E.P e) (new := new) ht hu' hi hsz (by omega) hfirst hf.1 g0 (by rw [← hlsz]; omega) hone ty args h0 h1
          rw [← hlsz, show l.base + off * l.sz + len * l.sz = l.base + (off + len) * l.sz by rw [Nat.add_mul]; omega] at hrun
          refine ⟨_, _, μ, .inl (valOf_run hrun), ?_, p2, p3, fun _ _ => rfl⟩
          exact .row k off (len + xs.length) l _ hm (fun _ => rfl)
      rename_i hnrd
      cases h
      obtain ⟨hcx, hoff, hrd, hlen0, ⟨hr1, hr2, hr3⟩, hall, hes⟩ := hc
      have hoff' : off < es.length ∨ es = [] := by rcases hlen0 with hh | hh
                                                   · exact .inl (by omega)
                                                   · exact .inr hh
      have hp' := hp
      cases hp' with
      | row _ _ _ l a hm ha =>
      obtain ⟨l', hl', ho⟩ := S.obj k _ hs
      rw [hm] at hl'; cases hl'
      have hne : k ≠ key := by intro ee; subst ee; rw [hm] at hk; cases hk
      have hb : tbytes E.P e = i.bytes := by unfold tbytes; rw [hi]; rfl
      obtain ⟨z', hz'⟩ : ∃ z', tzero E.P e = some z' := by
        cases hzz : tzero E.P e with
        | none => rw [hzz] at hr3; cases hr3
        | some z' => exact ⟨z', rfl⟩
      obtain ⟨i', z, hi', hzi, hzl, _⟩ := tzero_some hz'
      rw [hi] at hi'; cases hi'
      rw [hz'] at hr3
      simp only [Option.map_some, Option.some.injEq] at hr3
      have hdrop : (es.drop off).take len = es.drop off := List.take_of_length_le (by rw [List.length_drop]; omega)
      have hdl : (es.drop off).length = len := by rw [List.length_drop]; omega
      by_cases hx0 : xs = []
      · -- nothing is appended
        subst hx0
        obtain ⟨xa, xc, new, rfl, hf, hfirst⟩ := elems_run S hq hel hcx (sz := tsz E.P e) (fun y hy => by simp at hy)
        have hnil : new = [] := List.eq_nil_of_length_eq_zero (by rw [hf.1]; simp)
        subst hnil
        obtain ⟨cc, ty0, g0, g1, g2, g3, g4, g5⟩ := ho
        have hrun := append_nothing (w := w) (sa := some a) (sl := len) (sc := l.cap - off) (xc := xc) (xa := xa) ht hu' hi (by omega) ty args h0 h1 (by rw [hsz]; exact hfirst)
        obtain ⟨s1, s2⟩ := sim_move (key := key) (off := off) S hs hm hk (by omega) hoff'
        refine ⟨_, _, _, .inl (valOf_run hrun), ?_, by simpa [app] using s1, by simpa [app] using s2, new_other μ key _⟩
        have := Rep.row (U := Used (app σ [(k, none), (key, some (.row (es.drop off ++ [])))]) (upd μ key (some ⟨l.b, l.base + off * l.sz, l.cap - off, l.sz⟩))) (μ := upd μ key (some ⟨l.b, l.base + off * l.sz, l.cap - off, l.sz⟩)) (w := w) key 0 len _ a (upd_same _ _ _) (fun hlt => by
          simp only at hlt ⊢
          rw [ha (by omega)]; simp)
        simpa using this
      · have hxpos : 0 < xs.length := List.length_pos_iff.2 hx0
        by_cases hfit : len + xs.length ≤ l.cap - off
        · -- there is room
          obtain ⟨xa, xc, new, rfl, hf, hfirst⟩ := elems_run S hq hel hcx (fun y hy => (hall y hy).1)
          obtain ⟨cc, ty0, g0, g1, g2, g3, g4, g5⟩ := ho
          have hlsz : es ≠ [] → l.sz = tsz E.P e := by
            intro hne0
            have hpos : 0 < es.length := List.length_pos_iff.2 hne0
            rw [← g1 0 _ (List.getElem?_eq_getElem hpos)]
            exact hes _ (List.getElem_mem hpos)
          have hne0 : es ≠ [] := fun h => by have := g5 h; omega
          have hz' := hlsz hne0
          have hcapoff : off < l.cap := by omega
          have ha' := ha hcapoff
          subst ha'
          have hone : ∀ y ∈ new, y.oneCell' = true := by
            intro y hy
            obtain ⟨m, hm'⟩ := List.getElem?_of_mem hy
            have hlt : m < xs.length * tsz E.P e := by rw [← hf.1]; exact (List.getElem?_eq_some_iff.1 hm').1
            obtain ⟨s1, s2, s3⟩ := split_index hlt
            have hx := get_some (d := []) s1
            have hxm := List.mem_of_getElem? hx
            have hlt2 : m % tsz E.P e < (xs[m / tsz E.P e]?.getD []).length := by rw [(hall _ hxm).1]; exact s2
            obtain ⟨y', hy', hr⟩ := hf.2 _ _ _ _ hx (List.getElem?_eq_getElem hlt2)
            rw [← s3, hm'] at hy'
            cases hy'
            exact hr.one_of (List.all_eq_true.1 (hall _ hxm).2 _ (List.getElem_mem _))
          have hmulc : off * l.sz + (l.cap - off) * l.sz = l.cap * l.sz := by rw [← Nat.add_mul]; congr 1; omega
          have hmule : off * l.sz + len * l.sz = es.length * l.sz := by rw [← Nat.add_mul, hoff]
          have hmulx : es.length * l.sz + xs.length * l.sz ≤ l.cap * l.sz := by rw [← Nat.add_mul]; exact Nat.mul_le_mul_right _ (by omega)
          have hnl : new.length = xs.length * l.sz := by rw [hf.1, hz']
          have hcc : l.base + off * l.sz + (l.cap - off) * tsz E.P e ≤ cc.size := by
            rw [← hz', Nat.add_assoc, hmulc]; exact g3
          have hrun := append_fits (w := w) (b := l.b) (o := l.base + off * l.sz) (sl := len) (sc := l.cap - off) (n := xs.length) (sz := tsz E.P e) (new := new) ht hu' hi hsz hfit hfirst hf.1 g0 hcc hone ty args h0 h1
          rw [← hz'] at hrun
          have hle1 : l.base + es.length * l.sz ≤ cc.size := by
            have h8 : l.base + l.cap * l.sz ≤ cc.size := g3
            omega
          obtain ⟨c', hc'⟩ : ∃ c' : Array Value, c' = (cc.toList.take (l.base + off * l.sz + len * l.sz) ++ new ++ cc.toList.drop (l.base + off * l.sz + len * l.sz + new.length)).toArray := ⟨_, rfl⟩
          rw [← hc'] at hrun
          have hcsize : c'.size = cc.size := by
            rw [hc']
            simp only [List.size_toArray, List.length_append, List.length_take, List.length_drop, Array.length_toList]
            omega
          have hget : ∀ m, c'[m]? = if m < l.base + es.length * l.sz then cc[m]? else if m < l.base + es.length * l.sz + new.length then new[m - (l.base + es.length * l.sz)]? else cc[m]? := by
            intro m
            rw [hc', List.getElem?_toArray, show l.base + off * l.sz + len * l.sz = l.base + es.length * l.sz by omega, List.append_assoc, List.getElem?_append]
            have hl1 : (cc.toList.take (l.base + es.length * l.sz)).length = l.base + es.length * l.sz := by rw [List.length_take, Array.length_toList]; exact Nat.min_eq_left hle1
            rw [hl1]
            split
            · rename_i hn; rw [List.getElem?_take, if_pos hn]; simp
            · rename_i hn
              rw [List.getElem?_append]
              split
              · rename_i h2; rw [if_pos (by omega)]
              · rename_i h2
                rw [if_neg (by omega), List.getElem?_drop]
                simp only [Array.getElem?_toList]
                congr 1
                omega
          have hO : ∀ U, (∀ p v, Rep (Used σ μ) μ w p v → Rep U μ (w.setRow l.b c') p v) → ObjRep U μ (w.setRow l.b c') l (.row (es ++ xs)) := by
            intro U hU
            refine ⟨c', ty0, setRow_heap w l.b cc _ ty0 (0, 0) g0, fun j cs hj => ?_, by rw [List.length_append]; omega, by omega, fun j cs m pv hj hm' => ?_, fun hnil => by simp [hne0] at hnil⟩
            · rcases List.mem_append.1 (List.mem_of_getElem? hj) with hh | hh
              · rw [hz']; exact hes cs hh
              · rw [hz']; exact (hall cs hh).1
            · have hcs : cs.length = l.sz := by
                rcases List.mem_append.1 (List.mem_of_getElem? hj) with hh | hh
                · rw [hz']; exact hes cs hh
                · rw [hz']; exact (hall cs hh).1
              have hmlt : m < l.sz := by rw [← hcs]; exact (List.getElem?_eq_some_iff.1 hm').1
              rw [hget]
              rw [List.getElem?_append] at hj
              split at hj
              · rename_i hjl
                have : (j + 1) * l.sz ≤ es.length * l.sz := Nat.mul_le_mul_right _ (by omega)
                rw [Nat.add_mul, Nat.one_mul] at this
                rw [if_pos (by omega)]
                obtain ⟨y, hy, hr⟩ := g4 j cs m pv hj hm'
                exact ⟨y, hy, hU _ _ hr⟩
              · rename_i hjl
                obtain ⟨y, hy, hr⟩ := hf.2 _ cs m pv hj hm'
                rw [← hz'] at hy
                have h5 := (List.getElem?_eq_some_iff.1 hy).1
                have h6 : es.length * l.sz ≤ j * l.sz := Nat.mul_le_mul_right _ (by omega)
                have h7 : (j - es.length) * l.sz = j * l.sz - es.length * l.sz := Nat.sub_mul ..
                rw [if_neg (by omega), if_pos (by omega), show l.base + j * l.sz + m - (l.base + es.length * l.sz) = (j - es.length) * l.sz + m by omega]
                exact ⟨y, hy, hU _ _ hr⟩
          obtain ⟨t1, t2⟩ := sim_set (E := E) (w' := w.setRow l.b c') S hs hm (by simp) (fun b hb => setRow_other _ _ _ _ hb) rfl rfl rfl hO
          have hel2 : (es ++ xs).drop off = es.drop off ++ xs := List.drop_append_of_le_length (by omega)
          obtain ⟨s1, s2⟩ := sim_move (key := key) (off := off) t1 (upd_same _ _ _) hm hk (by rw [List.length_append]; omega) (.inl (by rw [List.length_append]; omega))
          rw [upd_upd, hel2] at s1 s2
          refine ⟨_, _, _, .inl (valOf_run hrun), ?_, s1, t2.trans s2, new_other μ key _⟩
          have := Rep.row (U := Used (app σ [(k, none), (key, some (.row (es.drop off ++ xs)))]) (upd μ key (some ⟨l.b, l.base + off * l.sz, l.cap - off, l.sz⟩))) (μ := upd μ key (some ⟨l.b, l.base + off * l.sz, l.cap - off, l.sz⟩)) (w := w.setRow l.b c') key 0 (len + xs.length) ⟨l.b, l.base + off * l.sz, l.cap - off, l.sz⟩ ⟨l.b, l.base + off * l.sz, none⟩ (upd_same _ _ _) (fun _ => by simp)
          simpa using this
        · -- a new array
          obtain ⟨xa, xc, new, rfl, hf, hfirst⟩ := elems_run S0 (hq.moves m0) hel hcx (fun y hy => (hall y hy).1)
          obtain ⟨oa, oc, old, hov, hof, hofirst⟩ := elems_run S0 (hp.moves m0) (c := off + len ≤ es.length) (xs := es.drop off) (rd := [k]) (by simp [elems, hs, hdrop]) (by omega) (fun y hy => hes y (List.mem_of_mem_drop hy))
          rw [hdl] at hov hofirst
          injection hov with e1 e2 e3
          subst e1; subst e3
          obtain ⟨cap, rest, g1, g2, g3⟩ := append_grow (w := w) (sl := len) (sc := l.cap - off) (n := xs.length) (sz := tsz E.P e) (old := old) (new := new) ht hu' hi hzi hsz (by omega) (by rw [← hb]; exact hr1) (by rw [← hb]; exact hr2) (by omega) hofirst hfirst (by rw [hof.1, hdl]) hf.1 ty args h0 h1
          obtain ⟨d1, d2⟩ := sim_drop k S0
          obtain ⟨s1, s2⟩ := new_does (E := E) (es := es.drop off ++ xs) (sz := tsz E.P e) (cap := cap) (t := e) (arr := (old ++ new ++ rest).toArray) d1 hk (fun j cs hj => by
              rcases List.mem_append.1 (List.mem_of_getElem? hj) with hh | hh
              · exact hes cs (List.mem_of_mem_drop hh)
              · exact (hall cs hh).1) (by rw [List.length_append, hdl]; exact g1) (fun h => by simp [hx0] at h) (by simp only [List.size_toArray]; omega) (fun j cs m pv hj hm' => by
              have hcs : cs.length = tsz E.P e := by
                rcases List.mem_append.1 (List.mem_of_getElem? hj) with hh | hh
                · exact hes cs (List.mem_of_mem_drop hh)
                · exact (hall cs hh).1
              have hmlt : m < tsz E.P e := by rw [← hcs]; exact (List.getElem?_eq_some_iff.1 hm').1
              rw [List.getElem?_append] at hj
              split at hj
              · obtain ⟨y, hy, hr⟩ := (flat_rep hof fun _ _ hr => hr.moves d2).2 j cs m pv hj hm'
                refine ⟨y, ?_, hr⟩
                rw [List.getElem?_toArray, List.append_assoc, List.getElem?_append_left (List.getElem?_eq_some_iff.1 hy).1]
                exact hy
              · rename_i hjl
                obtain ⟨y, hy, hr⟩ := (flat_rep hf fun _ _ hr => hr.moves d2).2 _ cs m pv hj hm'
                refine ⟨y, ?_, hr⟩
                have hol : old.length = len * tsz E.P e := by rw [hof.1, hdl]
                rw [List.getElem?_toArray, List.append_assoc, List.getElem?_append_right (by
                  rw [hol]; have : len * tsz E.P e ≤ j * tsz E.P e := Nat.mul_le_mul_right _ (by omega)
                  omega), List.getElem?_append_left (by
                  have h5 := (List.getElem?_eq_some_iff.1 hy).1
                  rw [hol, hdl] at *
                  have : j * tsz E.P e = len * tsz E.P e + (j - len) * tsz E.P e := by rw [← Nat.add_mul]; congr 1; omega
                  omega)]
                rw [hol, show j * tsz E.P e + m - len * tsz E.P e = (j - (es.drop off).length) * tsz E.P e + m by
                  rw [hdl, Nat.sub_mul]
                  have : len * tsz E.P e ≤ j * tsz E.P e := Nat.mul_le_mul_right _ (by omega)
                  omega]
                exact hy)
          refine ⟨_, _, _, .inl (valOf_run g3), ?_, s1, (m0.trans d2).trans s2, new_other μ key _⟩
          have := Rep.row (U := Used (app σ [(k, none), (key, some (.row (es.drop off ++ xs)))]) (upd μ key (some ⟨w.drew.heap.size, 0, cap, tsz E.P e⟩))) (μ := upd μ key (some ⟨w.drew.heap.size, 0, cap, tsz E.P e⟩)) (w := w.drew.alloc (.cells (old ++ new ++ rest).toArray e)) key 0 (len + xs.length) ⟨w.drew.heap.size, 0, cap, tsz E.P e⟩ ⟨w.heap.size, 0, none⟩ (upd_same _ _ _) (fun _ => by simp)
          simpa using this
    · cases h
  · cases h
end
end Go.Proofs.YtdajoilaakiinaaGreatDoor.Awp

/- More operations do what the abstract machine says: texts out of bytes, copy, clear, cap, new slices, maps, interfaces. -/
namespace Go.Proofs.YtdajoilaakiinaaGreatDoor.Awp
open Go

section
variable {E : Env} {σ : Store} {μ : Mu} {w : World} {key : Nat}

/-! ### texts out of bytes -/
theorem bytesL_run {P : Program} {U : Nat → Prop} : ∀ (xs : List (List PV)) (bs : List UInt8) (vs : List Value), bytesL xs = some bs → vs.length = xs.length → (∀ (j : Nat) (cs : List PV) (v : Value), xs[j]? = some cs → vs[j]? = some v → ∃ p, cs = [p] ∧ Rep U μ w p v) →
    ∀ (s : ByteArray), (forIn vs s fun c r => (match c with
      | Value.int IntKind.u8 n => pure (ForInStep.yield (r.push (UInt8.ofNat n.toNat)))
      | _ => do
        stuck "bytesToString: byte expected"
        pure (ForInStep.yield r) : Sem (ForInStep ByteArray))).run P w = .ok ⟨s.data ++ bs.toArray⟩ w
  | [], bs, vs, h, hl, _, s => by
    cases h
    obtain rfl := List.eq_nil_of_length_eq_zero hl
    simp
  | x :: xs, bs, vs, h, hl, hr, s => by
    match vs, hl with
    | v :: vs, hl =>
    obtain ⟨p, rfl, hp⟩ := hr 0 x v rfl rfl
    unfold bytesL at h
    split at h
    · rename_i e; cases e
    · rename_i n ys e
      cases e
      cases hb : bytesL xs with
      | none => rw [hb] at h; cases h
      | some cs =>
        rw [hb] at h
        cases h
        cases hp
        have ih := bytesL_run (P := P) xs cs vs hb (by simpa using hl) (fun j c v hj hv => hr (j + 1) c v (by simpa using hj) (by simpa using hv)) (s.push (UInt8.ofNat n.toNat))
        rw [List.forIn_cons]
        simp only [Sem.run_bind, Sem.run_pure, Result.andThen_ok, ih]
        congr 2
        show s.data.push _ ++ cs.toArray = s.data ++ (_ :: cs).toArray
        apply Array.ext'
        simp
    · cases h
theorem bytesL_one : ∀ (xs : List (List PV)) (bs : List UInt8), bytesL xs = some bs → ∀ x ∈ xs, x.length = 1 := by
  intro xs
  induction xs with
  | nil => intro bs _ x hx; cases hx
  | cons y ys ih =>
    intro bs h x hx
    unfold bytesL at h
    split at h
    · rename_i e; cases e
    · rename_i n zs e
      cases e
      cases hb : bytesL ys with
      | none => rw [hb] at h; cases h
      | some cs =>
        rcases List.mem_cons.1 hx with rfl | hx
        · rfl
        · exact ih cs hb x hx
    · cases h
theorem convert_row (S : Sim E σ μ w) {src dst e : TypeId} {k off len : Nat} {v : Value} {es : List (List PV)} {bs : List UInt8} (hp : Rep (Used σ μ) μ w (.row k off len) v) (he : telem E.P src = some e) (hi : tint E.P e = some .u8) (hd : tstr E.P dst = true)
    (hk : σ k = some (.row es)) (hb : bytesL ((es.drop off).take len) = some bs) (hc : off + len ≤ es.length) : (convert src dst v).run E.P w = .ok (.string ⟨bs.toArray⟩) w := by
  obtain ⟨a, cp, vs, rfl, hf, hfirst⟩ := elems_run S hp (c := off + len ≤ es.length) (xs := (es.drop off).take len) (rd := [k]) (by simp [elems, hk]) hc (sz := 1) (bytesL_one _ bs hb)
  have hlen : ((es.drop off).take len).length = len := by rw [List.length_take, List.length_drop]; omega
  have hr := bytesL_run (P := E.P) (μ := μ) (w := w) (U := Used σ μ) ((es.drop off).take len) bs vs hb (by rw [hf.1]; omega) (fun j cs v hj hv => by
    have h1 := bytesL_one _ bs hb cs (List.mem_of_getElem? hj)
    obtain ⟨p, rfl⟩ := List.length_eq_one_iff.1 h1
    obtain ⟨y, hy, hr⟩ := hf.2 j [p] 0 p hj rfl
    rw [Nat.mul_one, Nat.add_zero, hv] at hy
    cases hy
    exact ⟨p, rfl, hr⟩) ByteArray.empty
  rw [hlen] at hfirst ⊢
  have hs : (Conv.bytesToString (.slice a len cp)).run E.P w = .ok (.string ⟨bs.toArray⟩) w := by
    cases a with
    | none =>
      have h0 : vs = [] := by
        have : (Result.ok #[] w : Result (Array Value)) = .ok vs.toArray w := hfirst
        injection this with h1 h2
        have := congrArg Array.toList h1
        simpa using this.symm
      have : ((es.drop off).take len) = [] := List.eq_nil_of_length_eq_zero (by have := hf.1; rw [h0] at this; simp only [List.length_nil, Nat.mul_one] at this; exact this.symm)
      rw [this] at hb
      cases hb
      rfl
    | some a =>
      have hfirst' : (loadCells a (len * 1)).run E.P w = .ok vs.toArray w := hfirst
      rw [Nat.mul_one] at hfirst'
      unfold Conv.bytesToString
      simp only [Sem.run_bind, hfirst', Result.andThen_ok]
      rw [← Array.forIn_toList]
      refine (congrArg (fun r => Result.andThen r _) hr).trans ?_
      simp only [Result.andThen_ok, Sem.run_pure]
      congr 3
      apply Array.ext'
      simp [ByteArray.empty, ByteArray.emptyWithCapacity]
      rfl
  unfold convert
  simp only [Sem.run_bind, run_und (telem_some he), run_und (tstr_some hd), run_und (tint_some hi), Result.andThen_ok]
  exact hs
theorem convert_sim (S : Sim E σ μ w) {src dst : TypeId} {p : PV} {v : Value} {c : Prop} {eff : Eff} (hp : Rep (Used σ μ) μ w p v) (h : evConvert E σ src dst p = some (c, eff)) (hc : c) : Does E σ μ w key eff ((valOf (convert src dst v)).run E.P w) := by
  unfold evConvert at h
  split at h
  · rename_i k off len
    split at h
    · rename_i e es he hk
      split at h
      · rename_i ht
        split at h
        · rename_i bs hb
          cases h
          exact does_val S (.str _) (valOf_run (convert_row S hp he ht.1 ht.2 hk hb hc.1))
        · cases h
      · cases h
    · cases h
  · rename_i k n
    split at h
    · rename_i k' hk
      split at h
      · rename_i hs
        cases h; cases hp
        refine does_val S (.int _ _) (valOf_run ?_)
        obtain ⟨i, d, _, hd, _⟩ := ti_some hs
        unfold convert
        simp only [Sem.run_bind, run_und hd, run_und (tint_some hk), Result.andThen_ok]
        cases d <;> rfl
      · cases h
    · cases h
  · rename_i s
    split at h
    · rename_i hs
      rw [Bool.and_eq_true] at hs
      cases h; cases hp
      refine does_val S (.str _) (valOf_run ?_)
      unfold convert
      simp only [Sem.run_bind, run_und (tstr_some hs.1), run_und (tstr_some hs.2), Result.andThen_ok]
      rfl
    · cases h
  · cases h

/-! ### copy, clear, cap -/
theorem rep_short {k off len n : Nat} {U : Nat → Prop} {a : Option Addr} {cp : Nat} (h : Rep U μ w (.row k off len) (.slice a len cp)) : Rep U μ w (.row k off n) (.slice a n cp) := by
  cases h with
  | row _ _ _ l a hm ha => exact .row k off n l a hm ha
theorem copy_sim (S : Sim E σ μ w) {t u : TypeId} {p q : PV} {v x : Value} {c : Prop} {eff : Eff} (hp : Rep (Used σ μ) μ w p v) (hq : Rep (Used σ μ) μ w q x) (h : evCopy E σ t p q = some (c, eff)) (hc : c)
    (ty : TypeId) (args : Array TypeId) (h0 : args[0]? = some t) : Does E σ μ w key eff ((valOf (Builtin.copy_ args ty #[v, x])).run E.P w) := by
  unfold evCopy at h
  split at h
  · cases h
  rename_i e he
  have ht := telem_some he
  split at h
  · cases h
  rename_i hti
  obtain ⟨i, d, hi, hd, hz⟩ := ti_some hti
  have hsz : i.size = tsz E.P e := by unfold tsz; rw [hz]; rfl
  split at h
  · rename_i k' off' len'
    split at h
    · rename_i es' hs'
      split at h
      · rename_i k off len
        split at h
        · rename_i es hs
          cases h
          obtain ⟨c1, c2, c3, c4⟩ := hc
          have hq' := hq
          cases hq' with
          | row _ _ _ l2 b hm2 hb =>
          obtain ⟨a, cp, new, hx, hf, hfirst⟩ := elems_run S (rep_short (n := min len' len) hq) (c := off' + min len' len ≤ es'.length) (xs := (es'.drop off').take (min len' len)) (rd := [k']) (by simp [elems, hs']) (by omega) (fun y hy => (c3 y hy).1)
          have hxl : ((es'.drop off').take (min len' len)).length = min len' len := by rw [List.length_take, List.length_drop]; omega
          have hrun0 : (Builtin.firstCells i.size (min len' len) (.slice (some b) len' (l2.cap - off'))).run E.P w = .ok new.toArray w := by
            rw [hxl] at hfirst
            rw [hsz]
            exact hfirst
          have hone := ones_flat hf c3
          cases hp with
          | row _ _ _ l a0 hm ha =>
          obtain ⟨l', hl', ho⟩ := S.obj k _ hs
          rw [hm] at hl'; cases hl'
          obtain ⟨cc, ty0, g0, g1, g2, g3, g4, g5⟩ := ho
          generalize hxs : (es'.drop off').take (min len' len) = xs at hf hxl hone c3 ⊢
          have hmin : Nat.min len' len = min len' len := rfl
          by_cases hx0 : xs = []
          · subst hx0
            have hnil : new = [] := List.eq_nil_of_length_eq_zero (by rw [hf.1]; simp)
            subst hnil
            have hn0 : min len' len = 0 := hxl.symm
            have hid : upd σ k (some (.row (es.take off ++ [] ++ es.drop (off + min len' len)))) = σ := by
              rw [hn0]
              simp only [Nat.add_zero, List.append_nil, List.take_append_drop]
              exact upd_id hs
            refine ⟨.int .i64 (min len' len : Nat), w, μ, .inl (valOf_run ?_), .int _ _, ?_, ?_, fun _ _ => rfl⟩
            · unfold Builtin.copy_
              simp only [h0, List.getElem?_toArray, List.getElem?_cons_zero, List.getElem?_cons_succ, Sem.run_bind, run_und ht, run_sizeOf' hi, Result.andThen_ok, Sem.run_pure, lenOf_slice, hmin, hrun0, storeCells]
              rfl
            · show Sim E (upd σ k _) μ w
              rw [hid]
              exact S
            · show Moves σ μ w (upd σ k _) μ w
              rw [hid]
              exact .refl _ _ _
          · have hxpos : 0 < xs.length := List.length_pos_iff.2 hx0
            have hpos : 0 < es.length := by omega
            have hlsz : l.sz = tsz E.P e := by
              rw [← g1 0 _ (List.getElem?_eq_getElem hpos)]
              exact c4 _ (List.getElem_mem hpos)
            have ha' := ha (by omega)
            subst ha'
            obtain ⟨p1, p2, p3⟩ := put_row S hs hm (p := off) (xs := xs) (new := new) (by omega) (by omega) (fun c hc => by rw [hlsz]; exact (c3 c hc).1) (by rw [hlsz]; exact hf) hone g0
            rw [hxl] at p2 p3
            refine ⟨.int .i64 (min len' len : Nat), _, μ, .inl (valOf_run ?_), .int _ _, p2, p3, fun _ _ => rfl⟩
            unfold Builtin.copy_
            simp only [h0, List.getElem?_toArray, List.getElem?_cons_zero, List.getElem?_cons_succ, Sem.run_bind, run_und ht, run_sizeOf' hi, Result.andThen_ok, Sem.run_pure, lenOf_slice, hmin, hrun0, p1]
            rfl
        · cases h
      · cases h
    · cases h
  · cases h

theorem tzero_cells {P : Program} {t : TypeId} {z : List PV} (h : tzero P t = some z) : ∃ i v, P.info? t = some i ∧ i.zero = some v ∧ v.cells.size = z.length ∧ ones z = true ∧ ∀ (U : Nat → Prop) (μ : Mu) (w : World) (j : Nat) (pv : PV), z[j]? = some pv → ∃ x, v.cells[j]? = some x ∧ Rep U μ w pv x := by
  obtain ⟨i, v, hi, hz, hl, hr⟩ := tzero_some h
  refine ⟨i, v, hi, hz, hl, ?_, fun U μ w j pv hj => ?_⟩
  · unfold tzero at h
    rw [hi] at h
    simp only [Option.bind_some, hz] at h
    obtain ⟨g1, g2⟩ := mapM_get h
    refine List.all_eq_true.2 fun p hp => ?_
    obtain ⟨j, hj⟩ := List.getElem?_of_mem hp
    obtain ⟨y, _, hy⟩ := g2 j p hj
    unfold ofC at hy
    split at hy <;> first | (cases hy; rfl) | cases hy
  · have hlt : j < v.cells.size := by rw [hl]; exact (List.getElem?_eq_some_iff.1 hj).1
    exact ⟨_, Array.getElem?_eq_getElem hlt, hr U μ w j pv _ hj (Array.getElem?_eq_getElem hlt)⟩
theorem zeros_flat {U : Nat → Prop} {z : List PV} {zc : Array Value} {sz : Nat} (hl : zc.size = sz) (hz : z.length = sz) (hr : ∀ (j : Nat) (pv : PV), z[j]? = some pv → ∃ x, zc[j]? = some x ∧ Rep U μ w pv x) (n : Nat) : Flat U μ w sz (List.replicate n z) (Builtin.zeroCells zc n).toList := by
  refine ⟨by simp [Builtin.zeroCells, hl], fun j cs i pv hj hi => ?_⟩
  rw [List.getElem?_replicate] at hj
  split at hj
  · rename_i hjn
    cases hj
    have hi' : i < sz := by rw [← hz]; exact (List.getElem?_eq_some_iff.1 hi).1
    obtain ⟨x, hx, hrx⟩ := hr i pv hi
    refine ⟨x, ?_, hrx⟩
    have hlt : j * sz + i < n * sz := by
      have : (j + 1) * sz ≤ n * sz := Nat.mul_le_mul_right _ hjn
      rw [Nat.add_mul, Nat.one_mul] at this
      omega
    have hmod : (j * sz + i) % sz = i := by rw [Nat.mul_comm, Nat.mul_add_mod]; exact Nat.mod_eq_of_lt hi'
    have hix : i < zc.size := by omega
    rw [Array.getElem?_eq_getElem hix] at hx
    cases hx
    rw [Array.getElem?_toList]
    simp only [Builtin.zeroCells, Array.getElem?_map, Array.getElem?_range, hl, if_pos hlt, Option.map_some, hmod]
    rw [getElem!_pos zc i hix]
  · cases hj
theorem clear_sim (S : Sim E σ μ w) {t : TypeId} {p : PV} {v : Value} {c : Prop} {eff : Eff} (hp : Rep (Used σ μ) μ w p v) (h : evClear E σ t p = some (c, eff)) (hc : c)
    (ty : TypeId) (args : Array TypeId) (h0 : args[0]? = some t) : Does E σ μ w key eff ((valOf (Builtin.clear_ args ty #[v])).run E.P w) := by
  have htup : Rep (Used σ μ) μ w (.tup []) (.tuple #[]) := .tup [] #[] rfl (fun i pv v h => by simp at h)
  unfold evClear at h
  split at h
  · cases h
  rename_i e he
  have ht := telem_some he
  split at h
  · rename_i k off len
    split at h
    · rename_i z es hz hs
      split at h
      · cases h
      rename_i hti
      cases h
      obtain ⟨c1, c2, c3⟩ := hc
      obtain ⟨i, d, hi, hd, hzz⟩ := ti_some hti
      obtain ⟨i', zv, hi', hzi, hzl, hzo, hzr⟩ := tzero_cells hz
      rw [hi] at hi'; cases hi'
      cases hp with
      | row _ _ _ l a0 hm ha =>
      obtain ⟨l', hl', ho⟩ := S.obj k _ hs
      rw [hm] at hl'; cases hl'
      obtain ⟨cc, ty0, g0, g1, g2, g3, g4, g5⟩ := ho
      have hf := zeros_flat (U := Used σ μ) (μ := μ) (w := w) (sz := tsz E.P e) (by rw [hzl, c3]) c3 (hzr _ _ _) len
      by_cases hx0 : len = 0
      · subst hx0
        have hid : upd σ k (some (.row (es.take off ++ List.replicate 0 z ++ es.drop (off + 0)))) = σ := by
          simp only [Nat.add_zero, List.replicate_zero, List.append_nil, List.take_append_drop]
          exact upd_id hs
        refine ⟨.tuple #[], w, μ, .inl (valOf_run ?_), .tup [] #[] rfl (fun i pv v h => by simp at h), ?_, ?_, fun _ _ => rfl⟩
        · unfold Builtin.clear_
          simp only [h0, List.getElem?_toArray, List.getElem?_cons_zero, Sem.run_bind, run_und ht, Result.andThen_ok]
          rfl
        · show Sim E (upd σ k _) μ w
          rw [hid]
          exact S
        · show Moves σ μ w (upd σ k _) μ w
          rw [hid]
          exact .refl _ _ _
      · have hpos : 0 < es.length := by omega
        have hlsz : l.sz = tsz E.P e := by
          rw [← g1 0 _ (List.getElem?_eq_getElem hpos)]
          exact c2 _ (List.getElem_mem hpos)
        have ha' := ha (by omega)
        subst ha'
        have hall : ∀ c ∈ List.replicate len z, c.length = tsz E.P e ∧ ones c = true := fun c hc => by
          rw [(List.mem_replicate.1 hc).2]
          exact ⟨c3, hzo⟩
        have hone := ones_flat hf hall
        obtain ⟨p1, p2, p3⟩ := put_row S hs hm (p := off) (xs := List.replicate len z) (new := (Builtin.zeroCells zv.cells len).toList) (by omega) (by rw [List.length_replicate]; omega) (fun c hc => by rw [hlsz]; exact (hall c hc).1) (by rw [hlsz]; exact hf) hone g0
        rw [List.length_replicate] at p2 p3
        refine ⟨.tuple #[], _, μ, .inl (valOf_run ?_), .tup [] #[] rfl (fun i pv v h => by simp at h), p2, p3, fun _ _ => rfl⟩
        obtain ⟨n, rfl⟩ := Nat.exists_eq_succ_of_ne_zero hx0
        unfold Builtin.clear_
        simp only [h0, List.getElem?_toArray, List.getElem?_cons_zero, Sem.run_bind, run_und ht, run_zero hi hzi, Result.andThen_ok, p1]
        rfl
    · cases h
  · cases h
    cases hp
    refine does_val S htup (valOf_run ?_)
    unfold Builtin.clear_
    simp only [h0, List.getElem?_toArray, List.getElem?_cons_zero, Sem.run_bind, run_und ht, Result.andThen_ok]
    rfl
  · cases h
    cases hp
    refine does_val S htup (valOf_run ?_)
    unfold Builtin.clear_
    rename_i a _ _
    cases a <;> simp only [h0, List.getElem?_toArray, List.getElem?_cons_zero, Sem.run_bind, run_und ht, Result.andThen_ok] <;> rfl
  · cases h
theorem cap_sim (S : Sim E σ μ w) {t : TypeId} {p : PV} {v : Value} {c : Prop} {eff : Eff} (hp : Rep (Used σ μ) μ w p v) (h : evCap E t p = some (c, eff))
    (ty : TypeId) (args : Array TypeId) (h0 : args[0]? = some t) : Does E σ μ w key eff ((valOf (Builtin.cap_ args ty #[v])).run E.P w) := by
  unfold evCap at h
  split at h
  · cases h
  rename_i e he
  have ht := telem_some he
  split at h
  · rename_i k off len
    split at h
    · rename_i cp hcp
      cases h
      cases hp with
      | row _ _ _ l a0 hm ha =>
      obtain ⟨l', hl', rfl⟩ := S.caps k cp hcp
      rw [hm] at hl'; cases hl'
      refine does_val S (.int _ _) (valOf_run ?_)
      unfold Builtin.cap_
      simp only [h0, List.getElem?_toArray, List.getElem?_cons_zero, Sem.run_bind, run_und ht, Result.andThen_ok]
      rfl
    · cases h
  · cases h
    cases hp
    refine does_val S (.int _ _) (valOf_run ?_)
    unfold Builtin.cap_
    simp only [h0, List.getElem?_toArray, List.getElem?_cons_zero, Sem.run_bind, run_und ht, Result.andThen_ok]
    rfl
  · cases h
    cases hp
    refine does_val S (.int _ _) (valOf_run ?_)
    unfold Builtin.cap_
    simp only [h0, List.getElem?_toArray, List.getElem?_cons_zero, Sem.run_bind, run_und ht, Result.andThen_ok]
    rfl
  · cases h
end
end Go.Proofs.YtdajoilaakiinaaGreatDoor.Awp

/- More operations do what the abstract machine says: new slices, maps, interfaces. -/
namespace Go.Proofs.YtdajoilaakiinaaGreatDoor.Awp
open Go

section
variable {E : Env} {σ : Store} {μ : Mu} {w : World} {key : Nat}

theorem nil_rep {U : Nat → Prop} : Rep U μ w (.tup []) (.tuple #[]) := .tup [] #[] rfl (fun i pv v h => by simp at h)
theorem makeSlice_sim (S : Sim E σ μ w) (hk : μ key = none) {t : TypeId} {p q : PV} {v x : Value} {c : Prop} {eff : Eff} (hp : Rep (Used σ μ) μ w p v) (hq : Rep (Used σ μ) μ w q x) (h : evMakeSlice E key t p q = some (c, eff)) (hc : c) :
    Does E σ μ w key eff ((valOf (Instr.makeSlice t v x)).run E.P w) := by
  unfold evMakeSlice at h
  split at h
  · cases h
  rename_i e he
  have ht := telem_some he
  split at h
  · cases h
  rename_i hti
  obtain ⟨i, d, hi, hd, hz⟩ := ti_some hti
  have hsz : i.size = tsz E.P e := by unfold tsz; rw [hz]; rfl
  split at h
  · rename_i k1 l0 k2 l z hz
    cases h
    obtain ⟨c0, hcl, c2, c3, c4, c5⟩ := hc
    subst hcl
    obtain ⟨i', zv, hi', hzi, hzl, hzo, hzr⟩ := tzero_cells hz
    rw [hi] at hi'; cases hi'
    cases hp; cases hq
    have hb : tbytes E.P e = i.bytes := by unfold tbytes; rw [hi]; rfl
    rw [hb] at c2
    have hw : IntKind.i64.wrap l = l := by rw [IntKind.wrap_i64]; omega
    have hty : (typeInfo e).run E.P w = .ok i w := by unfold typeInfo; simp [hi]
    have hmul : (i.bytes : Int) * l = ((l.toNat * i.bytes : Nat) : Int) := by
      rw [Int.natCast_mul, Int.toNat_of_nonneg c0, Int.mul_comm]
    have hbig : ¬ ((i.bytes : Int) * l > 2 ^ 48) := by rw [hmul]; omega
    have hneg : ¬ (l < 0) := by omega
    have hls : ¬ (l > l) := by omega
    have hflat := zeros_flat (U := Used σ μ) (μ := μ) (w := w) (sz := tsz E.P e) (by rw [hzl, c4]) c4 (hzr _ _ _) l.toNat
    obtain ⟨arr, harr⟩ : ∃ arr, arr = Builtin.zeroCells zv.cells l.toNat := ⟨_, rfl⟩
    have hasize : arr.size = l.toNat * tsz E.P e := by rw [harr]; simp [Builtin.zeroCells, hzl, c4]
    have hrun : (Instr.makeSlice t (.int k1 l) (.int k2 l)).run E.P w = .ok (.slice (some ⟨w.heap.size, 0, none⟩) l.toNat l.toNat) (w.alloc (.cells arr e)) := by
      have harr2 : ((Array.range (l.toNat * i.size)).map fun j => (if l.toNat * i.size = 0 then (#[] : Array Value) else zv.cells)[j % (if l.toNat * i.size = 0 then (#[] : Array Value) else zv.cells).size]!) = arr := by
        rw [harr]
        unfold Builtin.zeroCells
        by_cases h0 : l.toNat * i.size = 0
        · rw [show l.toNat * zv.cells.size = 0 by rw [hzl, c4, ← hsz]; exact h0, h0]
          simp
        · rw [if_neg h0, hzl, c4, ← hsz]
      unfold Instr.makeSlice
      simp only [Sem.run_bind, run_und ht, Result.andThen_ok, asInt, asIntOf, Sem.run_pure, hty, hw, decide_eq_false hneg, decide_eq_false hbig, decide_eq_false hls, Bool.or_false, Bool.false_eq_true, if_false, run_askRoom, run_sizeOf' hi, Sem.run_ite]
      by_cases h0 : l.toNat * i.size = 0
      · simp only [if_pos h0] at harr2 ⊢
        rw [harr2]
        rfl
      · simp only [if_neg h0, run_zero hi hzi, Result.andThen_ok] at harr2 ⊢
        rw [harr2]
        rfl
    obtain ⟨s1, s2⟩ := new_does (E := E) (es := List.replicate l.toNat z) (sz := tsz E.P e) (cap := l.toNat) (t := e) (arr := arr) S hk (fun j cs hj => by
        obtain ⟨_, rfl⟩ := List.mem_replicate.1 (List.mem_of_getElem? hj); exact c4) (by simp) (fun h => by simpa using congrArg List.length h) (by omega) (fun j cs m pv hj hm => by
        obtain ⟨y, hy, hr⟩ := hflat.2 j cs m pv hj hm
        refine ⟨y, ?_, hr⟩
        rw [harr, ← Array.getElem?_toList]
        exact hy)
    refine ⟨_, _, _, .inl (valOf_run hrun), ?_, s1, s2, new_other μ key _⟩
    have := Rep.row (U := Used (app σ [(key, some (.row (List.replicate l.toNat z)))]) (upd μ key (some ⟨w.heap.size, 0, l.toNat, tsz E.P e⟩))) (μ := upd μ key (some ⟨w.heap.size, 0, l.toNat, tsz E.P e⟩)) (w := w.alloc (.cells arr e)) key 0 l.toNat ⟨w.heap.size, 0, l.toNat, tsz E.P e⟩ ⟨w.heap.size, 0, none⟩ (upd_same _ _ _) (fun _ => by simp)
    simpa using this
  · cases h

/-! ### maps -/
theorem bytes_beq' (a b : ByteArray) : (a == b) = decide (a = b) := by
  have h : (a == b) = true ↔ a = b := by
    obtain ⟨a⟩ := a
    obtain ⟨b⟩ := b
    show (a == b) = true ↔ _
    rw [beq_iff_eq]
    constructor
    · intro h; rw [h]
    · intro h; cases h; rfl
  by_cases e : a = b
  · rw [decide_eq_true e]; exact h.2 e
  · rw [decide_eq_false e]; exact Bool.eq_false_iff.2 fun h' => e (h.1 h')
theorem int_beq' (a b : Int) : (a == b) = decide (a = b) := by
  by_cases e : a = b
  · subst e; simp
  · rw [decide_eq_false e]; simp [e]
theorem tmap_some {P : Program} {t k e : TypeId} (h : tmap P t = some (k, e)) : P.underlying t = some (.map k e) := by
  unfold tmap at h; split at h <;> simp_all
theorem tzv_some {P : Program} {t : TypeId} {z : PV} (h : tzv P t = some z) : ∃ i v, P.info? t = some i ∧ i.zero = some v ∧ ∀ (U : Nat → Prop) (μ : Mu) (w : World), Rep U μ w z v := by
  unfold tzv at h
  cases hi : P.info? t with
  | none => rw [hi] at h; cases h
  | some i =>
    rw [hi] at h
    simp only [Option.bind_some] at h
    cases hz : i.zero with
    | none => rw [hz] at h; cases h
    | some v =>
      rw [hz] at h
      simp only [Option.bind_some] at h
      refine ⟨i, v, rfl, hz, fun U μ w => ?_⟩
      unfold ofZ at h
      split at h
      · rename_i vs
        cases hm : vs.toList.mapM ofC with
        | none => rw [hm] at h; cases h
        | some cs =>
          rw [hm] at h
          cases h
          obtain ⟨g1, g2⟩ := mapM_get hm
          refine .agg _ _ (by simpa using g1.symm) (fun j pv x hj hx => ?_)
          obtain ⟨y, hy, hf⟩ := g2 j pv hj
          have : y = x := by
            have hy' : vs[j]? = some y := by simpa using hy
            rw [hx] at hy'; cases hy'; rfl
          subst this
          exact rep_const hf
      · exact rep_const h
/-- What the machine makes of a key. -/
theorem key_desc {P : Program} {U : Nat → Prop} {kt : TypeId} {k : PV} {kv : Value} (hok : keyOk P kt k = true) (hk : Rep U μ w k kv) : ∃ d, P.underlying kt = some d ∧ (∀ (k' : PV) (kv' : Value) (b : Bool), keyEq k k' = some b → Rep U μ w k' kv' → Instr.sameNow d kv kv' = some b) ∧
    (∀ empty w', (Instr.checkKey empty 10000 kt kv).run P w' = .ok () w') ∧ ∀ n, Instr.sameBits (n + 1) kv kv = true := by
  cases k <;> first | (cases hok; done) | skip
  · rename_i kk n
    obtain ⟨k', hk'⟩ := Option.isSome_iff_exists.1 hok
    have hu := tint_some hk'
    cases hk
    refine ⟨_, hu, fun k2 kv2 b he hr => ?_, fun empty w' => ?_, fun n => by simp [Instr.sameBits]⟩
    · unfold keyEq at he
      split at he
      · rename_i e1
        cases e1
        split at he
        · rename_i hkk; cases he; subst hkk; cases hr; simp only [Instr.sameNow, if_true, int_beq']
        · cases he
      · rename_i e1; cases e1
      · rename_i e1; cases e1
      · cases he
    · unfold Instr.checkKey
      simp only [Sem.run_bind, run_und hu, Result.andThen_ok]
      rfl
  · rename_i b
    have hu := tbool_some hok
    cases hk
    refine ⟨_, hu, fun k2 kv2 b he hr => ?_, fun empty w' => ?_, fun n => by simp [Instr.sameBits]⟩
    · unfold keyEq at he
      split at he
      · rename_i e1; cases e1
      · rename_i e1; cases e1
      · rename_i e1; cases e1; cases he; cases hr; rename_i b1 b2 _; cases b1 <;> cases b2 <;> rfl
      · cases he
    · unfold Instr.checkKey
      simp only [Sem.run_bind, run_und hu, Result.andThen_ok]
      rfl
  · rename_i s
    have hu := tstr_some hok
    cases hk
    refine ⟨_, hu, fun k2 kv2 b he hr => ?_, fun empty w' => ?_, fun n => by simp only [Instr.sameBits, bytes_beq', decide_true]⟩
    · unfold keyEq at he
      split at he
      · rename_i e1; cases e1
      · rename_i e1; cases e1; cases he; cases hr; simp only [Instr.sameNow, bytes_beq']
      · rename_i e1; cases e1
      · cases he
    · unfold Instr.checkKey
      simp only [Sem.run_bind, run_und hu, Result.andThen_ok]
      rfl
def EntRep (U : Nat → Prop) (μ : Mu) (w : World) (es : List (PV × PV)) (ms : List MapEntry) : Prop := ms.length = es.length ∧ ∀ (j : Nat) (p : PV × PV) (e : MapEntry), es[j]? = some p → ms[j]? = some e → Rep U μ w p.1 e.key ∧ Rep U μ w p.2 e.val
theorem find_rep {U : Nat → Prop} {d : TypeDesc} {k : PV} {kv : Value} (hd : ∀ (k' : PV) (kv' : Value) (b : Bool), keyEq k k' = some b → Rep U μ w k' kv' → Instr.sameNow d kv kv' = some b) :
    ∀ (es : List (PV × PV)) (ms : List MapEntry) (i : Nat) (r : Option PV), EntRep U μ w es ms → mfind k es = some r →
      (r = none → Instr.findNow d kv ms i = some none) ∧ (∀ v, r = some v → ∃ e, ms[midx k es]? = some e ∧ Instr.findNow d kv ms i = some (some (i + midx k es, e.val)) ∧ Rep U μ w v e.val ∧ midx k es < es.length ∧ ∃ p, es[midx k es]? = some p ∧ keyEq k p.1 = some true)
  | [], ms, i, r, h, hf => by
    cases hf
    obtain rfl := List.eq_nil_of_length_eq_zero h.1
    exact ⟨fun _ => rfl, fun v h => by cases h⟩
  | (k', v') :: es, ms, i, r, h, hf => by
    match ms, h with
    | [], h => simp [EntRep] at h
    | e :: ms, h =>
    obtain ⟨h1, h2⟩ := h.2 0 (k', v') e rfl rfl
    unfold mfind at hf
    split at hf
    · rename_i he
      cases hf
      have hs := hd k' e.key true he h1
      refine ⟨fun h => (by cases h), fun v hv => ?_⟩
      cases hv
      refine ⟨e, ?_, ?_, h2, ?_, (k', v'), ?_, he⟩
      · simp [midx, he]
      · simp [Instr.findNow, hs, midx, he]
      · simp [midx, he]
      · simp [midx, he]
    · rename_i he
      have hs := hd k' e.key false he h1
      have hne : ¬ (keyEq k k' = some true) := by rw [he]; simp
      obtain ⟨i1, i2⟩ := find_rep hd es ms (i + 1) r ⟨by simpa using h.1, fun j p e hj he => h.2 (j + 1) p e (by simpa using hj) (by simpa using he)⟩ hf
      refine ⟨fun hr => ?_, fun v hv => ?_⟩
      · simp [Instr.findNow, hs, i1 hr]
      · obtain ⟨e', a1, a2, a3, a4, p, a5, a6⟩ := i2 v hv
        refine ⟨e', ?_, ?_, a3, ?_, p, ?_, a6⟩
        · simp [midx, hne, a1]
        · simp [Instr.findNow, hs, midx, hne, a2]; omega
        · simp [midx, hne, a4]
        · simp [midx, hne, a5]
    · cases hf
theorem keyEq_self {k k' : PV} {kv : Value} {U : Nat → Prop} {kv' : Value} (h : keyEq k k' = some true) (h1 : Rep U μ w k kv) (h2 : Rep U μ w k' kv') : k' = k ∧ kv' = kv := by
  unfold keyEq at h
  split at h
  · split at h
    · rename_i e
      subst e
      have := of_decide_eq_true (Option.some.inj h)
      subst this
      cases h1; cases h2
      exact ⟨rfl, rfl⟩
    · cases h
  · have := of_decide_eq_true (Option.some.inj h)
    subst this
    cases h1; cases h2
    exact ⟨rfl, rfl⟩
  · have := of_decide_eq_true (Option.some.inj h)
    subst this
    cases h1; cases h2
    exact ⟨rfl, rfl⟩
  · cases h
theorem run_getMap {P : Program} {r ck : Nat} {ms : Array MapEntry} (h : w.heap[r]? = some (.map ms ck)) : (getObj r).run P w = .ok (.map ms ck) w := by
  simp [getObj, Sem.run, h]
theorem run_setMap {P : Program} {r ck : Nat} {ms : Array MapEntry} (h : w.heap[r]? = some (.map ms ck)) (o : Obj) : (setObj r o).run P w = .ok () { w with heap := w.heap.setIfInBounds r o } := by
  simp [setObj, Sem.run, h]
theorem run_findKey {P : Program} {kt : TypeId} {d : TypeDesc} {kv : Value} {ms : List MapEntry} {r : Option (Nat × Value)} (hd : P.underlying kt = some d) (h : Instr.findNow d kv ms 0 = some r) : (Instr.findKey kt kv ms).run P w = .ok r w := by
  unfold Instr.findKey
  simp only [Sem.run_bind, run_und hd, Result.andThen_ok, h]
  rfl
theorem lookup_sim (S : Sim E σ μ w) {t : TypeId} {p q : PV} {v x : Value} {ok : Bool} {c : Prop} {eff : Eff} (hp : Rep (Used σ μ) μ w p v) (hq : Rep (Used σ μ) μ w q x) (h : evLookup E σ t p q ok = some (c, eff)) :
    Does E σ μ w key eff ((valOf (Instr.lookup t v x ok)).run E.P w) := by
  unfold evLookup at h
  split at h
  · cases h
  rename_i kt et hm
  have ht := tmap_some hm
  split at h
  rotate_left
  · cases h
  rename_i hkok
  obtain ⟨d, hd, hsame, hcheck, _⟩ := key_desc hkok hq
  split at h
  · cases h
  rename_i z hz
  obtain ⟨i, zv, hi, hzi, hzr⟩ := tzv_some hz
  have fin : ∀ (rd : List Nat) (r : Option PV) (ms : Array MapEntry) (rf : Option (Nat × Value)), mgot z ok rd (some r) = some (c, eff) → ((v = .map none ∧ ms = #[]) ∨ ∃ r ck, v = .map (some r) ∧ w.heap[r]? = some (.map ms ck)) →
      Instr.findNow d x ms.toList 0 = some rf → (r = none → rf = none) → (∀ y, r = some y → ∃ j yv, rf = some (j, yv) ∧ Rep (Used σ μ) μ w y yv) →
      Does E σ μ w key eff ((valOf (Instr.lookup t v x ok)).run E.P w) := by
    intro rd r ms rf hg hload hfind h1 h2
    have hrun0 : rf = none → (Instr.lookup t v x ok).run E.P w = .ok (if ok then .tuple #[zv, .bool false] else zv) w := by
      rintro rfl
      have hfk := fun w => run_findKey (P := E.P) (w := w) hd hfind
      rcases hload with ⟨rfl, rfl⟩ | ⟨rr, ck, rfl, g0⟩
      · unfold Instr.lookup
        simp only [Sem.run_bind, run_und ht, Result.andThen_ok, Sem.run_pure, hcheck, hfk, run_zero hi hzi]
      · unfold Instr.lookup
        simp only [Sem.run_bind, run_und ht, run_getMap g0, Result.andThen_ok, Sem.run_pure, hcheck, hfk, run_zero hi hzi]
    have hrun1 : ∀ j y, rf = some (j, y) → (Instr.lookup t v x ok).run E.P w = .ok (if ok then .tuple #[y, .bool true] else y) w := by
      rintro j y rfl
      have hfk := fun w => run_findKey (P := E.P) (w := w) hd hfind
      rcases hload with ⟨rfl, rfl⟩ | ⟨rr, ck, rfl, g0⟩
      · unfold Instr.lookup
        simp only [Sem.run_bind, run_und ht, Result.andThen_ok, Sem.run_pure, hcheck, hfk]
      · unfold Instr.lookup
        simp only [Sem.run_bind, run_und ht, run_getMap g0, Result.andThen_ok, Sem.run_pure, hcheck, hfk]
    cases r with
    | none =>
      have := h1 rfl
      subst this
      simp only [mgot, Option.some.injEq, Prod.mk.injEq] at hg
      obtain ⟨_, rfl⟩ := hg
      have hr := hrun0 rfl
      refine does_val S ?_ (valOf_run hr)
      cases ok
      · exact hzr _ _ _
      · exact .tup _ _ rfl (fun i pv v hp hv => by
          match i, hp, hv with
          | 0, hp, hv => simp at hp hv; subst hp; subst hv; exact hzr _ _ _
          | 1, hp, hv => simp at hp hv; subst hp; subst hv; exact .bool _
          | i + 2, hp, hv => simp at hp)
    | some y =>
      obtain ⟨j, yv, rfl, hyr⟩ := h2 y rfl
      simp only [mgot, Option.some.injEq, Prod.mk.injEq] at hg
      obtain ⟨_, rfl⟩ := hg
      have hr := hrun1 j yv rfl
      refine does_val S ?_ (valOf_run hr)
      cases ok
      · exact hyr
      · exact .tup _ _ rfl (fun i pv v hp hv => by
          match i, hp, hv with
          | 0, hp, hv => simp at hp hv; subst hp; subst hv; exact hyr
          | 1, hp, hv => simp at hp hv; subst hp; subst hv; exact .bool _
          | i + 2, hp, hv => simp at hp)
  split at h
  · cases hp
    exact fin [] none #[] none h (.inl ⟨rfl, rfl⟩) rfl (fun _ => rfl) (fun y h => by cases h)
  · rename_i kk
    split at h
    · rename_i es hs
      cases hf : mfind q es with
      | none => rw [hf] at h; cases h
      | some r =>
        rw [hf] at h
        cases hp with
        | map _ l hm' =>
        obtain ⟨l', hl', ho⟩ := S.obj kk _ hs
        rw [hm'] at hl'; cases hl'
        obtain ⟨ms, ck, g0, g1, g2, g3, g4⟩ := ho
        have hent : EntRep (Used σ μ) μ w es ms.toList := ⟨by simpa using g1, fun j p e hj he => ⟨g2 j p e hj (by simpa using he), g3 j p e hj (by simpa using he)⟩⟩
        obtain ⟨f1, f2⟩ := find_rep hsame es ms.toList 0 r hent hf
        cases r with
        | none => exact fin [kk] none ms none h (.inr ⟨_, _, rfl, g0⟩) (f1 rfl) (fun _ => rfl) (fun y h => by cases h)
        | some y =>
          obtain ⟨e, a1, a2, a3, _⟩ := f2 y rfl
          exact fin [kk] (some y) ms _ h (.inr ⟨_, _, rfl, g0⟩) a2 (fun h => by cases h) (fun z hz => by cases hz; exact ⟨_, _, rfl, a3⟩)
    · cases h
  · cases h

/-- A map's new entries. -/
theorem map_put (S : Sim E σ μ w) {kk : Nat} {es es' : List (PV × PV)} {l : Loc} (hs : σ kk = some (.map es)) (hm : μ kk = some l) {ms ms' : Array MapEntry} {ck : Nat} (g0 : w.heap[l.b]? = some (.map ms ck))
    (he : EntRep (Used σ μ) μ w es' ms'.toList) (hb : ∀ (i : Nat) (e : MapEntry), ms'[i]? = some e → e.born = i) :
    (setObj l.b (.map ms' ms'.size)).run E.P w = .ok () { w with heap := w.heap.setIfInBounds l.b (.map ms' ms'.size) } ∧
    Sim E (upd σ kk (some (.map es'))) μ { w with heap := w.heap.setIfInBounds l.b (.map ms' ms'.size) } ∧ Moves σ μ w (upd σ kk (some (.map es'))) μ { w with heap := w.heap.setIfInBounds l.b (.map ms' ms'.size) } := by
  refine ⟨run_setMap g0 _, ?_⟩
  have hlt : l.b < w.heap.size := (Array.getElem?_eq_some_iff.1 g0).1
  refine sim_set (E := E) (w' := { w with heap := w.heap.setIfInBounds l.b (.map ms' ms'.size) }) S hs hm (by simp) (fun b hb => by simp [Array.getElem?_setIfInBounds, Ne.symm hb]) rfl rfl rfl ?_
  intro U hU
  refine ⟨ms', ms'.size, by simp [Array.getElem?_setIfInBounds, hlt], by simpa using he.1, fun i p e hp hme => hU _ _ (he.2 i p e hp (by simpa using hme)).1, fun i p e hp hme => hU _ _ (he.2 i p e hp (by simpa using hme)).2, hb, rfl⟩
theorem mset_none {k v : PV} : ∀ {es : List (PV × PV)}, mfind k es = some none → mset k v es = es ++ [(k, v)]
  | [], _ => rfl
  | (k', v') :: es, h => by
    unfold mfind at h
    split at h
    · cases h
    · rename_i he
      unfold mset
      rw [if_neg (by rw [he]; simp), mset_none h]
      rfl
    · cases h
theorem mset_some {k v y : PV} : ∀ {es : List (PV × PV)}, mfind k es = some (some y) → mset k v es = es.modify (midx k es) fun p => (p.1, v)
  | [], h => by cases h
  | (k', v') :: es, h => by
    unfold mfind at h
    split at h
    · rename_i he
      simp [mset, midx, he]
    · rename_i he
      have hne : ¬ (keyEq k k' = some true) := by rw [he]; simp
      simp only [mset, midx, if_neg hne, List.modify_succ_cons, mset_some h]
    · cases h
theorem ent_push {U : Nat → Prop} {es : List (PV × PV)} {ms : Array MapEntry} {k v : PV} {kv x : Value} {b : Nat} (h : EntRep U μ w es ms.toList) (hk : Rep U μ w k kv) (hv : Rep U μ w v x) : EntRep U μ w (es ++ [(k, v)]) (ms.push { key := kv, val := x, born := b }).toList := by
  have hl : ms.size = es.length := by simpa using h.1
  refine ⟨by simp [hl], fun j p e hp he => ?_⟩
  rw [List.getElem?_append] at hp
  simp only [Array.getElem?_toList, Array.getElem?_push] at he
  split at hp
  · rename_i hj
    rw [if_neg (by omega)] at he
    exact h.2 j p e hp (by simpa using he)
  · rename_i hj
    have hj0 : j - es.length = 0 := by
      have := (List.getElem?_eq_some_iff.1 hp).1
      simp only [List.length_cons, List.length_nil] at this
      omega
    rw [hj0] at hp
    simp only [List.getElem?_cons_zero, Option.some.injEq] at hp
    rw [if_pos (by omega)] at he
    cases he
    subst hp
    exact ⟨hk, hv⟩
theorem ent_set {U : Nat → Prop} {es : List (PV × PV)} {ms : Array MapEntry} {v : PV} {x : Value} {n : Nat} (f : MapEntry → MapEntry) (h : EntRep U μ w es ms.toList) (hv : Rep U μ w v x) (hf : ∀ e, ms[n]? = some e → (f e).val = x ∧ (f e).key = e.key) : EntRep U μ w (es.modify n fun p => (p.1, v)) (ms.modify n f).toList := by
  have hl : ms.size = es.length := by simpa using h.1
  refine ⟨by simp [hl], fun j p e hp he => ?_⟩
  rw [List.getElem?_modify] at hp
  simp only [Array.getElem?_toList, Array.getElem?_modify] at he
  by_cases hj : n = j
  · subst hj
    rw [if_pos rfl] at he
    simp only [if_pos rfl, Option.map_eq_map, Option.map_eq_some_iff] at hp he
    obtain ⟨p0, hp0, rfl⟩ := hp
    obtain ⟨e0, he0, rfl⟩ := he
    obtain ⟨a, b⟩ := hf e0 he0
    rw [a, b]
    exact ⟨(h.2 n p0 e0 hp0 (by simpa using he0)).1, hv⟩
  · rw [if_neg hj] at he
    simp only [if_neg hj, Option.map_eq_map, Option.map_id_fun', id] at hp
    exact h.2 j p e (by simpa using hp) (by simpa using he)
theorem born_push {ms : Array MapEntry} {kv x : Value} (h : ∀ (i : Nat) (e : MapEntry), ms[i]? = some e → e.born = i) : ∀ (i : Nat) (e : MapEntry), (ms.push { key := kv, val := x, born := ms.size })[i]? = some e → e.born = i := by
  intro i e he
  rw [Array.getElem?_push] at he
  split at he
  · rename_i hi; cases he; exact hi.symm
  · exact h i e he
theorem born_set {ms : Array MapEntry} {n : Nat} (f : MapEntry → MapEntry) (hf : ∀ e, (f e).born = e.born) (h : ∀ (i : Nat) (e : MapEntry), ms[i]? = some e → e.born = i) : ∀ (i : Nat) (e : MapEntry), (ms.modify n f)[i]? = some e → e.born = i := by
  intro i e he
  rw [Array.getElem?_modify] at he
  split at he
  · simp only [Option.map_eq_map, Option.map_eq_some_iff] at he
    obtain ⟨e0, he0, rfl⟩ := he
    rw [hf]
    exact h i e0 he0
  · exact h i e he
theorem mapUpdate_sim (S : Sim E σ μ w) {t : TypeId} {p q r : PV} {v x y : Value} {c : Prop} {eff : Eff} (hp : Rep (Used σ μ) μ w p v) (hq : Rep (Used σ μ) μ w q x) (hr : Rep (Used σ μ) μ w r y) (h : evMapUpdate E σ t p q r = some (c, eff)) :
    Does E σ μ w key eff ((do Instr.mapUpdate t v x y; pure .skip : Sem Next).run E.P w) := by
  unfold evMapUpdate at h
  split at h
  · cases h
  rename_i kt et hm
  have ht := tmap_some hm
  split at h
  rotate_left
  · cases h
  rename_i hkok
  obtain ⟨d, hd, hsame, hcheck, hbits⟩ := key_desc hkok hq
  split at h
  · rename_i kk
    split at h
    · rename_i es hs
      split at h
      · rename_i rr hf
        cases h
        cases hp with
        | map _ l hm' =>
        obtain ⟨l', hl', ho⟩ := S.obj kk _ hs
        rw [hm'] at hl'; cases hl'
        obtain ⟨ms, ck, g0, g1, g2, g3, g4, rfl⟩ := ho
        have hent : EntRep (Used σ μ) μ w es ms.toList := ⟨by simpa using g1, fun j p e hj he => ⟨g2 j p e hj (by simpa using he), g3 j p e hj (by simpa using he)⟩⟩
        obtain ⟨f1, f2⟩ := find_rep hsame es ms.toList 0 rr hent hf
        cases rr with
        | none =>
          rw [mset_none hf]
          obtain ⟨p1, p2, p3⟩ := map_put S hs hm' g0 (ent_push (b := ms.size) hent hq hr) (born_push g4)
          refine ⟨undef, _, μ, .inr ⟨?_, rfl⟩, .junk _, p2, p3, fun _ _ => rfl⟩
          simp only [Array.size_push] at p1
          unfold Instr.mapUpdate
          simp only [Sem.run_bind, run_und ht, run_getMap g0, hcheck, run_findKey (w := w) hd (f1 rfl), Result.andThen_ok, p1]
          simp
        | some y0 =>
          obtain ⟨e, a1, a2, a3, a4, p0, a5, a6⟩ := f2 y0 rfl
          rw [mset_some hf]
          have hkey := keyEq_self a6 hq (hent.2 _ p0 e a5 a1).1
          have a1' : ms[midx q es]? = some e := by simpa using a1
          obtain ⟨p1, p2, p3⟩ := map_put S hs hm' g0 (ent_set (n := midx q es) (fun e => { e with key := x, val := y }) hent hr (fun e0 he0 => by
            rw [a1'] at he0; cases he0; exact ⟨rfl, hkey.2.symm⟩)) (born_set _ (fun _ => rfl) g4)
          refine ⟨undef, _, μ, .inr ⟨?_, rfl⟩, .junk _, p2, p3, fun _ _ => rfl⟩
          rw [Array.size_modify] at p1
          unfold Instr.mapUpdate
          have hks : (Instr.keyThatStays (((ms[midx q es]?).map (·.key)).getD x) x).run E.P w = .ok x w := by
            unfold Instr.keyThatStays
            rw [a1']
            simp only [Option.map_some, Option.getD_some]
            rw [hkey.2, hbits 9999]
            rfl
          have a2' : Instr.findNow d x ms.toList 0 = some (some (midx q es, e.val)) := by simpa using a2
          simp only [Sem.run_bind, run_und ht, run_getMap g0, hcheck, run_findKey (w := w) hd a2', Result.andThen_ok, hks, p1]
          simp
      · cases h
    · cases h
  · cases h
theorem mapEntry_sim (S : Sim E σ μ w) {t : TypeId} {p q : PV} {v x : Value} {c : Prop} {eff : Eff} (hp : Rep (Used σ μ) μ w p v) (hq : Rep (Used σ μ) μ w q x) (h : evMapEntry E σ t p q = some (c, eff)) :
    Does E σ μ w key eff ((valOf (Instr.mapEntry t v x)).run E.P w) := by
  have pair : ∀ {U : Nat → Prop} {w : World} {a : PV} {b : Value} {n : Nat}, Rep U μ w a b → Rep U μ w (.tup [a, .int .i64 (n : Nat)]) (.tuple #[b, goInt n]) := by
    intro U w a b n hab
    refine .tup _ _ rfl (fun i pv v hp hv => ?_)
    match i, hp, hv with
    | 0, hp, hv => simp at hp hv; subst hp; subst hv; exact hab
    | 1, hp, hv => simp at hp hv; subst hp; subst hv; exact .int _ _
    | i + 2, hp, hv => simp at hp
  unfold evMapEntry at h
  split at h
  · cases h
  rename_i kt et hm
  have ht := tmap_some hm
  split at h
  rotate_left
  · cases h
  rename_i hkok
  obtain ⟨d, hd, hsame, hcheck, hbits⟩ := key_desc hkok hq
  split at h
  · cases h
  rename_i z hz
  obtain ⟨i, zv, hi, hzi, hzr⟩ := tzv_some hz
  split at h
  · rename_i kk
    split at h
    · rename_i es hs
      cases hf : mfind q es with
      | none => rw [hf] at h; cases h
      | some rr =>
        rw [hf] at h
        cases hp with
        | map _ l hm' =>
        obtain ⟨l', hl', ho⟩ := S.obj kk _ hs
        rw [hm'] at hl'; cases hl'
        obtain ⟨ms, ck, g0, g1, g2, g3, g4, rfl⟩ := ho
        have hent : EntRep (Used σ μ) μ w es ms.toList := ⟨by simpa using g1, fun j p e hj he => ⟨g2 j p e hj (by simpa using he), g3 j p e hj (by simpa using he)⟩⟩
        obtain ⟨f1, f2⟩ := find_rep hsame es ms.toList 0 rr hent hf
        cases rr with
        | none =>
          cases h
          obtain ⟨p1, p2, p3⟩ := map_put S hs hm' g0 (ent_push (b := ms.size) hent hq (hzr _ _ _)) (born_push g4)
          refine ⟨.tuple #[zv, goInt ms.size], _, μ, .inl (valOf_run ?_), by rw [← g1]; exact pair (hzr _ _ _), p2, p3, fun _ _ => rfl⟩
          simp only [Array.size_push] at p1
          unfold Instr.mapEntry
          simp only [Sem.run_bind, run_und ht, run_getMap g0, hcheck, run_findKey (w := w) hd (f1 rfl), Result.andThen_ok, run_zero hi hzi, p1, Sem.run_pure, Array.size_push]
        | some y0 =>
          cases h
          obtain ⟨e, a1, a2, a3, a4, p0, a5, a6⟩ := f2 y0 rfl
          have hkey := keyEq_self a6 hq (hent.2 _ p0 e a5 a1).1
          have a1' : ms[midx q es]? = some e := by simpa using a1
          have hsame2 : ms.modify (midx q es) (fun e => { e with key := x }) = ms := by
            apply Array.ext_getElem?
            intro j
            rw [Array.getElem?_modify]
            split
            · rename_i hj
              subst hj
              rw [a1']
              simp [← hkey.2]
            · rfl
          obtain ⟨p1, p2, p3⟩ := map_put (es' := es) S hs hm' g0 hent g4
          refine ⟨.tuple #[e.val, goInt (midx q es)], _, μ, .inl (valOf_run ?_), pair (a3.moves p3), p2, p3, fun _ _ => rfl⟩
          unfold Instr.mapEntry
          have hks : (Instr.keyThatStays e.key x).run E.P w = .ok x w := by
            unfold Instr.keyThatStays
            rw [hkey.2, hbits 9999]
            rfl
          have a2' : Instr.findNow d x ms.toList 0 = some (some (midx q es, e.val)) := by simpa using a2
          simp only [Sem.run_bind, run_und ht, run_getMap g0, hcheck, run_findKey (w := w) hd a2', Result.andThen_ok, hks, hsame2, p1, Sem.run_pure, a1', Option.map_some, Option.getD_some, g4 _ e a1']
    · cases h
  · cases h
theorem entryStore_sim (S : Sim E σ μ w) {t : TypeId} {p q r : PV} {v x y : Value} {c : Prop} {eff : Eff} (hp : Rep (Used σ μ) μ w p v) (hq : Rep (Used σ μ) μ w q x) (hr : Rep (Used σ μ) μ w r y) (h : evEntryStore σ p q r = some (c, eff)) (hc : c) :
    Does E σ μ w key eff ((do Instr.entryStore t v x y; pure .skip : Sem Next).run E.P w) := by
  unfold evEntryStore at h
  split at h
  · rename_i kk k n
    split at h
    · rename_i es hs
      cases h
      cases hq
      cases hp with
      | map _ l hm' =>
      obtain ⟨l', hl', ho⟩ := S.obj kk _ hs
      rw [hm'] at hl'; cases hl'
      obtain ⟨ms, ck, g0, g1, g2, g3, g4, rfl⟩ := ho
      obtain ⟨c0, c1⟩ := hc
      have hent : EntRep (Used σ μ) μ w es ms.toList := ⟨by simpa using g1, fun j p e hj he => ⟨g2 j p e hj (by simpa using he), g3 j p e hj (by simpa using he)⟩⟩
      obtain ⟨p1, p2, p3⟩ := map_put S hs hm' g0 (ent_set (n := n.toNat) (fun e => { e with val := y }) hent hr (fun e0 he0 => ⟨rfl, rfl⟩)) (born_set _ (fun _ => rfl) g4)
      refine ⟨undef, _, μ, .inr ⟨?_, rfl⟩, .junk _, p2, p3, fun _ _ => rfl⟩
      rw [Array.size_modify] at p1
      have hfi : ms.findIdx? (fun e => (e.born : Int) == n) = some n.toNat := by
        rw [Array.findIdx?_eq_some_iff_getElem]
        have hlt : n.toNat < ms.size := by omega
        refine ⟨hlt, ?_, fun j hj => ?_⟩
        · rw [g4 n.toNat _ (Array.getElem?_eq_getElem hlt)]
          simp; omega
        · rw [g4 j _ (Array.getElem?_eq_getElem (by omega))]
          simp; omega
      unfold Instr.entryStore
      simp only [Sem.run_bind, run_getMap g0, asInt, asIntOf, Sem.run_pure, Result.andThen_ok, hfi, p1, Array.size_modify]
    · cases h
  · cases h
theorem makeMap_sim (S : Sim E σ μ w) (hk : μ key = none) {t : TypeId} {ro : Option PV} {rv : Option Value} {c : Prop} {eff : Eff} (hr : ∀ p, ro = some p → ∃ v, rv = some v ∧ Rep (Used σ μ) μ w p v) (hr' : ro = none → rv = none) (h : evMakeMap E key t ro = some (c, eff)) :
    Does E σ μ w key eff ((valOf (Instr.makeMap t rv)).run E.P w) := by
  have go : (Instr.makeMap t rv).run E.P w = .ok (.map (some w.heap.size)) (w.alloc (.map #[] 0)) → Does E σ μ w key { val := .map key, wr := [(key, some (.map []))] } ((valOf (Instr.makeMap t rv)).run E.P w) := by
    intro hrun
    obtain ⟨s1, s2⟩ := sim_new (E := E) (o := .map []) (ob := .map #[] 0) (l := ⟨w.heap.size, 0, 0, 0⟩) S hk rfl (fun U μ' hU => ⟨#[], 0, heap_new w _, rfl, fun i p e hp => by simp at hp, fun i p e hp => by simp at hp, fun i e he => by simp at he, rfl⟩)
    exact ⟨_, _, _, .inl (valOf_run hrun), .map key ⟨w.heap.size, 0, 0, 0⟩ (upd_same _ _ _), s1, s2, new_other μ key _⟩
  unfold evMakeMap at h
  split at h
  · cases h
    rw [hr' rfl] at go ⊢
    exact go rfl
  · rename_i k n
    split at h
    · cases h
    rename_i hm
    cases h
    obtain ⟨v, rfl, hv⟩ := hr _ rfl
    cases hv
    cases hmm : tmap E.P t with
    | none => exact absurd hmm hm
    | some ke =>
      obtain ⟨kt, et⟩ := ke
      refine go ?_
      unfold Instr.makeMap
      simp only [Sem.run_bind, run_und (tmap_some hmm), asInt, asIntOf, Sem.run_pure, Result.andThen_ok]
      rfl
  · cases h
theorem makeInterface_sim (S : Sim E σ μ w) {t : TypeId} {p : PV} {v : Value} (hp : Rep (Used σ μ) μ w p v) (ht : ti E.P t ≠ none) (hi : tiface E.P t = false) : Does E σ μ w key { val := .iface t p } ((valOf (Instr.makeInterface t v)).run E.P w) := by
  obtain ⟨i, d, _, hd, _⟩ := ti_some ht
  refine does_val S (.iface t p v hp) (valOf_run ?_)
  unfold Instr.makeInterface
  simp only [Sem.run_bind, run_und hd, Result.andThen_ok]
  unfold tiface at hi
  rw [hd] at hi
  cases d <;> first | rfl | cases hi

/-! ### zero values behind a row that has no room for them -/
theorem append_grow_zeros {P : Program} {t u e : TypeId} {i : TypeInfo} {z : Value} {sa : Option Addr} {sl sc n sz : Nat} {old : List Value} {k kn : IntKind} (ht : P.underlying t = some (.slice e)) (hu : P.underlying u = some (.int kn))
    (hi : P.info? e = some i) (hz : i.zero = some z) (hsz : i.size = sz) (hzs : z.cells.size = sz) (hb : (sl + n) * i.bytes ≤ 140737488355328) (hb0 : i.bytes ≠ 0) (hlt : sc < sl + n)
    (ho : (Builtin.firstCells sz sl (.slice sa sl sc)).run P w.drew = .ok old.toArray w.drew) (hol : old.length = sl * sz) (ty : TypeId) (args : Array TypeId) (h0 : args[0]? = some t) (h1 : args[1]? = some u) :
    ∃ cap rest, sl + n ≤ cap ∧ (old ++ (Builtin.zeroCells z.cells n).toList ++ rest).length = cap * sz ∧ (Builtin.append_ args ty #[.slice sa sl sc, .int k (n : Int)]).run P w = .ok (.slice (some ⟨w.heap.size, 0, none⟩) (sl + n) cap) (w.drew.alloc (.cells (old ++ (Builtin.zeroCells z.cells n).toList ++ rest).toArray e)) := by
  have hcap : ∀ q, sl + n ≤ (Question.appendCap (sl + n) sc e).cut q := by intro q; simp only [Question.cut]; omega
  have hle := cap_le hlt
  have hnb : sl + n ≤ (sl + n) * i.bytes := Nat.le_mul_of_pos_right _ (by omega)
  have hbig : ¬ (Builtin.nextslicecap (sl + n) sc * i.bytes > 2 ^ 48) := by
    have h1 : Builtin.nextslicecap (sl + n) sc * i.bytes ≤ 2 * (sl + n) * i.bytes := Nat.mul_le_mul_right _ hle
    rw [Nat.mul_assoc] at h1
    omega
  have hzlen : ∀ m, (Builtin.zeroCells z.cells m).size = m * sz := by intro m; unfold Builtin.zeroCells; simp [hzs]
  refine ⟨(Question.appendCap (sl + n) sc e).cut (w.tape w.drawn (.appendCap (sl + n) sc e)), (Builtin.zeroCells z.cells ((Question.appendCap (sl + n) sc e).cut (w.tape w.drawn (.appendCap (sl + n) sc e)) - (sl + n))).toList, hcap _, ?_, ?_⟩
  · have := hcap (w.tape w.drawn (.appendCap (sl + n) sc e))
    have hr : ∀ m, (Builtin.zeroCells z.cells m).toList.length = m * sz := by intro m; rw [Array.length_toList, hzlen]
    rw [List.length_append, List.length_append, hr, hr, hol, ← Nat.add_mul, ← Nat.add_mul]
    congr 1
    omega
  · have hw : IntKind.i64.wrap (n : Int) = n := by rw [IntKind.wrap_i64]; omega
    have hneg : ¬ ((n : Int) < 0) := by omega
    have hnbytes : n * i.bytes ≤ 140737488355328 := Nat.le_trans (Nat.mul_le_mul_right _ (by omega)) hb
    have h48 : ¬ ((n : Int) * (i.bytes : Int) > 2 ^ 48) := by rw [← Int.natCast_mul]; omega
    have h63 : ¬ ((sl + n : Nat) : Int) > IntKind.i64.max := by
      show ¬ ((sl + n : Nat) : Int) > 9223372036854775807
      omega
    have hty : ∀ w, (typeInfo e).run P w = .ok i w := by intro w; unfold typeInfo; simp [hi]
    have hzr : ∀ w, (zeroValue e).run P w = .ok z w := fun w => run_zero hi hz w
    have hq : ¬ (sl + n ≤ sc) := by omega
    have hforced : (Question.appendCap (sl + n) sc e).forced = false := rfl
    have hz0 : n * sz = 0 → Builtin.zeroCells z.cells n = #[] := fun h => Array.eq_empty_of_size_eq_zero (by rw [hzlen]; exact h)
    have ho' : (Builtin.firstCells sz sl (.slice sa sl sc)).run P { w with drawn := w.drawn + 1 } = .ok old.toArray { w with drawn := w.drawn + 1 } := ho
    unfold Builtin.append_
    simp only [h0, h1, List.getElem?_toArray, List.getElem?_cons_zero, List.getElem?_cons_succ, Sem.run_bind, run_und ht, run_und hu, run_sizeOf' hi, Result.andThen_ok, Sem.run_pure, if_true, asInt, asIntOf, hw, Sem.run_ite, if_neg hneg, hty, if_neg h48, Int.toNat_natCast, if_neg hq, h63, false_and, if_false,
      if_neg hbig, run_choose, hforced, run_askRoom, Bool.false_eq_true, Bool.not_true, hsz, ho', hzr]
    by_cases hzz : n * sz = 0
    · simp only [if_pos hzz, Result.andThen_ok]
      show Result.ok _ _ = _
      congr 1
      show World.alloc _ _ = _
      congr 2
      apply Array.ext'
      rw [hz0 hzz]
      simp
    · simp only [if_neg hzz, Result.andThen_ok]
      show Result.ok _ _ = _
      congr 1
      show World.alloc _ _ = _
      congr 2
      apply Array.ext'
      simp
theorem appZeros_sim (S : Sim E σ μ w) (hk : μ key = none) {t u : TypeId} {p q : PV} {v x : Value} {c : Prop} {eff : Eff} (hp : Rep (Used σ μ) μ w p v) (hq : Rep (Used σ μ) μ w q x) (h : evAppZeros E key σ t p q = some (c, eff)) (hc : c)
    (hu : tint E.P u ≠ none) (ty : TypeId) (args : Array TypeId) (h0 : args[0]? = some t) (h1 : args[1]? = some u) : Does E σ μ w key eff ((valOf (Builtin.append_ args ty #[v, x])).run E.P w) := by
  obtain ⟨kn, hkn⟩ : ∃ k, tint E.P u = some k := by
    cases h : tint E.P u with
    | none => exact (hu h).elim
    | some k => exact ⟨k, rfl⟩
  unfold evAppZeros at h
  split at h
  · cases h
  rename_i e he
  have ht := telem_some he
  split at h
  · cases h
  rename_i hti
  obtain ⟨i, d, hi, hd, hz⟩ := ti_some hti
  have hsz : i.size = tsz E.P e := by unfold tsz; rw [hz]; rfl
  have m0 := moves_drew σ μ w
  have S0 := sim_drew S
  split at h
  · rename_i k off len kq n z hz
    split at h
    · rename_i es cp hs hcp
      cases h
      obtain ⟨c1, c2, c3, ⟨r1, r2, r3⟩, c5⟩ := hc
      obtain ⟨i', zv, hi', hzi, hzl, hzo, hzr⟩ := tzero_cells hz
      rw [hi] at hi'; cases hi'
      rw [hz] at r3
      simp only [Option.map_some, Option.some.injEq] at r3
      have hb : tbytes E.P e = i.bytes := by unfold tbytes; rw [hi]; rfl
      obtain ⟨oa, oc, old, hov, hof, hofirst⟩ := elems_run S0 (hp.moves m0) (c := off + len ≤ es.length) (xs := (es.drop off).take len) (rd := [k]) (by simp [elems, hs]) c1 (fun y hy => c5 y (List.mem_of_mem_drop (List.mem_of_mem_take hy)))
      have hol : ((es.drop off).take len).length = len := by rw [List.length_take, List.length_drop]; omega
      cases hp with
      | row _ _ _ l a hm ha =>
      cases hq
      obtain ⟨l', hl', hcap⟩ := S.caps k cp hcp
      rw [hm] at hl'; cases hl'
      rw [hol] at hov hofirst
      injection hov with e1 e2 e3
      subst e1; subst e3
      obtain ⟨nn, rfl⟩ : ∃ nn : Nat, n = nn := ⟨n.toNat, by omega⟩
      simp only [Int.toNat_natCast] at c3 r1 ⊢
      obtain ⟨cap, rest, g1, g2, g3⟩ := append_grow_zeros (w := w) (sl := len) (sc := l.cap - off) (n := nn) (sz := tsz E.P e) (old := old) (k := kq) ht (tint_some hkn) hi hzi hsz (by omega) (by rw [← hb]; exact r1) (by rw [← hb]; exact r2) (by omega) hofirst (by rw [hof.1, hol]) ty args h0 h1
      have hzf := zeros_flat (U := Used σ μ) (μ := μ) (w := w.drew) (sz := tsz E.P e) (by omega) r3 (hzr _ _ _) nn
      obtain ⟨s1, s2⟩ := new_does (E := E) (es := (es.drop off).take len ++ List.replicate nn z) (sz := tsz E.P e) (cap := cap) (t := e) (arr := (old ++ (Builtin.zeroCells zv.cells nn).toList ++ rest).toArray) S0 hk (fun j cs hj => by
          rcases List.mem_append.1 (List.mem_of_getElem? hj) with hh | hh
          · exact c5 cs (List.mem_of_mem_drop (List.mem_of_mem_take hh))
          · rw [(List.mem_replicate.1 hh).2]; exact r3) (by rw [List.length_append, hol, List.length_replicate]; exact g1) (fun h => by
          have := congrArg List.length h
          rw [List.length_append, hol, List.length_replicate] at this
          simp at this
          omega) (by simp only [List.size_toArray]; omega) (fun j cs m pv hj hm' => by
          have hcs : cs.length = tsz E.P e := by
            rcases List.mem_append.1 (List.mem_of_getElem? hj) with hh | hh
            · exact c5 cs (List.mem_of_mem_drop (List.mem_of_mem_take hh))
            · rw [(List.mem_replicate.1 hh).2]; exact r3
          have hmlt : m < tsz E.P e := by rw [← hcs]; exact (List.getElem?_eq_some_iff.1 hm').1
          have hold : old.length = len * tsz E.P e := by rw [hof.1, hol]
          rw [List.getElem?_append, hol] at hj
          split at hj
          · obtain ⟨y, hy, hr⟩ := hof.2 j cs m pv hj hm'
            refine ⟨y, ?_, hr⟩
            rw [List.getElem?_toArray, List.append_assoc, List.getElem?_append_left (List.getElem?_eq_some_iff.1 hy).1]
            exact hy
          · rename_i hjl
            obtain ⟨y, hy, hr⟩ := hzf.2 _ cs m pv hj hm'
            refine ⟨y, ?_, hr⟩
            have h5 := (List.getElem?_eq_some_iff.1 hy).1
            have h6 : len * tsz E.P e ≤ j * tsz E.P e := Nat.mul_le_mul_right _ (by omega)
            have h7 : (j - len) * tsz E.P e = j * tsz E.P e - len * tsz E.P e := Nat.sub_mul ..
            rw [List.getElem?_toArray, List.append_assoc, List.getElem?_append_right (by omega), List.getElem?_append_left (by omega)]
            rw [show j * tsz E.P e + m - old.length = (j - len) * tsz E.P e + m by omega]
            exact hy)
      refine ⟨_, _, _, .inl (valOf_run g3), ?_, s1, m0.trans s2, new_other μ key _⟩
      have := Rep.row (U := Used (app σ [(key, some (.row ((es.drop off).take len ++ List.replicate nn z)))]) (upd μ key (some ⟨w.drew.heap.size, 0, cap, tsz E.P e⟩))) (μ := upd μ key (some ⟨w.drew.heap.size, 0, cap, tsz E.P e⟩)) (w := w.drew.alloc (.cells (old ++ (Builtin.zeroCells zv.cells nn).toList ++ rest).toArray e)) key 0 (len + nn) ⟨w.drew.heap.size, 0, cap, tsz E.P e⟩ ⟨w.heap.size, 0, none⟩ (upd_same _ _ _) (fun _ => by simp)
      simpa using this
    · cases h
  · cases h
end
end Go.Proofs.YtdajoilaakiinaaGreatDoor.Awp

/- Each operation that calls no function of the program does what the abstract machine says. -/
namespace Go.Proofs.YtdajoilaakiinaaGreatDoor.Awp
open Go

section
variable {E : Env} {σ : Store} {μ : Mu} {w : World} {key : Nat}

theorem opt_rep {U : Nat → Prop} {sl : Nat → PV} {a : Act} (ho : ∀ x, Rep U μ w (opd E sl x) (a.eval x)) (x : Option Operand) :
    (∀ p, x.map (opd E sl) = some p → ∃ v, x.map a.eval = some v ∧ Rep U μ w p v) ∧ (x.map (opd E sl) = none → x.map a.eval = none) := by
  cases x with
  | none => exact ⟨fun p h => by simp at h, fun _ => rfl⟩
  | some x => exact ⟨fun p h => by simp at h; subst h; exact ⟨_, rfl, ho x⟩, fun h => by simp at h⟩

theorem len_sim (S : Sim E σ μ w) {p : PV} {v : Value} {tys : Array TypeId} {ty : TypeId} {c : Prop} {eff : Eff} (hp : Rep (Used σ μ) μ w p v) (h : evBuiltin E key σ .len tys [p] = some (c, eff)) : Does E σ μ w key eff ((valOf (Builtin.len_ tys ty #[v])).run E.P w) := by
  simp only [evBuiltin] at h
  split at h
  · rename_i n hn
    have slices : ∀ (a : Option Addr) (k cp : Nat), v = .slice a k cp → n = (k : Int) → (tys[0]?).any (fun t => decide (telem E.P t ≠ none)) = true → Does E σ μ w key { val := .int .i64 n } ((valOf (Builtin.len_ tys ty #[v])).run E.P w) := by
      intro a k cp hv hk ht
      subst hv; subst hk
      rw [Option.any_eq_true] at ht
      obtain ⟨t, h0, ht⟩ := ht
      have ht := of_decide_eq_true ht
      cases he : telem E.P t with
      | none => exact (ht he).elim
      | some e => exact does_val S (.int _ _) (valOf_run (by simp [Builtin.len_, h0, run_und (telem_some he), goInt]))
    split at h
    · rename_i s
      split at h
      · rename_i ht
        cases h
        rw [Option.any_eq_true] at ht
        obtain ⟨t, h0, ht⟩ := ht
        cases hp
        simp only [lenP, Option.some.injEq] at hn
        subst hn
        exact does_val S (.int _ _) (valOf_run (by simp [Builtin.len_, h0, run_und (tstr_some ht), goInt]))
      · cases h
    · split at h
      · rename_i ht
        cases h
        cases hp <;> simp only [lenP, reduceCtorEq, Option.some.injEq] at hn
        · rename_i hne; exact (hne _ rfl).elim
        · exact slices _ _ _ rfl (by omega) ht
        · exact slices _ _ _ rfl (by omega) ht
        · exact slices _ _ _ rfl (by omega) ht
        · exact slices _ _ _ rfl (by omega) ht
      · cases h
  · cases h

theorem op_does (S : Sim E σ μ w) (hE : EnvOk E) (hk : μ key = none) {sl : Nat → PV} {a : Act} (hs : Slots (Used σ μ) μ w sl a.tmps) (hN : ∀ t, a.tmps.size ≤ t → sl t = .junk) {o : Oper} {c : Prop} {eff : Eff}
    (h : evalOp E key sl σ o.op = some (c, eff)) (hc : c) : Does E σ μ w key eff ((execOp a.eval o).run E.P w) := by
  have ho := fun x => rep_opd S hs hN x
  obtain ⟨dst, op, type, pos, after, guard⟩ := o
  simp only at h
  cases op
  case move x => simp only [evalOp, evP, Option.some.injEq, Prod.mk.injEq] at h; obtain ⟨_, rfl⟩ := h; exact does_val S (ho x) rfl
  case assign x => simp only [evalOp, evP, Option.some.injEq, Prod.mk.injEq] at h; obtain ⟨_, rfl⟩ := h; exact does_val S (ho x) rfl
  case pick x y z =>
    simp only [evalOp] at h
    have hx := ho x
    split at h
    · rename_i e
      rw [e] at hx
      cases h
      generalize hv : a.eval x = v at hx
      cases hx
      exact does_val S (ho y) (by simp [execOp, hv, asBool])
    · rename_i e
      rw [e] at hx
      cases h
      generalize hv : a.eval x = v at hx
      cases hx
      exact does_val S (ho z) (by simp [execOp, hv, asBool])
    · cases h
  case alloc t =>
    simp only [evalOp] at h
    split at h
    · rename_i z hz; cases h; exact alloc_sim S hk hz
    · cases h
  case box t x =>
    simp only [evalOp, Option.some.injEq, Prod.mk.injEq] at h
    obtain ⟨rfl, rfl⟩ := h
    exact box_sim S hk (ho x) hc
  case build t parts =>
    simp only [evalOp] at h
    split at h
    · rename_i z pl hz hpl
      split at h
      · rename_i cs hf; cases h; exact build_sim S ho hz hpl hf
      · cases h
    · cases h
  case buildSlice t len parts =>
    simp only [evalOp] at h
    split at h
    · rename_i e he
      split at h
      · rename_i hr
        simp only [Option.some.injEq, Prod.mk.injEq] at h
        obtain ⟨rfl, rfl⟩ := h
        exact buildSlice_sim S hk ho he hr.1 hr.2.1 hr.2.2 hc.1 hc.2.1 hc.2.2
      · cases h
    · cases h
  case load t x => exact load_sim S (ho x) h hc
  case store t x y => exact store_sim S (ho x) (ho y) h hc
  case nilCheck x =>
    simp only [evalOp] at h
    have hx := ho x
    split at h
    · rename_i e
      rw [e] at hx; cases h
      generalize hv : a.eval x = v at hx
      cases hx
      exact does_val S (.ptr _ _ _ _ (by assumption)) (by simp [execOp, hv])
    · rename_i e
      rw [e] at hx; cases h
      generalize hv : a.eval x = v at hx
      have hx' := hx
      cases hx with
      | cells _ b off vs hu hv' hr => exact does_val S hx' (by simp [execOp, hv])
    · rename_i e
      rw [e] at hx; cases h
      generalize hv : a.eval x = v at hx
      have hx' := hx
      cases hx with
      | fn _ _ _ vs us hl hl' hr hr' => exact does_val S hx' (by simp [execOp, hv])
    · cases h
  case binOp b t x y t' => exact bin_sim S hE (ho x) (ho y) h hc
  case unOp u t x => exact un_sim S (ho x) h
  case convert src dst' x => exact convert_sim S (ho x) h hc
  case makeFunc f first caps =>
    cases f
    case func f =>
      simp only [evalOp, evP, Option.some.injEq, Prod.mk.injEq] at h
      obtain ⟨_, rfl⟩ := h
      have hl : ∀ (xs : Array Operand), (xs.map a.eval).size = (xs.toList.map (opd E sl)).length ∧ ∀ (i : Nat) (pv : PV) (v : Value), (xs.toList.map (opd E sl))[i]? = some pv → (xs.map a.eval)[i]? = some v → Rep (Used σ μ) μ w pv v := by
        intro xs
        refine ⟨by simp, fun i pv v hp hv => ?_⟩
        simp only [List.getElem?_map, Array.getElem?_map, Option.map_eq_some_iff, Array.getElem?_toList] at hp hv
        obtain ⟨x, hx, rfl⟩ := hp
        obtain ⟨y, hy, rfl⟩ := hv
        rw [hx] at hy; cases hy
        exact ho _
      exact does_val S (.fn f _ _ _ _ (hl first).1 (hl caps).1 (hl first).2 (hl caps).2) rfl
    all_goals cases h
  case slice t x lo hi mx =>
    obtain ⟨l1, l2⟩ := opt_rep (E := E) ho lo
    obtain ⟨h1, h2⟩ := opt_rep (E := E) ho hi
    obtain ⟨m1, m2⟩ := opt_rep (E := E) ho mx
    exact slice_sim S (ho x) l1 l2 h1 h2 m1 m2 h hc
  case fieldAddr t x f => exact fieldAddr_sim S (ho x) h
  case field t x f => exact field_sim S (ho x) h hc
  case indexAddr t x i => exact indexAddr_sim S (ho x) (ho i) h hc
  case index t x i => exact index_sim S (ho x) (ho i) h hc
  case extract x i =>
    simp only [evalOp] at h
    have hx := ho x
    split at h
    · rename_i e
      rw [e] at hx
      split at h
      · rename_i v hv
        cases h
        generalize hav : a.eval x = av at hx
        cases hx with
        | tup _ vs hl hr =>
        have hlt : i < vs.size := by rw [hl]; exact (List.getElem?_eq_some_iff.1 hv).1
        exact does_val S (hr i _ _ hv (Array.getElem?_eq_getElem hlt)) (by simp [execOp, hav, Instr.extract, Array.getElem?_eq_getElem hlt])
      · cases h
    · cases h
  case makeMap t r =>
    obtain ⟨r1, r2⟩ := opt_rep (E := E) ho r
    exact makeMap_sim S hk r1 r2 h
  case makeSlice t l c => exact makeSlice_sim S hk (ho l) (ho c) h hc
  case lookup t m k ok => exact lookup_sim S (ho m) (ho k) h
  case mapUpdate t m k x => exact mapUpdate_sim S (ho m) (ho k) (ho x) h
  case insert t m k x => exact mapUpdate_sim S (ho m) (ho k) (ho x) h
  case mapEntry t m k => exact mapEntry_sim S (ho m) (ho k) h
  case entryStore t m s x => exact entryStore_sim (t := t) S (ho m) (ho s) (ho x) h hc
  case makeInterface t x =>
    simp only [evalOp] at h
    split at h
    · cases h
    rename_i hn
    cases h
    exact makeInterface_sim S (ho x) (fun e => hn (.inl e)) (by cases hi : tiface E.P t; rfl; exact (hn (.inr hi)).elim)
  case call cl =>
    obtain ⟨callee, args, argTypes⟩ := cl
    cases callee
    case builtin b =>
      simp only [evalOp] at h
      obtain ⟨args⟩ := args
      obtain ⟨cst, hrun⟩ : ∃ cst, ((execOp a.eval ⟨dst, .call ⟨.builtin b, ⟨args⟩, argTypes⟩, type, pos, after, guard⟩).run E.P w) = (builtin b argTypes type cst (args.map a.eval).toArray).run E.P w :=
        ⟨_, by simp only [execOp, resolve, invoke, Sem.run_bind, Sem.run_pure, Result.andThen_ok, List.map_toArray]; rfl⟩
      rw [hrun]
      cases b <;> simp only [evBuiltin, reduceCtorEq] at h
      · -- append
        match args, h with
        | [x, y], h =>
          simp only [List.map_cons, List.map_nil] at h
          split at h
          · rename_i t u h0 h1
            split at h
            · split at h
              · cases h
              rename_i hu
              exact appZeros_sim S hk (ho x) (ho y) h hc hu type argTypes h0 h1
            rename_i hu
            exact append_sim S hk (ho x) (ho y) h hc hu type argTypes h0 h1
          · cases h
        | [], h => cases h
        | [_], h => cases h
        | _ :: _ :: _ :: _, h => cases h
      · -- cap
        match args, h with
        | [x], h =>
          simp only [List.map_cons, List.map_nil] at h
          split at h
          · rename_i t h0
            exact cap_sim S (ho x) h type argTypes h0
          · cases h
        | [], h => cases h
        | _ :: _ :: _, h => cases h
      · -- clear
        match args, h with
        | [x], h =>
          simp only [List.map_cons, List.map_nil] at h
          split at h
          · rename_i t h0
            exact clear_sim S (ho x) h hc type argTypes h0
          · cases h
        | [], h => cases h
        | _ :: _ :: _, h => cases h
      · -- copy
        match args, h with
        | [x, y], h =>
          simp only [List.map_cons, List.map_nil] at h
          split at h
          · rename_i t u h0 h1
            split at h
            · cases h
            exact copy_sim (u := u) S (ho x) (ho y) h hc type argTypes h0
          · cases h
        | [], h => cases h
        | [_], h => cases h
        | _ :: _ :: _ :: _, h => cases h
      · -- len
        match args, h with
        | [x], h => exact len_sim S (ho x) h
        | [], h => cases h
        | _ :: _ :: _, h => cases h
      all_goals
        match args, h with
        | [x, y], h =>
          simp only [List.map_cons, List.map_nil] at h
          have hx := ho x
          have hy := ho y
          simp only [List.map_cons, List.map_nil]
          revert h hx hy
          generalize opd E sl x = px
          generalize opd E sl y = py
          generalize a.eval x = vx
          generalize a.eval y = vy
          intro h hx hy
          cases hx <;> try (cases h; done)
          cases hy <;> try (cases h; done)
          simp only at h
          split at h
          · rename_i hkk
            subst hkk
            cases h
            exact does_val S (.int _ _) rfl
          · cases h
        | [], h => simp at h
        | [_], h => simp at h
        | _ :: _ :: _ :: _, h => simp at h
    all_goals cases h
  all_goals cases h
end
end Go.Proofs.YtdajoilaakiinaaGreatDoor.Awp
