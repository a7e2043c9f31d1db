/-
  A verification-condition calculus over the model's code, for every program: 'vcCode' steps through a slim copy of a function's code by plain evaluation; 'fn_sound' says that what it asks is enough for 'Calls'. No program in sight.
-/
import Derived.Calls
import Derived.Orders
import Derived.OrdersHeld
import Derived.Tactics
import Derived.Scope
import Derived.Below
import Derived.KernelRfl
namespace Fb
open Go

/-! ### Environments: which slots hold what. 't', 'f': a Bool that is known. -/
inductive Sv where
  | v (x : Value)
  | t
  | f

def Sv.val : Sv → Value
  | .v x => x
  | .t => .bool true
  | .f => .bool false

abbrev Env := List (Nat × Sv)

def Env.find : Env → Nat → Option Sv
  | [], _ => none
  | (i, s) :: L, j => bif Nat.beq i j then some s else Env.find L j

structure Agr (tmps : Array Value) (n : Nat) (L : Env) : Prop where
  size : tmps.size = n
  has : ∀ j s, Env.find L j = some s → tmps[j]? = some s.val

theorem Agr.put {tmps : Array Value} {n : Nat} {L : Env} (h : Agr tmps n L) (d : Nat) (s : Sv) (hd : d < n) : Agr (tmps.setIfInBounds d s.val) n ((d, s) :: L) := by
  refine ⟨by simp [h.size], fun j s' hj => ?_⟩
  have hd' : d < tmps.size := by rw [h.size]; exact hd
  simp only [Env.find] at hj
  by_cases e : d = j
  · subst e
    simp only [Nat.beq_refl, cond_true, Option.some.injEq] at hj
    subst hj
    simp [hd']
  · have hb : Nat.beq d j = false := by
      cases hb : Nat.beq d j with
      | true => exact absurd (Nat.eq_of_beq_eq_true hb) e
      | false => rfl
    rw [hb, cond_false] at hj
    rw [Array.getElem?_setIfInBounds_ne (by exact e)]
    exact h.has j s' hj

/-- A slot that is written with what nobody knows. -/
def Env.drop : Env → Nat → (Env → Prop) → Prop
  | [], _, K => K []
  | (i, s) :: L, d, K => bif Nat.beq i d then Env.drop L d K else Env.drop L d (fun L' => K ((i, s) :: L'))

/-- Only what is named. -/
def mem (j : Nat) : List Nat → Bool
  | [] => false
  | i :: l => bif Nat.beq i j then true else mem j l

def Env.keep : Env → List Nat → (Env → Prop) → Prop
  | [], _, K => K []
  | (i, s) :: L, l, K => bif mem i l then Env.keep L l (fun L' => K ((i, s) :: L')) else Env.keep L l K

/-- All but what is named. -/
def Env.lose : Env → List Nat → (Env → Prop) → Prop
  | [], _, K => K []
  | (i, s) :: L, l, K => bif mem i l then Env.lose L l K else Env.lose L l (fun L' => K ((i, s) :: L'))

/-- 'L'' says no more than 'L'. -/
def Sub (L' L : Env) : Prop := ∀ j s, Env.find L' j = some s → Env.find L j = some s

theorem Sub.agr {tmps : Array Value} {n : Nat} {L L' : Env} (h : Sub L' L) (ha : Agr tmps n L) : Agr tmps n L' := ⟨ha.size, fun j s hj => ha.has j s (h j s hj)⟩

theorem mem_iff (j : Nat) : ∀ l, mem j l = true ↔ j ∈ l
  | [] => by simp [mem]
  | i :: l => by
    simp only [mem, List.mem_cons]
    by_cases e : i = j
    · subst e; simp
    · have hb : Nat.beq i j = false := by
        cases hb : Nat.beq i j with
        | true => exact absurd (Nat.eq_of_beq_eq_true hb) e
        | false => rfl
      rw [hb, cond_false, mem_iff j l]
      constructor
      · exact .inr
      · rintro (h | h)
        · exact absurd h.symm e
        · exact h

theorem find_cons_ne {i j : Nat} {s : Sv} {L : Env} (e : i ≠ j) : Env.find ((i, s) :: L) j = Env.find L j := by
  have hb : Nat.beq i j = false := by
    cases hb : Nat.beq i j with
    | true => exact absurd (Nat.eq_of_beq_eq_true hb) e
    | false => rfl
  simp [Env.find, hb]

theorem find_cons_eq {i : Nat} {s : Sv} {L : Env} : Env.find ((i, s) :: L) i = some s := by simp [Env.find]

/-- The filter that 'drop', 'keep', 'lose' make. -/
theorem Env.drop_spec : ∀ (L : Env) (d : Nat) (K : Env → Prop), Env.drop L d K → ∃ L', K L' ∧ ∀ j, Env.find L' j = if j = d then none else Env.find L j
  | [], _, K, h => ⟨[], h, by simp [Env.find]⟩
  | (i, s) :: L, d, K, h => by
    simp only [Env.drop] at h
    cases hb : Nat.beq i d with
    | true =>
      rw [hb, cond_true] at h
      have e := Nat.eq_of_beq_eq_true hb
      subst e
      obtain ⟨L', hk, hf⟩ := Env.drop_spec L i K h
      refine ⟨L', hk, fun j => ?_⟩
      rw [hf]
      split
      · rfl
      · rename_i hne; rw [find_cons_ne (Ne.symm hne)]
    | false =>
      rw [hb, cond_false] at h
      obtain ⟨L', hk, hf⟩ := Env.drop_spec L d _ h
      refine ⟨_, hk, fun j => ?_⟩
      by_cases e : i = j
      · subst e
        rw [find_cons_eq, find_cons_eq]
        have : i ≠ d := fun e => by rw [e] at hb; simp at hb
        simp [this]
      · rw [find_cons_ne e, find_cons_ne e, hf]

theorem Env.keep_spec : ∀ (L : Env) (l : List Nat) (K : Env → Prop), Env.keep L l K → ∃ L', K L' ∧ ∀ j, Env.find L' j = if mem j l then Env.find L j else none
  | [], _, K, h => ⟨[], h, by simp [Env.find]⟩
  | (i, s) :: L, l, K, h => by
    simp only [Env.keep] at h
    cases hb : mem i l with
    | false =>
      rw [hb, cond_false] at h
      obtain ⟨L', hk, hf⟩ := Env.keep_spec L l K h
      refine ⟨L', hk, fun j => ?_⟩
      rw [hf]
      by_cases e : i = j
      · subst e; simp [hb]
      · rw [find_cons_ne e]
    | true =>
      rw [hb, cond_true] at h
      obtain ⟨L', hk, hf⟩ := Env.keep_spec L l _ h
      refine ⟨_, hk, fun j => ?_⟩
      by_cases e : i = j
      · subst e; rw [find_cons_eq, find_cons_eq]; simp [hb]
      · rw [find_cons_ne e, find_cons_ne e, hf]

theorem Env.lose_spec : ∀ (L : Env) (l : List Nat) (K : Env → Prop), Env.lose L l K → ∃ L', K L' ∧ ∀ j, Env.find L' j = if mem j l then none else Env.find L j
  | [], _, K, h => ⟨[], h, by simp [Env.find]⟩
  | (i, s) :: L, l, K, h => by
    simp only [Env.lose] at h
    cases hb : mem i l with
    | true =>
      rw [hb, cond_true] at h
      obtain ⟨L', hk, hf⟩ := Env.lose_spec L l K h
      refine ⟨L', hk, fun j => ?_⟩
      rw [hf]
      by_cases e : i = j
      · subst e; simp [hb]
      · rw [find_cons_ne e]
    | false =>
      rw [hb, cond_false] at h
      obtain ⟨L', hk, hf⟩ := Env.lose_spec L l _ h
      refine ⟨_, hk, fun j => ?_⟩
      by_cases e : i = j
      · subst e; rw [find_cons_eq, find_cons_eq]; simp [hb]
      · rw [find_cons_ne e, find_cons_ne e, hf]

theorem Env.drop_agr {tmps : Array Value} {n : Nat} {L : Env} {d : Nat} {K : Env → Prop} (h : Env.drop L d K) (ha : Agr tmps n L) (u : Value) : ∃ L', K L' ∧ Agr (tmps.setIfInBounds d u) n L' := by
  obtain ⟨L', hk, hf⟩ := Env.drop_spec L d K h
  refine ⟨L', hk, by simp [ha.size], fun j s hj => ?_⟩
  rw [hf] at hj
  split at hj
  · cases hj
  · rename_i hne
    rw [Array.getElem?_setIfInBounds_ne (by exact Ne.symm hne)]
    exact ha.has j s hj

theorem Env.keep_agr {tmps : Array Value} {n : Nat} {L : Env} {l : List Nat} {K : Env → Prop} (h : Env.keep L l K) (ha : Agr tmps n L) : ∃ L', K L' ∧ Agr tmps n L' := by
  obtain ⟨L', hk, hf⟩ := Env.keep_spec L l K h
  refine ⟨L', hk, ha.size, fun j s hj => ?_⟩
  rw [hf] at hj
  split at hj
  · exact ha.has j s hj
  · cases hj

/-! ### Reading operands -/
def rdS (L : Env) (x : Operand) (K : Sv → Prop) : Prop :=
  match x with
  | .const (.bool true) => K .t
  | .const (.bool false) => K .f
  | .const v => K (.v v)
  | .tmp t => match Env.find L t with
    | some s => K s
    | none => False
  | .global g => K (.v (.pointer (some ⟨g, 0, none⟩)))
  | .func f => K (.v (.func (.func f) #[] #[]))

def rd (L : Env) (x : Operand) (K : Value → Prop) : Prop :=
  match x with
  | .const v => K v
  | .tmp t => match Env.find L t with
    | some (.v u) => K u
    | some .t => K (.bool true)
    | some .f => K (.bool false)
    | none => False
  | .global g => K (.pointer (some ⟨g, 0, none⟩))
  | .func f => K (.func (.func f) #[] #[])

def rds (L : Env) : List Operand → (List Value → Prop) → Prop
  | [], K => K []
  | x :: xs, K => rd L x fun v => rds L xs fun vs => K (v :: vs)

theorem rdS_sound {a : Act} {n : Nat} {L : Env} {x : Operand} {K : Sv → Prop} (h : rdS L x K) (ha : Agr a.tmps n L) : ∃ s, K s ∧ a.eval x = s.val := by
  unfold rdS at h
  split at h
  · exact ⟨_, h, rfl⟩
  · exact ⟨_, h, rfl⟩
  · exact ⟨_, h, rfl⟩
  · rename_i t
    split at h
    · rename_i s hs
      refine ⟨s, h, ?_⟩
      have := ha.has _ _ hs
      simp [Act.eval, Array.getD_eq_getD_getElem?, this]
    · exact h.elim
  · exact ⟨_, h, rfl⟩
  · exact ⟨_, h, rfl⟩

theorem rd_sound {a : Act} {n : Nat} {L : Env} {x : Operand} {K : Value → Prop} (h : rd L x K) (ha : Agr a.tmps n L) : K (a.eval x) := by
  unfold rd at h
  split at h
  · exact h
  · rename_i t
    have key : ∀ s, Env.find L t = some s → a.eval (.tmp t) = s.val := fun s hs => by
      have := ha.has _ _ hs
      simp [Act.eval, Array.getD_eq_getD_getElem?, this]
    split at h
    · rename_i u hs; rw [key _ hs]; exact h
    · rename_i hs; rw [key _ hs]; exact h
    · rename_i hs; rw [key _ hs]; exact h
    · exact h.elim
  · exact h
  · exact h

theorem rds_sound {a : Act} {n : Nat} {L : Env} (ha : Agr a.tmps n L) : ∀ (xs : List Operand) (K : List Value → Prop), rds L xs K → K (xs.map a.eval)
  | [], _, h => h
  | x :: xs, _, h => rds_sound ha xs _ (rd_sound (x := x) h ha)

/-! ### What is asked -/
/-- A sum that is brought into its kind. -/
structure Wrap (k : IntKind) (e : Int) (K : Int → Prop) : Prop where
  out : K (k.wrap e)
theorem Wrap_eq (k : IntKind) (e : Int) (K : Int → Prop) : Wrap k e K = (K (k.wrap e)) := propext ⟨fun h => h.out, fun h => ⟨h⟩⟩
structure Quo (x y : Int) (K : Int → Prop) : Prop where
  out : K (x.tdiv y)
theorem Quo_eq (x y : Int) (K : Int → Prop) : Quo x y K = (K (x.tdiv y)) := propext ⟨fun h => h.out, fun h => ⟨h⟩⟩
structure Rem (x y : Int) (K : Int → Prop) : Prop where
  out : K (x.tmod y)
theorem Rem_eq (x y : Int) (K : Int → Prop) : Rem x y K = (K (x.tmod y)) := propext ⟨fun h => h.out, fun h => ⟨h⟩⟩
structure Shl (k : IntKind) (x y : Int) (K : Int → Prop) : Prop where
  out : K (x * 2 ^ (min y.toNat k.bits))
theorem Shl_eq (k : IntKind) (x y : Int) (K : Int → Prop) : Shl k x y K = (K (x * 2 ^ (min y.toNat k.bits))) := propext ⟨fun h => h.out, fun h => ⟨h⟩⟩
structure Shr (k : IntKind) (x y : Int) (K : Int → Prop) : Prop where
  out : K (x.fdiv (2 ^ (min y.toNat k.bits)))
theorem Shr_eq (k : IntKind) (x y : Int) (K : Int → Prop) : Shr k x y K = (K (x.fdiv (2 ^ (min y.toNat k.bits)))) := propext ⟨fun h => h.out, fun h => ⟨h⟩⟩
/-- A test. -/
structure Cond (b : Bool) (X Y : Prop) : Prop where
  out : (b = true → X) ∧ (b = false → Y)
theorem Cond_eq (b : Bool) (X Y : Prop) : Cond b X Y = ((b = true → X) ∧ (b = false → Y)) := propext ⟨fun h => h.out, fun h => ⟨h⟩⟩
/-- A condition without which Go panics. -/
structure Need (p X : Prop) : Prop where
  out : p ∧ X
theorem Need_eq (p X : Prop) : Need p X = (p ∧ X) := propext ⟨fun h => h.out, fun h => ⟨h⟩⟩
structure Both (X Y : Prop) : Prop where
  out : X ∧ Y
theorem Both_eq (X Y : Prop) : Both X Y = (X ∧ Y) := propext ⟨fun h => h.out, fun h => ⟨h⟩⟩
/-- A cell that is read, the same in every world of a class. -/
structure Load (a : Addr) (S : World → Prop) (K : Value → Prop) : Prop where
  out : ∃ v, (∀ w, S w → w.cell? a = some v) ∧ K v
theorem Load_eq (a : Addr) (S : World → Prop) (K : Value → Prop) : Load a S K = (∃ v, (∀ w, S w → w.cell? a = some v) ∧ K v) := propext ⟨fun h => h.out, fun h => ⟨h⟩⟩
/-- Some cells in a row. -/
structure LoadN (a : Addr) (n : Nat) (S : World → Prop) (K : Value → Prop) : Prop where
  out : ∃ vs : List Value, vs.length = n ∧ (∀ w, S w → ∀ i v, vs[i]? = some v → w.cell? (a.add i) = some v) ∧ K (.agg ⟨vs⟩)
theorem LoadN_eq (a : Addr) (n : Nat) (S : World → Prop) (K : Value → Prop) : LoadN a n S K = (∃ vs : List Value, vs.length = n ∧ (∀ w, S w → ∀ i v, vs[i]? = some v → w.cell? (a.add i) = some v) ∧ K (.agg ⟨vs⟩)) := propext ⟨fun h => h.out, fun h => ⟨h⟩⟩
/-- What an operation that only reads gives, the same in every world of a class. -/
structure Get {α : Type} (P : Program) (s : Sem α) (S : World → Prop) (K : α → Prop) : Prop where
  out : ∃ v, (∀ w, S w → s.run P w = .ok v w) ∧ K v
theorem Get_eq {α : Type} (P : Program) (s : Sem α) (S : World → Prop) (K : α → Prop) : Get P s S K = (∃ v, (∀ w, S w → s.run P w = .ok v w) ∧ K v) := propext ⟨fun h => h.out, fun h => ⟨h⟩⟩
/-- What an operation gives and does. -/
structure Run {α : Type} (P : Program) (s : Sem α) (w : World) (K : α → World → Prop) : Prop where
  out : ∃ v w', s.run P w = .ok v w' ∧ K v w'
theorem Run_eq {α : Type} (P : Program) (s : Sem α) (w : World) (K : α → World → Prop) : Run P s w K = (∃ v w', s.run P w = .ok v w' ∧ K v w') := propext ⟨fun h => h.out, fun h => ⟨h⟩⟩
/-- A cell that is written. -/
structure Store (a : Addr) (v : Value) (w : World) (K : World → Prop) : Prop where
  out : (w.cell? a).isSome = true ∧ w.frozen? a = false ∧ v.oneCell' = true ∧ K (w.setCell a v)
theorem Store_eq (a : Addr) (v : Value) (w : World) (K : World → Prop) : Store a v w K = ((w.cell? a).isSome = true ∧ w.frozen? a = false ∧ v.oneCell' = true ∧ K (w.setCell a v)) := propext ⟨fun h => h.out, fun h => ⟨h⟩⟩
/-- A call of a function. -/
structure Cal (P : Program) (f : FuncId) (args : Array Value) (w : World) (R : Value → World → Prop) : Prop where
  out : Calls P f args w fun e w' => ∃ v, e = .returned v ∧ R v w'
theorem Cal_eq (P : Program) (f : FuncId) (args : Array Value) (w : World) (R : Value → World → Prop) : Cal P f args w R = (Calls P f args w fun e w' => ∃ v, e = .returned v ∧ R v w') := propext ⟨fun h => h.out, fun h => ⟨h⟩⟩
/-- A loop. -/
structure LoopP (vs : List Value) (w : World) (B : List Value → World → (List Value → World → Prop) → Prop) : Prop where
  out : ∃ (I : List Value → World → Prop) (μ : List Value → World → Nat), I vs w ∧ ∀ vs w, I vs w → B vs w (fun vs' w' => I vs' w' ∧ μ vs' w' < μ vs w)
theorem LoopP_eq (vs : List Value) (w : World) (B : List Value → World → (List Value → World → Prop) → Prop) : LoopP vs w B = (∃ (I : List Value → World → Prop) (μ : List Value → World → Nat), I vs w ∧ ∀ vs w, I vs w → B vs w (fun vs' w' => I vs' w' ∧ μ vs' w' < μ vs w)) := propext ⟨fun h => h.out, fun h => ⟨h⟩⟩
/-- A region whose order is drawn. -/
structure Draw (w : World) (B : (World → Prop) → World → Prop) : Prop where
  out : ∃ S : World → Prop, S w.drew ∧ B S w.drew
theorem Draw_eq (w : World) (B : (World → Prop) → World → Prop) : Draw w B = (∃ S : World → Prop, S w.drew ∧ B S w.drew) := propext ⟨fun h => h.out, fun h => ⟨h⟩⟩


/-- A new block of cells. -/
structure New (cells : List Value) (elem : TypeId) (w : World) (K : Nat → World → Prop) : Prop where
  out : K w.heap.size (w.alloc (.cells ⟨cells⟩ elem))
theorem New_eq (cells : List Value) (elem : TypeId) (w : World) (K : Nat → World → Prop) : New cells elem w K = (K w.heap.size (w.alloc (.cells ⟨cells⟩ elem))) := propext ⟨fun h => h.out, fun h => ⟨h⟩⟩
/-- Cells that are written, one behind the other. -/
def StoreFrom (a : Addr) : List Value → Nat → World → (World → Prop) → Prop
  | [], _, w, K => K w
  | v :: vs, i, w, K => (w.cell? (a.add i)).isSome = true ∧ w.frozen? (a.add i) = false ∧ v.oneCell' = true ∧ StoreFrom a vs (i + 1) (w.setCell (a.add i) v) K
structure StoreN (a : Addr) (vs : List Value) (w : World) (K : World → Prop) : Prop where
  out : StoreFrom a vs 0 w K
theorem StoreN_eq (a : Addr) (vs : List Value) (w : World) (K : World → Prop) : StoreN a vs w K = (StoreFrom a vs 0 w K) := propext ⟨fun h => h.out, fun h => ⟨h⟩⟩

/-! ### The slim operations -/
/-- Where a cell of a struct comes from. -/
inductive Src where
  | zero (v : Value)
  | op (x : Operand)
  | cell (x : Operand) (j : Nat)

/-- An operation that is neither plain nor a call: by its own meaning. -/
inductive G where
  | bi (b : Builtin) (ats : Array TypeId) (ty : TypeId)
  | lookup (t : TypeId) (ok : Bool)
  | mapUpdate (t : TypeId)
  | mapEntry (t : TypeId)
  | entryStore (t : TypeId)
  | makeSlice (t : TypeId)
  | makeMap (t : TypeId)
  | range (t : TypeId)
  | next (isString : Bool) (t : TypeId)
  | conv (src dst : TypeId)
  | eq (op : BinOp) (t : TypeId) (x y : Operand)
  | build (t : TypeId) (places : List Nat)
  | buildSlice (t : TypeId) (len : Nat) (places : List Nat)
  | typeAssert (t asserted : TypeId) (ok : Bool)
  | slice (t : TypeId) (lo hi mx : Bool)
  | index (t : TypeId)
  | field (t : TypeId) (f : Nat)

def unitly (s : Sem Unit) : Sem Value := do s; pure undef

def G.sem : G → List Value → Sem Value
  | .bi .append ats ty, args => Builtin.append_ ats ty ⟨args⟩
  | .bi .copy ats ty, args => Builtin.copy_ ats ty ⟨args⟩
  | .bi .delete ats ty, args => Builtin.delete_ ats ty ⟨args⟩
  | .bi .len ats ty, args => Builtin.len_ ats ty ⟨args⟩
  | .bi .cap ats ty, args => Builtin.cap_ ats ty ⟨args⟩
  | .bi .min ats ty, args => Builtin.min_ ats ty ⟨args⟩
  | .bi .max ats ty, args => Builtin.max_ ats ty ⟨args⟩
  | .bi .clear ats ty, args => Builtin.clear_ ats ty ⟨args⟩
  | .lookup t ok, [x, i] => Instr.lookup t x i ok
  | .mapUpdate t, [m, k, v] => unitly (Instr.mapUpdate t m k v)
  | .mapEntry t, [m, k] => Instr.mapEntry t m k
  | .entryStore t, [m, s, v] => unitly (Instr.entryStore t m s v)
  | .makeSlice t, [l, c] => Instr.makeSlice t l c
  | .makeMap t, [] => Instr.makeMap t none
  | .makeMap t, [r] => Instr.makeMap t (some r)
  | .range t, [x] => Instr.range t x
  | .next s t, [x] => Instr.next x s t
  | .conv s d, [x] => convert s d x
  | .eq op t x y, [a, b] => do eqGuard op t x y a b; binOp op t a b
  | .build t ps, vs => Instr.build t ⟨ps.zip vs⟩
  | .buildSlice t n ps, vs => Instr.buildSlice t n ⟨ps.zip vs⟩
  | .typeAssert t a ok, [x] => Instr.typeAssert x t a ok
  | .slice t lo hi mx, x :: vs => match lo, hi, mx, vs with
    | true, true, true, [l, h, m] => Instr.sliceAt t x (some l) (some h) (some m)
    | true, true, false, [l, h] => Instr.sliceAt t x (some l) (some h) none
    | true, false, false, [l] => Instr.sliceAt t x (some l) none none
    | false, true, true, [h, m] => Instr.sliceAt t x none (some h) (some m)
    | false, true, false, [h] => Instr.sliceAt t x none (some h) none
    | false, false, false, [] => Instr.sliceAt t x none none none
    | _, _, _, _ => stuck ""
  | .index t, [x, i] => Instr.index t x i
  | .field t f, [x] => Instr.field t x f
  | _, _ => stuck ""

/-- Does a slim operation leave the world alone? -/
inductive SO where
  -- these only compute or read
  | mv (x : Operand)
  | pick (c a b : Operand)
  | ibin (op : BinOp) (k : IntKind) (x y : Operand)
  | sbin (op : BinOp) (x y : Operand)
  | bbin (ne : Bool) (x y : Operand)
  | isnil (kind : Nat) (ne : Bool) (x : Operand)
  | notB (x : Operand)
  | neg (k : IntKind) (x : Operand)
  | conv (k : IntKind) (x : Operand)
  | lenA (x : Operand)
  | lenS (x : Operand)
  | mm (mx : Bool) (k : IntKind) (x y : Operand)
  | fad (off : Nat) (x : Operand)
  | fld (off : Nat) (x : Operand)
  | flds (off n : Nat) (x : Operand)
  | ixA (size : Nat) (x i : Operand)
  | ixP (len size : Nat) (x i : Operand)
  | ixS (x i : Operand)
  | ld (x : Operand)
  | ldn (n : Nat) (x : Operand)
  | nck (x : Operand)
  | ext (x : Operand) (i : Nat)
  | mkf (fn : Go.Fn) (first captured : List Operand)
  | mki (t : TypeId) (x : Operand)
  | slc (size : Nat) (x : Operand) (lo hi : Option Operand)
  | sls (x : Operand) (lo hi : Option Operand)
  | asrt (t : TypeId) (zero : Value) (x : Operand)
  | bld (zero : List Value) (places : List (Nat × Nat)) (args : List Operand)
  | get (g : G) (args : List Operand)
  -- these may do more
  | new (zero : List Value) (elem : TypeId)
  | box (elem : TypeId) (x : Operand)
  | bsl (elem : TypeId) (len : Nat) (zero : List Value) (places : List (Nat × Nat)) (args : List Operand)
  | st (x v : Operand)
  | stn (n : Nat) (x v : Operand)
  | run (g : G) (args : List Operand)
  | call (f : FuncId) (args : List Operand)
  | callv (x : Operand) (args : List Operand)
  | calli (x : Operand) (name : String) (args : List Operand)

def SO.quiet : SO → Bool
  | .new .. | .box .. | .bsl .. | .st .. | .stn .. | .run .. | .call .. | .callv .. | .calli .. => false
  | _ => true

/-- Does a slim operation look into memory? -/
def SO.reads : SO → Bool
  | .ld .. | .ldn .. | .get .. => true
  | o => !o.quiet

def IntKind.num : IntKind → Nat
  | .i8 => 0 | .i16 => 1 | .i32 => 2 | .i64 => 3 | .u8 => 4 | .u16 => 5 | .u32 => 6 | .u64 => 7
def IntKind.same (j k : IntKind) : Bool := Nat.beq (IntKind.num j) (IntKind.num k)
theorem IntKind.eq_of_same {j k : IntKind} (h : IntKind.same j k = true) : j = k := by
  cases j <;> cases k <;> first | rfl | (simp [IntKind.same, IntKind.num, Nat.beq] at h)

def rdI (L : Env) (k : IntKind) (x : Operand) (K : Int → Prop) : Prop :=
  rd L x fun v => match v with
    | .int j n => bif IntKind.same j k then K n else False
    | _ => False
/-- An integer of whatever kind. -/
def rdZ (L : Env) (x : Operand) (K : Int → Prop) : Prop :=
  rd L x fun v => match v with
    | .int _ n => K n
    | _ => False

theorem rdI_sound {a : Act} {n : Nat} {L : Env} {k : IntKind} {x : Operand} {K : Int → Prop} (h : rdI L k x K) (ha : Agr a.tmps n L) : ∃ z, a.eval x = .int k z ∧ K z := by
  have h' := rd_sound h ha
  split at h'
  · rename_i j z hv
    cases hs : IntKind.same j k with
    | false => rw [hs] at h'; exact h'.elim
    | true => rw [hs] at h'; have e := IntKind.eq_of_same hs; subst e; exact ⟨z, hv, h'⟩
  · exact h'.elim
theorem rdZ_sound {a : Act} {n : Nat} {L : Env} {x : Operand} {K : Int → Prop} (h : rdZ L x K) (ha : Agr a.tmps n L) : ∃ k z, a.eval x = .int k z ∧ K z := by
  have h' := rd_sound h ha
  split at h'
  · rename_i j z hv; exact ⟨j, z, hv, h'⟩
  · exact h'.elim

/-- What two bits make. -/
def bitsOf (op : BinOp) (k : IntKind) (x y : Int) : Int :=
  k.wrap (match op with
    | .and => BitVec.ofInt k.bits x &&& BitVec.ofInt k.bits y
    | .or => BitVec.ofInt k.bits x ||| BitVec.ofInt k.bits y
    | .xor => BitVec.ofInt k.bits x ^^^ BitVec.ofInt k.bits y
    | _ => BitVec.ofInt k.bits x &&& ~~~(BitVec.ofInt k.bits y)).toNat

structure Bits (op : BinOp) (k : IntKind) (x y : Int) (K : Int → Prop) : Prop where
  out : K (bitsOf op k x y)
theorem Bits_eq (op : BinOp) (k : IntKind) (x y : Int) (K : Int → Prop) : Bits op k x y K = (K (bitsOf op k x y)) := propext ⟨fun h => h.out, fun h => ⟨h⟩⟩

def ibinV (op : BinOp) (k : IntKind) (x y : Int) (K : Sv → Prop) : Prop :=
  match op with
  | .add => Wrap k (x + y) fun z => K (.v (.int k z))
  | .sub => Wrap k (x - y) fun z => K (.v (.int k z))
  | .mul => Wrap k (x * y) fun z => K (.v (.int k z))
  | .quo => Need (y ≠ 0) (Quo x y fun q => Wrap k q fun z => K (.v (.int k z)))
  | .rem => Need (y ≠ 0) (Rem x y fun z => K (.v (.int k z)))
  | .and => Bits .and k x y fun z => K (.v (.int k z))
  | .or => Bits .or k x y fun z => K (.v (.int k z))
  | .xor => Bits .xor k x y fun z => K (.v (.int k z))
  | .andNot => Bits .andNot k x y fun z => K (.v (.int k z))
  | .shl => Need (0 ≤ y) (Shl k x y fun e => Wrap k e fun z => K (.v (.int k z)))
  | .shr => Need (0 ≤ y) (Shr k x y fun z => K (.v (.int k z)))
  | .eql => K (.v (.bool (x == y)))
  | .neq => K (.v (.bool (x != y)))
  | .lss => K (.v (.bool (decide (x < y))))
  | .leq => K (.v (.bool (decide (x ≤ y))))
  | .gtr => K (.v (.bool (decide (x > y))))
  | .geq => K (.v (.bool (decide (x ≥ y))))

def sbinV (op : BinOp) (x y : ByteArray) (K : Sv → Prop) : Prop :=
  match op with
  | .add => Need (x.size + y.size ≤ 9223372036854775807) (K (.v (.string (x ++ y))))
  | .eql => K (.v (.bool (x.toList == y.toList)))
  | .neq => K (.v (.bool !(x.toList == y.toList)))
  | .lss => K (.v (.bool (Op.bytesLess x.toList y.toList)))
  | .leq => K (.v (.bool (Op.bytesLess x.toList y.toList || x.toList == y.toList)))
  | .gtr => K (.v (.bool !(Op.bytesLess x.toList y.toList || x.toList == y.toList)))
  | .geq => K (.v (.bool !Op.bytesLess x.toList y.toList))
  | _ => False

/-- A known Bool as such. -/
def Sv.ofB : Bool → Sv
  | true => .t
  | false => .f

/-- Where a slice's array lies. -/
def blk : Option Addr → Nat
  | some a => a.block
  | none => 0
def ofs : Option Addr → Nat
  | some a => a.off
  | none => 0
def plainA (a : Option Addr) : Prop := a = some ⟨blk a, ofs a, none⟩

/-- 'nilAhead' says no. -/
structure NilNo (P : Program) (t : TypeId) (v : Value) (name : String) (X : Prop) : Prop where
  out : (∀ w, (nilAhead (P.types.size + Made.depth) t v name).run P w = .ok (some false) w) ∧ X
theorem NilNo_eq (P : Program) (t : TypeId) (v : Value) (name : String) (X : Prop) : NilNo P t v name X = ((∀ w, (nilAhead (P.types.size + Made.depth) t v name).run P w = .ok (some false) w) ∧ X) := propext ⟨fun h => h.out, fun h => ⟨h⟩⟩
/-- The byte of a string. -/
structure ByteAt (s : ByteArray) (i : Int) (K : Int → Prop) : Prop where
  out : ∃ b : UInt8, 0 ≤ i ∧ s[i.toNat]? = some b ∧ K b.toNat
theorem ByteAt_eq (s : ByteArray) (i : Int) (K : Int → Prop) : ByteAt s i K = (∃ b : UInt8, 0 ≤ i ∧ s[i.toNat]? = some b ∧ K b.toNat) := propext ⟨fun h => h.out, fun h => ⟨h⟩⟩

/-- A slice's part. -/
def slcA (a : Option Addr) (cap l size : Nat) : Option Addr := if cap = l then a else a.map (·.add (l * size))
def slcV (size : Nat) (L : Env) (lo hi : Option Operand) (x : Value) (K : Sv → Prop) : Prop :=
  match x with
  | .slice a len cap => match lo, hi with
    | none, none => K (.v (.slice a len cap))
    | none, some h => rdZ L h fun h => Need (0 ≤ h ∧ h ≤ (cap : Int)) (K (.v (.slice a h.toNat cap)))
    | some l, none => rdZ L l fun l => Need (0 ≤ l ∧ l ≤ (len : Int)) (K (.v (.slice (slcA a cap l.toNat size) (len - l.toNat) (cap - l.toNat))))
    | some l, some h => rdZ L l fun l => rdZ L h fun h => Need (0 ≤ l ∧ l ≤ h ∧ h ≤ (cap : Int)) (K (.v (.slice (slcA a cap l.toNat size) (h.toNat - l.toNat) (cap - l.toNat))))
  | _ => False
def slsV (L : Env) (lo hi : Option Operand) (x : Value) (K : Sv → Prop) : Prop :=
  match x with
  | .string s => match lo, hi with
    | none, none => K (.v (.string (s.extract 0 s.size)))
    | none, some h => rdZ L h fun h => Need (0 ≤ h ∧ h ≤ (s.size : Int)) (K (.v (.string (s.extract 0 h.toNat))))
    | some l, none => rdZ L l fun l => Need (0 ≤ l ∧ l ≤ (s.size : Int)) (K (.v (.string (s.extract l.toNat s.size))))
    | some l, some h => rdZ L l fun l => rdZ L h fun h => Need (0 ≤ l ∧ l ≤ h ∧ h ≤ (s.size : Int)) (K (.v (.string (s.extract l.toNat h.toNat))))
  | _ => False

def nthL : List Value → Nat → (Value → Prop) → Prop
  | [], _, _ => False
  | v :: _, 0, K => K v
  | _ :: vs, i + 1, K => nthL vs i K
def takeL : List Value → Nat → (List Value → Prop) → Prop
  | _, 0, K => K []
  | v :: vs, n + 1, K => takeL vs n fun l => K (v :: l)
  | [], _ + 1, _ => False
def dropL : List Value → Nat → (List Value → Prop) → Prop
  | vs, 0, K => K vs
  | _ :: vs, n + 1, K => dropL vs n K
  | [], _ + 1, _ => False

/-- The cells of a value. -/
def Value.cellsL : Value → List Value
  | .agg ⟨cs⟩ => cs
  | v => [v]
def setL : List Value → Nat → List Value → List Value
  | cs, _, [] => cs
  | [], _, _ => []
  | _ :: cs, 0, v :: vs => v :: setL cs 0 vs
  | c :: cs, i + 1, vs => c :: setL cs i vs
def forceL : List Value → (List Value → Prop) → Prop
  | [], K => K []
  | v :: vs, K => forceL vs fun l => K (v :: l)
def lenIs : List Value → Nat → Bool
  | [], 0 => true
  | _ :: l, n + 1 => lenIs l n
  | _, _ => false
def hasL : List Value → Nat → Nat → Bool
  | _, 0, 0 => true
  | _ :: l, 0, n + 1 => hasL l 0 n
  | _ :: l, o + 1, n => hasL l o n
  | [], _, _ => false
theorem lenIs_spec : ∀ (l : List Value) (n : Nat), lenIs l n = true → l.length = n
  | [], 0, _ => rfl
  | _ :: l, n + 1, h => by simp [lenIs_spec l n h]
theorem hasL_spec : ∀ (l : List Value) (o n : Nat), hasL l o n = true → o + n ≤ l.length
  | _, 0, 0, _ => by omega
  | _ :: l, 0, n + 1, h => by have := hasL_spec l 0 n h; simp; omega
  | _ :: l, o + 1, n, h => by have := hasL_spec l o n (by cases n <;> exact h); simp; omega
def fillL : List Value → List ((Nat × Nat) × Value) → (List Value → Prop) → Prop
  | cs, [], K => forceL cs K
  | cs, ((off, size), v) :: rest, K => bif lenIs (Value.cellsL v) size then (bif hasL cs off size then fillL (setL cs off (Value.cellsL v)) rest K else False) else False

/-- What a quiet operation gives: in every world of the class 'S'. -/
def yd (P : Program) (S : World → Prop) (L : Env) (o : SO) (K : Sv → Prop) : Prop :=
  match o with
  | .mv x => rdS L x K
  | .pick c a b => rdS L c fun s => match s with
    | .t => rdS L a K
    | .f => rdS L b K
    | .v (.bool q) => Cond q (rdS L a K) (rdS L b K)
    | .v _ => False
  | .ibin op k x y => match op with
    | .shl => rdI L k x fun x => rdZ L y fun y => ibinV .shl k x y K
    | .shr => rdI L k x fun x => rdZ L y fun y => ibinV .shr k x y K
    | op => rdI L k x fun x => rdI L k y fun y => ibinV op k x y K
  | .sbin op x y => rd L x fun x => rd L y fun y => match x, y with
    | .string x, .string y => sbinV op x y K
    | _, _ => False
  | .bbin ne x y => rd L x fun x => rd L y fun y => match x, y with
    | .bool x, .bool y => K (.v (.bool (if ne then !(x == y) else x == y)))
    | _, _ => False
  | .isnil kind ne x => rd L x fun x => match kind, x with
    | 0, .pointer none => K (Sv.ofB (!ne))
    | 0, .pointer (some _) => K (Sv.ofB ne)
    | 1, .slice none _ _ => K (Sv.ofB (!ne))
    | 1, .slice (some _) _ _ => K (Sv.ofB ne)
    | 2, .map none => K (Sv.ofB (!ne))
    | 2, .map (some _) => K (Sv.ofB ne)
    | 3, .nilFunc => K (Sv.ofB (!ne))
    | 3, .func _ _ _ => K (Sv.ofB ne)
    | _, _ => False
  | .notB x => rdS L x fun s => match s with
    | .t => K .f
    | .f => K .t
    | .v (.bool q) => K (.v (.bool (!q)))
    | .v _ => False
  | .neg k x => rdI L k x fun x => Wrap k (0 - x) fun z => K (.v (.int k z))
  | .conv k x => rdZ L x fun x => Wrap k x fun z => K (.v (.int k z))
  | .lenA x => rd L x fun x => match x with
    | .slice _ n _ => K (.v (.int .i64 (n : Int)))
    | _ => False
  | .lenS x => rd L x fun x => match x with
    | .string s => K (.v (.int .i64 (s.size : Int)))
    | _ => False
  | .mm mx k x y => rdI L k x fun x => rdI L k y fun y => K (.v (.int k (bif mx then max x y else min x y)))
  | .fad off x => rd L x fun x => match x with
    | .pointer (some ⟨b, o, none⟩) => K (.v (.pointer (some ⟨b, o + off, none⟩)))
    | _ => False
  | .fld off x => rd L x fun x => match x with
    | .agg ⟨cs⟩ => nthL cs off fun v => K (.v v)
    | _ => False
  | .flds off n x => rd L x fun x => match x with
    | .agg ⟨cs⟩ => dropL cs off fun l => takeL l n fun vs => K (.v (.agg ⟨vs⟩))
    | _ => False
  | .ixA size x i => rd L x fun x => rdZ L i fun i => match x with
    | .slice a len _ => Need (0 ≤ i ∧ i < (len : Int)) (Need (plainA a) (K (.v (.pointer (some ⟨blk a, ofs a + i.toNat * size, none⟩)))))
    | _ => False
  | .ixP len size x i => rd L x fun x => rdZ L i fun i => match x with
    | .pointer (some ⟨b, o, none⟩) => Need (0 ≤ i ∧ i < (len : Int)) (K (.v (.pointer (some ⟨b, o + i.toNat * size, none⟩))))
    | _ => False
  | .ixS x i => rd L x fun x => rdZ L i fun i => match x with
    | .string s => ByteAt s i fun n => K (.v (.int .u8 n))
    | _ => False
  | .ld x => rd L x fun x => match x with
    | .pointer (some a) => Load a S fun v => K (.v v)
    | _ => False
  | .ldn n x => rd L x fun x => match x with
    | .pointer (some a) => LoadN a n S fun v => K (.v v)
    | _ => False
  | .nck x => rd L x fun x => match x with
    | .pointer (some a) => K (.v (.pointer (some a)))
    | .func (.method name) first captured => match first with
      | ⟨[.iface t v]⟩ => NilNo P t v name (K (.v (.func (.method name) ⟨[.iface t v]⟩ captured)))
      | _ => False
    | .func (.func f) first captured => K (.v (.func (.func f) first captured))
    | .iface t v => K (.v (.iface t v))
    | _ => False
  | .ext x i => rd L x fun x => match x with
    | .tuple ⟨vs⟩ => nthL vs i fun v => K (.v v)
    | _ => False
  | .mkf fn first captured => rds L first fun first => rds L captured fun captured => K (.v (.func fn ⟨first⟩ ⟨captured⟩))
  | .mki t x => rd L x fun x => K (.v (.iface t x))
  | .slc size x lo hi => rd L x fun x => slcV size L lo hi x K
  | .sls x lo hi => rd L x fun x => slsV L lo hi x K
  | .asrt t zero x => rd L x fun x => match x with
    | .iface u v => bif Nat.beq u t then K (.v (.tuple ⟨[v, .bool true]⟩)) else K (.v (.tuple ⟨[zero, .bool false]⟩))
    | .nilIface => K (.v (.tuple ⟨[zero, .bool false]⟩))
    | _ => False
  | .bld zero places args => rds L args fun vs => fillL zero (places.zip vs) fun cs => K (.v (.agg ⟨cs⟩))
  | .get g args => rds L args fun vs => Get P (G.sem g vs) S fun v => K (.v v)
  | _ => False

/-- May a function be called by its number? -/
def callable (P : Program) (f : FuncId) : Bool :=
  match P.funcs[f]? with
  | some fn => fn.body.isSome && !(fn.name == "runtime.NumGoroutine")
  | none => false

/-- A call of a function whose number the walk comes to. -/
structure FnV (P : Program) (f : FuncId) (args : Array Value) (w : World) (R : Value → World → Prop) : Prop where
  out : callable P f = true ∧ Cal P f args w R
theorem FnV_eq (P : Program) (f : FuncId) (args : Array Value) (w : World) (R : Value → World → Prop) : FnV P f args w R = (callable P f = true ∧ Cal P f args w R) := propext ⟨fun h => h.out, fun h => ⟨h⟩⟩
/-- A call of a method of an interface value. -/
structure FnI (P : Program) (t : TypeId) (v : Value) (name : String) (args : List Value) (w : World) (R : Value → World → Prop) : Prop where
  out : ∃ f r, (∀ w, (method (P.types.size + Made.depth) t v name).run P w = .ok (f, r) w) ∧ callable P f = true ∧ Cal P f ⟨r :: args⟩ w R
theorem FnI_eq (P : Program) (t : TypeId) (v : Value) (name : String) (args : List Value) (w : World) (R : Value → World → Prop) : FnI P t v name args w R = (∃ f r, (∀ w, (method (P.types.size + Made.depth) t v name).run P w = .ok (f, r) w) ∧ callable P f = true ∧ Cal P f ⟨r :: args⟩ w R) := propext ⟨fun h => h.out, fun h => ⟨h⟩⟩

/-- What an operation gives and does. -/
def vcO (P : Program) (L : Env) (o : SO) (w : World) (K : Sv → World → Prop) : Prop :=
  match o with
  | .new zero elem => New zero elem w fun b w => K (.v (.pointer (some ⟨b, 0, none⟩))) w
  | .box elem x => rd L x fun x => New (Value.cellsL x) elem w fun b w => K (.v (.pointer (some ⟨b, 0, none⟩))) w
  | .bsl elem len zero places args => rds L args fun vs => fillL zero (places.zip vs) fun cs => New cs elem w fun b w => K (.v (.slice (some ⟨b, 0, none⟩) len len)) w
  | .st x v => rd L x fun x => rd L v fun v => match x with
    | .pointer (some a) => Store a v w fun w => K (.v undef) w
    | _ => False
  | .stn n x v => rd L x fun x => rd L v fun v => match x, v with
    | .pointer (some a), .agg ⟨vs⟩ => bif lenIs vs n then StoreN a vs w fun w => K (.v undef) w else False
    | _, _ => False
  | .run g args => rds L args fun vs => Run P (G.sem g vs) w fun v w => K (.v v) w
  | .call f args => rds L args fun vs => Cal P f ⟨vs⟩ w fun v w => K (.v v) w
  | .callv x args => rd L x fun x => rds L args fun vs => match x with
    | .func (.func f) ⟨first⟩ ⟨captured⟩ => FnV P f ⟨first ++ vs ++ captured⟩ w fun v w => K (.v v) w
    | .func (.method name) ⟨[.iface t v]⟩ ⟨[]⟩ => FnI P t v name vs w fun v w => K (.v v) w
    | _ => False
  | .calli x name args => rd L x fun x => rds L args fun vs => match x with
    | .iface t v => FnI P t v name vs w fun v w => K (.v v) w
    | _ => False
  | o => yd P (fun w' => w' = w) L o fun s => K s w


/-! ### Slim code -/
structure St where
  d : Option Nat
  g : Option (Nat × Bool)
  o : SO

/-- In which order a region's operations may be taken. -/
inductive Plan where
  | done
  | take (i : Nat) (s : St) (p : Plan)
  | step (i : Nat) (h : Bool) (s : St) (p : Plan)
  | alt (p q : Plan)

inductive S where
  | skip
  | row (l : List St)
  | draw (p : Plan)
  | seq (a b : S)
  | cond (c : Operand) (a b : S)
  | block (id : Nat) (b : S)
  | loop (names wr : List Nat) (b : S)
  | exit (id : Nat)
  | scope (b : S)
  | ret
  | prune (l : List Nat) (b : S)

def putD (n : Nat) (d : Option Nat) (s : Sv) (L : Env) (K : Env → Prop) : Prop :=
  match d with
  | none => K L
  | some d => bif Nat.ble n d then False else K ((d, s) :: L)

def guardG (L : Env) (g : Option (Nat × Bool)) (Y N : Env → Prop) : Prop :=
  match g with
  | none => Y L
  | some (t, want) => match Env.find L t with
    | some .t => bif want then Y L else N L
    | some .f => bif want then N L else Y L
    | some (.v (.bool b)) => bif want then Cond b (Y ((t, .t) :: L)) (N ((t, .f) :: L)) else Cond b (N ((t, .t) :: L)) (Y ((t, .f) :: L))
    | some (.v (.tuple _)) => N L
    | _ => False

/-- One operation of a row; 'ih': the rest. -/
def rowStep (P : Program) (n : Nat) (s : St) (ih : Env → World → (Env → World → Prop) → Prop) (L : Env) (w : World) (K : Env → World → Prop) : Prop :=
  guardG L s.g (fun L => vcO P L s.o w fun v w => putD n s.d v L fun L => ih L w K) (fun L => putD n s.d (.v undef) L fun L => ih L w K)
-- by the recursor itself: so that the kernel meets what was unfolded as it was unfolded
def vcRow (P : Program) (n : Nat) (l : List St) : Env → World → (Env → World → Prop) → Prop :=
  List.rec (motive := fun _ => Env → World → (Env → World → Prop) → Prop) (fun L w K => K L w) (fun s _ ih => rowStep P n s ih) l
theorem vcRow_cons (P : Program) (n : Nat) (s : St) (r : List St) (L : Env) (w : World) (K : Env → World → Prop) :
    vcRow P n (s :: r) L w K = guardG L s.g (fun L => vcO P L s.o w fun v w => putD n s.d v L fun L => vcRow P n r L w K) (fun L => putD n s.d (.v undef) L fun L => vcRow P n r L w K) := rfl

/-- The class is held. -/
structure Held (p X : Prop) : Prop where
  out : p ∧ X
theorem Held_eq (p X : Prop) : Held p X = (p ∧ X) := propext ⟨fun h => h.out, fun h => ⟨h⟩⟩

def takeStep (P : Program) (n : Nat) (C : World → Prop) (s : St) (ih : Env → World → (Env → World → Prop) → Prop) (L : Env) (w : World) (K : Env → World → Prop) : Prop :=
  guardG L s.g (fun L => yd P C L s.o fun v => putD n s.d v L fun L => ih L w K) (fun L => putD n s.d (.v undef) L fun L => ih L w K)
def stepStep (P : Program) (n : Nat) (C : World → Prop) (h : Bool) (s : St) (ih : Env → World → (Env → World → Prop) → Prop) (L : Env) (w : World) (K : Env → World → Prop) : Prop :=
  guardG L s.g (fun L => vcO P L s.o w fun v w => bif h then Held (C w) (putD n s.d v L fun L => ih L w K) else putD n s.d v L fun L => ih L w K) (fun L => putD n s.d (.v undef) L fun L => ih L w K)
def altStep (ih ih' : Env → World → (Env → World → Prop) → Prop) (L : Env) (w : World) (K : Env → World → Prop) : Prop := Both (ih L w K) (ih' L w K)
def vcPlan (P : Program) (n : Nat) (C : World → Prop) (p : Plan) : Env → World → (Env → World → Prop) → Prop :=
  Plan.rec (motive := fun _ => Env → World → (Env → World → Prop) → Prop) (fun L w K => K L w) (fun _ s _ ih => takeStep P n C s ih) (fun _ h s _ ih => stepStep P n C h s ih) (fun _ _ ih ih' => altStep ih ih') p
theorem vcPlan_take (P : Program) (n : Nat) (C : World → Prop) (i : Nat) (s : St) (p : Plan) (L : Env) (w : World) (K : Env → World → Prop) : vcPlan P n C (.take i s p) L w K =
    guardG L s.g (fun L => yd P C L s.o fun v => putD n s.d v L fun L => vcPlan P n C p L w K) (fun L => putD n s.d (.v undef) L fun L => vcPlan P n C p L w K) := rfl
theorem vcPlan_step (P : Program) (n : Nat) (C : World → Prop) (i : Nat) (h : Bool) (s : St) (p : Plan) (L : Env) (w : World) (K : Env → World → Prop) : vcPlan P n C (.step i h s p) L w K =
    guardG L s.g (fun L => vcO P L s.o w fun v w => bif h then Held (C w) (putD n s.d v L fun L => vcPlan P n C p L w K) else putD n s.d v L fun L => vcPlan P n C p L w K) (fun L => putD n s.d (.v undef) L fun L => vcPlan P n C p L w K) := rfl
theorem vcPlan_alt (P : Program) (n : Nat) (C : World → Prop) (p q : Plan) (L : Env) (w : World) (K : Env → World → Prop) : vcPlan P n C (.alt p q) L w K = Both (vcPlan P n C p L w K) (vcPlan P n C q L w K) := rfl

def rdN (L : Env) : List Nat → (List Value → Prop) → Prop
  | [], K => K []
  | j :: l, K => rd L (.tmp j) fun v => rdN L l fun vs => K (v :: vs)

def zipE : List Nat → List Value → Env → Env
  | n :: ns, v :: vs, L => (n, .v v) :: zipE ns vs L
  | _, _, L => L

abbrev VC := Env → World → (Env → World → Prop) → (Nat → Env → World → Prop) → (Env → World → Prop) → Prop
def seqStep (ih ih' : VC) : VC := fun L w N X R => ih L w (fun L w => ih' L w N X R) X R
def condStep (c : Operand) (ih ih' : VC) : VC := fun L w N X R => rdS L c fun s => match s with
  | .t => ih L w N X R
  | .f => ih' L w N X R
  | .v (.bool q) => Cond q (ih L w N X R) (ih' L w N X R)
  | .v _ => False
def blockStep (id : Nat) (ih : VC) : VC := fun L w N X R => ih L w N (fun i L w => bif Nat.beq i id then N L w else X i L w) R
def loopStep (names wr : List Nat) (ih : VC) : VC := fun L w _ X R => rdN L names fun vs => Env.lose L wr fun L0 =>
  LoopP vs w fun vs w again => ih (zipE names vs L0) w (fun L w => rdN L names fun vs => again vs w) X R
def vc (P : Program) (n : Nat) (s : S) : VC :=
  S.rec (motive := fun _ => VC) (fun L w N _ _ => N L w) (fun l L w N _ _ => vcRow P n l L w N) (fun p L w N _ _ => Draw w fun C w => vcPlan P n C p L w N) (fun _ _ ih ih' => seqStep ih ih') (fun c _ _ ih ih' => condStep c ih ih')
    (fun id _ ih => blockStep id ih) (fun names wr _ ih => loopStep names wr ih) (fun id L w _ X _ => X id L w) (fun _ ih => ih) (fun L w _ _ R => R L w) (fun l _ ih L w N X R => Env.keep L l fun L => ih L w N X R) s

/-! ### From the model's code to slim code -/
def agg? (P : Program) (t : TypeId) : Bool :=
  match P.underlying t with
  | some (.struct _) | some (.array _ _) => true
  | _ => false

def placesOf (P : Program) (t : TypeId) (parts : List (Nat × Operand)) : Option (List (Nat × Nat)) :=
  match P.underlying t with
  | some (.struct fields) => (fields.toList.mapM fun f => (P.info? f.type).map fun i => (f.offset, i.size)).bind fun all => parts.mapM fun p => all[p.1]?
  | some (.array _ elem) => (P.info? elem).map fun inf => parts.map fun p => (p.1 * inf.size, inf.size)
  | _ => none

def repL : Nat → List Value → List Value
  | 0, _ => []
  | n + 1, z => z ++ repL n z

def slimCall (P : Program) (c : Call) (ty : TypeId) : Option SO :=
  match c.callee with
  | .builtin b => match b, c.args.toList, (c.argTypes[0]?).bind P.underlying with
    | .len, [x], some (.slice _) => some (.lenA x)
    | .len, [x], some .string => some (.lenS x)
    | .len, [x], some (.map _ _) => some (.get (.bi .len c.argTypes ty) [x])
    | .cap, [x], _ => some (.get (.bi .cap c.argTypes ty) [x])
    | .min, [x, y], some (.int k) => some (.mm false k x y)
    | .max, [x, y], some (.int k) => some (.mm true k x y)
    | .append, xs, _ => some (.run (.bi .append c.argTypes ty) xs)
    | .copy, xs, _ => some (.run (.bi .copy c.argTypes ty) xs)
    | .delete, xs, _ => some (.run (.bi .delete c.argTypes ty) xs)
    | .clear, xs, _ => some (.run (.bi .clear c.argTypes ty) xs)
    | _, _, _ => none
  | .value (.func f) => if callable P f then some (.call f c.args.toList) else none
  | .value x => some (.callv x c.args.toList)
  | .invoke x name => some (.calli x name c.args.toList)

/-- '==' with nil at such types may be told by 'isnil'. -/
def nilKind (P : Program) (t : TypeId) : Operand → Option Nat
  | .const (.pointer none) => match P.underlying t with | some (.pointer _) => some 0 | _ => none
  | .const (.slice none 0 0) => match P.underlying t with | some (.slice _) => some 1 | _ => none
  | .const (.map none) => match P.underlying t with | some (.map _ _) => some 2 | _ => none
  | .const .nilFunc => match P.underlying t with | some (.func _ _ _) => some 3 | _ => none
  | _ => none

def slimBin (P : Program) (op : BinOp) (t : TypeId) (x y : Operand) : Option SO :=
  match P.underlying t with
  | some (.int k) => some (.ibin op k x y)
  | some .string => some (.sbin op x y)
  | some .bool => match op with
    | .eql => some (.bbin false x y)
    | .neq => some (.bbin true x y)
    | _ => none
  | _ => match op, nilKind P t y with
    | .eql, some k => some (.isnil k false x)
    | .neq, some k => some (.isnil k true x)
    | .eql, none => some (.get (.eq .eql t x y) [x, y])
    | .neq, none => some (.get (.eq .neq t x y) [x, y])
    | _, _ => none

def slimOp (P : Program) (o : Oper) : Option SO :=
  match o.op with
  | .move x => some (.mv x)
  | .assign x => some (.mv x)
  | .pick c a b => some (.pick c a b)
  | .binOp op t x y _ => slimBin P op t x y
  | .unOp .not _ x => some (.notB x)
  | .unOp .neg t x => match P.underlying t with
    | some (.int k) => some (.neg k x)
    | _ => none
  | .convert src dst x => match P.underlying src, P.underlying dst with
    | some (.int _), some (.int k) => some (.conv k x)
    | some (.slice _), some .string => some (.get (.conv src dst) [x])
    | some .string, some .string => some (.get (.conv src dst) [x])
    | some (.slice _), some (.slice _) => some (.run (.conv src dst) [x])
    | some .string, some (.slice _) => some (.run (.conv src dst) [x])
    | _, _ => none
  | .call c => slimCall P c o.type
  | .alloc elem => match (P.info? elem).bind (·.zero) with
    | some z => some (.new (Value.cellsL z) elem)
    | none => none
  | .box elem x => some (.box elem x)
  | .build t parts => match (P.info? t).bind (·.zero), placesOf P t parts.toList with
    | some z, some ps => some (.bld (Value.cellsL z) ps (parts.toList.map (·.2)))
    | _, _ => none
  | .buildSlice t len parts => match P.underlying t with
    | some (.slice elem) => match (P.info? elem).bind fun i => i.zero.map fun z => (i.size, z) with
      | some (size, z) =>
        if (Value.cellsL z).length == size && 0 < size && len * size ≤ 2 ^ 24 then
          some (.bsl elem len (repL len (Value.cellsL z)) (parts.toList.map fun p => (p.1 * size, size)) (parts.toList.map (·.2)))
        else none
      | none => none
    | _ => none
  | .load t x => match agg? P t, P.info? t with
    | true, some i => some (.ldn i.size x)
    | false, some _ => if (P.underlying t).isSome then some (.ld x) else none
    | _, _ => none
  | .store t x v => match agg? P t, P.info? t with
    | true, some i => some (.stn i.size x v)
    | false, some i => if (P.underlying t).isSome && i.size == 1 then some (.st x v) else none
    | _, _ => none
  | .nilCheck x => some (.nck x)
  | .makeInterface t x => match P.underlying t with
    | some (.interface _) => none
    | some _ => some (.mki t x)
    | none => none
  | .makeFunc fn first captured => some (.mkf fn first.toList captured.toList)
  | .makeMap t r => some (.run (.makeMap t) r.toList)
  | .makeSlice t l c => some (.run (.makeSlice t) [l, c])
  | .slice t x lo hi mx => match P.underlying t, mx with
    | some (.slice e), none => (P.info? e).map fun i => .slc i.size x lo hi
    | some .string, none => some (.sls x lo hi)
    | _, _ => if mx.isSome && !hi.isSome then none else some (.get (.slice t lo.isSome hi.isSome mx.isSome) (x :: (lo.toList ++ hi.toList ++ mx.toList)))
  | .fieldAddr s x f => match P.underlying s with
    | some (.struct fields) => match fields[f]? with
      | some fd => if P.cellsOf fd.type == 0 || !(P.info? fd.type).isSome then none else some (.fad fd.offset x)
      | none => none
    | _ => none
  | .field t x f => match P.underlying t with
    | some (.struct fields) => match fields[f]? with
      | some fd => match agg? P fd.type, P.info? fd.type with
        | true, some i => some (.flds fd.offset i.size x)
        | false, some _ => if (P.underlying fd.type).isSome then some (.fld fd.offset x) else none
        | _, _ => none
      | none => none
    | _ => none
  | .indexAddr t x i => match P.underlying t with
    | some (.slice e) => (P.info? e).map fun inf => .ixA inf.size x i
    | some (.array len e) => (P.info? e).map fun inf => .ixP len inf.size x i
    | _ => none
  | .index t x i => match P.underlying t with
    | some .string => some (.ixS x i)
    | _ => some (.get (.index t) [x, i])
  | .lookup t x i ok => some (.get (.lookup t ok) [x, i])
  | .mapUpdate t m k v => some (.run (.mapUpdate t) [m, k, v])
  | .insert t m k v => some (.run (.mapUpdate t) [m, k, v])
  | .mapEntry t m k => some (.run (.mapEntry t) [m, k])
  | .entryStore t m s v => some (.run (.entryStore t) [m, s, v])
  | .range t x => some (.run (.range t) [x])
  | .next it s => some (.run (.next s o.type) [it])
  | .typeAssert x _ asserted true => match P.underlying asserted, (P.info? asserted).bind (·.zero) with
    | some (.interface _), _ => none
    | some _, some z => some (.asrt asserted z x)
    | _, _ => none
  | .extract x i => some (.ext x i)
  | _ => none

def slimSt (P : Program) (ops : Array Oper) (o : Oper) : Option St := do
  let so ← slimOp P o
  match o.guard with
  | none => pure ⟨o.dst, none, so⟩
  | some (j, want) => do
    let oj ← ops[j]?
    let t ← oj.dst
    pure ⟨o.dst, some (t, want), so⟩

def rsP : Plan → List Nat
  | .step i _ _ _ => [i]
  | .alt p q => rsP p ++ rsP q
  | _ => []

def Plan.isAlt : Plan → Bool
  | .alt _ _ => true
  | _ => false

/-- Which operations of a region look into memory, and change nothing. -/
def readers (P : Program) (ops : Array Oper) : List Nat :=
  (List.range ops.size).filter fun q => match (ops[q]?).bind (slimSt P ops) with
    | some st => st.o.quiet && st.o.reads
    | none => true
/-- Does operation number 'j' wait for all that look into memory? -/
def waits (ops : Array Oper) (rs : List Nat) (j : Nat) : Bool :=
  rs.all fun q => Nat.beq q j || match ops[j]? with
    | some o => o.after.any fun e => Region.binds .any e && e.on == q
    | none => false

/-- A plan that fits. 'fork': the ready ones have been asked for already. -/
def redoPlan (P : Program) (ops : Array Oper) (rs : List Nat) : Plan → Bool → Nat → Array Bool → Option Plan
  | .done, _, _, listed => if (Region.ready .any ops listed).isEmpty then some .done else none
  | .take i _ p, _, fuel, listed => match fuel with
    | 0 => none
    | fuel + 1 => do
      let o ← ops[i]?
      let st ← slimSt P ops o
      if st.o.quiet && Region.free .any ops listed i && (Region.ready .any ops listed).contains i then
        let p' ← redoPlan P ops rs p false fuel (listed.setIfInBounds i true)
        pure (.take i st p')
      else none
  | .step i h s p, forked, fuel, listed => match fuel with
    | 0 => none
    | fuel + 1 => do
      let o ← ops[i]?
      let st ← slimSt P ops o
      if forked || Region.ready .any ops listed == rsP (.step i h s p) then
        let p' ← redoPlan P ops rs p false fuel (listed.setIfInBounds i true)
        pure (.step i (!waits ops rs i) st p')
      else none
  | .alt p q, forked, fuel, listed => do
    if forked || Region.ready .any ops listed == rsP (.alt p q) then
      let p' ← redoPlan P ops rs p true fuel listed
      let q' ← redoPlan P ops rs q true fuel listed
      pure (.alt p' q')
    else none

def wrP : Plan → List Nat
  | .done => []
  | .take _ s p => s.d.toList ++ wrP p
  | .step _ _ s p => s.d.toList ++ wrP p
  | .alt p q => wrP p ++ wrP q

def wrS : S → List Nat
  | .row l => l.flatMap fun s => s.d.toList
  | .draw p => wrP p
  | .seq a b => wrS a ++ wrS b
  | .cond _ a b => wrS a ++ wrS b
  | .block _ b => wrS b
  | .loop _ _ b => wrS b
  | .scope b => wrS b
  | .prune _ b => wrS b
  | _ => []

def forkOnly : Plan → Bool
  | .step .. => true
  | .alt p q => forkOnly p && forkOnly q
  | _ => false
/-- Under an 'alt' there are steps alone. -/
def wellP : Plan → Bool
  | .done => true
  | .take _ _ p => wellP p
  | .step _ _ _ p => wellP p
  | .alt p q => forkOnly p && forkOnly q && wellP p && wellP q

def redo (P : Program) : S → Code → Option S
  | .skip, .skip => some .skip
  | .row _, .region _ ops false => (ops.toList.mapM (slimSt P ops)).map .row
  | .draw p, .region _ ops true => if Region.noSelect ops && wellP p then (redoPlan P ops (readers P ops) p false ops.size (Array.replicate ops.size false)).map .draw else none
  | .seq a b, .seq c d => do pure (.seq (← redo P a c) (← redo P b d))
  | .cond _ a b, .cond c x y => do pure (.cond c (← redo P a x) (← redo P b y))
  | .block _ b, .block id c => do pure (.block id (← redo P b c))
  | .loop names wr b, .loop c => if (wrS b).all (mem · wr) then do pure (.loop names wr (← redo P b c)) else none
  | .exit _, .exit id => some (.exit id)
  | .scope b, .scope c => do pure (.scope (← redo P b c))
  | .ret, .ret => some .ret
  | .prune l b, c => do pure (.prune l (← redo P b c))
  | _, _ => none

end Fb
