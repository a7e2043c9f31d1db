/-
  Texts of ours in one file.
-/
import Derived.Calls
import Derived.Orders
import Derived.OrdersHeld
import Derived.Tactics
import Derived.Scope
import Derived.Below
import Derived.KernelRfl
import Derived.WalkKit
import Derived.Laws.Cover1
/-
  A verification-condition calculus over the model's code, for every program: 'vcCode' steps through a slim copy of a function's code by plain evaluation; 'fn_sound' says that what it asks is enough for 'Calls'. No program in sight.
-/
namespace Fb
open Go

/-! ### Environments: which slots hold what. 't', 'f': a Bool that is known. -/
inductive Sv where
  | v (x : Value)
  | t
  | f

def Sv.val : Sv → Value
  | .v x => x
  | .t => .bool true
  | .f => .bool false

abbrev Env := List (Nat × Sv)

def Env.find : Env → Nat → Option Sv
  | [], _ => none
  | (i, s) :: L, j => bif Nat.beq i j then some s else Env.find L j

structure Agr (tmps : Array Value) (n : Nat) (L : Env) : Prop where
  size : tmps.size = n
  has : ∀ j s, Env.find L j = some s → tmps[j]? = some s.val

theorem Agr.put {tmps : Array Value} {n : Nat} {L : Env} (h : Agr tmps n L) (d : Nat) (s : Sv) (hd : d < n) : Agr (tmps.setIfInBounds d s.val) n ((d, s) :: L) := by
  refine ⟨by simp [h.size], fun j s' hj => ?_⟩
  have hd' : d < tmps.size := by rw [h.size]; exact hd
  simp only [Env.find] at hj
  by_cases e : d = j
  · subst e
    simp only [Nat.beq_refl, cond_true, Option.some.injEq] at hj
    subst hj
    simp [hd']
  · have hb : Nat.beq d j = false := by
      cases hb : Nat.beq d j with
      | true => exact absurd (Nat.eq_of_beq_eq_true hb) e
      | false => rfl
    rw [hb, cond_false] at hj
    rw [Array.getElem?_setIfInBounds_ne (by exact e)]
    exact h.has j s' hj

/-- A slot that is written with what nobody knows. -/
def Env.drop : Env → Nat → (Env → Prop) → Prop
  | [], _, K => K []
  | (i, s) :: L, d, K => bif Nat.beq i d then Env.drop L d K else Env.drop L d (fun L' => K ((i, s) :: L'))

/-- Only what is named. -/
def mem (j : Nat) : List Nat → Bool
  | [] => false
  | i :: l => bif Nat.beq i j then true else mem j l

def Env.keep : Env → List Nat → (Env → Prop) → Prop
  | [], _, K => K []
  | (i, s) :: L, l, K => bif mem i l then Env.keep L l (fun L' => K ((i, s) :: L')) else Env.keep L l K

/-- All but what is named. -/
def Env.lose : Env → List Nat → (Env → Prop) → Prop
  | [], _, K => K []
  | (i, s) :: L, l, K => bif mem i l then Env.lose L l K else Env.lose L l (fun L' => K ((i, s) :: L'))

/-- 'L'' says no more than 'L'. -/
def Sub (L' L : Env) : Prop := ∀ j s, Env.find L' j = some s → Env.find L j = some s

theorem Sub.agr {tmps : Array Value} {n : Nat} {L L' : Env} (h : Sub L' L) (ha : Agr tmps n L) : Agr tmps n L' := ⟨ha.size, fun j s hj => ha.has j s (h j s hj)⟩

theorem mem_iff (j : Nat) : ∀ l, mem j l = true ↔ j ∈ l
  | [] => by simp [mem]
  | i :: l => by
    simp only [mem, List.mem_cons]
    by_cases e : i = j
    · subst e; simp
    · have hb : Nat.beq i j = false := by
        cases hb : Nat.beq i j with
        | true => exact absurd (Nat.eq_of_beq_eq_true hb) e
        | false => rfl
      rw [hb, cond_false, mem_iff j l]
      constructor
      · exact .inr
      · rintro (h | h)
        · exact absurd h.symm e
        · exact h

theorem find_cons_ne {i j : Nat} {s : Sv} {L : Env} (e : i ≠ j) : Env.find ((i, s) :: L) j = Env.find L j := by
  have hb : Nat.beq i j = false := by
    cases hb : Nat.beq i j with
    | true => exact absurd (Nat.eq_of_beq_eq_true hb) e
    | false => rfl
  simp [Env.find, hb]

theorem find_cons_eq {i : Nat} {s : Sv} {L : Env} : Env.find ((i, s) :: L) i = some s := by simp [Env.find]

/-- The filter that 'drop', 'keep', 'lose' make. -/
theorem Env.drop_spec : ∀ (L : Env) (d : Nat) (K : Env → Prop), Env.drop L d K → ∃ L', K L' ∧ ∀ j, Env.find L' j = if j = d then none else Env.find L j
  | [], _, K, h => ⟨[], h, by simp [Env.find]⟩
  | (i, s) :: L, d, K, h => by
    simp only [Env.drop] at h
    cases hb : Nat.beq i d with
    | true =>
      rw [hb, cond_true] at h
      have e := Nat.eq_of_beq_eq_true hb
      subst e
      obtain ⟨L', hk, hf⟩ := Env.drop_spec L i K h
      refine ⟨L', hk, fun j => ?_⟩
      rw [hf]
      split
      · rfl
      · rename_i hne; rw [find_cons_ne (Ne.symm hne)]
    | false =>
      rw [hb, cond_false] at h
      obtain ⟨L', hk, hf⟩ := Env.drop_spec L d _ h
      refine ⟨_, hk, fun j => ?_⟩
      by_cases e : i = j
      · subst e
        rw [find_cons_eq, find_cons_eq]
        have : i ≠ d := fun e => by rw [e] at hb; simp at hb
        simp [this]
      · rw [find_cons_ne e, find_cons_ne e, hf]

theorem Env.keep_spec : ∀ (L : Env) (l : List Nat) (K : Env → Prop), Env.keep L l K → ∃ L', K L' ∧ ∀ j, Env.find L' j = if mem j l then Env.find L j else none
  | [], _, K, h => ⟨[], h, by simp [Env.find]⟩
  | (i, s) :: L, l, K, h => by
    simp only [Env.keep] at h
    cases hb : mem i l with
    | false =>
      rw [hb, cond_false] at h
      obtain ⟨L', hk, hf⟩ := Env.keep_spec L l K h
      refine ⟨L', hk, fun j => ?_⟩
      rw [hf]
      by_cases e : i = j
      · subst e; simp [hb]
      · rw [find_cons_ne e]
    | true =>
      rw [hb, cond_true] at h
      obtain ⟨L', hk, hf⟩ := Env.keep_spec L l _ h
      refine ⟨_, hk, fun j => ?_⟩
      by_cases e : i = j
      · subst e; rw [find_cons_eq, find_cons_eq]; simp [hb]
      · rw [find_cons_ne e, find_cons_ne e, hf]

theorem Env.lose_spec : ∀ (L : Env) (l : List Nat) (K : Env → Prop), Env.lose L l K → ∃ L', K L' ∧ ∀ j, Env.find L' j = if mem j l then none else Env.find L j
  | [], _, K, h => ⟨[], h, by simp [Env.find]⟩
  | (i, s) :: L, l, K, h => by
    simp only [Env.lose] at h
    cases hb : mem i l with
    | true =>
      rw [hb, cond_true] at h
      obtain ⟨L', hk, hf⟩ := Env.lose_spec L l K h
      refine ⟨L', hk, fun j => ?_⟩
      rw [hf]
      by_cases e : i = j
      · subst e; simp [hb]
      · rw [find_cons_ne e]
    | false =>
      rw [hb, cond_false] at h
      obtain ⟨L', hk, hf⟩ := Env.lose_spec L l _ h
      refine ⟨_, hk, fun j => ?_⟩
      by_cases e : i = j
      · subst e; rw [find_cons_eq, find_cons_eq]; simp [hb]
      · rw [find_cons_ne e, find_cons_ne e, hf]

theorem Env.drop_agr {tmps : Array Value} {n : Nat} {L : Env} {d : Nat} {K : Env → Prop} (h : Env.drop L d K) (ha : Agr tmps n L) (u : Value) : ∃ L', K L' ∧ Agr (tmps.setIfInBounds d u) n L' := by
  obtain ⟨L', hk, hf⟩ := Env.drop_spec L d K h
  refine ⟨L', hk, by simp [ha.size], fun j s hj => ?_⟩
  rw [hf] at hj
  split at hj
  · cases hj
  · rename_i hne
    rw [Array.getElem?_setIfInBounds_ne (by exact Ne.symm hne)]
    exact ha.has j s hj

theorem Env.keep_agr {tmps : Array Value} {n : Nat} {L : Env} {l : List Nat} {K : Env → Prop} (h : Env.keep L l K) (ha : Agr tmps n L) : ∃ L', K L' ∧ Agr tmps n L' := by
  obtain ⟨L', hk, hf⟩ := Env.keep_spec L l K h
  refine ⟨L', hk, ha.size, fun j s hj => ?_⟩
  rw [hf] at hj
  split at hj
  · exact ha.has j s hj
  · cases hj

/-! ### Reading operands -/
def rdS (L : Env) (x : Operand) (K : Sv → Prop) : Prop :=
  match x with
  | .const (.bool true) => K .t
  | .const (.bool false) => K .f
  | .const v => K (.v v)
  | .tmp t => match Env.find L t with
    | some s => K s
    | none => False
  | .global g => K (.v (.pointer (some ⟨g, 0, none⟩)))
  | .func f => K (.v (.func (.func f) #[] #[]))

def rd (L : Env) (x : Operand) (K : Value → Prop) : Prop :=
  match x with
  | .const v => K v
  | .tmp t => match Env.find L t with
    | some (.v u) => K u
    | some .t => K (.bool true)
    | some .f => K (.bool false)
    | none => False
  | .global g => K (.pointer (some ⟨g, 0, none⟩))
  | .func f => K (.func (.func f) #[] #[])

def rds (L : Env) : List Operand → (List Value → Prop) → Prop
  | [], K => K []
  | x :: xs, K => rd L x fun v => rds L xs fun vs => K (v :: vs)

theorem rdS_sound {a : Act} {n : Nat} {L : Env} {x : Operand} {K : Sv → Prop} (h : rdS L x K) (ha : Agr a.tmps n L) : ∃ s, K s ∧ a.eval x = s.val := by
  unfold rdS at h
  split at h
  · exact ⟨_, h, rfl⟩
  · exact ⟨_, h, rfl⟩
  · exact ⟨_, h, rfl⟩
  · rename_i t
    split at h
    · rename_i s hs
      refine ⟨s, h, ?_⟩
      have := ha.has _ _ hs
      simp [Act.eval, Array.getD_eq_getD_getElem?, this]
    · exact h.elim
  · exact ⟨_, h, rfl⟩
  · exact ⟨_, h, rfl⟩

theorem rd_sound {a : Act} {n : Nat} {L : Env} {x : Operand} {K : Value → Prop} (h : rd L x K) (ha : Agr a.tmps n L) : K (a.eval x) := by
  unfold rd at h
  split at h
  · exact h
  · rename_i t
    have key : ∀ s, Env.find L t = some s → a.eval (.tmp t) = s.val := fun s hs => by
      have := ha.has _ _ hs
      simp [Act.eval, Array.getD_eq_getD_getElem?, this]
    split at h
    · rename_i u hs; rw [key _ hs]; exact h
    · rename_i hs; rw [key _ hs]; exact h
    · rename_i hs; rw [key _ hs]; exact h
    · exact h.elim
  · exact h
  · exact h

theorem rds_sound {a : Act} {n : Nat} {L : Env} (ha : Agr a.tmps n L) : ∀ (xs : List Operand) (K : List Value → Prop), rds L xs K → K (xs.map a.eval)
  | [], _, h => h
  | x :: xs, _, h => rds_sound ha xs _ (rd_sound (x := x) h ha)

/-! ### What is asked -/
/-- A sum that is brought into its kind. -/
structure Wrap (k : IntKind) (e : Int) (K : Int → Prop) : Prop where
  out : K (k.wrap e)
theorem Wrap_eq (k : IntKind) (e : Int) (K : Int → Prop) : Wrap k e K = (K (k.wrap e)) := propext ⟨fun h => h.out, fun h => ⟨h⟩⟩
structure Quo (x y : Int) (K : Int → Prop) : Prop where
  out : K (x.tdiv y)
theorem Quo_eq (x y : Int) (K : Int → Prop) : Quo x y K = (K (x.tdiv y)) := propext ⟨fun h => h.out, fun h => ⟨h⟩⟩
structure Rem (x y : Int) (K : Int → Prop) : Prop where
  out : K (x.tmod y)
theorem Rem_eq (x y : Int) (K : Int → Prop) : Rem x y K = (K (x.tmod y)) := propext ⟨fun h => h.out, fun h => ⟨h⟩⟩
structure Shl (k : IntKind) (x y : Int) (K : Int → Prop) : Prop where
  out : K (x * 2 ^ (min y.toNat k.bits))
theorem Shl_eq (k : IntKind) (x y : Int) (K : Int → Prop) : Shl k x y K = (K (x * 2 ^ (min y.toNat k.bits))) := propext ⟨fun h => h.out, fun h => ⟨h⟩⟩
structure Shr (k : IntKind) (x y : Int) (K : Int → Prop) : Prop where
  out : K (x.fdiv (2 ^ (min y.toNat k.bits)))
theorem Shr_eq (k : IntKind) (x y : Int) (K : Int → Prop) : Shr k x y K = (K (x.fdiv (2 ^ (min y.toNat k.bits)))) := propext ⟨fun h => h.out, fun h => ⟨h⟩⟩
/-- A test. -/
structure Cond (b : Bool) (X Y : Prop) : Prop where
  out : (b = true → X) ∧ (b = false → Y)
theorem Cond_eq (b : Bool) (X Y : Prop) : Cond b X Y = ((b = true → X) ∧ (b = false → Y)) := propext ⟨fun h => h.out, fun h => ⟨h⟩⟩
/-- A condition without which Go panics. -/
structure Need (p X : Prop) : Prop where
  out : p ∧ X
theorem Need_eq (p X : Prop) : Need p X = (p ∧ X) := propext ⟨fun h => h.out, fun h => ⟨h⟩⟩
structure Both (X Y : Prop) : Prop where
  out : X ∧ Y
theorem Both_eq (X Y : Prop) : Both X Y = (X ∧ Y) := propext ⟨fun h => h.out, fun h => ⟨h⟩⟩
/-- A cell that is read, the same in every world of a class. -/
structure Load (a : Addr) (S : World → Prop) (K : Value → Prop) : Prop where
  out : ∃ v, (∀ w, S w → w.cell? a = some v) ∧ K v
theorem Load_eq (a : Addr) (S : World → Prop) (K : Value → Prop) : Load a S K = (∃ v, (∀ w, S w → w.cell? a = some v) ∧ K v) := propext ⟨fun h => h.out, fun h => ⟨h⟩⟩
/-- Some cells in a row. -/
structure LoadN (a : Addr) (n : Nat) (S : World → Prop) (K : Value → Prop) : Prop where
  out : ∃ vs : List Value, vs.length = n ∧ (∀ w, S w → ∀ i v, vs[i]? = some v → w.cell? (a.add i) = some v) ∧ K (.agg ⟨vs⟩)
theorem LoadN_eq (a : Addr) (n : Nat) (S : World → Prop) (K : Value → Prop) : LoadN a n S K = (∃ vs : List Value, vs.length = n ∧ (∀ w, S w → ∀ i v, vs[i]? = some v → w.cell? (a.add i) = some v) ∧ K (.agg ⟨vs⟩)) := propext ⟨fun h => h.out, fun h => ⟨h⟩⟩
/-- What an operation that only reads gives, the same in every world of a class. -/
structure Get {α : Type} (P : Program) (s : Sem α) (S : World → Prop) (K : α → Prop) : Prop where
  out : ∃ v, (∀ w, S w → s.run P w = .ok v w) ∧ K v
theorem Get_eq {α : Type} (P : Program) (s : Sem α) (S : World → Prop) (K : α → Prop) : Get P s S K = (∃ v, (∀ w, S w → s.run P w = .ok v w) ∧ K v) := propext ⟨fun h => h.out, fun h => ⟨h⟩⟩
/-- What an operation gives and does. -/
structure Run {α : Type} (P : Program) (s : Sem α) (w : World) (K : α → World → Prop) : Prop where
  out : ∃ v w', s.run P w = .ok v w' ∧ K v w'
theorem Run_eq {α : Type} (P : Program) (s : Sem α) (w : World) (K : α → World → Prop) : Run P s w K = (∃ v w', s.run P w = .ok v w' ∧ K v w') := propext ⟨fun h => h.out, fun h => ⟨h⟩⟩
/-- A cell that is written. -/
structure Store (a : Addr) (v : Value) (w : World) (K : World → Prop) : Prop where
  out : (w.cell? a).isSome = true ∧ w.frozen? a = false ∧ v.oneCell' = true ∧ K (w.setCell a v)
theorem Store_eq (a : Addr) (v : Value) (w : World) (K : World → Prop) : Store a v w K = ((w.cell? a).isSome = true ∧ w.frozen? a = false ∧ v.oneCell' = true ∧ K (w.setCell a v)) := propext ⟨fun h => h.out, fun h => ⟨h⟩⟩
/-- A call of a function. -/
structure Cal (P : Program) (f : FuncId) (args : Array Value) (w : World) (R : Value → World → Prop) : Prop where
  out : Calls P f args w fun e w' => ∃ v, e = .returned v ∧ R v w'
theorem Cal_eq (P : Program) (f : FuncId) (args : Array Value) (w : World) (R : Value → World → Prop) : Cal P f args w R = (Calls P f args w fun e w' => ∃ v, e = .returned v ∧ R v w') := propext ⟨fun h => h.out, fun h => ⟨h⟩⟩
/-- A loop. -/
structure LoopP (vs : List Value) (w : World) (B : List Value → World → (List Value → World → Prop) → Prop) : Prop where
  out : ∃ (I : List Value → World → Prop) (μ : List Value → World → Nat), I vs w ∧ ∀ vs w, I vs w → B vs w (fun vs' w' => I vs' w' ∧ μ vs' w' < μ vs w)
theorem LoopP_eq (vs : List Value) (w : World) (B : List Value → World → (List Value → World → Prop) → Prop) : LoopP vs w B = (∃ (I : List Value → World → Prop) (μ : List Value → World → Nat), I vs w ∧ ∀ vs w, I vs w → B vs w (fun vs' w' => I vs' w' ∧ μ vs' w' < μ vs w)) := propext ⟨fun h => h.out, fun h => ⟨h⟩⟩
/-- A region whose order is drawn. -/
structure Draw (w : World) (B : (World → Prop) → World → Prop) : Prop where
  out : ∃ S : World → Prop, S w.drew ∧ B S w.drew
theorem Draw_eq (w : World) (B : (World → Prop) → World → Prop) : Draw w B = (∃ S : World → Prop, S w.drew ∧ B S w.drew) := propext ⟨fun h => h.out, fun h => ⟨h⟩⟩


/-- A new block of cells. -/
structure New (cells : List Value) (elem : TypeId) (w : World) (K : Nat → World → Prop) : Prop where
  out : K w.heap.size (w.alloc (.cells ⟨cells⟩ elem))
theorem New_eq (cells : List Value) (elem : TypeId) (w : World) (K : Nat → World → Prop) : New cells elem w K = (K w.heap.size (w.alloc (.cells ⟨cells⟩ elem))) := propext ⟨fun h => h.out, fun h => ⟨h⟩⟩
/-- Cells that are written, one behind the other. -/
def StoreFrom (a : Addr) : List Value → Nat → World → (World → Prop) → Prop
  | [], _, w, K => K w
  | v :: vs, i, w, K => (w.cell? (a.add i)).isSome = true ∧ w.frozen? (a.add i) = false ∧ v.oneCell' = true ∧ StoreFrom a vs (i + 1) (w.setCell (a.add i) v) K
structure StoreN (a : Addr) (vs : List Value) (w : World) (K : World → Prop) : Prop where
  out : StoreFrom a vs 0 w K
theorem StoreN_eq (a : Addr) (vs : List Value) (w : World) (K : World → Prop) : StoreN a vs w K = (StoreFrom a vs 0 w K) := propext ⟨fun h => h.out, fun h => ⟨h⟩⟩

/-! ### The slim operations -/
/-- Where a cell of a struct comes from. -/
inductive Src where
  | zero (v : Value)
  | op (x : Operand)
  | cell (x : Operand) (j : Nat)

/-- An operation that is neither plain nor a call: by its own meaning. -/
inductive G where
  | bi (b : Builtin) (ats : Array TypeId) (ty : TypeId)
  | lookup (t : TypeId) (ok : Bool)
  | mapUpdate (t : TypeId)
  | mapEntry (t : TypeId)
  | entryStore (t : TypeId)
  | makeSlice (t : TypeId)
  | makeMap (t : TypeId)
  | range (t : TypeId)
  | next (isString : Bool) (t : TypeId)
  | conv (src dst : TypeId)
  | eq (op : BinOp) (t : TypeId) (x y : Operand)
  | build (t : TypeId) (places : List Nat)
  | buildSlice (t : TypeId) (len : Nat) (places : List Nat)
  | typeAssert (t asserted : TypeId) (ok : Bool)
  | slice (t : TypeId) (lo hi mx : Bool)
  | index (t : TypeId)
  | field (t : TypeId) (f : Nat)

def unitly (s : Sem Unit) : Sem Value := do s; pure undef

def G.sem : G → List Value → Sem Value
  | .bi .append ats ty, args => Builtin.append_ ats ty ⟨args⟩
  | .bi .copy ats ty, args => Builtin.copy_ ats ty ⟨args⟩
  | .bi .delete ats ty, args => Builtin.delete_ ats ty ⟨args⟩
  | .bi .len ats ty, args => Builtin.len_ ats ty ⟨args⟩
  | .bi .cap ats ty, args => Builtin.cap_ ats ty ⟨args⟩
  | .bi .min ats ty, args => Builtin.min_ ats ty ⟨args⟩
  | .bi .max ats ty, args => Builtin.max_ ats ty ⟨args⟩
  | .bi .clear ats ty, args => Builtin.clear_ ats ty ⟨args⟩
  | .lookup t ok, [x, i] => Instr.lookup t x i ok
  | .mapUpdate t, [m, k, v] => unitly (Instr.mapUpdate t m k v)
  | .mapEntry t, [m, k] => Instr.mapEntry t m k
  | .entryStore t, [m, s, v] => unitly (Instr.entryStore t m s v)
  | .makeSlice t, [l, c] => Instr.makeSlice t l c
  | .makeMap t, [] => Instr.makeMap t none
  | .makeMap t, [r] => Instr.makeMap t (some r)
  | .range t, [x] => Instr.range t x
  | .next s t, [x] => Instr.next x s t
  | .conv s d, [x] => convert s d x
  | .eq op t x y, [a, b] => do eqGuard op t x y a b; binOp op t a b
  | .build t ps, vs => Instr.build t ⟨ps.zip vs⟩
  | .buildSlice t n ps, vs => Instr.buildSlice t n ⟨ps.zip vs⟩
  | .typeAssert t a ok, [x] => Instr.typeAssert x t a ok
  | .slice t lo hi mx, x :: vs => match lo, hi, mx, vs with
    | true, true, true, [l, h, m] => Instr.sliceAt t x (some l) (some h) (some m)
    | true, true, false, [l, h] => Instr.sliceAt t x (some l) (some h) none
    | true, false, false, [l] => Instr.sliceAt t x (some l) none none
    | false, true, true, [h, m] => Instr.sliceAt t x none (some h) (some m)
    | false, true, false, [h] => Instr.sliceAt t x none (some h) none
    | false, false, false, [] => Instr.sliceAt t x none none none
    | _, _, _, _ => stuck ""
  | .index t, [x, i] => Instr.index t x i
  | .field t f, [x] => Instr.field t x f
  | _, _ => stuck ""

/-- Does a slim operation leave the world alone? -/
inductive SO where
  -- these only compute or read
  | mv (x : Operand)
  | pick (c a b : Operand)
  | ibin (op : BinOp) (k : IntKind) (x y : Operand)
  | sbin (op : BinOp) (x y : Operand)
  | bbin (ne : Bool) (x y : Operand)
  | isnil (kind : Nat) (ne : Bool) (x : Operand)
  | notB (x : Operand)
  | neg (k : IntKind) (x : Operand)
  | conv (k : IntKind) (x : Operand)
  | lenA (x : Operand)
  | lenS (x : Operand)
  | mm (mx : Bool) (k : IntKind) (x y : Operand)
  | fad (off : Nat) (x : Operand)
  | fld (off : Nat) (x : Operand)
  | flds (off n : Nat) (x : Operand)
  | ixA (size : Nat) (x i : Operand)
  | ixP (len size : Nat) (x i : Operand)
  | ixS (x i : Operand)
  | ld (x : Operand)
  | ldn (n : Nat) (x : Operand)
  | nck (x : Operand)
  | ext (x : Operand) (i : Nat)
  | mkf (fn : Go.Fn) (first captured : List Operand)
  | mki (t : TypeId) (x : Operand)
  | slc (size : Nat) (x : Operand) (lo hi : Option Operand)
  | sls (x : Operand) (lo hi : Option Operand)
  | asrt (t : TypeId) (zero : Value) (x : Operand)
  | bld (zero : List Value) (places : List (Nat × Nat)) (args : List Operand)
  | get (g : G) (args : List Operand)
  -- these may do more
  | new (zero : List Value) (elem : TypeId)
  | box (elem : TypeId) (x : Operand)
  | bsl (elem : TypeId) (len : Nat) (zero : List Value) (places : List (Nat × Nat)) (args : List Operand)
  | st (x v : Operand)
  | stn (n : Nat) (x v : Operand)
  | run (g : G) (args : List Operand)
  | call (f : FuncId) (args : List Operand)
  | callv (x : Operand) (args : List Operand)
  | calli (x : Operand) (name : String) (args : List Operand)

def SO.quiet : SO → Bool
  | .new .. | .box .. | .bsl .. | .st .. | .stn .. | .run .. | .call .. | .callv .. | .calli .. => false
  | _ => true

/-- Does a slim operation look into memory? -/
def SO.reads : SO → Bool
  | .ld .. | .ldn .. | .get .. => true
  | o => !o.quiet

def IntKind.num : IntKind → Nat
  | .i8 => 0 | .i16 => 1 | .i32 => 2 | .i64 => 3 | .u8 => 4 | .u16 => 5 | .u32 => 6 | .u64 => 7
def IntKind.same (j k : IntKind) : Bool := Nat.beq (IntKind.num j) (IntKind.num k)
theorem IntKind.eq_of_same {j k : IntKind} (h : IntKind.same j k = true) : j = k := by
  cases j <;> cases k <;> first | rfl | (simp [IntKind.same, IntKind.num, Nat.beq] at h)

def rdI (L : Env) (k : IntKind) (x : Operand) (K : Int → Prop) : Prop :=
  rd L x fun v => match v with
    | .int j n => bif IntKind.same j k then K n else False
    | _ => False
/-- An integer of whatever kind. -/
def rdZ (L : Env) (x : Operand) (K : Int → Prop) : Prop :=
  rd L x fun v => match v with
    | .int _ n => K n
    | _ => False

theorem rdI_sound {a : Act} {n : Nat} {L : Env} {k : IntKind} {x : Operand} {K : Int → Prop} (h : rdI L k x K) (ha : Agr a.tmps n L) : ∃ z, a.eval x = .int k z ∧ K z := by
  have h' := rd_sound h ha
  split at h'
  · rename_i j z hv
    cases hs : IntKind.same j k with
    | false => rw [hs] at h'; exact h'.elim
    | true => rw [hs] at h'; have e := IntKind.eq_of_same hs; subst e; exact ⟨z, hv, h'⟩
  · exact h'.elim
theorem rdZ_sound {a : Act} {n : Nat} {L : Env} {x : Operand} {K : Int → Prop} (h : rdZ L x K) (ha : Agr a.tmps n L) : ∃ k z, a.eval x = .int k z ∧ K z := by
  have h' := rd_sound h ha
  split at h'
  · rename_i j z hv; exact ⟨j, z, hv, h'⟩
  · exact h'.elim

/-- What two bits make. -/
def bitsOf (op : BinOp) (k : IntKind) (x y : Int) : Int :=
  k.wrap (match op with
    | .and => BitVec.ofInt k.bits x &&& BitVec.ofInt k.bits y
    | .or => BitVec.ofInt k.bits x ||| BitVec.ofInt k.bits y
    | .xor => BitVec.ofInt k.bits x ^^^ BitVec.ofInt k.bits y
    | _ => BitVec.ofInt k.bits x &&& ~~~(BitVec.ofInt k.bits y)).toNat

structure Bits (op : BinOp) (k : IntKind) (x y : Int) (K : Int → Prop) : Prop where
  out : K (bitsOf op k x y)
theorem Bits_eq (op : BinOp) (k : IntKind) (x y : Int) (K : Int → Prop) : Bits op k x y K = (K (bitsOf op k x y)) := propext ⟨fun h => h.out, fun h => ⟨h⟩⟩

def ibinV (op : BinOp) (k : IntKind) (x y : Int) (K : Sv → Prop) : Prop :=
  match op with
  | .add => Wrap k (x + y) fun z => K (.v (.int k z))
  | .sub => Wrap k (x - y) fun z => K (.v (.int k z))
  | .mul => Wrap k (x * y) fun z => K (.v (.int k z))
  | .quo => Need (y ≠ 0) (Quo x y fun q => Wrap k q fun z => K (.v (.int k z)))
  | .rem => Need (y ≠ 0) (Rem x y fun z => K (.v (.int k z)))
  | .and => Bits .and k x y fun z => K (.v (.int k z))
  | .or => Bits .or k x y fun z => K (.v (.int k z))
  | .xor => Bits .xor k x y fun z => K (.v (.int k z))
  | .andNot => Bits .andNot k x y fun z => K (.v (.int k z))
  | .shl => Need (0 ≤ y) (Shl k x y fun e => Wrap k e fun z => K (.v (.int k z)))
  | .shr => Need (0 ≤ y) (Shr k x y fun z => K (.v (.int k z)))
  | .eql => K (.v (.bool (x == y)))
  | .neq => K (.v (.bool (x != y)))
  | .lss => K (.v (.bool (decide (x < y))))
  | .leq => K (.v (.bool (decide (x ≤ y))))
  | .gtr => K (.v (.bool (decide (x > y))))
  | .geq => K (.v (.bool (decide (x ≥ y))))

def sbinV (op : BinOp) (x y : ByteArray) (K : Sv → Prop) : Prop :=
  match op with
  | .add => Need (x.size + y.size ≤ 9223372036854775807) (K (.v (.string (x ++ y))))
  | .eql => K (.v (.bool (x.toList == y.toList)))
  | .neq => K (.v (.bool !(x.toList == y.toList)))
  | .lss => K (.v (.bool (Op.bytesLess x.toList y.toList)))
  | .leq => K (.v (.bool (Op.bytesLess x.toList y.toList || x.toList == y.toList)))
  | .gtr => K (.v (.bool !(Op.bytesLess x.toList y.toList || x.toList == y.toList)))
  | .geq => K (.v (.bool !Op.bytesLess x.toList y.toList))
  | _ => False

/-- A known Bool as such. -/
def Sv.ofB : Bool → Sv
  | true => .t
  | false => .f

/-- Where a slice's array lies. -/
def blk : Option Addr → Nat
  | some a => a.block
  | none => 0
def ofs : Option Addr → Nat
  | some a => a.off
  | none => 0
def plainA (a : Option Addr) : Prop := a = some ⟨blk a, ofs a, none⟩

/-- 'nilAhead' says no. -/
structure NilNo (P : Program) (t : TypeId) (v : Value) (name : String) (X : Prop) : Prop where
  out : (∀ w, (nilAhead (P.types.size + Made.depth) t v name).run P w = .ok (some false) w) ∧ X
theorem NilNo_eq (P : Program) (t : TypeId) (v : Value) (name : String) (X : Prop) : NilNo P t v name X = ((∀ w, (nilAhead (P.types.size + Made.depth) t v name).run P w = .ok (some false) w) ∧ X) := propext ⟨fun h => h.out, fun h => ⟨h⟩⟩
/-- The byte of a string. -/
structure ByteAt (s : ByteArray) (i : Int) (K : Int → Prop) : Prop where
  out : ∃ b : UInt8, 0 ≤ i ∧ s[i.toNat]? = some b ∧ K b.toNat
theorem ByteAt_eq (s : ByteArray) (i : Int) (K : Int → Prop) : ByteAt s i K = (∃ b : UInt8, 0 ≤ i ∧ s[i.toNat]? = some b ∧ K b.toNat) := propext ⟨fun h => h.out, fun h => ⟨h⟩⟩

/-- A slice's part. -/
def slcA (a : Option Addr) (cap l size : Nat) : Option Addr := if cap = l then a else a.map (·.add (l * size))
def slcV (size : Nat) (L : Env) (lo hi : Option Operand) (x : Value) (K : Sv → Prop) : Prop :=
  match x with
  | .slice a len cap => match lo, hi with
    | none, none => K (.v (.slice a len cap))
    | none, some h => rdZ L h fun h => Need (0 ≤ h ∧ h ≤ (cap : Int)) (K (.v (.slice a h.toNat cap)))
    | some l, none => rdZ L l fun l => Need (0 ≤ l ∧ l ≤ (len : Int)) (K (.v (.slice (slcA a cap l.toNat size) (len - l.toNat) (cap - l.toNat))))
    | some l, some h => rdZ L l fun l => rdZ L h fun h => Need (0 ≤ l ∧ l ≤ h ∧ h ≤ (cap : Int)) (K (.v (.slice (slcA a cap l.toNat size) (h.toNat - l.toNat) (cap - l.toNat))))
  | _ => False
def slsV (L : Env) (lo hi : Option Operand) (x : Value) (K : Sv → Prop) : Prop :=
  match x with
  | .string s => match lo, hi with
    | none, none => K (.v (.string (s.extract 0 s.size)))
    | none, some h => rdZ L h fun h => Need (0 ≤ h ∧ h ≤ (s.size : Int)) (K (.v (.string (s.extract 0 h.toNat))))
    | some l, none => rdZ L l fun l => Need (0 ≤ l ∧ l ≤ (s.size : Int)) (K (.v (.string (s.extract l.toNat s.size))))
    | some l, some h => rdZ L l fun l => rdZ L h fun h => Need (0 ≤ l ∧ l ≤ h ∧ h ≤ (s.size : Int)) (K (.v (.string (s.extract l.toNat h.toNat))))
  | _ => False

def nthL : List Value → Nat → (Value → Prop) → Prop
  | [], _, _ => False
  | v :: _, 0, K => K v
  | _ :: vs, i + 1, K => nthL vs i K
def takeL : List Value → Nat → (List Value → Prop) → Prop
  | _, 0, K => K []
  | v :: vs, n + 1, K => takeL vs n fun l => K (v :: l)
  | [], _ + 1, _ => False
def dropL : List Value → Nat → (List Value → Prop) → Prop
  | vs, 0, K => K vs
  | _ :: vs, n + 1, K => dropL vs n K
  | [], _ + 1, _ => False

/-- The cells of a value. -/
def Value.cellsL : Value → List Value
  | .agg ⟨cs⟩ => cs
  | v => [v]
def setL : List Value → Nat → List Value → List Value
  | cs, _, [] => cs
  | [], _, _ => []
  | _ :: cs, 0, v :: vs => v :: setL cs 0 vs
  | c :: cs, i + 1, vs => c :: setL cs i vs
def forceL : List Value → (List Value → Prop) → Prop
  | [], K => K []
  | v :: vs, K => forceL vs fun l => K (v :: l)
def lenIs : List Value → Nat → Bool
  | [], 0 => true
  | _ :: l, n + 1 => lenIs l n
  | _, _ => false
def hasL : List Value → Nat → Nat → Bool
  | _, 0, 0 => true
  | _ :: l, 0, n + 1 => hasL l 0 n
  | _ :: l, o + 1, n => hasL l o n
  | [], _, _ => false
theorem lenIs_spec : ∀ (l : List Value) (n : Nat), lenIs l n = true → l.length = n
  | [], 0, _ => rfl
  | _ :: l, n + 1, h => by simp [lenIs_spec l n h]
theorem hasL_spec : ∀ (l : List Value) (o n : Nat), hasL l o n = true → o + n ≤ l.length
  | _, 0, 0, _ => by omega
  | _ :: l, 0, n + 1, h => by have := hasL_spec l 0 n h; simp; omega
  | _ :: l, o + 1, n, h => by have := hasL_spec l o n (by cases n <;> exact h); simp; omega
def fillL : List Value → List ((Nat × Nat) × Value) → (List Value → Prop) → Prop
  | cs, [], K => forceL cs K
  | cs, ((off, size), v) :: rest, K => bif lenIs (Value.cellsL v) size then (bif hasL cs off size then fillL (setL cs off (Value.cellsL v)) rest K else False) else False

/-- What a quiet operation gives: in every world of the class 'S'. -/
def yd (P : Program) (S : World → Prop) (L : Env) (o : SO) (K : Sv → Prop) : Prop :=
  match o with
  | .mv x => rdS L x K
  | .pick c a b => rdS L c fun s => match s with
    | .t => rdS L a K
    | .f => rdS L b K
    | .v (.bool q) => Cond q (rdS L a K) (rdS L b K)
    | .v _ => False
  | .ibin op k x y => match op with
    | .shl => rdI L k x fun x => rdZ L y fun y => ibinV .shl k x y K
    | .shr => rdI L k x fun x => rdZ L y fun y => ibinV .shr k x y K
    | op => rdI L k x fun x => rdI L k y fun y => ibinV op k x y K
  | .sbin op x y => rd L x fun x => rd L y fun y => match x, y with
    | .string x, .string y => sbinV op x y K
    | _, _ => False
  | .bbin ne x y => rd L x fun x => rd L y fun y => match x, y with
    | .bool x, .bool y => K (.v (.bool (if ne then !(x == y) else x == y)))
    | _, _ => False
  | .isnil kind ne x => rd L x fun x => match kind, x with
    | 0, .pointer none => K (Sv.ofB (!ne))
    | 0, .pointer (some _) => K (Sv.ofB ne)
    | 1, .slice none _ _ => K (Sv.ofB (!ne))
    | 1, .slice (some _) _ _ => K (Sv.ofB ne)
    | 2, .map none => K (Sv.ofB (!ne))
    | 2, .map (some _) => K (Sv.ofB ne)
    | 3, .nilFunc => K (Sv.ofB (!ne))
    | 3, .func _ _ _ => K (Sv.ofB ne)
    | _, _ => False
  | .notB x => rdS L x fun s => match s with
    | .t => K .f
    | .f => K .t
    | .v (.bool q) => K (.v (.bool (!q)))
    | .v _ => False
  | .neg k x => rdI L k x fun x => Wrap k (0 - x) fun z => K (.v (.int k z))
  | .conv k x => rdZ L x fun x => Wrap k x fun z => K (.v (.int k z))
  | .lenA x => rd L x fun x => match x with
    | .slice _ n _ => K (.v (.int .i64 (n : Int)))
    | _ => False
  | .lenS x => rd L x fun x => match x with
    | .string s => K (.v (.int .i64 (s.size : Int)))
    | _ => False
  | .mm mx k x y => rdI L k x fun x => rdI L k y fun y => K (.v (.int k (bif mx then max x y else min x y)))
  | .fad off x => rd L x fun x => match x with
    | .pointer (some ⟨b, o, none⟩) => K (.v (.pointer (some ⟨b, o + off, none⟩)))
    | _ => False
  | .fld off x => rd L x fun x => match x with
    | .agg ⟨cs⟩ => nthL cs off fun v => K (.v v)
    | _ => False
  | .flds off n x => rd L x fun x => match x with
    | .agg ⟨cs⟩ => dropL cs off fun l => takeL l n fun vs => K (.v (.agg ⟨vs⟩))
    | _ => False
  | .ixA size x i => rd L x fun x => rdZ L i fun i => match x with
    | .slice a len _ => Need (0 ≤ i ∧ i < (len : Int)) (Need (plainA a) (K (.v (.pointer (some ⟨blk a, ofs a + i.toNat * size, none⟩)))))
    | _ => False
  | .ixP len size x i => rd L x fun x => rdZ L i fun i => match x with
    | .pointer (some ⟨b, o, none⟩) => Need (0 ≤ i ∧ i < (len : Int)) (K (.v (.pointer (some ⟨b, o + i.toNat * size, none⟩))))
    | _ => False
  | .ixS x i => rd L x fun x => rdZ L i fun i => match x with
    | .string s => ByteAt s i fun n => K (.v (.int .u8 n))
    | _ => False
  | .ld x => rd L x fun x => match x with
    | .pointer (some a) => Load a S fun v => K (.v v)
    | _ => False
  | .ldn n x => rd L x fun x => match x with
    | .pointer (some a) => LoadN a n S fun v => K (.v v)
    | _ => False
  | .nck x => rd L x fun x => match x with
    | .pointer (some a) => K (.v (.pointer (some a)))
    | .func (.method name) first captured => match first with
      | ⟨[.iface t v]⟩ => NilNo P t v name (K (.v (.func (.method name) ⟨[.iface t v]⟩ captured)))
      | _ => False
    | .func (.func f) first captured => K (.v (.func (.func f) first captured))
    | .iface t v => K (.v (.iface t v))
    | _ => False
  | .ext x i => rd L x fun x => match x with
    | .tuple ⟨vs⟩ => nthL vs i fun v => K (.v v)
    | _ => False
  | .mkf fn first captured => rds L first fun first => rds L captured fun captured => K (.v (.func fn ⟨first⟩ ⟨captured⟩))
  | .mki t x => rd L x fun x => K (.v (.iface t x))
  | .slc size x lo hi => rd L x fun x => slcV size L lo hi x K
  | .sls x lo hi => rd L x fun x => slsV L lo hi x K
  | .asrt t zero x => rd L x fun x => match x with
    | .iface u v => bif Nat.beq u t then K (.v (.tuple ⟨[v, .bool true]⟩)) else K (.v (.tuple ⟨[zero, .bool false]⟩))
    | .nilIface => K (.v (.tuple ⟨[zero, .bool false]⟩))
    | _ => False
  | .bld zero places args => rds L args fun vs => fillL zero (places.zip vs) fun cs => K (.v (.agg ⟨cs⟩))
  | .get g args => rds L args fun vs => Get P (G.sem g vs) S fun v => K (.v v)
  | _ => False

/-- May a function be called by its number? -/
def callable (P : Program) (f : FuncId) : Bool :=
  match P.funcs[f]? with
  | some fn => fn.body.isSome && !(fn.name == "runtime.NumGoroutine")
  | none => false

/-- A call of a function whose number the walk comes to. -/
structure FnV (P : Program) (f : FuncId) (args : Array Value) (w : World) (R : Value → World → Prop) : Prop where
  out : callable P f = true ∧ Cal P f args w R
theorem FnV_eq (P : Program) (f : FuncId) (args : Array Value) (w : World) (R : Value → World → Prop) : FnV P f args w R = (callable P f = true ∧ Cal P f args w R) := propext ⟨fun h => h.out, fun h => ⟨h⟩⟩
/-- A call of a method of an interface value. -/
structure FnI (P : Program) (t : TypeId) (v : Value) (name : String) (args : List Value) (w : World) (R : Value → World → Prop) : Prop where
  out : ∃ f r, (∀ w, (method (P.types.size + Made.depth) t v name).run P w = .ok (f, r) w) ∧ callable P f = true ∧ Cal P f ⟨r :: args⟩ w R
theorem FnI_eq (P : Program) (t : TypeId) (v : Value) (name : String) (args : List Value) (w : World) (R : Value → World → Prop) : FnI P t v name args w R = (∃ f r, (∀ w, (method (P.types.size + Made.depth) t v name).run P w = .ok (f, r) w) ∧ callable P f = true ∧ Cal P f ⟨r :: args⟩ w R) := propext ⟨fun h => h.out, fun h => ⟨h⟩⟩

/-- What an operation gives and does. -/
def vcO (P : Program) (L : Env) (o : SO) (w : World) (K : Sv → World → Prop) : Prop :=
  match o with
  | .new zero elem => New zero elem w fun b w => K (.v (.pointer (some ⟨b, 0, none⟩))) w
  | .box elem x => rd L x fun x => New (Value.cellsL x) elem w fun b w => K (.v (.pointer (some ⟨b, 0, none⟩))) w
  | .bsl elem len zero places args => rds L args fun vs => fillL zero (places.zip vs) fun cs => New cs elem w fun b w => K (.v (.slice (some ⟨b, 0, none⟩) len len)) w
  | .st x v => rd L x fun x => rd L v fun v => match x with
    | .pointer (some a) => Store a v w fun w => K (.v undef) w
    | _ => False
  | .stn n x v => rd L x fun x => rd L v fun v => match x, v with
    | .pointer (some a), .agg ⟨vs⟩ => bif lenIs vs n then StoreN a vs w fun w => K (.v undef) w else False
    | _, _ => False
  | .run g args => rds L args fun vs => Run P (G.sem g vs) w fun v w => K (.v v) w
  | .call f args => rds L args fun vs => Cal P f ⟨vs⟩ w fun v w => K (.v v) w
  | .callv x args => rd L x fun x => rds L args fun vs => match x with
    | .func (.func f) ⟨first⟩ ⟨captured⟩ => FnV P f ⟨first ++ vs ++ captured⟩ w fun v w => K (.v v) w
    | .func (.method name) ⟨[.iface t v]⟩ ⟨[]⟩ => FnI P t v name vs w fun v w => K (.v v) w
    | _ => False
  | .calli x name args => rd L x fun x => rds L args fun vs => match x with
    | .iface t v => FnI P t v name vs w fun v w => K (.v v) w
    | _ => False
  | o => yd P (fun w' => w' = w) L o fun s => K s w


/-! ### Slim code -/
structure St where
  d : Option Nat
  g : Option (Nat × Bool)
  o : SO

/-- In which order a region's operations may be taken. -/
inductive Plan where
  | done
  | take (i : Nat) (s : St) (p : Plan)
  | step (i : Nat) (h : Bool) (s : St) (p : Plan)
  | alt (p q : Plan)

inductive S where
  | skip
  | row (l : List St)
  | draw (p : Plan)
  | seq (a b : S)
  | cond (c : Operand) (a b : S)
  | block (id : Nat) (b : S)
  | loop (names wr : List Nat) (b : S)
  | exit (id : Nat)
  | scope (b : S)
  | ret
  | prune (l : List Nat) (b : S)

def putD (n : Nat) (d : Option Nat) (s : Sv) (L : Env) (K : Env → Prop) : Prop :=
  match d with
  | none => K L
  | some d => bif Nat.ble n d then False else K ((d, s) :: L)

def guardG (L : Env) (g : Option (Nat × Bool)) (Y N : Env → Prop) : Prop :=
  match g with
  | none => Y L
  | some (t, want) => match Env.find L t with
    | some .t => bif want then Y L else N L
    | some .f => bif want then N L else Y L
    | some (.v (.bool b)) => bif want then Cond b (Y ((t, .t) :: L)) (N ((t, .f) :: L)) else Cond b (N ((t, .t) :: L)) (Y ((t, .f) :: L))
    | some (.v (.tuple _)) => N L
    | _ => False

/-- One operation of a row; 'ih': the rest. -/
def rowStep (P : Program) (n : Nat) (s : St) (ih : Env → World → (Env → World → Prop) → Prop) (L : Env) (w : World) (K : Env → World → Prop) : Prop :=
  guardG L s.g (fun L => vcO P L s.o w fun v w => putD n s.d v L fun L => ih L w K) (fun L => putD n s.d (.v undef) L fun L => ih L w K)
-- by the recursor itself: so that the kernel meets what was unfolded as it was unfolded
def vcRow (P : Program) (n : Nat) (l : List St) : Env → World → (Env → World → Prop) → Prop :=
  List.rec (motive := fun _ => Env → World → (Env → World → Prop) → Prop) (fun L w K => K L w) (fun s _ ih => rowStep P n s ih) l
theorem vcRow_cons (P : Program) (n : Nat) (s : St) (r : List St) (L : Env) (w : World) (K : Env → World → Prop) :
    vcRow P n (s :: r) L w K = guardG L s.g (fun L => vcO P L s.o w fun v w => putD n s.d v L fun L => vcRow P n r L w K) (fun L => putD n s.d (.v undef) L fun L => vcRow P n r L w K) := rfl

/-- The class is held. -/
structure Held (p X : Prop) : Prop where
  out : p ∧ X
theorem Held_eq (p X : Prop) : Held p X = (p ∧ X) := propext ⟨fun h => h.out, fun h => ⟨h⟩⟩

def takeStep (P : Program) (n : Nat) (C : World → Prop) (s : St) (ih : Env → World → (Env → World → Prop) → Prop) (L : Env) (w : World) (K : Env → World → Prop) : Prop :=
  guardG L s.g (fun L => yd P C L s.o fun v => putD n s.d v L fun L => ih L w K) (fun L => putD n s.d (.v undef) L fun L => ih L w K)
def stepStep (P : Program) (n : Nat) (C : World → Prop) (h : Bool) (s : St) (ih : Env → World → (Env → World → Prop) → Prop) (L : Env) (w : World) (K : Env → World → Prop) : Prop :=
  guardG L s.g (fun L => vcO P L s.o w fun v w => bif h then Held (C w) (putD n s.d v L fun L => ih L w K) else putD n s.d v L fun L => ih L w K) (fun L => putD n s.d (.v undef) L fun L => ih L w K)
def altStep (ih ih' : Env → World → (Env → World → Prop) → Prop) (L : Env) (w : World) (K : Env → World → Prop) : Prop := Both (ih L w K) (ih' L w K)
def vcPlan (P : Program) (n : Nat) (C : World → Prop) (p : Plan) : Env → World → (Env → World → Prop) → Prop :=
  Plan.rec (motive := fun _ => Env → World → (Env → World → Prop) → Prop) (fun L w K => K L w) (fun _ s _ ih => takeStep P n C s ih) (fun _ h s _ ih => stepStep P n C h s ih) (fun _ _ ih ih' => altStep ih ih') p
theorem vcPlan_take (P : Program) (n : Nat) (C : World → Prop) (i : Nat) (s : St) (p : Plan) (L : Env) (w : World) (K : Env → World → Prop) : vcPlan P n C (.take i s p) L w K =
    guardG L s.g (fun L => yd P C L s.o fun v => putD n s.d v L fun L => vcPlan P n C p L w K) (fun L => putD n s.d (.v undef) L fun L => vcPlan P n C p L w K) := rfl
theorem vcPlan_step (P : Program) (n : Nat) (C : World → Prop) (i : Nat) (h : Bool) (s : St) (p : Plan) (L : Env) (w : World) (K : Env → World → Prop) : vcPlan P n C (.step i h s p) L w K =
    guardG L s.g (fun L => vcO P L s.o w fun v w => bif h then Held (C w) (putD n s.d v L fun L => vcPlan P n C p L w K) else putD n s.d v L fun L => vcPlan P n C p L w K) (fun L => putD n s.d (.v undef) L fun L => vcPlan P n C p L w K) := rfl
theorem vcPlan_alt (P : Program) (n : Nat) (C : World → Prop) (p q : Plan) (L : Env) (w : World) (K : Env → World → Prop) : vcPlan P n C (.alt p q) L w K = Both (vcPlan P n C p L w K) (vcPlan P n C q L w K) := rfl

def rdN (L : Env) : List Nat → (List Value → Prop) → Prop
  | [], K => K []
  | j :: l, K => rd L (.tmp j) fun v => rdN L l fun vs => K (v :: vs)

def zipE : List Nat → List Value → Env → Env
  | n :: ns, v :: vs, L => (n, .v v) :: zipE ns vs L
  | _, _, L => L

abbrev VC := Env → World → (Env → World → Prop) → (Nat → Env → World → Prop) → (Env → World → Prop) → Prop
def seqStep (ih ih' : VC) : VC := fun L w N X R => ih L w (fun L w => ih' L w N X R) X R
def condStep (c : Operand) (ih ih' : VC) : VC := fun L w N X R => rdS L c fun s => match s with
  | .t => ih L w N X R
  | .f => ih' L w N X R
  | .v (.bool q) => Cond q (ih L w N X R) (ih' L w N X R)
  | .v _ => False
def blockStep (id : Nat) (ih : VC) : VC := fun L w N X R => ih L w N (fun i L w => bif Nat.beq i id then N L w else X i L w) R
def loopStep (names wr : List Nat) (ih : VC) : VC := fun L w _ X R => rdN L names fun vs => Env.lose L wr fun L0 =>
  LoopP vs w fun vs w again => ih (zipE names vs L0) w (fun L w => rdN L names fun vs => again vs w) X R
def vc (P : Program) (n : Nat) (s : S) : VC :=
  S.rec (motive := fun _ => VC) (fun L w N _ _ => N L w) (fun l L w N _ _ => vcRow P n l L w N) (fun p L w N _ _ => Draw w fun C w => vcPlan P n C p L w N) (fun _ _ ih ih' => seqStep ih ih') (fun c _ _ ih ih' => condStep c ih ih')
    (fun id _ ih => blockStep id ih) (fun names wr _ ih => loopStep names wr ih) (fun id L w _ X _ => X id L w) (fun _ ih => ih) (fun L w _ _ R => R L w) (fun l _ ih L w N X R => Env.keep L l fun L => ih L w N X R) s

/-! ### From the model's code to slim code -/
def agg? (P : Program) (t : TypeId) : Bool :=
  match P.underlying t with
  | some (.struct _) | some (.array _ _) => true
  | _ => false

def placesOf (P : Program) (t : TypeId) (parts : List (Nat × Operand)) : Option (List (Nat × Nat)) :=
  match P.underlying t with
  | some (.struct fields) => (fields.toList.mapM fun f => (P.info? f.type).map fun i => (f.offset, i.size)).bind fun all => parts.mapM fun p => all[p.1]?
  | some (.array _ elem) => (P.info? elem).map fun inf => parts.map fun p => (p.1 * inf.size, inf.size)
  | _ => none

def repL : Nat → List Value → List Value
  | 0, _ => []
  | n + 1, z => z ++ repL n z

def slimCall (P : Program) (c : Call) (ty : TypeId) : Option SO :=
  match c.callee with
  | .builtin b => match b, c.args.toList, (c.argTypes[0]?).bind P.underlying with
    | .len, [x], some (.slice _) => some (.lenA x)
    | .len, [x], some .string => some (.lenS x)
    | .len, [x], some (.map _ _) => some (.get (.bi .len c.argTypes ty) [x])
    | .cap, [x], _ => some (.get (.bi .cap c.argTypes ty) [x])
    | .min, [x, y], some (.int k) => some (.mm false k x y)
    | .max, [x, y], some (.int k) => some (.mm true k x y)
    | .append, xs, _ => some (.run (.bi .append c.argTypes ty) xs)
    | .copy, xs, _ => some (.run (.bi .copy c.argTypes ty) xs)
    | .delete, xs, _ => some (.run (.bi .delete c.argTypes ty) xs)
    | .clear, xs, _ => some (.run (.bi .clear c.argTypes ty) xs)
    | _, _, _ => none
  | .value (.func f) => if callable P f then some (.call f c.args.toList) else none
  | .value x => some (.callv x c.args.toList)
  | .invoke x name => some (.calli x name c.args.toList)

/-- '==' with nil at such types may be told by 'isnil'. -/
def nilKind (P : Program) (t : TypeId) : Operand → Option Nat
  | .const (.pointer none) => match P.underlying t with | some (.pointer _) => some 0 | _ => none
  | .const (.slice none 0 0) => match P.underlying t with | some (.slice _) => some 1 | _ => none
  | .const (.map none) => match P.underlying t with | some (.map _ _) => some 2 | _ => none
  | .const .nilFunc => match P.underlying t with | some (.func _ _ _) => some 3 | _ => none
  | _ => none

def slimBin (P : Program) (op : BinOp) (t : TypeId) (x y : Operand) : Option SO :=
  match P.underlying t with
  | some (.int k) => some (.ibin op k x y)
  | some .string => some (.sbin op x y)
  | some .bool => match op with
    | .eql => some (.bbin false x y)
    | .neq => some (.bbin true x y)
    | _ => none
  | _ => match op, nilKind P t y with
    | .eql, some k => some (.isnil k false x)
    | .neq, some k => some (.isnil k true x)
    | .eql, none => some (.get (.eq .eql t x y) [x, y])
    | .neq, none => some (.get (.eq .neq t x y) [x, y])
    | _, _ => none

def slimOp (P : Program) (o : Oper) : Option SO :=
  match o.op with
  | .move x => some (.mv x)
  | .assign x => some (.mv x)
  | .pick c a b => some (.pick c a b)
  | .binOp op t x y _ => slimBin P op t x y
  | .unOp .not _ x => some (.notB x)
  | .unOp .neg t x => match P.underlying t with
    | some (.int k) => some (.neg k x)
    | _ => none
  | .convert src dst x => match P.underlying src, P.underlying dst with
    | some (.int _), some (.int k) => some (.conv k x)
    | some (.slice _), some .string => some (.get (.conv src dst) [x])
    | some .string, some .string => some (.get (.conv src dst) [x])
    | some (.slice _), some (.slice _) => some (.run (.conv src dst) [x])
    | some .string, some (.slice _) => some (.run (.conv src dst) [x])
    | _, _ => none
  | .call c => slimCall P c o.type
  | .alloc elem => match (P.info? elem).bind (·.zero) with
    | some z => some (.new (Value.cellsL z) elem)
    | none => none
  | .box elem x => some (.box elem x)
  | .build t parts => match (P.info? t).bind (·.zero), placesOf P t parts.toList with
    | some z, some ps => some (.bld (Value.cellsL z) ps (parts.toList.map (·.2)))
    | _, _ => none
  | .buildSlice t len parts => match P.underlying t with
    | some (.slice elem) => match (P.info? elem).bind fun i => i.zero.map fun z => (i.size, z) with
      | some (size, z) =>
        if (Value.cellsL z).length == size && 0 < size && len * size ≤ 2 ^ 24 then
          some (.bsl elem len (repL len (Value.cellsL z)) (parts.toList.map fun p => (p.1 * size, size)) (parts.toList.map (·.2)))
        else none
      | none => none
    | _ => none
  | .load t x => match agg? P t, P.info? t with
    | true, some i => some (.ldn i.size x)
    | false, some _ => if (P.underlying t).isSome then some (.ld x) else none
    | _, _ => none
  | .store t x v => match agg? P t, P.info? t with
    | true, some i => some (.stn i.size x v)
    | false, some i => if (P.underlying t).isSome && i.size == 1 then some (.st x v) else none
    | _, _ => none
  | .nilCheck x => some (.nck x)
  | .makeInterface t x => match P.underlying t with
    | some (.interface _) => none
    | some _ => some (.mki t x)
    | none => none
  | .makeFunc fn first captured => some (.mkf fn first.toList captured.toList)
  | .makeMap t r => some (.run (.makeMap t) r.toList)
  | .makeSlice t l c => some (.run (.makeSlice t) [l, c])
  | .slice t x lo hi mx => match P.underlying t, mx with
    | some (.slice e), none => (P.info? e).map fun i => .slc i.size x lo hi
    | some .string, none => some (.sls x lo hi)
    | _, _ => if mx.isSome && !hi.isSome then none else some (.get (.slice t lo.isSome hi.isSome mx.isSome) (x :: (lo.toList ++ hi.toList ++ mx.toList)))
  | .fieldAddr s x f => match P.underlying s with
    | some (.struct fields) => match fields[f]? with
      | some fd => if P.cellsOf fd.type == 0 || !(P.info? fd.type).isSome then none else some (.fad fd.offset x)
      | none => none
    | _ => none
  | .field t x f => match P.underlying t with
    | some (.struct fields) => match fields[f]? with
      | some fd => match agg? P fd.type, P.info? fd.type with
        | true, some i => some (.flds fd.offset i.size x)
        | false, some _ => if (P.underlying fd.type).isSome then some (.fld fd.offset x) else none
        | _, _ => none
      | none => none
    | _ => none
  | .indexAddr t x i => match P.underlying t with
    | some (.slice e) => (P.info? e).map fun inf => .ixA inf.size x i
    | some (.array len e) => (P.info? e).map fun inf => .ixP len inf.size x i
    | _ => none
  | .index t x i => match P.underlying t with
    | some .string => some (.ixS x i)
    | _ => some (.get (.index t) [x, i])
  | .lookup t x i ok => some (.get (.lookup t ok) [x, i])
  | .mapUpdate t m k v => some (.run (.mapUpdate t) [m, k, v])
  | .insert t m k v => some (.run (.mapUpdate t) [m, k, v])
  | .mapEntry t m k => some (.run (.mapEntry t) [m, k])
  | .entryStore t m s v => some (.run (.entryStore t) [m, s, v])
  | .range t x => some (.run (.range t) [x])
  | .next it s => some (.run (.next s o.type) [it])
  | .typeAssert x _ asserted true => match P.underlying asserted, (P.info? asserted).bind (·.zero) with
    | some (.interface _), _ => none
    | some _, some z => some (.asrt asserted z x)
    | _, _ => none
  | .extract x i => some (.ext x i)
  | _ => none

def slimSt (P : Program) (ops : Array Oper) (o : Oper) : Option St := do
  let so ← slimOp P o
  match o.guard with
  | none => pure ⟨o.dst, none, so⟩
  | some (j, want) => do
    let oj ← ops[j]?
    let t ← oj.dst
    pure ⟨o.dst, some (t, want), so⟩

def rsP : Plan → List Nat
  | .step i _ _ _ => [i]
  | .alt p q => rsP p ++ rsP q
  | _ => []

def Plan.isAlt : Plan → Bool
  | .alt _ _ => true
  | _ => false

/-- Which operations of a region look into memory, and change nothing. -/
def readers (P : Program) (ops : Array Oper) : List Nat :=
  (List.range ops.size).filter fun q => match (ops[q]?).bind (slimSt P ops) with
    | some st => st.o.quiet && st.o.reads
    | none => true
/-- Does operation number 'j' wait for all that look into memory? -/
def waits (ops : Array Oper) (rs : List Nat) (j : Nat) : Bool :=
  rs.all fun q => Nat.beq q j || match ops[j]? with
    | some o => o.after.any fun e => Region.binds .any e && e.on == q
    | none => false

/-- A plan that fits. 'fork': the ready ones have been asked for already. -/
def redoPlan (P : Program) (ops : Array Oper) (rs : List Nat) : Plan → Bool → Nat → Array Bool → Option Plan
  | .done, _, _, listed => if (Region.ready .any ops listed).isEmpty then some .done else none
  | .take i _ p, _, fuel, listed => match fuel with
    | 0 => none
    | fuel + 1 => do
      let o ← ops[i]?
      let st ← slimSt P ops o
      if st.o.quiet && Region.free .any ops listed i && (Region.ready .any ops listed).contains i then
        let p' ← redoPlan P ops rs p false fuel (listed.setIfInBounds i true)
        pure (.take i st p')
      else none
  | .step i h s p, forked, fuel, listed => match fuel with
    | 0 => none
    | fuel + 1 => do
      let o ← ops[i]?
      let st ← slimSt P ops o
      if forked || Region.ready .any ops listed == rsP (.step i h s p) then
        let p' ← redoPlan P ops rs p false fuel (listed.setIfInBounds i true)
        pure (.step i (!waits ops rs i) st p')
      else none
  | .alt p q, forked, fuel, listed => do
    if forked || Region.ready .any ops listed == rsP (.alt p q) then
      let p' ← redoPlan P ops rs p true fuel listed
      let q' ← redoPlan P ops rs q true fuel listed
      pure (.alt p' q')
    else none

def wrP : Plan → List Nat
  | .done => []
  | .take _ s p => s.d.toList ++ wrP p
  | .step _ _ s p => s.d.toList ++ wrP p
  | .alt p q => wrP p ++ wrP q

def wrS : S → List Nat
  | .row l => l.flatMap fun s => s.d.toList
  | .draw p => wrP p
  | .seq a b => wrS a ++ wrS b
  | .cond _ a b => wrS a ++ wrS b
  | .block _ b => wrS b
  | .loop _ _ b => wrS b
  | .scope b => wrS b
  | .prune _ b => wrS b
  | _ => []

def forkOnly : Plan → Bool
  | .step .. => true
  | .alt p q => forkOnly p && forkOnly q
  | _ => false
/-- Under an 'alt' there are steps alone. -/
def wellP : Plan → Bool
  | .done => true
  | .take _ _ p => wellP p
  | .step _ _ _ p => wellP p
  | .alt p q => forkOnly p && forkOnly q && wellP p && wellP q

def redo (P : Program) : S → Code → Option S
  | .skip, .skip => some .skip
  | .row _, .region _ ops false => (ops.toList.mapM (slimSt P ops)).map .row
  | .draw p, .region _ ops true => if Region.noSelect ops && wellP p then (redoPlan P ops (readers P ops) p false ops.size (Array.replicate ops.size false)).map .draw else none
  | .seq a b, .seq c d => do pure (.seq (← redo P a c) (← redo P b d))
  | .cond _ a b, .cond c x y => do pure (.cond c (← redo P a x) (← redo P b y))
  | .block _ b, .block id c => do pure (.block id (← redo P b c))
  | .loop names wr b, .loop c => if (wrS b).all (mem · wr) then do pure (.loop names wr (← redo P b c)) else none
  | .exit _, .exit id => some (.exit id)
  | .scope b, .scope c => do pure (.scope (← redo P b c))
  | .ret, .ret => some .ret
  | .prune l b, c => do pure (.prune l (← redo P b c))
  | _, _ => none

end Fb

/-
  The calculus is sound: what 'vc' asks of a function's slim code is enough for a call of the function.
-/
namespace Fb
open Go

section
variable {P : Program} {C : World → Prop} {L : Env} {K : Sv → Prop} {a : Act} {n : Nat}

/-- The operation's value, in every world of the class. -/
def Gives (P : Program) (C : World → Prop) (a : Act) (o : Oper) (K : Sv → Prop) : Prop :=
  ∃ s, K s ∧ ∀ w, C w → (execOp a.eval o).run P w = .ok (.value s.val) w

/-- A value, whatever the world. -/
theorem gives_of (o : Oper) (s : Sv) (hk : K s) (h : ∀ w, (execOp a.eval o).run P w = .ok (.value s.val) w) : Gives P C a o K := ⟨s, hk, fun w _ => h w⟩

theorem nthL_spec : ∀ {vs : List Value} {i : Nat} {K : Value → Prop}, nthL vs i K → ∃ v, vs[i]? = some v ∧ K v
  | v :: _, 0, _, h => ⟨v, by simp, h⟩
  | _ :: vs, i + 1, K, h => let ⟨v, hv, hk⟩ := nthL_spec (vs := vs) (i := i) (K := K) h; ⟨v, by simpa using hv, hk⟩
theorem takeL_spec : ∀ {vs : List Value} {m : Nat} {K : List Value → Prop}, takeL vs m K → m ≤ vs.length ∧ K (vs.take m)
  | _, 0, _, h => ⟨by omega, by simpa [takeL] using h⟩
  | v :: vs, m + 1, K, h => by
    obtain ⟨h1, h2⟩ := takeL_spec (vs := vs) (m := m) h
    exact ⟨by simp; omega, by simpa using h2⟩
theorem dropL_spec : ∀ {vs : List Value} {m : Nat} {K : List Value → Prop}, dropL vs m K → m ≤ vs.length ∧ K (vs.drop m)
  | _, 0, _, h => ⟨by omega, by simpa [dropL] using h⟩
  | v :: vs, m + 1, K, h => by
    obtain ⟨h1, h2⟩ := dropL_spec (vs := vs) (m := m) h
    exact ⟨by simp; omega, by simpa using h2⟩

theorem Sv.ofB_val (b : Bool) : (Sv.ofB b).val = .bool b := by cases b <;> rfl

theorem gives_mv {o : Oper} {x : Operand} (ho : o.op = .move x ∨ o.op = .assign x) (h : rdS L x K) (ha : Agr a.tmps n L) : Gives P C a o K := by
  obtain ⟨s, hk, he⟩ := rdS_sound h ha
  refine gives_of o s hk fun w => ?_
  rcases ho with ho | ho <;> simp [execOp, ho, he]

theorem run_pick {o : Oper} {c x y : Operand} {b : Bool} (ho : o.op = .pick c x y) (hb : a.eval c = .bool b) (w : World) : (execOp a.eval o).run P w = .ok (.value (a.eval (if b then x else y))) w := by
  cases b <;> simp [execOp, ho, hb, asBool]

theorem gives_pick {o : Oper} {c x y : Operand} (ho : o.op = .pick c x y) (h : yd P C L (.pick c x y) K) (ha : Agr a.tmps n L) : Gives P C a o K := by
  simp only [yd] at h
  obtain ⟨s, hs, he⟩ := rdS_sound h ha
  have key : ∀ b : Bool, a.eval c = .bool b → (∃ s, K s ∧ a.eval (if b then x else y) = s.val) → Gives P C a o K := by
    rintro b hb ⟨s, hk, hv⟩
    exact gives_of o s hk fun w => by rw [run_pick ho hb, hv]
  cases s with
  | t => exact key true he (rdS_sound hs ha)
  | f => exact key false he (rdS_sound hs ha)
  | v u =>
    cases u with
    | bool b =>
      simp only [Cond_eq] at hs
      cases b with
      | true => exact key true he (rdS_sound (hs.1 rfl) ha)
      | false => exact key false he (rdS_sound (hs.2 rfl) ha)
    | _ => exact hs.elim

theorem gives_sv {o : Oper} {v : Value} (hk : K (.v v)) (h : ∀ w, (execOp a.eval o).run P w = .ok (.value v) w) : Gives P C a o K := gives_of o (.v v) hk h

theorem gives_ibin {o : Oper} {op : BinOp} {t u : TypeId} {k : IntKind} {x y : Operand} (ho : o.op = .binOp op t x y u)
    (h : yd P C L (.ibin op k x y) K) (ha : Agr a.tmps n L) : Gives P C a o K := by
  by_cases hsh : op = .shl ∨ op = .shr
  · have key : rdI L k x fun x => rdZ L y fun y => ibinV op k x y K := by
      rcases hsh with rfl | rfl <;> exact h
    obtain ⟨m, hm, h1⟩ := rdI_sound key ha
    obtain ⟨j, z, hz, h2⟩ := rdZ_sound h1 ha
    rcases hsh with rfl | rfl
    · simp only [ibinV, Need_eq, Wrap_eq, Shl_eq] at h2
      exact gives_sv h2.2 fun w => by simp [execOp, ho, hm, hz, eqGuard, binOp, Op.shift, show ¬ z < 0 by omega]
    · simp only [ibinV, Need_eq, Shr_eq] at h2
      exact gives_sv h2.2 fun w => by simp [execOp, ho, hm, hz, eqGuard, binOp, Op.shift, show ¬ z < 0 by omega]
  · have key : rdI L k x fun x => rdI L k y fun y => ibinV op k x y K := by
      cases op <;> simp only [yd] at h <;> first | exact h | (simp at hsh; done)
    obtain ⟨m, hm, h1⟩ := rdI_sound key ha
    obtain ⟨z, hz, h2⟩ := rdI_sound h1 ha
    cases op <;> first | (simp at hsh; done) | skip
    all_goals simp only [ibinV, Wrap_eq, Need_eq, Quo_eq, Rem_eq, Bits_eq] at h2
    case quo => exact gives_sv h2.2 fun w => by simp [execOp, ho, hm, hz, eqGuard, binOp, Op.intDiv, h2.1]
    case rem => exact gives_sv h2.2 fun w => by simp [execOp, ho, hm, hz, eqGuard, binOp, Op.intDiv, h2.1]
    all_goals exact gives_sv h2 fun w => by simp [execOp, ho, hm, hz, eqGuard, binOp, Op.intArith, Op.intBits, Op.intCmp, bitsOf]

theorem gives_sbin {o : Oper} {op : BinOp} {t u : TypeId} {x y : Operand} (ho : o.op = .binOp op t x y u)
    (h : yd P C L (.sbin op x y) K) (ha : Agr a.tmps n L) : Gives P C a o K := by
  simp only [yd] at h
  have h0 := rd_sound h ha
  have h1 := rd_sound h0 ha
  clear h0 h
  generalize hx : a.eval x = vx at h1
  generalize hy : a.eval y = vy at h1
  cases vx <;> cases vy <;> first | exact h1.elim | skip
  rename_i s1 s2
  cases op <;> simp only [sbinV, Need_eq] at h1 <;> first | exact h1.elim | skip
  case add =>
    have hr := fun w => run_string_add_sum (P := P) w s1 s2 h1.1
    exact gives_sv h1.2 fun w => by simp only [execOp, ho, hx, hy, eqGuard, binOp_string_add, Sem.run_bind, Sem.run_pure, hr]; simp
  case eql => exact gives_sv h1 fun w => by simp [execOp, ho, hx, hy, eqGuard, binOp_string_eql]
  case neq => exact gives_sv h1 fun w => by simp [execOp, ho, hx, hy, eqGuard, binOp_string_neq]
  case lss => exact gives_sv h1 fun w => by simp [execOp, ho, hx, hy, eqGuard, binOp_string_lss]
  case leq => exact gives_sv h1 fun w => by simp [execOp, ho, hx, hy, eqGuard, binOp_string_leq]
  case gtr => exact gives_sv h1 fun w => by simp only [execOp, ho, hx, hy, eqGuard, binOp_string_gtr, Sem.run_bind, Sem.run_pure]; simp
  case geq => exact gives_sv h1 fun w => by simp [execOp, ho, hx, hy, eqGuard, binOp_string_geq]

theorem gives_notB {o : Oper} {t : TypeId} {x : Operand} (ho : o.op = .unOp .not t x) (h : yd P C L (.notB x) K) (ha : Agr a.tmps n L) : Gives P C a o K := by
  simp only [yd] at h
  obtain ⟨s, hs, he⟩ := rdS_sound h ha
  clear h
  cases s with
  | t => exact gives_of o .f hs fun w => by simp [execOp, ho, he, Sv.val, Op.unary]
  | f => exact gives_of o .t hs fun w => by simp [execOp, ho, he, Sv.val, Op.unary]
  | v u =>
    cases u <;> simp only at hs
    exact gives_sv hs fun w => by simp [execOp, ho, he, Sv.val, Op.unary]

theorem gives_neg {o : Oper} {t : TypeId} {k : IntKind} {x : Operand} (ho : o.op = .unOp .neg t x) (h : yd P C L (.neg k x) K) (ha : Agr a.tmps n L) : Gives P C a o K := by
  simp only [yd, Wrap_eq] at h
  obtain ⟨z, hz, h1⟩ := rdI_sound h ha
  exact gives_sv h1 fun w => by simp [execOp, ho, hz, Op.unary, Op.intArith]

theorem gives_conv {o : Oper} {src dst : TypeId} {j k : IntKind} {x : Operand} (ho : o.op = .convert src dst x) (hs : P.underlying src = some (.int j)) (hd : P.underlying dst = some (.int k))
    (h : yd P C L (.conv k x) K) (ha : Agr a.tmps n L) : Gives P C a o K := by
  simp only [yd, Wrap_eq] at h
  obtain ⟨j, z, hz, h1⟩ := rdZ_sound h ha
  exact gives_sv h1 fun w => by simp [execOp, ho, hz, convert, run_underlying hs, run_underlying hd, Conv.intToInt]

theorem gives_nck {o : Oper} {x : Operand} (ho : o.op = .nilCheck x) (h : yd P C L (.nck x) K) (ha : Agr a.tmps n L) : Gives P C a o K := by
  simp only [yd] at h
  have h1 := rd_sound h ha
  clear h
  generalize hx : a.eval x = v at h1
  split at h1
  · exact gives_sv h1 fun w => by simp [execOp, ho, hx]
  · split at h1
    · simp only [NilNo_eq] at h1
      obtain ⟨hn, h1⟩ := h1
      exact gives_sv h1 fun w => by simp [execOp, ho, hx, hn w]
    · exact h1.elim
  · exact gives_sv h1 fun w => by simp [execOp, ho, hx]
  · exact gives_sv h1 fun w => by simp [execOp, ho, hx]
  · exact h1.elim

theorem gives_ext {o : Oper} {x : Operand} {i : Nat} (ho : o.op = .extract x i) (h : yd P C L (.ext x i) K) (ha : Agr a.tmps n L) : Gives P C a o K := by
  simp only [yd] at h
  have h1 := rd_sound h ha
  clear h
  generalize hx : a.eval x = v at h1
  split at h1
  · obtain ⟨v, hv, hk⟩ := nthL_spec h1
    exact gives_sv hk fun w => by simp [execOp, ho, hx, Instr.extract, hv]
  · exact h1.elim

theorem gives_mkf {o : Oper} {fn : Go.Fn} {first captured : Array Operand} (ho : o.op = .makeFunc fn first captured) (h : yd P C L (.mkf fn first.toList captured.toList) K) (ha : Agr a.tmps n L) : Gives P C a o K := by
  simp only [yd] at h
  have h1 := rds_sound ha _ _ h
  have h2 := rds_sound ha _ _ h1
  refine gives_sv h2 fun w => ?_
  simp only [execOp, ho, Instr.makeFunc, Sem.run_bind, Sem.run_pure, Result.andThen_ok]
  congr 3 <;> simp [← Array.toList_inj]

theorem gives_mki {o : Oper} {t : TypeId} {d : TypeDesc} {x : Operand} (ho : o.op = .makeInterface t x) (hd : P.underlying t = some d) (hi : ∀ ms, d ≠ .interface ms) (h : yd P C L (.mki t x) K) (ha : Agr a.tmps n L) : Gives P C a o K := by
  simp only [yd] at h
  have h1 := rd_sound h ha
  refine gives_sv h1 fun w => ?_
  cases d <;> first | (simp [execOp, ho, Instr.makeInterface, run_underlying hd]; done) | exact absurd rfl (hi _)

theorem gives_ld {o : Oper} {t : TypeId} {x : Operand} (ho : o.op = .load t x) (ht : agg? P t = false) (hu : (P.underlying t).isSome = true) (h : yd P C L (.ld x) K) (ha : Agr a.tmps n L) : Gives P C a o K := by
  simp only [yd] at h
  have h1 := rd_sound h ha
  clear h
  generalize hx : a.eval x = v at h1
  split at h1
  · simp only [Load_eq] at h1
    obtain ⟨v, hv, hk⟩ := h1
    refine ⟨.v v, hk, fun w hw => ?_⟩
    obtain ⟨d, hd⟩ := Option.isSome_iff_exists.1 hu
    have hagg : (isAgg t).run P w = .ok false w := by
      unfold agg? at ht
      rw [hd] at ht
      cases d <;> first | (simp at ht; done) | simp [isAgg, run_underlying hd]
    simp [execOp, ho, hx, Instr.loadAt, Instr.sureAddr, loadVar, hagg, hv w hw, Sv.val]
  · exact h1.elim

theorem run_loadCellsFrom (ad : Addr) (w : World) : ∀ (vs : List Value) (i : Nat) (acc : Array Value), (∀ j v, vs[j]? = some v → w.cell? (ad.add (i + j)) = some v) →
    (loadCellsFrom ad i vs.length acc).run P w = .ok (acc ++ vs.toArray) w
  | [], i, acc, _ => by simp [loadCellsFrom]
  | v :: vs, i, acc, h => by
    have h0 := h 0 v (by simp)
    have ih := run_loadCellsFrom ad w vs (i + 1) (acc.push v) (fun j u hj => by
      have := h (j + 1) u (by simpa using hj)
      rwa [show i + (j + 1) = i + 1 + j by omega] at this)
    simp only [Nat.add_zero] at h0
    simp [loadCellsFrom, h0, ih]

theorem gives_ldn {o : Oper} {t : TypeId} {i : TypeInfo} {x : Operand} (ho : o.op = .load t x) (ht : agg? P t = true) (hi : P.info? t = some i) (h : yd P C L (.ldn i.size x) K) (ha : Agr a.tmps n L) : Gives P C a o K := by
  simp only [yd] at h
  have h1 := rd_sound h ha
  clear h
  generalize hx : a.eval x = v at h1
  split at h1
  · simp only [LoadN_eq] at h1
    obtain ⟨vs, hl, hv, hk⟩ := h1
    refine ⟨.v (.agg ⟨vs⟩), hk, fun w hw => ?_⟩
    have hagg : (isAgg t).run P w = .ok true w := by
      unfold agg? at ht
      split at ht
      · rename_i hd; simp [isAgg, run_underlying hd]
      · rename_i hd; simp [isAgg, run_underlying hd]
      · cases ht
    have hr := run_loadCellsFrom (P := P) _ w vs 0 #[] (fun j v hj => by rw [Nat.zero_add]; exact hv w hw j v hj)
    rw [hl] at hr
    simp [execOp, ho, hx, Instr.loadAt, Instr.sureAddr, loadVar, hagg, Go.sizeOf, typeInfo, hi, loadCells, hr, Sv.val]
  · exact h1.elim

theorem Addr.add_plain (b o k : Nat) : (⟨b, o, none⟩ : Addr).add k = ⟨b, o + k, none⟩ := by
  unfold Addr.add
  split
  · rename_i h; subst h; rfl
  · rfl

theorem gives_fad {o : Oper} {s : TypeId} {x : Operand} {f : Nat} {fields : Array Field} {fd : Field} {inf : TypeInfo} (ho : o.op = .fieldAddr s x f) (hs : P.underlying s = some (.struct fields)) (hf : fields[f]? = some fd)
    (hi : P.info? fd.type = some inf) (hz : P.cellsOf fd.type ≠ 0) (h : yd P C L (.fad fd.offset x) K) (ha : Agr a.tmps n L) : Gives P C a o K := by
  simp only [yd] at h
  have h1 := rd_sound h ha
  clear h
  generalize hx : a.eval x = v at h1
  split at h1
  · have hz' : inf.size ≠ 0 := by simpa [Program.cellsOf, hi] using hz
    exact gives_sv h1 fun w => by simp [execOp, ho, hx, Instr.fieldAt, run_underlying hs, hf, Instr.sureAddr, fieldPlace, Go.sizeOf, typeInfo, hi, hz', Addr.add_plain]
  · exact h1.elim

theorem run_part_one {t : TypeId} (ht : agg? P t = false) (hu : (P.underlying t).isSome = true) (cs : Array Value) (off : Nat) (v : Value) (hv : cs[off]? = some v) (w : World) : (part t cs off).run P w = .ok v w := by
  obtain ⟨d, hd⟩ := Option.isSome_iff_exists.1 hu
  have hagg : (isAgg t).run P w = .ok false w := by
    unfold agg? at ht
    rw [hd] at ht
    cases d <;> first | (simp at ht; done) | simp [isAgg, run_underlying hd]
  simp [part, hagg, hv]

theorem gives_fld {o : Oper} {t : TypeId} {x : Operand} {f : Nat} {fields : Array Field} {fd : Field} (ho : o.op = .field t x f) (hs : P.underlying t = some (.struct fields)) (hf : fields[f]? = some fd)
    (ht : agg? P fd.type = false) (hu : (P.underlying fd.type).isSome = true) (h : yd P C L (.fld fd.offset x) K) (ha : Agr a.tmps n L) : Gives P C a o K := by
  simp only [yd] at h
  have h1 := rd_sound h ha
  clear h
  generalize hx : a.eval x = v at h1
  split at h1
  · obtain ⟨v, hv, hk⟩ := nthL_spec h1
    refine gives_sv hk fun w => ?_
    have := run_part_one (P := P) ht hu ⟨_⟩ fd.offset v (by simpa using hv) w
    simp [execOp, ho, hx, Instr.field, run_underlying hs, hf, asAgg, this]
  · exact h1.elim

theorem gives_flds {o : Oper} {t : TypeId} {x : Operand} {f : Nat} {fields : Array Field} {fd : Field} {inf : TypeInfo} (ho : o.op = .field t x f) (hs : P.underlying t = some (.struct fields)) (hf : fields[f]? = some fd)
    (ht : agg? P fd.type = true) (hi : P.info? fd.type = some inf) (h : yd P C L (.flds fd.offset inf.size x) K) (ha : Agr a.tmps n L) : Gives P C a o K := by
  simp only [yd] at h
  have h1 := rd_sound h ha
  clear h
  generalize hx : a.eval x = v at h1
  split at h1
  · rename_i cs
    obtain ⟨hl, h2⟩ := dropL_spec h1
    obtain ⟨hl2, hk⟩ := takeL_spec h2
    refine gives_sv hk fun w => ?_
    have hagg : (isAgg fd.type).run P w = .ok true w := by
      unfold agg? at ht
      split at ht
      · rename_i hd; simp [isAgg, run_underlying hd]
      · rename_i hd; simp [isAgg, run_underlying hd]
      · cases ht
    simp [execOp, ho, hx, Instr.field, run_underlying hs, hf, asAgg, part, hagg, Go.sizeOf, typeInfo, hi, List.extract_eq_take_drop]
  · exact h1.elim

theorem gives_ixA {o : Oper} {t e : TypeId} {inf : TypeInfo} {x i : Operand} (ho : o.op = .indexAddr t x i) (ht : P.underlying t = some (.slice e)) (hi : P.info? e = some inf) (h : yd P C L (.ixA inf.size x i) K) (ha : Agr a.tmps n L) : Gives P C a o K := by
  simp only [yd] at h
  obtain ⟨k, z, hz, h1⟩ := rdZ_sound (rd_sound h ha) ha
  clear h
  generalize hx : a.eval x = v at h1
  split at h1
  · rename_i ad len cap
    simp only [Need_eq, plainA] at h1
    obtain ⟨hb, hp, h1⟩ := h1
    generalize blk ad = b at hp h1
    generalize ofs ad = f at hp h1
    subst hp
    exact gives_sv h1 fun w => by simp [execOp, ho, hx, hz, Instr.indexAt, asIntOf, run_underlying ht, hb, Go.sizeOf, typeInfo, hi, Addr.add_plain]
  · exact h1.elim

theorem gives_ixP {o : Oper} {t e : TypeId} {len : Nat} {inf : TypeInfo} {x i : Operand} (ho : o.op = .indexAddr t x i) (ht : P.underlying t = some (.array len e)) (hi : P.info? e = some inf) (h : yd P C L (.ixP len inf.size x i) K) (ha : Agr a.tmps n L) : Gives P C a o K := by
  simp only [yd] at h
  obtain ⟨k, z, hz, h1⟩ := rdZ_sound (rd_sound h ha) ha
  clear h
  generalize hx : a.eval x = v at h1
  split at h1
  · simp only [Need_eq] at h1
    obtain ⟨hb, h1⟩ := h1
    exact gives_sv h1 fun w => by simp [execOp, ho, hx, hz, Instr.indexAt, Instr.sureAddr, asIntOf, run_underlying ht, hb, Go.sizeOf, typeInfo, hi, Addr.add_plain]
  · exact h1.elim

theorem gives_ixS {o : Oper} {t : TypeId} {x i : Operand} (ho : o.op = .index t x i) (ht : P.underlying t = some .string) (h : yd P C L (.ixS x i) K) (ha : Agr a.tmps n L) : Gives P C a o K := by
  simp only [yd] at h
  obtain ⟨k, z, hz, h1⟩ := rdZ_sound (rd_sound h ha) ha
  clear h
  generalize hx : a.eval x = v at h1
  split at h1
  · simp only [ByteAt_eq] at h1
    obtain ⟨b, hb, hs, hk⟩ := h1
    exact gives_sv hk fun w => by simp [execOp, ho, hx, hz, Instr.index, asIntOf, run_underlying ht, hb, hs]
  · exact h1.elim


theorem gives_lenA {o : Oper} {c : Call} {e : TypeId} {x : Operand} (ho : o.op = .call c) (hc : c.callee = .builtin .len) (hx : c.args.toList = [x]) (ht : (c.argTypes[0]?).bind P.underlying = some (.slice e))
    (h : yd P C L (.lenA x) K) (ha : Agr a.tmps n L) : Gives P C a o K := by
  simp only [yd] at h
  have h1 := rd_sound h ha
  clear h
  obtain ⟨callee, args, ats⟩ := c
  obtain ⟨args⟩ := args
  simp only at hc hx ht
  subst hc hx
  obtain ⟨t, ht, hu⟩ := Option.bind_eq_some_iff.1 ht
  generalize hv : a.eval x = v at h1
  split at h1
  · exact gives_sv h1 fun w => by simp [execOp, ho, resolve, invoke, builtin, Builtin.len_, ht, hv, run_underlying hu, goInt]
  · exact h1.elim

theorem gives_lenS {o : Oper} {c : Call} {x : Operand} (ho : o.op = .call c) (hc : c.callee = .builtin .len) (hx : c.args.toList = [x]) (ht : (c.argTypes[0]?).bind P.underlying = some .string)
    (h : yd P C L (.lenS x) K) (ha : Agr a.tmps n L) : Gives P C a o K := by
  simp only [yd] at h
  have h1 := rd_sound h ha
  clear h
  obtain ⟨callee, args, ats⟩ := c
  obtain ⟨args⟩ := args
  simp only at hc hx ht
  subst hc hx
  obtain ⟨t, ht, hu⟩ := Option.bind_eq_some_iff.1 ht
  generalize hv : a.eval x = v at h1
  split at h1
  · exact gives_sv h1 fun w => by simp [execOp, ho, resolve, invoke, builtin, Builtin.len_, ht, hv, run_underlying hu, goInt]
  · exact h1.elim

theorem gives_max {o : Oper} {c : Call} {k : IntKind} {x y : Operand} (ho : o.op = .call c) (hc : c.callee = .builtin .max) (hx : c.args.toList = [x, y])
    (h : yd P C L (.mm true k x y) K) (ha : Agr a.tmps n L) : Gives P C a o K := by
  simp only [yd, cond_true] at h
  obtain ⟨p, hp, h1⟩ := rdI_sound h ha
  obtain ⟨q, hq, h2⟩ := rdI_sound h1 ha
  clear h h1
  obtain ⟨callee, args, ats⟩ := c
  obtain ⟨args⟩ := args
  simp only at hc hx
  subst hc hx
  refine gives_sv h2 fun w => ?_
  simp [execOp, ho, resolve, invoke, builtin, Builtin.max_, Builtin.max2, hp, hq]
  omega

theorem gives_min {o : Oper} {c : Call} {k : IntKind} {x y : Operand} (ho : o.op = .call c) (hc : c.callee = .builtin .min) (hx : c.args.toList = [x, y])
    (h : yd P C L (.mm false k x y) K) (ha : Agr a.tmps n L) : Gives P C a o K := by
  simp only [yd, cond_false] at h
  obtain ⟨p, hp, h1⟩ := rdI_sound h ha
  obtain ⟨q, hq, h2⟩ := rdI_sound h1 ha
  clear h h1
  obtain ⟨callee, args, ats⟩ := c
  obtain ⟨args⟩ := args
  simp only at hc hx
  subst hc hx
  refine gives_sv h2 fun w => ?_
  simp [execOp, ho, resolve, invoke, builtin, Builtin.min_, Builtin.min2, hp, hq]
  omega

theorem equal_unfold (t : TypeId) (x y : Value) : Op.equal t x y = Op.equalIn (9999 + 1) t x y := rfl

theorem run_equal_bool {t : TypeId} (ht : P.underlying t = some .bool) (x y : Bool) (w : World) : (Op.equal t (.bool x) (.bool y)).run P w = .ok (x == y) w := by
  rw [equal_unfold, Op.equalIn]; simp [run_underlying ht]
theorem run_equal_ptr_none {t e : TypeId} (ht : P.underlying t = some (.pointer e)) (x : Option Addr) (w : World) : (Op.equal t (.pointer x) (.pointer none)).run P w = .ok x.isNone w := by
  rw [equal_unfold, Op.equalIn]; cases x <;> simp [run_underlying ht]
theorem run_equal_slice_none {t e : TypeId} (ht : P.underlying t = some (.slice e)) (x : Option Addr) (l c : Nat) (w : World) : (Op.equal t (.slice x l c) (.slice none 0 0)).run P w = .ok x.isNone w := by
  rw [equal_unfold, Op.equalIn]; cases x <;> simp [run_underlying ht]
theorem run_equal_map_none {t k e : TypeId} (ht : P.underlying t = some (.map k e)) (x : Option Nat) (w : World) : (Op.equal t (.map x) (.map none)).run P w = .ok x.isNone w := by
  rw [equal_unfold, Op.equalIn]; cases x <;> simp [run_underlying ht]
theorem run_equal_func_none {t : TypeId} {p r : Array TypeId} {v : Bool} (ht : P.underlying t = some (.func p r v)) (f : Go.Fn) (x y : Array Value) (w : World) : (Op.equal t (.func f x y) .nilFunc).run P w = .ok false w := by
  rw [equal_unfold, Op.equalIn]; simp [run_underlying ht]
theorem run_equal_nilFunc {t : TypeId} {p r : Array TypeId} {v : Bool} (ht : P.underlying t = some (.func p r v)) (w : World) : (Op.equal t .nilFunc .nilFunc).run P w = .ok true w := by
  rw [equal_unfold, Op.equalIn]; simp [run_underlying ht]

/-- '==', '!=' by 'equal'. -/
theorem run_eqop {o : Oper} {ne b : Bool} {t u : TypeId} {x y : Operand} (ho : o.op = .binOp (bif ne then .neq else .eql) t x y u) {vx vy : Value} (hx : a.eval x = vx) (hy : a.eval y = vy)
    (hg : ∀ op, eqGuard op t x y vx vy = pure ()) (hq : binOp .eql t vx vy = do pure (.bool (← Op.equal t vx vy))) (hq' : binOp .neq t vx vy = do pure (.bool (!(← Op.equal t vx vy))))
    (w : World) (he : (Op.equal t vx vy).run P w = .ok b w) : (execOp a.eval o).run P w = .ok (.value (.bool (if ne then !b else b))) w := by
  cases ne with
  | true =>
    simp only [cond_true] at ho
    simp only [execOp, ho, hx, hy, hg, hq', Sem.run_bind, Sem.run_pure, Result.andThen_ok, he, if_true]
  | false =>
    simp only [cond_false] at ho
    simp only [execOp, ho, hx, hy, hg, hq, Sem.run_bind, Sem.run_pure, Result.andThen_ok, he, Bool.false_eq_true, if_false]

theorem guard_none {op : BinOp} {t : TypeId} {x y : Operand} {vx vy : Value} (h : (∀ cs, vx ≠ .agg cs) ∧ vx ≠ .nilIface) : eqGuard op t x y vx vy = pure () := by
  cases vx
  case agg cs => exact absurd rfl (h.1 cs)
  case nilIface => exact absurd rfl h.2
  all_goals (cases op <;> first | rfl | (cases vy <;> rfl))

theorem gives_bbin {o : Oper} {ne : Bool} {t u : TypeId} {x y : Operand} (ho : o.op = .binOp (bif ne then .neq else .eql) t x y u) (ht : P.underlying t = some .bool)
    (h : yd P C L (.bbin ne x y) K) (ha : Agr a.tmps n L) : Gives P C a o K := by
  simp only [yd] at h
  have h0 := rd_sound h ha
  have h1 := rd_sound h0 ha
  clear h0 h
  generalize hx : a.eval x = vx at h1
  generalize hy : a.eval y = vy at h1
  split at h1
  · exact gives_sv h1 fun w => run_eqop ho hx hy (fun _ => guard_none ⟨by simp, by simp⟩) rfl rfl w (run_equal_bool ht _ _ w)
  · exact h1.elim

theorem gives_ofB {o : Oper} {b : Bool} (hk : K (Sv.ofB b)) (h : ∀ w, (execOp a.eval o).run P w = .ok (.value (.bool b)) w) : Gives P C a o K :=
  gives_of o _ hk fun w => by rw [Sv.ofB_val]; exact h w

theorem gives_isnil {o : Oper} {ne : Bool} {t u : TypeId} {kind : Nat} {x y : Operand} (ho : o.op = .binOp (bif ne then .neq else .eql) t x y u) (ht : nilKind P t y = some kind)
    (h : yd P C L (.isnil kind ne x) K) (ha : Agr a.tmps n L) : Gives P C a o K := by
  simp only [yd] at h
  have h1 := rd_sound h ha
  clear h
  generalize hx : a.eval x = vx at h1
  unfold nilKind at ht
  split at ht
  all_goals first | (split at ht) | skip
  all_goals first | (cases ht; done) | skip
  all_goals rename_i hu
  all_goals cases ht
  all_goals split at h1
  all_goals first | exact h1.elim | skip
  all_goals first | (rename_i hh; cases hh; done) | (rename_i hh _; cases hh; done) | (rename_i hh _ _; cases hh; done) | (rename_i hh _ _ _; cases hh; done) | skip
  all_goals refine gives_ofB h1 fun w => ?_
  all_goals first
    | exact (run_eqop ho hx rfl (fun _ => guard_none ⟨by simp, by simp⟩) rfl rfl w (run_equal_ptr_none hu _ w)).trans (by cases ne <;> rfl)
    | exact (run_eqop ho hx rfl (fun _ => guard_none ⟨by simp, by simp⟩) rfl rfl w (run_equal_slice_none hu _ _ _ w)).trans (by cases ne <;> rfl)
    | exact (run_eqop ho hx rfl (fun _ => guard_none ⟨by simp, by simp⟩) rfl rfl w (run_equal_map_none hu _ w)).trans (by cases ne <;> rfl)
    | exact (run_eqop ho hx rfl (fun _ => guard_none ⟨by simp, by simp⟩) rfl rfl w (run_equal_func_none hu _ _ _ w)).trans (by cases ne <;> rfl)
    | exact (run_eqop ho hx rfl (fun _ => guard_none ⟨by simp, by simp⟩) rfl rfl w (run_equal_nilFunc hu w)).trans (by cases ne <;> rfl)

theorem gives_get_eq {o : Oper} {op : BinOp} {t u : TypeId} {x y : Operand} (ho : o.op = .binOp op t x y u)
    (h : yd P C L (.get (.eq op t x y) [x, y]) K) (ha : Agr a.tmps n L) : Gives P C a o K := by
  simp only [yd] at h
  have h1 := rds_sound ha _ _ h
  simp only [Get_eq, List.map, G.sem] at h1
  obtain ⟨v, hv, hk⟩ := h1
  refine ⟨.v v, hk, fun w hw => ?_⟩
  have := hv w hw
  simp only [Sem.run_bind] at this
  simp only [execOp, ho, Sem.run_bind, this, Sv.val, Sem.run_pure, Result.andThen_ok]

/-- An operation that is a plain one of G's. -/
theorem gives_get {o : Oper} {g : G} {args : List Operand} (ho : ∀ ρ : Operand → Value, execOp ρ o = do pure (.value (← G.sem g (args.map ρ))))
    (h : yd P C L (.get g args) K) (ha : Agr a.tmps n L) : Gives P C a o K := by
  simp only [yd] at h
  have h1 := rds_sound ha _ _ h
  simp only [Get_eq] at h1
  obtain ⟨v, hv, hk⟩ := h1
  refine ⟨.v v, hk, fun w hw => ?_⟩
  have := hv w hw
  rw [ho]
  simp only [Sem.run_bind, this, Sv.val, Sem.run_pure, Result.andThen_ok]

end
end Fb

/-
  The calculus is sound, second part: slices, structs, every quiet operation.
-/
namespace Fb
open Go

section
variable {P : Program} {C : World → Prop} {L : Env} {K : Sv → Prop} {a : Act} {n : Nat}

theorem run_bound {k : IntKind} {z : Int} {y : Nat} {code : BoundsCode} (h : 0 ≤ z ∧ z ≤ (y : Int)) (w : World) : (Instr.sliceBound (.int k z) y code).run P w = .ok z.toNat w := by
  simp [Instr.sliceBound, asIntOf, h]

theorem gives_slc {o : Oper} {t e : TypeId} {inf : TypeInfo} {x : Operand} {lo hi : Option Operand} (ho : o.op = .slice t x lo hi none) (ht : P.underlying t = some (.slice e)) (hi' : P.info? e = some inf)
    (h : yd P C L (.slc inf.size x lo hi) K) (ha : Agr a.tmps n L) : Gives P C a o K := by
  simp only [yd] at h
  have h1 := rd_sound h ha
  clear h
  generalize hx : a.eval x = v at h1
  unfold slcV at h1
  split at h1
  · rename_i ad len cap
    split at h1
    · refine gives_sv h1 fun w => ?_
      simp [execOp, ho, hx, Instr.sliceAt, Instr.slice, Instr.sliceBounds, run_underlying ht, Go.sizeOf, typeInfo, hi']
      exact fun _ => by cases ad <;> simp [Addr.add]
    · obtain ⟨j, z, hz, h2⟩ := rdZ_sound h1 ha
      simp only [Need_eq] at h2
      refine gives_sv h2.2 fun w => ?_
      simp [execOp, ho, hx, hz, Instr.sliceAt, Instr.slice, Instr.sliceBounds, run_underlying ht, Go.sizeOf, typeInfo, hi', run_bound h2.1]
      exact fun _ => by cases ad <;> simp [Addr.add]
    · obtain ⟨j, z, hz, h2⟩ := rdZ_sound h1 ha
      simp only [Need_eq] at h2
      refine gives_sv h2.2 fun w => ?_
      simp [execOp, ho, hx, hz, Instr.sliceAt, Instr.slice, Instr.sliceBounds, run_underlying ht, Go.sizeOf, typeInfo, hi', run_bound h2.1, slcA]
    · obtain ⟨j, z, hz, h2⟩ := rdZ_sound h1 ha
      obtain ⟨j', y, hy, h3⟩ := rdZ_sound h2 ha
      simp only [Need_eq] at h3
      refine gives_sv h3.2 fun w => ?_
      have hb1 : 0 ≤ y ∧ y ≤ (cap : Int) := ⟨by omega, h3.1.2.2⟩
      have hb2 : 0 ≤ z ∧ z ≤ (y.toNat : Int) := ⟨h3.1.1, by omega⟩
      simp [execOp, ho, hx, hz, hy, Instr.sliceAt, Instr.slice, Instr.sliceBounds, run_underlying ht, Go.sizeOf, typeInfo, hi', run_bound hb1, run_bound hb2, slcA]
  · exact h1.elim

theorem gives_sls {o : Oper} {t : TypeId} {x : Operand} {lo hi : Option Operand} (ho : o.op = .slice t x lo hi none) (ht : P.underlying t = some .string)
    (h : yd P C L (.sls x lo hi) K) (ha : Agr a.tmps n L) : Gives P C a o K := by
  simp only [yd] at h
  have h1 := rd_sound h ha
  clear h
  generalize hx : a.eval x = v at h1
  unfold slsV at h1
  split at h1
  · rename_i s
    split at h1
    · refine gives_sv h1 fun w => ?_
      simp [execOp, ho, hx, Instr.sliceAt, Instr.slice, Instr.sliceBounds, run_underlying ht]
    · obtain ⟨j, z, hz, h2⟩ := rdZ_sound h1 ha
      simp only [Need_eq] at h2
      refine gives_sv h2.2 fun w => ?_
      simp [execOp, ho, hx, hz, Instr.sliceAt, Instr.slice, Instr.sliceBounds, run_underlying ht, run_bound h2.1]
    · obtain ⟨j, z, hz, h2⟩ := rdZ_sound h1 ha
      simp only [Need_eq] at h2
      refine gives_sv h2.2 fun w => ?_
      simp [execOp, ho, hx, hz, Instr.sliceAt, Instr.slice, Instr.sliceBounds, run_underlying ht, run_bound h2.1]
    · obtain ⟨j, z, hz, h2⟩ := rdZ_sound h1 ha
      obtain ⟨j', y, hy, h3⟩ := rdZ_sound h2 ha
      simp only [Need_eq] at h3
      refine gives_sv h3.2 fun w => ?_
      have hb1 : 0 ≤ y ∧ y ≤ (s.size : Int) := ⟨by omega, h3.1.2.2⟩
      have hb2 : 0 ≤ z ∧ z ≤ (y.toNat : Int) := ⟨h3.1.1, by omega⟩
      simp [execOp, ho, hx, hz, hy, Instr.sliceAt, Instr.slice, Instr.sliceBounds, run_underlying ht, run_bound hb1, run_bound hb2]
  · exact h1.elim

theorem gives_asrt {o : Oper} {t asserted : TypeId} {d : TypeDesc} {z : Value} {x : Operand} (ho : o.op = .typeAssert x t asserted true) (hd : P.underlying asserted = some d) (hi : ∀ ms, d ≠ .interface ms)
    (hz : (P.info? asserted).bind (·.zero) = some z) (h : yd P C L (.asrt asserted z x) K) (ha : Agr a.tmps n L) : Gives P C a o K := by
  simp only [yd] at h
  have h1 := rd_sound h ha
  clear h
  generalize hx : a.eval x = v at h1
  obtain ⟨inf, hinf, hzz⟩ := Option.bind_eq_some_iff.1 hz
  have hfail : ∀ w, (zeroValue asserted).run P w = .ok z w := fun w => by simp [zeroValue, typeInfo, hinf, hzz]
  split at h1
  · rename_i u y
    by_cases e : u = asserted
    · subst e
      simp only [Nat.beq_refl, cond_true] at h1
      refine gives_sv h1 fun w => ?_
      cases d <;> first | exact absurd rfl (hi _) | simp [execOp, ho, hx, Instr.typeAssert, run_underlying hd]
    · have hb : Nat.beq u asserted = false := by
        cases hb : Nat.beq u asserted with
        | true => exact absurd (Nat.eq_of_beq_eq_true hb) e
        | false => rfl
      rw [hb, cond_false] at h1
      refine gives_sv h1 fun w => ?_
      cases d <;> first | exact absurd rfl (hi _) | simp [execOp, ho, hx, Instr.typeAssert, run_underlying hd, e, hfail]
  · refine gives_sv h1 fun w => ?_
    cases d <;> first | exact absurd rfl (hi _) | simp [execOp, ho, hx, Instr.typeAssert, run_underlying hd, hfail]
  · exact h1.elim

/-! ### Structs that are put together -/
theorem forceL_spec : ∀ (l : List Value) (K : List Value → Prop), forceL l K → K l
  | [], _, h => h
  | _ :: vs, _, h => forceL_spec vs _ h

theorem cellsL_toList (v : Value) : v.cells.toList = Value.cellsL v := by
  cases v <;> rfl

theorem setL_length : ∀ (cs : List Value) (i : Nat) (vs : List Value), (setL cs i vs).length = cs.length
  | [], _, [] => by simp [setL]
  | _ :: _, _, [] => by simp [setL]
  | [], _, _ :: _ => by simp [setL]
  | c :: cs, 0, v :: vs => by simp [setL, setL_length cs 0 vs]
  | c :: cs, i + 1, v :: vs => by simp [setL, setL_length cs i (v :: vs)]

theorem setL_snoc : ∀ (cs : List Value) (i : Nat) (vs : List Value) (v : Value), setL cs i (vs ++ [v]) = (setL cs i vs).set (i + vs.length) v
  | [], i, [], v => by simp [setL]
  | [], i, u :: vs, v => by simp [setL]
  | c :: cs, 0, [], v => by cases cs <;> simp [setL]
  | c :: cs, i + 1, [], v => by
    have := setL_snoc cs i [] v
    cases cs <;> simp_all [setL]
  | c :: cs, 0, u :: vs, v => by
    have := setL_snoc cs 0 vs v
    simp only [Nat.zero_add] at this
    simp [setL, this]
  | c :: cs, i + 1, u :: vs, v => by
    have := setL_snoc cs i (u :: vs) v
    have e : i + 1 + (u :: vs).length = (i + (u :: vs).length) + 1 := by omega
    have h1 : ∀ (x : Value) (l : List Value), setL (c :: cs) (i + 1) (x :: l) = c :: setL cs i (x :: l) := fun _ _ => by simp [setL]
    rw [List.cons_append, h1, ← List.cons_append, this, h1, e, List.set_cons_succ]

theorem foldl_setL (off : Nat) (cs : Array Value) (vs : List Value) :
    ((vs.zipIdx.foldl (fun (cs : Array Value) (p : Value × Nat) => cs.setIfInBounds (off + p.2) p.1) cs)).toList = setL cs.toList off vs := by
  suffices h : ∀ (r l : List Value) (cs : Array Value), ((r.zipIdx l.length).foldl (fun (cs : Array Value) (p : Value × Nat) => cs.setIfInBounds (off + p.2) p.1) cs).toList =
      (r.zipIdx l.length).foldl (fun (c : List Value) (p : Value × Nat) => c.set (off + p.2) p.1) cs.toList by
    rw [show vs.zipIdx = vs.zipIdx ([] : List Value).length from rfl, h vs [] cs]
    have key : ∀ (r l : List Value), (r.zipIdx l.length).foldl (fun (c : List Value) (p : Value × Nat) => c.set (off + p.2) p.1) (setL cs.toList off l) = setL cs.toList off (l ++ r) := by
      intro r
      induction r with
      | nil => intro l; simp
      | cons v r ih =>
        intro l
        simp only [List.zipIdx_cons, List.foldl_cons]
        rw [← setL_snoc]
        have := ih (l ++ [v])
        simp only [List.length_append, List.length_cons, List.length_nil, Nat.zero_add, List.append_assoc, List.cons_append, List.nil_append] at this
        exact this
    have := key vs []
    simpa [setL] using this
  intro r
  induction r with
  | nil => intro l cs; simp
  | cons v r ih =>
    intro l cs
    simp only [List.zipIdx_cons, List.foldl_cons]
    have := ih (l ++ [v]) (cs.setIfInBounds (off + l.length) v)
    simp only [List.length_append, List.length_cons, List.length_nil, Nat.zero_add] at this
    rw [this]
    simp

theorem fill_spec (place : Nat → Option (Nat × Nat)) : ∀ (parts : List (Nat × Value)) (places : List (Nat × Nat)) (cells : Array Value) (K : List Value → Prop),
    parts.map (fun p => place p.1) = places.map some → fillL cells.toList (places.zip (parts.map (·.2))) K → ∃ out, Instr.fill place cells parts = some out ∧ K out.toList
  | [], places, cells, K, hp, h => by
    have : places = [] := by simpa using hp.symm
    subst this
    exact ⟨cells, rfl, forceL_spec _ _ h⟩
  | (i, v) :: parts, places, cells, K, hp, h => by
    cases places with
    | nil => simp at hp
    | cons q places =>
      obtain ⟨off, size⟩ := q
      simp only [List.map_cons, List.cons.injEq] at hp
      simp only [List.map_cons, List.zip_cons_cons, fillL] at h
      cases hb : lenIs (Value.cellsL v) size with
      | false => rw [hb] at h; exact h.elim
      | true =>
        cases hle : hasL cells.toList off size with
        | false => rw [hb, hle] at h; exact h.elim
        | true =>
          rw [hb, hle] at h
          have e1 := lenIs_spec _ _ hb
          have e2 := hasL_spec _ _ _ hle
          have hsz : v.cells.size = size := by rw [← e1, ← cellsL_toList]; simp
          simp only [cond_true] at h
          have hset : setL cells.toList off (Value.cellsL v) = (v.cells.zipIdx.foldl (fun (cs : Array Value) (p : Value × Nat) => cs.setIfInBounds (off + p.2) p.1) cells).toList := by
            rw [← cellsL_toList, ← foldl_setL, ← Array.foldl_toList, Array.toList_zipIdx]
          rw [hset] at h
          obtain ⟨out, ho, hk⟩ := fill_spec place parts places _ K hp.2 h
          refine ⟨out, ?_, hk⟩
          unfold Instr.fill
          simp only [hp.1]
          rw [if_neg]
          · exact ho
          · simp only [hsz, ne_eq, not_true_eq_false, decide_false, Bool.false_or, decide_eq_true_eq]
            simp at e2
            simp; omega


theorem run_places (P : Program) (w : World) : ∀ (fields : List Field) (all : List (Nat × Nat)), (fields.mapM fun f => (P.info? f.type).map fun i => (f.offset, i.size)) = some all →
    (fields.mapM fun f => do pure (f.offset, ← Go.sizeOf f.type) : Sem (List (Nat × Nat))).run P w = .ok all w
  | [], all, h => by simp at h; subst h; simp
  | f :: fields, all, h => by
    simp only [List.mapM_cons, Option.pure_def, Option.bind_eq_bind, Option.bind_eq_some_iff, Option.map_eq_some_iff] at h
    obtain ⟨q, ⟨inf, hinf, rfl⟩, r, hr, he⟩ := h
    cases he
    have ih := run_places P w fields r hr
    simp only [List.mapM_cons, Sem.run_bind, Go.sizeOf, typeInfo, run_program, Result.andThen_ok, hinf, Sem.run_pure] at ih ⊢
    rw [ih]
    rfl

theorem mapM_some {α β : Type} (f : α → Option β) : ∀ (l : List α) (r : List β), l.mapM f = some r → l.map f = r.map some
  | [], r, h => by simp at h; subst h; rfl
  | x :: l, r, h => by
    simp only [List.mapM_cons, Option.pure_def, Option.bind_eq_bind, Option.bind_eq_some_iff] at h
    obtain ⟨y, hy, r', hr, he⟩ := h
    cases he
    simp [hy, mapM_some f l r' hr]

theorem run_build {t : TypeId} {z : Value} {ps : List (Nat × Nat)} (parts : List (Nat × Operand)) (vals : List Value) (hlen : vals.length = parts.length) (hz : (P.info? t).bind (·.zero) = some z) (hp : placesOf P t parts = some ps) {Q : List Value → Prop}
    (h : fillL (Value.cellsL z) (ps.zip vals) Q) : ∃ cs, Q cs ∧ ∀ w, (Instr.build t ((parts.map (·.1)).zip vals).toArray).run P w = .ok (.agg ⟨cs⟩) w := by
  obtain ⟨inf, hinf, hzz⟩ := Option.bind_eq_some_iff.1 hz
  have hzero : ∀ w, (zeroValue t).run P w = .ok z w := fun w => by simp [zeroValue, typeInfo, hinf, hzz]
  have hsnd : ((parts.map (·.1)).zip vals).map (·.2) = vals := by rw [List.map_snd_zip]; simp [hlen]
  have hfst : ((parts.map (·.1)).zip vals).map (·.1) = parts.map (·.1) := by rw [List.map_fst_zip]; simp [hlen]
  unfold placesOf at hp
  split at hp
  · rename_i fields hu
    obtain ⟨all, hall, hps⟩ := Option.bind_eq_some_iff.1 hp
    have hmap := mapM_some _ _ _ hps
    have hrun := fun w => run_places P w _ _ hall
    have hpl : ((parts.map (·.1)).zip vals).map (fun p => all[p.1]?) = ps.map some := by
      have : ((parts.map (·.1)).zip vals).map (fun p => all[p.1]?) = (((parts.map (·.1)).zip vals).map (·.1)).map (fun i => all[i]?) := by simp
      rw [this, hfst, ← hmap]; simp
    obtain ⟨out, hf, hq⟩ := fill_spec (fun i => all[i]?) _ ps z.cells Q hpl (by rw [cellsL_toList, hsnd]; exact h)
    refine ⟨out.toList, hq, fun w => ?_⟩
    have hm : (fields.mapM fun f => do pure (f.offset, ← Go.sizeOf f.type) : Sem (Array (Nat × Nat))).run P w = .ok all.toArray w := by
      rw [Array.mapM_eq_mapM_toList]
      simp only [Sem.run_map, hrun w, Result.andThen_ok]
    simp only [Instr.build, Sem.run_bind, hzero, Result.andThen_ok, run_underlying hu, hm]
    have hfun : (fun i : Nat => all.toArray[i]?) = fun i => all[i]? := by funext i; simp
    simp only [hfun, hf]
    simp
  · rename_i len elem hu
    obtain ⟨inf, hinf, rfl⟩ := Option.map_eq_some_iff.1 hp
    have hpl : ((parts.map (·.1)).zip vals).map (fun p => some (p.1 * inf.size, inf.size)) = (parts.map fun p => (p.1 * inf.size, inf.size)).map some := by
      have : ((parts.map (·.1)).zip vals).map (fun p => some (p.1 * inf.size, inf.size)) = (((parts.map (·.1)).zip vals).map (·.1)).map (fun i => some (i * inf.size, inf.size)) := by simp
      rw [this, hfst]; simp
    obtain ⟨out, hf, hq⟩ := fill_spec (fun i => some (i * inf.size, inf.size)) _ _ z.cells Q hpl (by rw [cellsL_toList, hsnd]; exact h)
    refine ⟨out.toList, hq, fun w => ?_⟩
    simp only [Instr.build, Sem.run_bind, hzero, Result.andThen_ok, run_underlying hu, Go.sizeOf, typeInfo, run_program, hinf, Sem.run_pure, hf]
  · cases hp

theorem gives_bld {o : Oper} {t : TypeId} {parts : Array (Nat × Operand)} {z : Value} {ps : List (Nat × Nat)} (ho : o.op = .build t parts) (hz : (P.info? t).bind (·.zero) = some z) (hp : placesOf P t parts.toList = some ps)
    (h : yd P C L (.bld (Value.cellsL z) ps (parts.toList.map (·.2))) K) (ha : Agr a.tmps n L) : Gives P C a o K := by
  simp only [yd] at h
  have h1 := rds_sound ha _ _ h
  obtain ⟨cs, hk, hr⟩ := run_build parts.toList _ (by simp) hz hp h1
  refine gives_sv hk fun w => ?_
  have e : (parts.map fun p => (p.1, a.eval p.2)) = ((parts.toList.map (·.1)).zip ((parts.toList.map (·.2)).map a.eval)).toArray := by
    apply Array.toList_inj.1
    rw [Array.toList_map]
    have : ∀ l : List (Nat × Operand), l.map (fun p => (p.1, a.eval p.2)) = (l.map (·.1)).zip ((l.map (·.2)).map a.eval) := by
      intro l; induction l with
      | nil => rfl
      | cons x l ih => simp [ih]
    rw [this]
  have := hr w
  rw [← e] at this
  simp only [execOp, ho, Sem.run_bind, Sem.run_pure]
  rw [this]
  rfl

end
end Fb

/-
  The calculus is sound, third part: every operation; rows, plans, code, functions.
-/
namespace Fb
open Go

section
variable {P : Program} {C : World → Prop} {L : Env} {K : Sv → Prop} {a : Act} {n : Nat}

theorem quiet_call {c : Call} {o : Oper} (ho : o.op = .call c) {so : SO} (hs : slimCall P c o.type = some so) (hq : so.quiet = true) (h : yd P C L so K) (ha : Agr a.tmps n L) : Gives P C a o K := by
  unfold slimCall at hs
  split at hs
  · rename_i b hc
    split at hs
    · rename_i x e ha1 ha2
      cases hs
      exact gives_lenA ho hc ha1 ha2 h ha
    · rename_i x ha1 ha2
      cases hs
      exact gives_lenS ho hc ha1 ha2 h ha
    · rename_i x k e ha1 ha2
      cases hs
      refine gives_get (fun ρ => ?_) h ha
      obtain ⟨callee, args, ats⟩ := c
      obtain ⟨args⟩ := args
      simp only at hc ha1
      subst hc ha1
      simp [execOp, ho, resolve, invoke, builtin, G.sem]
    · rename_i x _ ha1
      cases hs
      refine gives_get (fun ρ => ?_) h ha
      obtain ⟨callee, args, ats⟩ := c
      obtain ⟨args⟩ := args
      simp only at hc ha1
      subst hc ha1
      simp [execOp, ho, resolve, invoke, builtin, G.sem]
    · rename_i x y k ha1 _
      cases hs
      exact gives_min ho hc ha1 h ha
    · rename_i x y k ha1 _
      cases hs
      exact gives_max ho hc ha1 h ha
    all_goals first | (cases hs; done) | (cases hs; cases hq)
  · split at hs
    · cases hs; cases hq
    · cases hs
  · cases hs; cases hq
  · cases hs; cases hq

theorem gives_bin {o : Oper} {op : BinOp} {t u : TypeId} {x y : Operand} (ho : o.op = .binOp op t x y u) {so : SO} (hs : slimBin P op t x y = some so) (h : yd P C L so K) (ha : Agr a.tmps n L) : Gives P C a o K := by
  unfold slimBin at hs
  split at hs
  · cases hs; exact gives_ibin ho h ha
  · cases hs; exact gives_sbin ho h ha
  · rename_i hu
    split at hs
    · cases hs; exact gives_bbin (ne := false) ho hu h ha
    · cases hs; exact gives_bbin (ne := true) ho hu h ha
    · cases hs
  · split at hs
    · rename_i hk; cases hs; exact gives_isnil (ne := false) ho hk h ha
    · rename_i hk; cases hs; exact gives_isnil (ne := true) ho hk h ha
    · cases hs; exact gives_get_eq ho h ha
    · cases hs; exact gives_get_eq ho h ha
    · cases hs

theorem gives_get_slice {o : Oper} {t : TypeId} {x : Operand} {lo hi mx : Option Operand} (ho : o.op = .slice t x lo hi mx) (hm : ¬(mx.isSome && !hi.isSome) = true)
    (h : yd P C L (.get (.slice t lo.isSome hi.isSome mx.isSome) (x :: (lo.toList ++ hi.toList ++ mx.toList))) K) (ha : Agr a.tmps n L) : Gives P C a o K := by
  refine gives_get (fun ρ => ?_) h ha
  cases lo <;> cases hi <;> cases mx <;> first | (simp at hm; done) | simp [execOp, ho, G.sem]

/-- EVERY QUIET OPERATION. -/
theorem yd_sound {o : Oper} {so : SO} (hs : slimOp P o = some so) (hq : so.quiet = true) (h : yd P C L so K) (ha : Agr a.tmps n L) : Gives P C a o K := by
  unfold slimOp at hs
  split at hs
  case h_1 ho => cases hs; exact gives_mv (.inl ho) h ha
  case h_2 ho => cases hs; exact gives_mv (.inr ho) h ha
  case h_3 ho => cases hs; exact gives_pick ho h ha
  case h_4 ho => exact gives_bin ho hs h ha
  case h_5 ho => cases hs; exact gives_notB ho h ha
  case h_6 ho =>
    split at hs
    · cases hs; exact gives_neg ho h ha
    · cases hs
  case h_7 ho =>
    split at hs
    · rename_i h1 h2; cases hs; exact gives_conv ho h1 h2 h ha
    · cases hs; exact gives_get (fun ρ => by simp [execOp, ho, G.sem]) h ha
    · cases hs; exact gives_get (fun ρ => by simp [execOp, ho, G.sem]) h ha
    · cases hs; cases hq
    · cases hs; cases hq
    · cases hs
  case h_8 ho => exact quiet_call ho hs hq h ha
  case h_9 ho =>
    split at hs
    · cases hs; cases hq
    · cases hs
  case h_10 ho => cases hs; cases hq
  case h_11 ho =>
    split at hs
    · rename_i h1 h2; cases hs; exact gives_bld ho h1 h2 h ha
    · cases hs
  case h_12 ho =>
    split at hs
    · split at hs
      · split at hs
        · cases hs; cases hq
        · cases hs
      · cases hs
    · cases hs
  case h_13 ho =>
    split at hs
    · rename_i h1 h2; cases hs; exact gives_ldn ho h1 h2 h ha
    · rename_i h1 _
      split at hs
      · rename_i h2; cases hs; exact gives_ld ho h1 h2 h ha
      · cases hs
    · cases hs
  case h_14 ho =>
    split at hs
    · cases hs; cases hq
    · split at hs
      · cases hs; cases hq
      · cases hs
    · cases hs
  case h_15 ho => cases hs; exact gives_nck ho h ha
  case h_16 ho =>
    split at hs
    · cases hs
    · rename_i d hn hd; cases hs; exact gives_mki ho hd (fun ms e => hn ms e) h ha
    · cases hs
  case h_17 ho => cases hs; exact gives_mkf ho h ha
  case h_18 ho => cases hs; cases hq
  case h_19 ho => cases hs; cases hq
  case h_20 t x lo hi mx ho =>
    split at hs
    · rename_i h1
      obtain ⟨inf, hinf, he⟩ := Option.map_eq_some_iff.1 hs
      subst he; exact gives_slc ho h1 hinf h ha
    · rename_i h1; cases hs; exact gives_sls ho h1 h ha
    · split at hs
      · cases hs
      · rename_i hm
        cases hs
        exact gives_get_slice ho hm h ha
  case h_21 s x f ho =>
    split at hs
    · rename_i fields hu
      split at hs
      · rename_i fd hf
        split at hs
        · cases hs
        · rename_i hz
          simp only [Bool.or_eq_true, beq_iff_eq, Bool.not_eq_true', not_or] at hz
          cases hs
          obtain ⟨inf, hinf⟩ := Option.ne_none_iff_exists'.1 (by simpa using hz.2)
          exact gives_fad ho hu hf hinf hz.1 h ha
      · cases hs
    · cases hs
  case h_22 t x f ho =>
    split at hs
    · rename_i fields hu
      split at hs
      · rename_i fd hf
        split at hs
        · rename_i h1 h2; cases hs; exact gives_flds ho hu hf h1 h2 h ha
        · rename_i h1 _
          split at hs
          · rename_i h2; cases hs; exact gives_fld ho hu hf h1 h2 h ha
          · cases hs
        · cases hs
      · cases hs
    · cases hs
  case h_23 t x i ho =>
    split at hs
    · rename_i h1
      obtain ⟨inf, hinf, he⟩ := Option.map_eq_some_iff.1 hs
      subst he; exact gives_ixA ho h1 hinf h ha
    · rename_i h1
      obtain ⟨inf, hinf, he⟩ := Option.map_eq_some_iff.1 hs
      subst he; exact gives_ixP ho h1 hinf h ha
    · cases hs
  case h_24 t x i ho =>
    split at hs
    · rename_i h1; cases hs; exact gives_ixS ho h1 h ha
    · cases hs; exact gives_get (fun ρ => by simp [execOp, ho, G.sem]) h ha
  case h_25 ho => cases hs; exact gives_get (fun ρ => by simp [execOp, ho, G.sem]) h ha
  case h_26 ho => cases hs; cases hq
  case h_27 ho => cases hs; cases hq
  case h_28 ho => cases hs; cases hq
  case h_29 ho => cases hs; cases hq
  case h_30 ho => cases hs; cases hq
  case h_31 ho => cases hs; cases hq
  case h_32 ho =>
    split at hs
    · cases hs
    · rename_i d z hn hd hz; cases hs; exact gives_asrt ho hd (fun ms e => hn ms e) hz h ha
    · cases hs
  case h_33 ho => cases hs; exact gives_ext ho h ha
  case h_34 => cases hs


/-! ### Operations that do more -/
variable {K : Sv → World → Prop} {w : World}

def Does (P : Program) (a : Act) (o : Oper) (w : World) (K : Sv → World → Prop) : Prop :=
  ∀ (next : Act → World → Prop) (Q : Exit → Act → World → Prop), (∀ s w', K s w' → next (a.put o.dst s.val) w') → o.wp P a w next Q

theorem does_value {o : Oper} {v : Value} {w' : World} (hk : K (.v v) w') (h : (execOp a.eval o).run P w = .ok (.value v) w') : Does P a o w K := by
  intro next Q hn
  unfold Oper.wp
  rw [h]
  exact hn _ _ hk

theorem does_skip {o : Oper} {w' : World} (hk : K (.v undef) w') (h : (execOp a.eval o).run P w = .ok .skip w') : Does P a o w K := by
  intro next Q hn
  unfold Oper.wp
  rw [h]
  exact hn _ _ hk

theorem vcO_quiet {so : SO} (hq : so.quiet = true) : vcO P L so w K = yd P (fun w' => w' = w) L so (fun s => K s w) := by
  cases so <;> first | rfl | (cases hq; done)

theorem does_quiet {o : Oper} {so : SO} (hs : slimOp P o = some so) (hq : so.quiet = true) (h : vcO P L so w K) (ha : Agr a.tmps n L) : Does P a o w K := by
  rw [vcO_quiet hq] at h
  obtain ⟨s, hk, hr⟩ := yd_sound hs hq h ha
  intro next Q hn
  unfold Oper.wp
  rw [hr w rfl]
  exact hn _ _ hk

theorem does_new {o : Oper} {elem : TypeId} {z : Value} (ho : o.op = .alloc elem) (hz : (P.info? elem).bind (·.zero) = some z) (h : vcO P L (.new (Value.cellsL z) elem) w K) : Does P a o w K := by
  simp only [vcO, New_eq] at h
  obtain ⟨inf, hinf, hzz⟩ := Option.bind_eq_some_iff.1 hz
  refine does_value h ?_
  have e : z.cells = ⟨Value.cellsL z⟩ := by rw [← cellsL_toList]
  simp [execOp, ho, Instr.alloc, zeroValue, typeInfo, hinf, hzz, newVar, newRow, e]

theorem does_box {o : Oper} {elem : TypeId} {x : Operand} (ho : o.op = .box elem x) (h : vcO P L (.box elem x) w K) (ha : Agr a.tmps n L) : Does P a o w K := by
  simp only [vcO, New_eq] at h
  have h1 := rd_sound h ha
  refine does_value h1 ?_
  have e : ∀ v : Value, v.cells = ⟨Value.cellsL v⟩ := fun v => by rw [← cellsL_toList]
  simp [execOp, ho, Instr.box, newVar, newRow, e]

theorem repL_spec (z : List Value) : ∀ k, (Array.range (k * z.length)).map (fun i => z.toArray[i % z.toArray.size]!) = (repL k z).toArray := by
  intro k
  apply Array.toList_inj.1
  rw [Array.toList_map, Array.toList_range]
  induction k with
  | zero => simp [repL]
  | succ k ih =>
    rw [Nat.succ_mul, List.range_add, List.map_append, ih]
    have hsnoc : ∀ k, repL (k + 1) z = repL k z ++ z := by
      intro k
      induction k with
      | zero => simp [repL]
      | succ k ih =>
        show z ++ repL (k + 1) z = (z ++ repL k z) ++ z
        rw [ih, List.append_assoc]
    rw [hsnoc]
    simp only [List.append_cancel_left_eq]
    apply List.ext_getElem
    · simp
    · intro i h1 h2
      simp only [List.getElem_map, List.getElem_range, List.size_toArray]
      have : (k * z.length + i) % z.length = i := by rw [Nat.mul_comm, Nat.mul_add_mod, Nat.mod_eq_of_lt h2]
      rw [this]
      simp [h2]

theorem does_bsl {o : Oper} {t elem : TypeId} {len size : Nat} {z : Value} {inf : TypeInfo} {parts : Array (Nat × Operand)} (ho : o.op = .buildSlice t len parts) (ht : P.underlying t = some (.slice elem)) (hi : P.info? elem = some inf) (hsz : inf.size = size) (hz : inf.zero = some z)
    (h1 : (Value.cellsL z).length = size) (h2 : 0 < size) (h3 : len * size ≤ 2 ^ 24)
    (h : vcO P L (.bsl elem len (repL len (Value.cellsL z)) (parts.toList.map fun p => (p.1 * size, size)) (parts.toList.map (·.2))) w K) (ha : Agr a.tmps n L) : Does P a o w K := by
  simp only [vcO, New_eq] at h
  have hv := rds_sound ha _ _ h
  generalize hvals : (parts.toList.map (·.2)).map a.eval = vals at hv
  have hlen : vals.length = parts.toList.length := by rw [← hvals]; simp
  have hsnd : ((parts.toList.map (·.1)).zip vals).map (·.2) = vals := by rw [List.map_snd_zip]; simp [hlen]
  have hfst : ((parts.toList.map (·.1)).zip vals).map (·.1) = parts.toList.map (·.1) := by rw [List.map_fst_zip]; simp [hlen]
  have hpl : ((parts.toList.map (·.1)).zip vals).map (fun p => some (p.1 * size, size)) = (parts.toList.map fun p => (p.1 * size, size)).map some := by
    have : ((parts.toList.map (·.1)).zip vals).map (fun p => some (p.1 * size, size)) = (((parts.toList.map (·.1)).zip vals).map (·.1)).map (fun i => some (i * size, size)) := by simp
    rw [this, hfst]; simp
  obtain ⟨out, hf, hq⟩ := fill_spec (fun i => some (i * size, size)) _ _ ⟨repL len (Value.cellsL z)⟩ _ hpl (by rw [hsnd]; exact hv)
  have e : (parts.map fun p => (p.1, a.eval p.2)) = ((parts.toList.map (·.1)).zip vals).toArray := by
    apply Array.toList_inj.1
    rw [Array.toList_map, ← hvals]
    have : ∀ l : List (Nat × Operand), l.map (fun p => (p.1, a.eval p.2)) = (l.map (·.1)).zip ((l.map (·.2)).map a.eval) := by
      intro l; induction l with
      | nil => rfl
      | cons x l ih => simp [ih]
    rw [this]
  have hcells : z.cells = ⟨Value.cellsL z⟩ := by rw [← cellsL_toList]
  refine does_value hq ?_
  have hrep : ∀ (hl : ¬ len * size = 0), ((Array.range (len * size)).map (fun i => z.cells[i % z.cells.size]!)) = ⟨repL len (Value.cellsL z)⟩ := fun _ => by
    have := repL_spec (Value.cellsL z) len
    rw [hcells, ← h1]; exact this
  have hbig : ¬ (16777216 < len * size) := by omega
  by_cases hl : len * size = 0
  · have hl0 : len = 0 := by rcases Nat.mul_eq_zero.1 hl with h | h <;> omega
    subst hl0
    simp only [repL] at hf
    have hfa : Instr.fill (fun i => some (i * size, size)) #[] ((parts.toList.map (·.1)).zip vals) = some out := hf
    have hr0 : ∀ g : Nat → Value, (Array.range 0).map g = #[] := fun g => Array.toList_inj.1 (by simp)
    simp [execOp, ho, Instr.buildSlice, run_underlying ht, Go.sizeOf, typeInfo, hi, hsz, e, hr0, hfa, newRow]
  · simp [execOp, ho, Instr.buildSlice, run_underlying ht, Go.sizeOf, typeInfo, hi, hsz, hbig, hl, zeroValue, hz, hrep hl, e, hf, newRow]


theorem storeFrom_spec (ad : Addr) : ∀ (vs : List Value) (i : Nat) (w : World) (K : World → Prop), StoreFrom ad vs i w K → ∃ w', (storeCells ad vs i).run P w = .ok () w' ∧ K w'
  | [], _, w, _, h => ⟨w, rfl, h⟩
  | v :: vs, i, w, K, h => by
    obtain ⟨h1, h2, h3, h4⟩ := h
    obtain ⟨w', hr, hk⟩ := storeFrom_spec ad vs (i + 1) _ K h4
    refine ⟨w', ?_, hk⟩
    obtain ⟨u, hu⟩ := Option.isSome_iff_exists.1 h1
    simp only [storeCells, Sem.run_bind, run_store P w (ad.add i) v .plain h3, hu, h2]
    exact hr

theorem does_st {o : Oper} {t : TypeId} {inf : TypeInfo} {x v : Operand} (ho : o.op = .store t x v) (hi : P.info? t = some inf) (hs : inf.size = 1) (h : vcO P L (.st x v) w K) (ha : Agr a.tmps n L) : Does P a o w K := by
  simp only [vcO] at h
  have h0 := rd_sound h ha
  have h1 := rd_sound h0 ha
  clear h h0
  generalize hx : a.eval x = vx at h1
  split at h1
  · rename_i ad
    simp only [Store_eq] at h1
    obtain ⟨h2, h3, h4, h5⟩ := h1
    obtain ⟨u, hu⟩ := Option.isSome_iff_exists.1 h2
    refine does_skip h5 ?_
    have hc : (a.eval v).cells = #[a.eval v] := by
      generalize a.eval v = y at h4
      cases y <;> first | rfl | (cases h4; done)
    have hadd : ad.add 0 = ad := by simp [Addr.add]
    simp [execOp, ho, hx, Instr.storeAt, Instr.sureAddr, storeVar, hc, Go.sizeOf, typeInfo, hi, hs, storeCells, hadd, run_store P w ad _ .plain h4, hu, h3]
  · exact h1.elim

theorem does_stn {o : Oper} {t : TypeId} {inf : TypeInfo} {x v : Operand} (ho : o.op = .store t x v) (hi : P.info? t = some inf) (h : vcO P L (.stn inf.size x v) w K) (ha : Agr a.tmps n L) : Does P a o w K := by
  simp only [vcO] at h
  have h0 := rd_sound h ha
  have h1 := rd_sound h0 ha
  clear h h0
  generalize hx : a.eval x = vx at h1
  generalize hv : a.eval v = vv at h1
  split at h1
  · rename_i ad vs
    cases hb : lenIs vs inf.size with
    | false => rw [hb] at h1; exact h1.elim
    | true =>
      rw [hb, cond_true] at h1
      have e := lenIs_spec _ _ hb
      simp only [StoreN_eq] at h1
      obtain ⟨w', hr, hk⟩ := storeFrom_spec (P := P) ad vs 0 w _ h1
      refine does_skip hk ?_
      simp [execOp, ho, hx, hv, Instr.storeAt, Instr.sureAddr, storeVar, Value.cells, Go.sizeOf, typeInfo, hi, e, hr]
  · exact h1.elim

theorem does_run {o : Oper} {g : G} {args : List Operand} (ho : ∀ ρ : Operand → Value, execOp ρ o = do pure (.value (← G.sem g (args.map ρ)))) (h : vcO P L (.run g args) w K) (ha : Agr a.tmps n L) : Does P a o w K := by
  simp only [vcO] at h
  have h1 := rds_sound ha _ _ h
  simp only [Run_eq] at h1
  obtain ⟨v, w', hr, hk⟩ := h1
  refine does_value hk ?_
  rw [ho]
  simp only [Sem.run_bind, hr, Sem.run_pure, Result.andThen_ok]

theorem does_runU {o : Oper} {g : G} {args : List Operand} {s : (Operand → Value) → Sem Unit} (ho : ∀ ρ : Operand → Value, execOp ρ o = do s ρ; pure .skip) (hg : ∀ ρ : Operand → Value, G.sem g (args.map ρ) = unitly (s ρ)) (h : vcO P L (.run g args) w K) (ha : Agr a.tmps n L) : Does P a o w K := by
  simp only [vcO] at h
  have h1 := rds_sound ha _ _ h
  simp only [Run_eq] at h1
  obtain ⟨v, w', hr, hk⟩ := h1
  rw [hg] at hr
  simp only [unitly, Sem.run_bind] at hr
  have key : (s a.eval).run P w = .ok () w' ∧ v = undef := by
    revert hr
    cases (s a.eval).run P w with
    | ok u w1 => intro hr; simp only [Result.andThen_ok, Sem.run_pure, Result.ok.injEq] at hr; exact ⟨by rw [hr.2], hr.1.symm⟩
    | halt x w1 => intro hr; simp at hr
  rw [key.2] at hk
  refine does_skip hk ?_
  rw [ho]
  simp only [Sem.run_bind, key.1, Sem.run_pure, Result.andThen_ok]

theorem does_enter {o : Oper} {f : FuncId} {args : Array Value} (h : Cal P f args w fun v w' => K (.v v) w') (hr : (execOp a.eval o).run P w = .ok (.enter f args) w) : Does P a o w K := by
  intro next Q hn
  unfold Oper.wp
  rw [hr]
  simp only [Oper.upon]
  simp only [Cal_eq] at h
  refine h.mono ?_
  rintro e w' ⟨v, rfl, hk⟩
  exact hn _ _ hk

theorem run_callFunc {f : FuncId} (hc : callable P f = true) (args : Array Value) (w : World) : (callFunc f args).run P w = .ok (.enter f args) w := by
  unfold callable at hc
  split at hc
  · rename_i fn hf
    simp only [Bool.and_eq_true, Bool.not_eq_true'] at hc
    obtain ⟨h1, h2⟩ := hc
    have h3 : fn.body.isNone = false := by
      cases hb : fn.body <;> simp_all
    simp only [callFunc, Sem.run_bind, run_program, Result.andThen_ok, hf, h2, h3]
    rfl
  · cases hc

theorem does_call {o : Oper} {c : Call} {f : FuncId} (ho : o.op = .call c) (hc : c.callee = .value (.func f)) (hf : callable P f = true) (h : vcO P L (.call f c.args.toList) w K) (ha : Agr a.tmps n L) : Does P a o w K := by
  simp only [vcO] at h
  have h1 := rds_sound ha _ _ h
  refine does_enter h1 ?_
  have e : (⟨c.args.toList.map a.eval⟩ : Array Value) = c.args.map a.eval := Array.toList_inj.1 (by simp)
  rw [e]
  simp [execOp, ho, resolve, hc, Act.eval, Deferred.ofValue, invoke, run_callFunc hf]

theorem run_invoke_method {t : TypeId} {v : Value} {name : String} {f : FuncId} {r : Value} (hm : ∀ w, (method (P.types.size + Made.depth) t v name).run P w = .ok (f, r) w) (hf : callable P f = true) (args : List Value) (cap : Array Value) (w : World) :
    (invoke (.fn (.method name) cap) ⟨.iface t v :: args⟩).run P w = .ok (.enter f ⟨r :: args⟩) w := by
  have hex : (⟨.iface t v :: args⟩ : Array Value).extract 1 (args.length + 1) = ⟨args⟩ := Array.toList_inj.1 (by simp [List.extract_eq_take_drop])
  have e2 : (#[r] : Array Value) ++ ⟨args⟩ = ⟨r :: args⟩ := Array.toList_inj.1 (by simp)
  have h0 : (⟨.iface t v :: args⟩ : Array Value)[0]? = some (.iface t v) := by simp
  have hs : (⟨.iface t v :: args⟩ : Array Value).size = args.length + 1 := by simp
  simp only [invoke, h0, hs, hex, callMethod, Sem.run_bind, run_program, Result.andThen_ok, hm, run_callFunc hf, e2]

theorem does_callv {o : Oper} {c : Call} {x : Operand} (ho : o.op = .call c) (hc : c.callee = .value x) (h : vcO P L (.callv x c.args.toList) w K) (ha : Agr a.tmps n L) : Does P a o w K := by
  simp only [vcO] at h
  have h0 := rd_sound h ha
  have h1 := rds_sound ha _ _ h0
  clear h h0
  have e : c.args.map a.eval = (⟨c.args.toList.map a.eval⟩ : Array Value) := Array.toList_inj.1 (by simp)
  generalize hx : a.eval x = vx at h1
  split at h1
  · rename_i f first captured
    simp only [FnV_eq] at h1
    refine does_enter h1.2 ?_
    have e2 : (⟨first⟩ : Array Value) ++ c.args.map a.eval ++ ⟨captured⟩ = ⟨first ++ c.args.toList.map a.eval ++ captured⟩ := Array.toList_inj.1 (by simp)
    rw [← e2]
    simp [execOp, ho, resolve, hc, hx, Deferred.ofValue, invoke, run_callFunc h1.1]
  · rename_i name t v
    simp only [FnI_eq] at h1
    obtain ⟨f, r, hm, hf, hcal⟩ := h1
    refine does_enter hcal ?_
    have e2 : (⟨[.iface t v]⟩ : Array Value) ++ c.args.map a.eval = ⟨.iface t v :: c.args.toList.map a.eval⟩ := Array.toList_inj.1 (by simp)
    have hr := run_invoke_method hm hf (c.args.toList.map a.eval) ⟨[]⟩ w
    rw [← e2] at hr
    simp only [execOp, ho, resolve, hc, hx, Deferred.ofValue, Sem.run_bind, Sem.run_pure, Result.andThen_ok, hr]
  · exact h1.elim

theorem does_calli {o : Oper} {c : Call} {x : Operand} {name : String} (ho : o.op = .call c) (hc : c.callee = .invoke x name) (h : vcO P L (.calli x name c.args.toList) w K) (ha : Agr a.tmps n L) : Does P a o w K := by
  simp only [vcO] at h
  have h0 := rd_sound h ha
  have h1 := rds_sound ha _ _ h0
  clear h h0
  generalize hx : a.eval x = vx at h1
  split at h1
  · rename_i t v
    simp only [FnI_eq] at h1
    obtain ⟨f, r, hm, hf, hcal⟩ := h1
    refine does_enter hcal ?_
    have e2 : (#[.iface t v] : Array Value) ++ c.args.map a.eval = ⟨.iface t v :: c.args.toList.map a.eval⟩ := Array.toList_inj.1 (by simp)
    have hr := run_invoke_method hm hf (c.args.toList.map a.eval) #[] w
    rw [← e2] at hr
    simp only [execOp, ho, resolve, hc, hx, Sem.run_bind, Sem.run_pure, Result.andThen_ok, hr]
  · exact h1.elim


theorem does_slimCall {c : Call} {o : Oper} (ho : o.op = .call c) {so : SO} (hs : slimCall P c o.type = some so) (hq : so.quiet = false) (h : vcO P L so w K) (ha : Agr a.tmps n L) : Does P a o w K := by
  unfold slimCall at hs
  split at hs
  · rename_i b hc
    split at hs
    all_goals first | (cases hs; done) | (cases hs; cases hq; done) | skip
    all_goals
      cases hs
      refine does_run (fun ρ => ?_) h ha
      obtain ⟨callee, args, ats⟩ := c
      obtain ⟨args⟩ := args
      simp only at hc
      subst hc
      simp [execOp, ho, resolve, invoke, builtin, G.sem]
  · rename_i f hc
    split at hs
    · rename_i hf; cases hs; exact does_call ho hc hf h ha
    · cases hs
  · rename_i x _ hc; cases hs; exact does_callv ho hc h ha
  · rename_i x name hc; cases hs; exact does_calli ho hc h ha

/-- EVERY OPERATION. -/
theorem vcO_sound {o : Oper} {so : SO} (hs : slimOp P o = some so) (h : vcO P L so w K) (ha : Agr a.tmps n L) : Does P a o w K := by
  by_cases hq : so.quiet = true
  · exact does_quiet hs hq h ha
  have hq : so.quiet = false := by simpa using hq
  unfold slimOp at hs
  split at hs
  case h_4 op t x y u ho =>
    unfold slimBin at hs
    repeat' split at hs
    all_goals first | (cases hs; done) | (cases hs; cases hq; done)
  case h_7 ho =>
    split at hs
    · cases hs; cases hq
    · cases hs; cases hq
    · cases hs; cases hq
    · cases hs; exact does_run (fun ρ => by simp [execOp, ho, G.sem]) h ha
    · cases hs; exact does_run (fun ρ => by simp [execOp, ho, G.sem]) h ha
    · cases hs
  case h_8 ho => exact does_slimCall ho hs hq h ha
  case h_9 ho =>
    split at hs
    · rename_i z hz; cases hs; exact does_new ho hz h
    · cases hs
  case h_10 ho => cases hs; exact does_box ho h ha
  case h_12 ho =>
    split at hs
    · rename_i elem ht
      split at hs
      · rename_i size z hz
        obtain ⟨inf, hinf, hz⟩ := Option.bind_eq_some_iff.1 hz
        obtain ⟨z', hz', e⟩ := Option.map_eq_some_iff.1 hz
        cases e
        split at hs
        · rename_i hc
          simp only [Bool.and_eq_true, beq_iff_eq, decide_eq_true_eq] at hc
          cases hs
          exact does_bsl ho ht hinf rfl hz' hc.1.1 hc.1.2 hc.2 h ha
        · cases hs
      · cases hs
    · cases hs
  case h_14 ho =>
    split at hs
    · rename_i inf h1 h2; cases hs; exact does_stn ho h2 h ha
    · rename_i inf h1 h2
      split at hs
      · rename_i hc
        simp only [Bool.and_eq_true, beq_iff_eq] at hc
        cases hs; exact does_st ho h2 hc.2 h ha
      · cases hs
    · cases hs
  case h_18 t r ho => cases hs; exact does_run (fun ρ => by cases r <;> simp [execOp, ho, G.sem]) h ha
  case h_19 ho => cases hs; exact does_run (fun ρ => by simp [execOp, ho, G.sem]) h ha
  case h_26 ho => cases hs; exact does_runU (fun ρ => by simp only [execOp, ho]) (fun ρ => rfl) h ha
  case h_27 ho => cases hs; exact does_runU (fun ρ => by simp only [execOp, ho]) (fun ρ => rfl) h ha
  case h_28 ho => cases hs; exact does_run (fun ρ => by simp [execOp, ho, G.sem]) h ha
  case h_29 ho => cases hs; exact does_runU (fun ρ => by simp only [execOp, ho]) (fun ρ => rfl) h ha
  case h_30 ho => cases hs; exact does_run (fun ρ => by simp [execOp, ho, G.sem]) h ha
  case h_31 ho => cases hs; exact does_run (fun ρ => by simp [execOp, ho, G.sem]) h ha
  all_goals
    repeat' split at hs
    all_goals first
      | (cases hs; done)
      | (cases hs; cases hq; done)
      | (obtain ⟨inf, hinf, he⟩ := Option.map_eq_some_iff.1 hs; subst he; cases hq; done)

end
end Fb

/-
  The calculus is sound, fourth part: rows of operations, plans, code, whole functions.
-/
namespace Fb
open Go

section
variable {P : Program} {L : Env} {a : Act} {n : Nat} {w : World} {ops : Array Oper}

theorem Agr.cons_of {tmps : Array Value} {t : Nat} {s : Sv} (ha : Agr tmps n L) (h : tmps[t]? = some s.val) : Agr tmps n ((t, s) :: L) := by
  refine ⟨ha.size, fun j s' hj => ?_⟩
  by_cases e : t = j
  · subst e; rw [find_cons_eq] at hj; cases hj; exact h
  · rw [find_cons_ne e] at hj; exact ha.has j s' hj

theorem putD_sound {d : Option Nat} {s : Sv} {K : Env → Prop} (h : putD n d s L K) (ha : Agr a.tmps n L) : ∃ L', K L' ∧ Agr (a.put d s.val).tmps n L' := by
  unfold putD at h
  split at h
  · exact ⟨L, h, ha⟩
  · rename_i d
    cases hb : Nat.ble n d with
    | true => rw [hb] at h; exact h.elim
    | false =>
      rw [hb, cond_false] at h
      exact ⟨_, h, ha.put d s (Nat.lt_of_not_le fun hle => by rw [Nat.ble_eq_true_of_le hle] at hb; cases hb)⟩

/-- The guard of a slim row's operation is the operation's. -/
def guardFits (ops : Array Oper) (o : Oper) (g : Option (Nat × Bool)) : Prop :=
  (o.guard = none ∧ g = none) ∨ ∃ j want oj t, o.guard = some (j, want) ∧ ops[j]? = some oj ∧ oj.dst = some t ∧ g = some (t, want)

theorem slimSt_spec {o : Oper} {st : St} (h : slimSt P ops o = some st) : slimOp P o = some st.o ∧ st.d = o.dst ∧ guardFits ops o st.g := by
  unfold slimSt at h
  simp only [Option.bind_eq_bind, Option.bind_eq_some_iff] at h
  obtain ⟨so, hso, h⟩ := h
  split at h
  · rename_i hg
    cases h
    exact ⟨hso, rfl, .inl ⟨hg, rfl⟩⟩
  · rename_i j want hg
    simp only [Option.bind_eq_some_iff] at h
    obtain ⟨oj, hj, t, ht, h⟩ := h
    cases h
    exact ⟨hso, rfl, .inr ⟨j, want, oj, t, hg, hj, ht, rfl⟩⟩

theorem guard_sound {o : Oper} {g : Option (Nat × Bool)} {Y N : Env → Prop} (hf : guardFits ops o g) (h : guardG L g Y N) (ha : Agr a.tmps n L) :
    (Region.wanted o (yielded ops a.tmps) = true ∧ ∃ L', Y L' ∧ Agr a.tmps n L') ∨ (Region.wanted o (yielded ops a.tmps) = false ∧ ∃ L', N L' ∧ Agr a.tmps n L') := by
  rcases hf with ⟨hg, rfl⟩ | ⟨j, want, oj, t, hg, hj, ht, rfl⟩
  · exact .inl ⟨by simp [Region.wanted, hg], L, h, ha⟩
  · have hy : ∀ v, a.tmps[t]? = some v → yielded ops a.tmps j = match v with | .bool b => some b | _ => none := fun v hv => by
      simp only [yielded, hj, Option.bind_some, ht, hv]
      cases v <;> rfl
    have hw : Region.wanted o (yielded ops a.tmps) = (yielded ops a.tmps j == some want) := by simp [Region.wanted, hg]
    rw [hw]
    simp only [guardG] at h
    split at h
    · rename_i hs
      rw [hy _ (ha.has _ _ hs)]
      cases want with
      | true => exact .inl ⟨rfl, L, h, ha⟩
      | false => exact .inr ⟨rfl, L, h, ha⟩
    · rename_i hs
      rw [hy _ (ha.has _ _ hs)]
      cases want with
      | true => exact .inr ⟨rfl, L, h, ha⟩
      | false => exact .inl ⟨rfl, L, h, ha⟩
    · rename_i b hs
      have ht' := ha.has _ _ hs
      rw [hy _ ht']
      cases want with
      | true =>
        simp only [cond_true, Cond_eq] at h
        cases b with
        | true => exact .inl ⟨rfl, _, h.1 rfl, ha.cons_of ht'⟩
        | false => exact .inr ⟨rfl, _, h.2 rfl, ha.cons_of ht'⟩
      | false =>
        simp only [cond_false, Cond_eq] at h
        cases b with
        | true => exact .inr ⟨rfl, _, h.1 rfl, ha.cons_of ht'⟩
        | false => exact .inl ⟨rfl, _, h.2 rfl, ha.cons_of ht'⟩
    · rename_i hs
      rw [hy _ (ha.has _ _ hs)]
      exact .inr ⟨rfl, L, h, ha⟩
    · exact h.elim

theorem put_same {d : Option Nat} {v : Value} {j : Nat} (h : d ≠ some j) : (a.put d v).tmps[j]? = a.tmps[j]? := by
  cases d with
  | none => rfl
  | some d =>
    simp only [Act.put]
    rw [Array.getElem?_setIfInBounds_ne]
    exact fun e => h (by rw [e])

theorem put_defers {d : Option Nat} {v : Value} : (a.put d v).defers = a.defers := by cases d <;> rfl

/-- 'a'' holds what 'a' holds but for the slots 'wr'; nothing is deferred. -/
structure Near (wr : List Nat) (a a' : Act) : Prop where
  defers : a'.defers = a.defers
  slots : ∀ j, j ∉ wr → a'.tmps[j]? = a.tmps[j]?

theorem Near.refl (wr : List Nat) (a : Act) : Near wr a a := ⟨rfl, fun _ _ => rfl⟩
theorem Near.trans {wr : List Nat} {a b c : Act} (h : Near wr a b) (k : Near wr b c) : Near wr a c := ⟨k.defers.trans h.defers, fun j hj => (k.slots j hj).trans (h.slots j hj)⟩
theorem Near.mono {wr wr' : List Nat} {a b : Act} (h : Near wr a b) (hw : ∀ j, j ∈ wr → j ∈ wr') : Near wr' a b := ⟨h.defers, fun j hj => h.slots j fun e => hj (hw j e)⟩
theorem Near.put {wr : List Nat} (a : Act) (d : Option Nat) (v : Value) (h : ∀ j, d = some j → j ∈ wr) : Near wr a (a.put d v) :=
  ⟨put_defers, fun j hj => put_same fun e => hj (h j e)⟩

theorem row_sound {Q : Exit → Act → World → Prop} : ∀ (os : List Oper) (sts : List St), os.mapM (slimSt P ops) = some sts → ∀ (L : Env) (a : Act) (w : World) (N : Env → World → Prop), vcRow P n sts L w N → Agr a.tmps n L →
    (∀ L' a' w', N L' w' → Agr a'.tmps n L' → Near (sts.flatMap fun s => s.d.toList) a a' → Q .normal a' w') → wpList P ops Q os a w
  | [], sts, hm, L, a, w, N, h, ha, hq => by
    simp at hm
    subst hm
    exact hq L a w h ha (Near.refl _ _)
  | o :: os, sts, hm, L, a, w, N, h, ha, hq => by
    simp only [List.mapM_cons, Option.pure_def, Option.bind_eq_bind, Option.bind_eq_some_iff] at hm
    obtain ⟨st, hst, r, hr, he⟩ := hm
    cases he
    obtain ⟨hso, hd, hg⟩ := slimSt_spec hst
    rw [vcRow_cons] at h
    have near : ∀ v a', Near (r.flatMap fun s => s.d.toList) (a.put o.dst v) a' → Near ((st :: r).flatMap fun s => s.d.toList) a a' := fun v a' hn =>
      (Near.put a o.dst v (fun j hj => by simp [hd, hj])).trans (hn.mono fun j hj => by simp only [List.flatMap_cons, List.mem_append]; exact .inr hj)
    unfold wpList
    rcases guard_sound hg h ha with ⟨hw, L', hy, ha'⟩ | ⟨hw, L', hy, ha'⟩
    · rw [if_pos hw]
      refine .inl (vcO_sound hso hy ha' _ _ fun s w' hk => ?_)
      obtain ⟨L'', hk', ha''⟩ := putD_sound (a := a) hk ha'
      rw [hd] at ha''
      exact row_sound os r hr L'' _ w' N hk' ha'' fun L3 a3 w3 h3 ha3 hn3 => hq L3 a3 w3 h3 ha3 (near _ _ hn3)
    · rw [if_neg (by rw [hw]; simp)]
      obtain ⟨L'', hk', ha''⟩ := putD_sound (a := a) hy ha'
      rw [hd] at ha''
      exact row_sound os r hr L'' _ w N hk' ha'' fun L3 a3 w3 h3 ha3 hn3 => hq L3 a3 w3 h3 ha3 (near _ _ hn3)

/-! ### Plans -/
theorem rsP_ne (p : Plan) (h : forkOnly p = true) : rsP p ≠ [] := by
  induction p with
  | done => simp [forkOnly] at h
  | take => simp [forkOnly] at h
  | step => simp [rsP]
  | alt p q ihp _ =>
    simp only [forkOnly, Bool.and_eq_true] at h
    simp only [rsP]
    intro e
    exact ihp h.1 (List.append_eq_nil_iff.1 e).1

/-! ### Whatever order is picked: a class of worlds is held as long as somebody who looks into memory is still to come -/
/-- Whatever order is picked from here on; what does not wait for all who look hands the class on. -/
def wpAnyW (P : Program) (ops : Array Oper) (Q : Exit → Act → World → Prop) (C : World → Prop) (wv : Nat → Bool) : Nat → Array Bool → Act → World → Prop
  | 0, listed, a, w => Region.ready .any ops listed = [] ∧ Q .normal a w
  | fuel + 1, listed, a, w =>
    (Region.ready .any ops listed = [] → Q .normal a w) ∧
    ∀ i ∈ Region.ready .any ops listed, wpOp P ops Q i (fun a' w' => (wv i = false → C w → C w') ∧ wpAnyW P ops Q C wv fuel (listed.setIfInBounds i true) a' w') a w

theorem wpAny_of_W {Q : Exit → Act → World → Prop} {C : World → Prop} {wv : Nat → Bool} : ∀ (fuel : Nat) (listed : Array Bool) (a : Act) (w : World), wpAnyW P ops Q C wv fuel listed a w → wpAny P .any ops Q fuel listed a w
  | 0, _, _, _, h => h
  | fuel + 1, _, _, _, h => ⟨h.1, fun i hi => wpOp_mono (fun a' w' h' => wpAny_of_W fuel _ a' w' h'.2) (h.2 i hi)⟩

theorem wpAnyW_first {Q : Exit → Act → World → Prop} {C D : World → Prop} {wv : Nat → Bool} {i : Nat} {oi : Oper} {v : Value} (hi : ops[i]? = some oi)
    (hsel : ∀ (j : Nat) (o : Oper) cs b, ops[j]? = some o → o.op ≠ .select cs b) (hQ : ∀ c a w, Q (.panic c) (a.put oi.dst v) w → Q (.panic c) a w)
    (hD : ∀ j oj w w', ops[j]? = some oj → j ≠ i → (∀ e ∈ oj.after, Region.binds .any e = true → e.on ≠ i) → (wv j = false → C w → C w') → D w → D w') :
    ∀ (fuel : Nat) (listed : Array Bool) (a : Act) (w : World),
      (∀ j oj, ops[j]? = some oj → j ≠ i → listed.getD j true = false → (∀ e ∈ oj.after, Region.binds .any e = true → e.on ≠ i) → oi.apart ops oj = true) →
      i ∈ Region.ready .any ops listed → YieldsIf P ops D oi v a → D w →
      wpAnyW P ops Q C wv fuel (listed.setIfInBounds i true) (a.put oi.dst v) w → wpAnyW P ops Q C wv (fuel + 1) listed a w := by
  intro fuel
  induction fuel with
  | zero =>
    intro listed a w hfree hr hy hd H
    refine ⟨fun h => (by rw [h] at hr; cases hr), fun j hj => ?_⟩
    rcases Decidable.em (j = i) with rfl | hji
    · exact hy.wpOp hi hd ⟨fun _ h => h, H⟩
    · have h := ready_mono hj hji
      rw [H.1] at h
      cases h
  | succ fuel ih =>
    intro listed a w hfree hr hy hd H
    refine ⟨fun h => (by rw [h] at hr; cases hr), fun j hj => ?_⟩
    rcases Decidable.em (j = i) with rfl | hji
    · exact hy.wpOp hi hd ⟨fun _ h => h, H⟩
    · obtain ⟨hjun, oj, hoj, hall⟩ := mem_ready.1 hj
      have hun := (mem_ready.1 hr).1
      have hnot : ∀ e ∈ oj.after, Region.binds .any e = true → e.on ≠ i := fun e he hb heq => by
        have h1 := hall e he hb
        rw [heq] at h1
        rcases Nat.lt_or_ge i listed.size with h' | h'
        · simp [h'] at hun h1; rw [hun] at h1; cases h1
        · simp [Array.getElem?_eq_none h'] at h1
      have h2 := wpOp_putIf hoj (hfree j oj hoj hji hjun hnot) (fun cs b => hsel i oi cs b hi) (fun cs b => hsel j oj cs b hoj) hQ hy (H.2 j (ready_mono hj hji))
      refine wpOp_mono (fun a' w' h3 => ⟨h3.2.1, ih (listed.setIfInBounds j true) a' w' (fun k ok hk hki hku hkn => ?_) (ready_mono hr (Ne.symm hji)) h3.1 (hD j oj w w' hoj hji hnot h3.2.1 hd) ?_⟩) h2
      · refine hfree k ok hk hki ?_ hkn
        rcases Decidable.em (j = k) with rfl | hjk
        · exact hjun
        · rw [getD_set_ne true hjk] at hku; exact hku
      · rw [Array.setIfInBounds_comm _ _ hji]
        exact h3.2.2

theorem yd_blind {C D : World → Prop} {so : SO} {K : Sv → Prop} (hr : so.reads = false) (h : yd P C L so K) : yd P D L so K := by
  cases so <;> first | exact h | (simp [SO.reads] at hr; done)

theorem waits_spec {rs : List Nat} {i j : Nat} {oj : Oper} (hj : ops[j]? = some oj) (hi : i ∈ rs) (hji : j ≠ i) (hno : ∀ e ∈ oj.after, Region.binds .any e = true → e.on ≠ i) : waits ops rs j = false := by
  cases hw : waits ops rs j with
  | false => rfl
  | true =>
    unfold waits at hw
    rw [List.all_eq_true] at hw
    have h := hw i hi
    rw [hj] at h
    simp only [Bool.or_eq_true] at h
    rcases h with h | h
    · exact absurd (Nat.eq_of_beq_eq_true h).symm hji
    · obtain ⟨e, he, hb⟩ := Array.any_eq_true'.1 h
      simp only [Bool.and_eq_true, beq_iff_eq] at hb
      exact absurd hb.2 (hno e he hb.1)

set_option maxHeartbeats 1000000 in
theorem plan_sound {C : World → Prop} {Q : Exit → Act → World → Prop} {rs : List Nat} (hrs : rs = readers P ops) (hns : Region.noSelect ops = true) (hQ : ∀ c (a : Act) (d : Option Nat) (v : Value) w, Q (.panic c) (a.put d v) w → Q (.panic c) a w) :
    ∀ (p : Plan) (fuel : Nat) (listed : Array Bool),
    (redoPlan P ops rs p false fuel listed = some p → wellP p = true → ∀ (L : Env) (a : Act) (w : World) (N : Env → World → Prop), vcPlan P n C p L w N → ((∃ q ∈ rs, listed.getD q true = false) → C w) → Agr a.tmps n L →
      (∀ L' a' w', N L' w' → Agr a'.tmps n L' → Near (wrP p) a a' → Q .normal a' w') → wpAnyW P ops Q C (waits ops rs) fuel listed a w) ∧
    (redoPlan P ops rs p true fuel listed = some p → wellP p = true → forkOnly p = true → ∃ fuel', fuel = fuel' + 1 ∧ ∀ (L : Env) (a : Act) (w : World) (N : Env → World → Prop), vcPlan P n C p L w N → ((∃ q ∈ rs, listed.getD q true = false) → C w) → Agr a.tmps n L →
      (∀ L' a' w', N L' w' → Agr a'.tmps n L' → Near (wrP p) a a' → Q .normal a' w') → ∀ i ∈ rsP p, i ∈ Region.ready .any ops listed →
        wpOp P ops Q i (fun a' w' => (waits ops rs i = false → C w → C w') ∧ wpAnyW P ops Q C (waits ops rs) fuel' (listed.setIfInBounds i true) a' w') a w) := by
  intro p
  have pend : ∀ (i : Nat) (listed : Array Bool), (∃ q ∈ rs, (listed.setIfInBounds i true).getD q true = false) → ∃ q ∈ rs, q ≠ i ∧ listed.getD q true = false := by
    rintro i listed ⟨q, hq, hp⟩
    rcases Decidable.em (i = q) with rfl | hiq
    · exfalso
      rcases Nat.lt_or_ge i listed.size with h' | h'
      · simp [h'] at hp
      · simp at hp
    · exact ⟨q, hq, Ne.symm hiq, by rwa [getD_set_ne true hiq] at hp⟩
  induction p with
  | done =>
    intro fuel listed
    refine ⟨fun hr _ L a w N h hC ha hq => ?_, fun hr _ hf => by cases hf⟩
    simp only [redoPlan] at hr
    split at hr
    · rename_i hready
      have hready := List.isEmpty_iff.1 hready
      cases fuel with
      | zero => exact ⟨hready, hq L a w h ha (Near.refl _ _)⟩
      | succ fuel => exact ⟨fun _ => hq L a w h ha (Near.refl _ _), by rw [hready]; simp⟩
    · cases hr
  | take i s p ih =>
    intro fuel listed
    refine ⟨fun hr hwell L a w N h hC ha hq => ?_, fun hr _ hf => by cases hf⟩
    simp only [redoPlan] at hr
    split at hr
    · cases hr
    · rename_i fuel
      simp only [Option.bind_eq_bind, Option.bind_eq_some_iff] at hr
      obtain ⟨o, ho, st, hst, hr⟩ := hr
      split at hr
      · rename_i hc
        simp only [Bool.and_eq_true] at hc
        simp only [Option.bind_eq_some_iff] at hr
        obtain ⟨q, hq', hr⟩ := hr
        cases hr
        obtain ⟨hso, hd, hg⟩ := slimSt_spec hst
        rw [vcPlan_take] at h
        have near : ∀ v a', Near (wrP p) (a.put o.dst v) a' → Near (wrP (.take i s p)) a a' := fun v a' hn =>
          (Near.put a o.dst v (fun j hj => by simp [wrP, hd, hj])).trans (hn.mono fun j hj => by simp only [wrP, List.mem_append]; exact .inr hj)
        have hready : i ∈ Region.ready .any ops listed := by simpa using hc.2
        have hun := (mem_ready.1 hready).1
        have hC' : (∃ q ∈ rs, (listed.setIfInBounds i true).getD q true = false) → C w := fun hp => by
          obtain ⟨q, hq, _, hp⟩ := pend i listed hp
          exact hC ⟨q, hq, hp⟩
        have cont : ∀ (sv : Sv) (L' : Env) (K : Env → Prop), putD n s.d sv L' K → Agr a.tmps n L' → ∃ L'', K L'' ∧ Agr (a.put o.dst sv.val).tmps n L'' := fun sv L' K hk ha' => by
          obtain ⟨L'', h1, h2⟩ := putD_sound (a := a) hk ha'
          rw [hd] at h2
          exact ⟨L'', h1, h2⟩
        rcases guard_sound hg h ha with ⟨hw, L', hy, ha'⟩ | ⟨hw, L', hy, ha'⟩
        · by_cases hreads : s.o.reads = true
          · have hmem : i ∈ rs := by
              rw [hrs]
              unfold readers
              rw [List.mem_filter]
              refine ⟨List.mem_range.2 (Array.getElem?_eq_some_iff.1 ho).1, ?_⟩
              simp only [ho, Option.bind_some, hst, hc.1.1, hreads, Bool.and_self]
            obtain ⟨sv, hk, hrun⟩ := yd_sound hso hc.1.1 hy ha'
            obtain ⟨L'', hk', ha''⟩ := cont sv L' _ hk ha'
            exact wpAnyW_first (D := C) ho (Region.noSelect_spec hns) (fun c a w => hQ c a _ _ w)
              (fun j oj w w' hoj hji hno hcw hdw => hcw (waits_spec hoj hmem hji hno) hdw) fuel listed a w (Region.free_spec ho hc.1.2) hready (.inl ⟨hw, hrun⟩) (hC ⟨i, hmem, hun⟩)
              ((ih fuel _).1 hq' hwell L'' _ w N hk' hC' ha'' fun L3 a3 w3 h3 ha3 hn3 => hq L3 a3 w3 h3 ha3 (near _ _ hn3))
          · have hreads : s.o.reads = false := by simpa using hreads
            obtain ⟨sv, hk, hrun⟩ := yd_sound hso hc.1.1 (yd_blind (D := fun _ => True) hreads hy) ha'
            obtain ⟨L'', hk', ha''⟩ := cont sv L' _ hk ha'
            exact wpAnyW_first (D := fun _ => True) ho (Region.noSelect_spec hns) (fun c a w => hQ c a _ _ w)
              (fun _ _ _ _ _ _ _ _ _ => trivial) fuel listed a w (Region.free_spec ho hc.1.2) hready (.inl ⟨hw, hrun⟩) trivial
              ((ih fuel _).1 hq' hwell L'' _ w N hk' hC' ha'' fun L3 a3 w3 h3 ha3 hn3 => hq L3 a3 w3 h3 ha3 (near _ _ hn3))
        · obtain ⟨L'', hk', ha''⟩ := cont (.v undef) L' _ hy ha'
          exact wpAnyW_first (D := fun _ => True) ho (Region.noSelect_spec hns) (fun c a w => hQ c a _ _ w)
            (fun _ _ _ _ _ _ _ _ _ => trivial) fuel listed a w (Region.free_spec ho hc.1.2) hready (.inr ⟨hw, rfl⟩) trivial
            ((ih fuel _).1 hq' hwell L'' _ w N hk' hC' ha'' fun L3 a3 w3 h3 ha3 hn3 => hq L3 a3 w3 h3 ha3 (near _ _ hn3))
      · cases hr
  | step i hh s p ih =>
    intro fuel listed
    have fork : ∀ forked, redoPlan P ops rs (.step i hh s p) forked fuel listed = some (.step i hh s p) → wellP (.step i hh s p) = true → ∃ fuel', fuel = fuel' + 1 ∧ ∀ (L : Env) (a : Act) (w : World) (N : Env → World → Prop), vcPlan P n C (.step i hh s p) L w N → ((∃ q ∈ rs, listed.getD q true = false) → C w) → Agr a.tmps n L →
        (∀ L' a' w', N L' w' → Agr a'.tmps n L' → Near (wrP (.step i hh s p)) a a' → Q .normal a' w') → i ∈ Region.ready .any ops listed →
          wpOp P ops Q i (fun a' w' => (waits ops rs i = false → C w → C w') ∧ wpAnyW P ops Q C (waits ops rs) fuel' (listed.setIfInBounds i true) a' w') a w := by
      intro forked hr hwell
      simp only [redoPlan] at hr
      split at hr
      · cases hr
      · rename_i fuel
        refine ⟨fuel, rfl, fun L a w N h hC ha hq hready => ?_⟩
        simp only [Option.bind_eq_bind, Option.bind_eq_some_iff] at hr
        obtain ⟨o, ho, st, hst, hr⟩ := hr
        split at hr
        · simp only [Option.bind_eq_some_iff] at hr
          obtain ⟨q, hq', hr⟩ := hr
          cases hr
          obtain ⟨hso, hd, hg⟩ := slimSt_spec hst
          rw [vcPlan_step] at h
          have near : ∀ v a', Near (wrP p) (a.put o.dst v) a' → Near (wrP (.step i (!waits ops rs i) s p)) a a' := fun v a' hn =>
            (Near.put a o.dst v (fun j hj => by simp [wrP, hd, hj])).trans (hn.mono fun j hj => by simp only [wrP, List.mem_append]; exact .inr hj)
          unfold wpOp
          simp only [ho]
          rcases guard_sound hg h ha with ⟨hw, L', hy, ha'⟩ | ⟨hw, L', hy, ha'⟩
          · rw [if_pos hw]
            refine .inl (vcO_sound hso hy ha' _ _ fun sv w' hk => ?_)
            cases hwt : waits ops rs i with
            | false =>
              rw [hwt] at hk
              simp only [Bool.not_false, cond_true, Held_eq] at hk
              obtain ⟨hC', hk⟩ := hk
              obtain ⟨L'', hk', ha''⟩ := putD_sound (a := a) hk ha'
              rw [hd] at ha''
              exact ⟨fun _ _ => hC', (ih fuel _).1 hq' hwell L'' _ w' N hk' (fun _ => hC') ha'' fun L3 a3 w3 h3 ha3 hn3 => hq L3 a3 w3 h3 ha3 (near _ _ hn3)⟩
            | true =>
              rw [hwt] at hk
              simp only [Bool.not_true, cond_false] at hk
              obtain ⟨L'', hk', ha''⟩ := putD_sound (a := a) hk ha'
              rw [hd] at ha''
              refine ⟨fun hx => (by cases hx), (ih fuel _).1 hq' hwell L'' _ w' N hk' (fun hp => ?_) ha'' fun L3 a3 w3 h3 ha3 hn3 => hq L3 a3 w3 h3 ha3 (near _ _ hn3)⟩
              exfalso
              obtain ⟨q, hqm, hqi, hp⟩ := pend i listed hp
              obtain ⟨_, oj, hoj, hall⟩ := mem_ready.1 hready
              have hfalse : waits ops rs i = false := waits_spec hoj hqm (Ne.symm hqi) fun e he hb heq => by
                have h1 := hall e he hb
                rw [heq] at h1
                rcases Nat.lt_or_ge q listed.size with h' | h'
                · simp [h'] at hp h1; rw [hp] at h1; cases h1
                · simp [Array.getElem?_eq_none h'] at h1
              rw [hwt] at hfalse
              cases hfalse
          · rw [if_neg (by rw [hw]; simp)]
            obtain ⟨L'', hk', ha''⟩ := putD_sound (a := a) hy ha'
            rw [hd] at ha''
            refine ⟨fun _ h => h, (ih fuel _).1 hq' hwell L'' _ w N hk' (fun hp => ?_) ha'' fun L3 a3 w3 h3 ha3 hn3 => hq L3 a3 w3 h3 ha3 (near _ _ hn3)⟩
            obtain ⟨q, hqm, _, hp⟩ := pend i listed hp
            exact hC ⟨q, hqm, hp⟩
        · cases hr
    refine ⟨fun hr hwell L a w N h hC ha hq => ?_, fun hr hwell _ => ?_⟩
    · obtain ⟨fuel', rfl, hf⟩ := fork false hr hwell
      have hready : Region.ready .any ops listed = [i] := by
        simp only [redoPlan, Option.bind_eq_bind, Option.bind_eq_some_iff] at hr
        obtain ⟨o, ho, st, hst, hr⟩ := hr
        split at hr
        · rename_i hc
          simp only [Bool.or_eq_true, beq_iff_eq] at hc
          simpa [rsP] using hc
        · cases hr
      refine ⟨fun h0 => (by rw [hready] at h0; cases h0), fun j hj => ?_⟩
      have hj' := hj
      rw [hready, List.mem_singleton] at hj
      subst hj
      exact hf L a w N h hC ha hq hj'
    · obtain ⟨fuel', rfl, hf⟩ := fork true hr hwell
      refine ⟨fuel', rfl, fun L a w N h hC ha hq j hj hjr => ?_⟩
      simp only [rsP, List.mem_singleton] at hj
      subst hj
      exact hf L a w N h hC ha hq hjr
  | alt p q ihp ihq =>
    intro fuel listed
    have fork : ∀ forked, redoPlan P ops rs (.alt p q) forked fuel listed = some (.alt p q) → wellP (.alt p q) = true → ∃ fuel', fuel = fuel' + 1 ∧ ∀ (L : Env) (a : Act) (w : World) (N : Env → World → Prop), vcPlan P n C (.alt p q) L w N → ((∃ q ∈ rs, listed.getD q true = false) → C w) → Agr a.tmps n L →
        (∀ L' a' w', N L' w' → Agr a'.tmps n L' → Near (wrP (.alt p q)) a a' → Q .normal a' w') → ∀ i ∈ rsP (.alt p q), i ∈ Region.ready .any ops listed →
          wpOp P ops Q i (fun a' w' => (waits ops rs i = false → C w → C w') ∧ wpAnyW P ops Q C (waits ops rs) fuel' (listed.setIfInBounds i true) a' w') a w := by
      intro forked hr hwell
      simp only [redoPlan] at hr
      split at hr
      · simp only [Option.bind_eq_bind, Option.bind_eq_some_iff] at hr
        obtain ⟨p1, hp1, q1, hq1, hr⟩ := hr
        cases hr
        simp only [wellP, Bool.and_eq_true] at hwell
        obtain ⟨⟨⟨h1, h2⟩, h3⟩, h4⟩ := hwell
        obtain ⟨f1, e1, k1⟩ := (ihp fuel listed).2 hp1 h3 h1
        obtain ⟨f2, e2, k2⟩ := (ihq fuel listed).2 hq1 h4 h2
        subst e1
        have e3 : f2 = f1 := by omega
        subst e3
        refine ⟨f2, rfl, fun L a w N h hC ha hq i hi hir => ?_⟩
        rw [vcPlan_alt] at h
        simp only [Both_eq] at h
        simp only [rsP, List.mem_append] at hi
        rcases hi with hi | hi
        · exact k1 L a w N h.1 hC ha (fun L' a' w' hn hag hnear => hq L' a' w' hn hag (hnear.mono fun j hj => by simp [wrP, hj])) i hi hir
        · exact k2 L a w N h.2 hC ha (fun L' a' w' hn hag hnear => hq L' a' w' hn hag (hnear.mono fun j hj => by simp [wrP, hj])) i hi hir
      · cases hr
    refine ⟨fun hr hwell L a w N h hC ha hq => ?_, fun hr hwell _ => ?_⟩
    · obtain ⟨fuel', rfl, hf⟩ := fork false hr hwell
      have hready : Region.ready .any ops listed = rsP (.alt p q) := by
        simp only [redoPlan] at hr
        split at hr
        · rename_i hc
          simpa using hc
        · cases hr
      have hne : rsP (.alt p q) ≠ [] := rsP_ne _ (by simp only [wellP, Bool.and_eq_true] at hwell; simp [forkOnly, hwell.1.1.1, hwell.1.1.2])
      refine ⟨fun h0 => absurd (hready ▸ h0) hne, fun j hj => ?_⟩
      have hj' := hj
      rw [hready] at hj
      exact hf L a w N h hC ha hq j hj hj'
    · obtain ⟨fuel', rfl, hf⟩ := fork true hr hwell
      exact ⟨fuel', rfl, fun L a w N h hC ha hq => hf L a w N h hC ha hq⟩

/-! ### Code -/
theorem mem_false {j : Nat} {l : List Nat} (h : j ∉ l) : mem j l = false := by
  cases hm : mem j l with
  | true => exact absurd ((mem_iff j l).1 hm) h
  | false => rfl

theorem rdN_sound : ∀ {names : List Nat} {L : Env} {a : Act} {K : List Value → Prop}, rdN L names K → Agr a.tmps n L → ∃ vs, K vs ∧ vs.length = names.length ∧ ∀ (i j : Nat) (v : Value), names[i]? = some j → vs[i]? = some v → a.tmps[j]? = some v
  | [], _, _, K, h, _ => ⟨[], h, rfl, by simp⟩
  | j :: names, L, a, K, h, ha => by
    simp only [rdN, rd] at h
    have key : ∀ (s : Sv), Env.find L j = some s → rdN L names (fun vs => K (s.val :: vs)) → ∃ vs, K vs ∧ vs.length = (j :: names).length ∧ ∀ (i k : Nat) (v : Value), (j :: names)[i]? = some k → vs[i]? = some v → a.tmps[k]? = some v := by
      intro s hs h
      obtain ⟨vs, hk, hl, hv⟩ := rdN_sound h ha
      refine ⟨s.val :: vs, hk, by simp [hl], fun i k v hi hvi => ?_⟩
      cases i with
      | zero =>
        simp only [List.getElem?_cons_zero, Option.some.injEq] at hi hvi
        subst hi hvi
        exact ha.has _ _ hs
      | succ i => exact hv i k v (by simpa using hi) (by simpa using hvi)
    split at h
    · rename_i u hs; exact key _ hs h
    · rename_i hs; exact key _ hs h
    · rename_i hs; exact key _ hs h
    · exact h.elim

theorem zipE_agr {tmps : Array Value} {L : Env} (ha : Agr tmps n L) : ∀ (names : List Nat) (vs : List Value), (∀ (i j : Nat) (v : Value), names[i]? = some j → vs[i]? = some v → tmps[j]? = some v) → Agr tmps n (zipE names vs L)
  | [], vs, _ => by simpa [zipE] using ha
  | _ :: _, [], _ => by simpa [zipE] using ha
  | j :: names, v :: vs, h => by
    simp only [zipE]
    refine (zipE_agr ha names vs fun i k u hi hu => h (i + 1) k u (by simpa using hi) (by simpa using hu)).cons_of ?_
    exact h 0 j v (by simp) (by simp)

/-- What a region's Q becomes: nothing is asked at a panic. -/
def NoPan (Q : Exit → Act → World → Prop) : Exit → Act → World → Prop
  | .panic _, _, _ => False
  | e, a, w => Q e a w
theorem NoPan.imp {Q : Exit → Act → World → Prop} : ∀ (e : Exit) (a : Act) (w : World), NoPan Q e a w → Q e a w := fun e a w h => by
  cases e <;> first | exact h | exact (h : False).elim

theorem wp_noGoto {c : Code} {Q : Exit → Act → World → Prop} (h : c.wp P (fun e a w => match e with | .goto _ => False | e => Q e a w) a w) : c.wp P (Exit.noGoto Q) a w :=
  wp_mono h fun e a w hq => by cases e <;> first | exact hq | exact hq.elim

theorem code_sound (hm : P.follows .mixedOrders = true) : ∀ (s : S) (c : Code), redo P s c = some s → ∀ (L : Env) (a : Act) (w : World) (N : Env → World → Prop) (X : Nat → Env → World → Prop) (R : Env → World → Prop), vc P n s L w N X R → Agr a.tmps n L →
    ∀ (Q : Exit → Act → World → Prop), (∀ L' a' w', N L' w' → Agr a'.tmps n L' → Near (wrS s) a a' → Q .normal a' w') → (∀ i L' a' w', X i L' w' → Agr a'.tmps n L' → Near (wrS s) a a' → Q (.exit i) a' w') →
      (∀ L' a' w', R L' w' → Agr a'.tmps n L' → Near (wrS s) a a' → Q .ret a' w') → c.wp P Q a w := by
  intro s
  induction s with
  | skip =>
    intro c hr L a w N X R h ha Q hN hX hR
    cases c <;> simp only [redo] at hr <;> first | (cases hr; done) | skip
    exact wp_skip (hN L a w h ha (Near.refl _ _))
  | row l =>
    intro c hr L a w N X R h ha Q hN hX hR
    cases c
    all_goals first | (simp only [redo] at hr; cases hr; done) | skip
    rename_i id ops draw
    cases draw <;> simp only [redo] at hr <;> first | (cases hr; done) | skip
    obtain ⟨l', hl, he⟩ := Option.map_eq_some_iff.1 hr
    cases he
    exact wp_region_list (row_sound _ _ hl L a w N h ha hN)
  | draw p =>
    intro c hr L a w N X R h ha Q hN hX hR
    cases c
    all_goals first | (simp only [redo] at hr; cases hr; done) | skip
    rename_i id ops draw
    cases draw <;> simp only [redo] at hr <;> first | (cases hr; done) | skip
    split at hr
    · rename_i hc
      simp only [Bool.and_eq_true] at hc
      obtain ⟨p', hp, he⟩ := Option.map_eq_some_iff.1 hr
      cases he
      have h : Draw w fun C w => vcPlan P n C p L w N := h
      simp only [Draw_eq] at h
      obtain ⟨C, hC, h⟩ := h
      refine wp_mono ?_ (NoPan.imp (Q := Q))
      refine wp_region_any hm (wpAny_of_W (C := C) (wv := waits ops (readers P ops)) _ _ _ _ ?_)
      exact (plan_sound (Q := NoPan Q) rfl hc.1 (fun c a d v w h => h) p ops.size _).1 hp hc.2 L a w.drew N h (fun _ => hC) ha fun L' a' w' hn hag hnear => hN L' a' w' hn hag hnear
    · cases hr
  | seq x y ihx ihy =>
    intro c hr L a w N X R h ha Q hN hX hR
    cases c <;> simp only [redo] at hr <;> first | (cases hr; done) | skip
    rename_i cx cy
    simp only [Option.bind_eq_bind, Option.bind_eq_some_iff] at hr
    obtain ⟨x', hx, y', hy, he⟩ := hr
    cases he
    refine wp_seq (ihx cx hx L a w _ X R h ha _ (fun L1 a1 w1 h1 ha1 hn1 => ?_) (fun i L1 a1 w1 h1 ha1 hn1 => ?_) (fun L1 a1 w1 h1 ha1 hn1 => ?_))
    · refine ihy cy hy L1 a1 w1 N X R h1 ha1 Q (fun L2 a2 w2 h2 ha2 hn2 => ?_) (fun i L2 a2 w2 h2 ha2 hn2 => ?_) (fun L2 a2 w2 h2 ha2 hn2 => ?_)
      · exact hN L2 a2 w2 h2 ha2 ((hn1.mono fun j hj => by simp [wrS, hj]).trans (hn2.mono fun j hj => by simp [wrS, hj]))
      · exact hX i L2 a2 w2 h2 ha2 ((hn1.mono fun j hj => by simp [wrS, hj]).trans (hn2.mono fun j hj => by simp [wrS, hj]))
      · exact hR L2 a2 w2 h2 ha2 ((hn1.mono fun j hj => by simp [wrS, hj]).trans (hn2.mono fun j hj => by simp [wrS, hj]))
    · exact hX i L1 a1 w1 h1 ha1 (hn1.mono fun j hj => by simp [wrS, hj])
    · exact hR L1 a1 w1 h1 ha1 (hn1.mono fun j hj => by simp [wrS, hj])
  | cond c0 x y ihx ihy =>
    intro c hr L a w N X R h ha Q hN hX hR
    cases c <;> simp only [redo] at hr <;> first | (cases hr; done) | skip
    rename_i co cx cy
    simp only [Option.bind_eq_bind, Option.bind_eq_some_iff] at hr
    obtain ⟨x', hx, y', hy, he⟩ := hr
    cases he
    have h : condStep c0 (vc P n x) (vc P n y) L w N X R := h
    unfold condStep at h
    obtain ⟨sv, hs, hv⟩ := rdS_sound h ha
    have kx : vc P n x L w N X R → cx.wp P Q a w := fun hh => ihx cx hx L a w N X R hh ha Q (fun L' a' w' h1 h2 h3 => hN L' a' w' h1 h2 (h3.mono fun j hj => by simp [wrS, hj]))
      (fun i L' a' w' h1 h2 h3 => hX i L' a' w' h1 h2 (h3.mono fun j hj => by simp [wrS, hj])) (fun L' a' w' h1 h2 h3 => hR L' a' w' h1 h2 (h3.mono fun j hj => by simp [wrS, hj]))
    have ky : vc P n y L w N X R → cy.wp P Q a w := fun hh => ihy cy hy L a w N X R hh ha Q (fun L' a' w' h1 h2 h3 => hN L' a' w' h1 h2 (h3.mono fun j hj => by simp [wrS, hj]))
      (fun i L' a' w' h1 h2 h3 => hX i L' a' w' h1 h2 (h3.mono fun j hj => by simp [wrS, hj])) (fun L' a' w' h1 h2 h3 => hR L' a' w' h1 h2 (h3.mono fun j hj => by simp [wrS, hj]))
    cases sv with
    | t => exact wp_cond_true hv (kx hs)
    | f => exact wp_cond_false hv (ky hs)
    | v u =>
      cases u with
      | bool b =>
        simp only [Cond_eq] at hs
        exact wp_cond_split hv (fun hb => kx (hs.1 hb)) (fun hb => ky (hs.2 hb))
      | _ => exact hs.elim
  | block id0 b ih =>
    intro c hr L a w N X R h ha Q hN hX hR
    cases c <;> simp only [redo] at hr <;> first | (cases hr; done) | skip
    rename_i id cb
    simp only [Option.bind_eq_bind, Option.bind_eq_some_iff] at hr
    obtain ⟨b', hb, he⟩ := hr
    cases he
    have h : vc P n b L w N (fun i L w => bif Nat.beq i id0 then N L w else X i L w) R := h
    refine wp_block (ih cb hb L a w N _ R h ha _ (fun L' a' w' h1 h2 h3 => hN L' a' w' h1 h2 h3) (fun i L' a' w' h1 h2 h3 => ?_) (fun L' a' w' h1 h2 h3 => hR L' a' w' h1 h2 h3))
    simp only [Exit.inBlock]
    by_cases e : i = id0
    · subst e
      simp only [Nat.beq_refl, cond_true] at h1
      rw [if_pos rfl]
      exact hN L' a' w' h1 h2 h3
    · have hbq : Nat.beq i id0 = false := by
        cases hbq : Nat.beq i id0 with
        | true => exact absurd (Nat.eq_of_beq_eq_true hbq) e
        | false => rfl
      rw [hbq, cond_false] at h1
      rw [if_neg e]
      exact hX i L' a' w' h1 h2 h3
  | loop names wr b ih =>
    intro c hr L a w N X R h ha Q hN hX hR
    cases c <;> simp only [redo] at hr <;> first | (cases hr; done) | skip
    rename_i cb
    split at hr
    · rename_i hsub
      simp only [Option.bind_eq_bind, Option.bind_eq_some_iff] at hr
      obtain ⟨b', hb, he⟩ := hr
      cases he
      have hsub' : ∀ j, j ∈ wrS b → j ∈ wr := fun j hj => (mem_iff j wr).1 (List.all_eq_true.1 hsub j hj)
      have h : loopStep names wr (vc P n b) L w N X R := h
      unfold loopStep at h
      obtain ⟨vs, h, hl, hvs⟩ := rdN_sound h ha
      obtain ⟨L0, h, hL0⟩ := Env.lose_spec L wr _ h
      simp only [LoopP_eq] at h
      obtain ⟨I, μ, hI, hround⟩ := h
      have ha0 : Agr a.tmps n L0 := ⟨ha.size, fun j s hj => by
        rw [hL0] at hj
        split at hj
        · cases hj
        · exact ha.has j s hj⟩
      -- the state at the loop's head
      refine wp_loop (fun a1 w1 => Near (wrS b) a a1 ∧ a1.tmps.size = n ∧ ∃ us : List Value, us.length = names.length ∧ (∀ (i j : Nat) (v : Value), names[i]? = some j → us[i]? = some v → a1.tmps[j]? = some v) ∧ I us w1)
        (fun a1 w1 => μ (names.map fun j => a1.tmps.getD j undef) w1) ⟨Near.refl _ _, ha.size, vs, hl, hvs, hI⟩ ?_
      rintro a1 w1 ⟨hn1, hsz, us, hul, hus, hI1⟩
      have hread : ∀ (us : List Value) (a1 : Act), us.length = names.length → (∀ (i j : Nat) (v : Value), names[i]? = some j → us[i]? = some v → a1.tmps[j]? = some v) → names.map (fun j => a1.tmps.getD j undef) = us := by
        intro us a1 hul hus
        apply List.ext_getElem?
        intro i
        rw [List.getElem?_map]
        rcases Nat.lt_or_ge i names.length with hi | hi
        · have h1 := hus i names[i] us[i] (by simp [hi]) (by simp [hi, hul])
          simp [hi, hul, Array.getD_eq_getD_getElem?, h1]
        · rw [List.getElem?_eq_none hi, List.getElem?_eq_none (by omega)]; rfl
      have hag : Agr a1.tmps n (zipE names us L0) := zipE_agr ⟨hsz, fun j s hj => by
        have hj' := hj
        rw [hL0] at hj
        split at hj
        · cases hj
        · rename_i hmem
          rw [hn1.slots j fun e => hmem ((mem_iff j wr).2 (hsub' j e))]
          exact ha.has j s hj⟩ names us hus
      refine ih cb hb (zipE names us L0) a1 w1 _ X R (hround us w1 hI1) hag _ (fun L2 a2 w2 h2 ha2 hn2 => ?_) (fun i L2 a2 w2 h2 ha2 hn2 => hX i L2 a2 w2 h2 ha2 (hn1.trans hn2)) (fun L2 a2 w2 h2 ha2 hn2 => hR L2 a2 w2 h2 ha2 (hn1.trans hn2))
      obtain ⟨us2, h2, hul2, hus2⟩ := rdN_sound h2 ha2
      refine ⟨⟨hn1.trans hn2, ha2.size, us2, hul2, hus2, h2.1⟩, ?_⟩
      rw [hread us2 a2 hul2 hus2, hread us a1 hul hus]
      exact h2.2
    · cases hr
  | exit i0 =>
    intro c hr L a w N X R h ha Q hN hX hR
    cases c <;> simp only [redo] at hr <;> first | (cases hr; done) | skip
    cases hr
    exact wp_exit (hX _ L a w h ha (Near.refl _ _))
  | scope b ih =>
    intro c hr L a w N X R h ha Q hN hX hR
    cases c <;> simp only [redo] at hr <;> first | (cases hr; done) | skip
    rename_i cb
    simp only [Option.bind_eq_bind, Option.bind_eq_some_iff] at hr
    obtain ⟨b', hb, he⟩ := hr
    cases he
    exact wp_scope_straight (ih cb hb L a w N X R h ha _ (fun L' a' w' h1 h2 h3 => hN L' a' w' h1 h2 h3) (fun i L' a' w' h1 h2 h3 => hX i L' a' w' h1 h2 h3) (fun L' a' w' h1 h2 h3 => hR L' a' w' h1 h2 h3))
  | ret =>
    intro c hr L a w N X R h ha Q hN hX hR
    cases c <;> simp only [redo] at hr <;> first | (cases hr; done) | skip
    exact wp_ret (hR L a w h ha (Near.refl _ _))
  | prune l b ih =>
    intro c hr L a w N X R h ha Q hN hX hR
    have hr' : redo P b c = some b := by
      cases c <;> simp only [redo, Option.bind_eq_bind, Option.bind_eq_some_iff] at hr <;> (obtain ⟨b', hb, he⟩ := hr; cases he; exact hb)
    have h : Env.keep L l fun L => vc P n b L w N X R := h
    obtain ⟨L', h, ha'⟩ := Env.keep_agr h ha
    exact ih c hr' L' a w N X R h ha' Q hN hX hR


/-! ### Functions -/
inductive RV where
  | tmp (t : Nat)
  | cell (t : Nat) (m : Option Nat)

def slimRes (P : Program) : List ResultVar → Option (List RV)
  | [] => some []
  | .tmp t :: r => (slimRes P r).map (.tmp t :: ·)
  | .cell t ty :: r => match agg? P ty, P.info? ty with
    | true, some i => (slimRes P r).map (.cell t (some i.size) :: ·)
    | false, some _ => if (P.underlying ty).isSome then (slimRes P r).map (.cell t none :: ·) else none
    | _, _ => none

def resL (L : Env) (w : World) : List RV → (List Value → Prop) → Prop
  | [], K => K []
  | .tmp t :: r, K => rd L (.tmp t) fun v => resL L w r fun vs => K (v :: vs)
  | .cell t none :: r, K => rd L (.tmp t) fun v => match v with
    | .pointer (some ad) => Load ad (fun w' => w' = w) fun v => resL L w r fun vs => K (v :: vs)
    | _ => False
  | .cell t (some m) :: r, K => rd L (.tmp t) fun v => match v with
    | .pointer (some ad) => LoadN ad m (fun w' => w' = w) fun v => resL L w r fun vs => K (v :: vs)
    | _ => False

def oneOr (vs : List Value) (K : Value → Prop) : Prop :=
  match vs with
  | [v] => K v
  | vs => K (.tuple ⟨vs⟩)

def argEnv : List Value → Nat → Env
  | [], _ => []
  | v :: vs, i => (i, .v v) :: argEnv vs (i + 1)

def resOne (tmps : Array Value) : ResultVar → Sem Value
  | .tmp t => pure (tmps.getD t undef)
  | .cell ad t => do loadVar t (← asAddr (tmps.getD ad undef))

theorem run_resOne_tmp (tmps : Array Value) (t : Tmp) (w : World) : (resOne tmps (.tmp t)).run P w = .ok (tmps.getD t undef) w := rfl
theorem run_resOne_cell {tmps : Array Value} {t : Tmp} {ty : TypeId} {ad : Addr} {v : Value} (h : tmps.getD t undef = .pointer (some ad)) (hl : (loadVar ty ad).run P w = .ok v w) : (resOne tmps (.cell t ty)).run P w = .ok v w := by
  simp only [resOne, h, asAddr, Sem.run_bind, Sem.run_pure, Result.andThen_ok, hl]

theorem resL_sound {a : Act} (ha : Agr a.tmps n L) : ∀ (rs : List ResultVar) (rv : List RV) (K : List Value → Prop), slimRes P rs = some rv → resL L w rv K → ∃ vs, K vs ∧
    (rs.mapM (resOne a.tmps)).run P w = .ok vs w
  | [], rv, K, hs, h => by
    simp [slimRes] at hs; subst hs
    exact ⟨[], h, by simp⟩
  | .tmp t :: rs, rv, K, hs, h => by
    obtain ⟨rv', hrv, he⟩ := Option.map_eq_some_iff.1 hs
    subst he
    simp only [resL] at h
    have h1 := rd_sound (x := .tmp t) h ha
    obtain ⟨vs, hk, hr⟩ := resL_sound ha rs rv' _ hrv h1
    refine ⟨_, hk, ?_⟩
    simp only [List.mapM_cons, Sem.run_bind, run_resOne_tmp, Sem.run_pure, Result.andThen_ok, hr]
    rfl
  | .cell t ty :: rs, rv, K, hs, h => by
    simp only [slimRes] at hs
    split at hs
    · rename_i inf h1 h2
      obtain ⟨rv', hrv, he⟩ := Option.map_eq_some_iff.1 hs
      subst he
      simp only [resL] at h
      have h3 := rd_sound (x := .tmp t) h ha
      split at h3
      · rename_i ad hv
        simp only [LoadN_eq] at h3
        obtain ⟨us, hl, hc, h4⟩ := h3
        obtain ⟨vs, hk, hr⟩ := resL_sound ha rs rv' _ hrv h4
        refine ⟨_, hk, ?_⟩
        have hv' : a.tmps.getD t undef = .pointer (some ad) := hv
        have hagg : (isAgg ty).run P w = .ok true w := by
          unfold agg? at h1
          split at h1
          · rename_i hd; simp [isAgg, run_underlying hd]
          · rename_i hd; simp [isAgg, run_underlying hd]
          · cases h1
        have hrun := run_loadCellsFrom (P := P) ad w us 0 #[] (fun j v hj => by rw [Nat.zero_add]; exact hc w rfl j v hj)
        rw [hl] at hrun
        have hload : (loadVar ty ad).run P w = .ok (.agg ⟨us⟩) w := by
          simp only [loadVar, hagg, if_true, Go.sizeOf, typeInfo, run_program, h2, loadCells, hrun, Sem.run_bind, Sem.run_pure, Result.andThen_ok]
          simp
        simp only [List.mapM_cons, Sem.run_bind, run_resOne_cell hv' hload, Sem.run_pure, Result.andThen_ok, hr]
      · exact h3.elim
    · rename_i inf h1 h2
      split at hs
      · rename_i hu
        obtain ⟨rv', hrv, he⟩ := Option.map_eq_some_iff.1 hs
        subst he
        simp only [resL] at h
        have h3 := rd_sound (x := .tmp t) h ha
        split at h3
        · rename_i ad hv
          simp only [Load_eq] at h3
          obtain ⟨u, hc, h4⟩ := h3
          obtain ⟨vs, hk, hr⟩ := resL_sound ha rs rv' _ hrv h4
          refine ⟨_, hk, ?_⟩
          have hv' : a.tmps.getD t undef = .pointer (some ad) := hv
          obtain ⟨d, hd⟩ := Option.isSome_iff_exists.1 hu
          have hagg : (isAgg ty).run P w = .ok false w := by
            unfold agg? at h1
            rw [hd] at h1
            cases d <;> first | (simp at h1; done) | simp [isAgg, run_underlying hd]
          have hcell := hc w rfl
          have hload : (loadVar ty ad).run P w = .ok u w := by
            simp only [loadVar, Sem.run_bind, hagg, Result.andThen_ok, Bool.false_eq_true, if_false, run_load, hcell]
          simp only [List.mapM_cons, Sem.run_bind, run_resOne_cell hv' hload, Sem.run_pure, Result.andThen_ok, hr]
        · exact h3.elim
      · cases hs
    · cases hs

theorem results_eq (fn : Func) (tmps : Array Value) : results fn tmps = (do
    let vs ← fn.results.mapM (resOne tmps)
    pure (if h : vs.size = 1 then vs[0] else .tuple vs)) := by
  unfold results
  have : (fun (r : ResultVar) => match r with
      | .tmp t => (pure (tmps.getD t undef) : Sem Value)
      | .cell a t => do loadVar t (← asAddr (tmps.getD a undef))) = resOne tmps := by
    funext r; cases r <;> rfl
  rw [← this]
  rfl

/-- A FUNCTION: what its slim code asks is enough for a call. -/
theorem fn_sound {f : FuncId} {fn : Func} {c : Code} {s : S} {rv : List RV} {m : Nat} {args : List Value} {R : Value → World → Prop} (hm : P.follows .mixedOrders = true) (hf : P.funcs[f]? = some fn) (hb : fn.body = some c) (hs : redo P s c = some s)
    (hn : fn.ntmps = m) (hr : slimRes P fn.results.toList = some rv) (hle : Nat.ble args.length m = true)
    (h : vc P m s (argEnv args 0) w (fun L w => resL L w rv fun vs => oneOr vs fun v => R v w) (fun _ _ _ => False) (fun L w => resL L w rv fun vs => oneOr vs fun v => R v w)) : Cal P f ⟨args⟩ w R := by
  subst hn
  have hle := Nat.le_of_ble_eq_true hle
  simp only [Cal_eq]
  refine calls_of_wp hf hb ?_
  have hfin : ∀ L' (a' : Act) w', (resL L' w' rv fun vs => oneOr vs fun v => R v w') → Agr a'.tmps fn.ntmps L' → ∃ v, (results fn a'.tmps).run P w' = .ok v w' ∧ R v w' := by
    intro L' a' w' hres hag
    obtain ⟨vs, hk, hrun⟩ := resL_sound (P := P) hag fn.results.toList rv _ hr hres
    have hrun' : (fn.results.mapM (resOne a'.tmps)).run P w' = .ok vs.toArray w' := by
      rw [Array.mapM_eq_mapM_toList]
      simp only [Sem.run_map, hrun, Result.andThen_ok]
    unfold oneOr at hk
    split at hk
    · rename_i v
      exact ⟨v, by rw [results_eq]; simp only [Sem.run_bind, hrun', Result.andThen_ok, Sem.run_pure]; simp, hk⟩
    · rename_i hne
      refine ⟨_, ?_, hk⟩
      rw [results_eq]
      simp only [Sem.run_bind, hrun', Result.andThen_ok, Sem.run_pure]
      rw [dif_neg]
      intro h1
      rw [List.size_toArray] at h1
      obtain ⟨v, hv⟩ := List.length_eq_one_iff.1 h1
      exact hne v hv
  have hag : Agr ((⟨args⟩ : Array Value) ++ Array.replicate (fn.ntmps - (⟨args⟩ : Array Value).size) undef) fn.ntmps (argEnv args 0) := by
    refine ⟨by simp; omega, ?_⟩
    have key : ∀ (vs : List Value) (i j : Nat) (s : Sv), Env.find (argEnv vs i) j = some s → i ≤ j ∧ vs[j - i]? = some s.val := by
      intro vs
      induction vs with
      | nil => intro i j s h; simp [argEnv, Env.find] at h
      | cons v vs ih =>
        intro i j s h
        simp only [argEnv] at h
        by_cases e : i = j
        · subst e
          rw [find_cons_eq] at h
          cases h
          exact ⟨Nat.le_refl _, by simp [Sv.val]⟩
        · rw [find_cons_ne e] at h
          obtain ⟨h1, h2⟩ := ih (i + 1) j s h
          refine ⟨by omega, ?_⟩
          rw [show j - i = (j - (i + 1)) + 1 by omega]
          simpa using h2
    intro j s hj
    obtain ⟨_, h2⟩ := key args 0 j s hj
    rw [Nat.sub_zero] at h2
    have hlt : j < args.length := by
      rcases Nat.lt_or_ge j args.length with h | h
      · exact h
      · rw [List.getElem?_eq_none h] at h2; cases h2
    rw [Array.getElem?_append_left (by simpa using hlt)]
    simpa using h2
  refine code_sound hm s c hs (argEnv args 0) _ w _ _ _ h hag _ (fun L' a' w' h1 h2 h3 => ?_) (fun i L' a' w' h1 h2 h3 => h1.elim) (fun L' a' w' h1 h2 h3 => ?_)
  · obtain ⟨v, hv, hR⟩ := hfin L' a' w' h1 h2
    exact ⟨h3.defers, v, hv, v, rfl, hR⟩
  · obtain ⟨v, hv, hR⟩ := hfin L' a' w' h1 h2
    exact ⟨h3.defers, v, hv, v, rfl, hR⟩


/-- A function's slim code, the size of its frame, where its results lie. -/
structure Slim where
  s : S
  m : Nat
  rv : List RV

def fits (P : Program) (f : FuncId) (x : Slim) : Option Slim :=
  match P.funcs[f]? with
  | some fn => match fn.body with
    | some c => match redo P x.s c, slimRes P fn.results.toList with
      | some s, some rv => some ⟨s, fn.ntmps, rv⟩
      | _, _ => none
    | none => none
  | none => none

/-- A FUNCTION, by one closed fact. -/
theorem cal_of {f : FuncId} {s : S} {m : Nat} {rv : List RV} {args : List Value} {R : Value → World → Prop} (hm : P.follows .mixedOrders = true) (hf : fits P f ⟨s, m, rv⟩ = some ⟨s, m, rv⟩) (hle : Nat.ble args.length m = true)
    (h : vc P m s (argEnv args 0) w (fun L w => resL L w rv fun vs => oneOr vs fun v => R v w) (fun _ _ _ => False) (fun L w => resL L w rv fun vs => oneOr vs fun v => R v w)) : Cal P f ⟨args⟩ w R := by
  unfold fits at hf
  split at hf
  · rename_i fn hfn
    split at hf
    · rename_i c hc
      split at hf
      · rename_i s' rv' hs hr
        cases hf
        exact fn_sound hm hfn hc hs rfl hr hle h
      · cases hf
    · cases hf
  · cases hf

end
end Fb
