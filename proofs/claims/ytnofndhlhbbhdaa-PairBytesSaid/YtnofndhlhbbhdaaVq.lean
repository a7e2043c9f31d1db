/-
  '==' on structs of numbers, for every program.
-/
import Derived.Test.YtnofndhlhbbhdaaVr
import Derived.Laws.StructEq
namespace Fb
open Go

def intFields (P : Program) : List Field → Nat → Bool
  | [], _ => true
  | f :: fs, off => !(f.name == "_") && f.offset == off && (match P.underlying f.type with | some (.int _) => true | _ => false) && intFields P fs (off + 1)
def intsT (P : Program) (t n : Nat) : Bool :=
  (match P.underlying t with | some (.struct fs) => fs.toList.length == n && intFields P fs.toList 0 | _ => false) && !P.stoodInHeld t && !P.eqGuardType P.depth t

section
variable {P : Program}
/-- Cell for cell: numbers of one kind. -/
def IntsAlike : List Value → List Value → Prop
  | [], [] => True
  | .int k _ :: cs, .int j _ :: ds => k = j ∧ IntsAlike cs ds
  | _, _ => False

theorem run_eqFields_ints (d : Nat) (w : World) (xs ys : Array Value) : ∀ (fs : List Field) (off : Nat) (cs ds : List Value), intFields P fs off = true → xs.toList.drop off = cs → ys.toList.drop off = ds → cs.length = fs.length → IntsAlike cs ds →
    ∃ b, (Op.eqFields (d + 1) xs ys fs).run P w = .ok b w ∧ (b = true ↔ cs = ds)
  | [], off, cs, ds, _, _, _, hl, hk => by
    have : cs = [] := by simpa using hl
    subst this
    cases ds with
    | nil => exact ⟨true, rfl, by simp⟩
    | cons v ds => exact hk.elim
  | f :: fs, off, cs, ds, hi, hx, hy, hl, hk => by
    simp only [intFields, Bool.and_eq_true, Bool.not_eq_true', beq_eq_false_iff_ne, beq_iff_eq] at hi
    obtain ⟨⟨⟨h1, h2⟩, h3⟩, h4⟩ := hi
    cases cs with
    | nil => simp at hl
    | cons c cs =>
      cases ds with
      | nil => cases c <;> exact hk.elim
      | cons e ds =>
        cases c with
        | int k a =>
          cases e with
          | int j b =>
            obtain ⟨rfl, hk⟩ := hk
            have hx0 : xs[off]? = some (.int k a) := by
              have := congrArg (·[0]?) hx
              simpa using this
            have hy0 : ys[off]? = some (.int k b) := by
              have := congrArg (·[0]?) hy
              simpa using this
            have hx1 : xs.toList.drop (off + 1) = cs := by
              rw [← List.drop_drop, hx]; rfl
            have hy1 : ys.toList.drop (off + 1) = ds := by
              rw [← List.drop_drop, hy]; rfl
            obtain ⟨r, hr, hiff⟩ := run_eqFields_ints d w xs ys fs (off + 1) cs ds h4 hx1 hy1 (by simpa using hl) hk
            split at h3
            · rename_i k' hu
              have hp : ∀ (zs : Array Value) (z : Int), zs[off]? = some (.int k z) → (part f.type zs f.offset).run P w = .ok (.int k z) w := fun zs z hz => by
                rw [h2]
                simp [part, isAgg, run_underlying hu, hz]
              simp only [Op.eqFields]
              rw [if_pos h1]
              rw [Sem.run_bind, hp xs a hx0, Result.andThen_ok, Sem.run_bind, hp ys b hy0, Result.andThen_ok, Sem.run_bind, run_equalIn_int w d f.type k k' a b hu, Result.andThen_ok]
              by_cases hab : a = b
              · subst hab
                refine ⟨r, ?_, ?_⟩
                · simpa using hr
                · rw [hiff]; simp
              · refine ⟨false, ?_, ?_⟩
                · simp [hab]
                · simp [hab]
            · cases h3
          | _ => exact hk.elim
        | _ => exact hk.elim
theorem run_eqn {n t : Nat} (x y : Operand) {cs ds : List Value} (w : World) (hi : intsT P t n = true) (hl : cs.length = n) (hk : IntsAlike cs ds) :
    (∃ b, (G.sem (.eq .eql t x y) [.agg ⟨cs⟩, .agg ⟨ds⟩]).run P w = .ok (.bool b) w ∧ (b = true ↔ cs = ds)) ∧ (∃ b, (G.sem (.eq .neq t x y) [.agg ⟨cs⟩, .agg ⟨ds⟩]).run P w = .ok (.bool b) w ∧ (b = true ↔ cs ≠ ds)) := by
  unfold intsT at hi
  simp only [Bool.and_eq_true, Bool.not_eq_true'] at hi
  obtain ⟨⟨h1, h2⟩, h3⟩ := hi
  split at h1
  · rename_i fs hu
    simp only [Bool.and_eq_true, beq_iff_eq] at h1
    have hfo : P.fieldsOf t = fs := by unfold Program.fieldsOf; rw [hu]
    obtain ⟨b, hb, hiff⟩ := run_eqFields_ints (P := P) 9998 w ⟨cs⟩ ⟨ds⟩ fs.toList 0 cs ds h1.2 rfl rfl (by omega) hk
    have hq : (Op.equalIn 10000 t (.agg ⟨cs⟩) (.agg ⟨ds⟩)).run P w = .ok b w := by
      rw [run_equalIn_agg w 9999 t _ _ (by rw [hfo]; exact hu) h2, hfo]
      exact hb
    constructor
    · refine ⟨b, ?_, hiff⟩
      change (do eqGuard .eql t x y _ _; binOp .eql t _ _ : Sem Value).run P w = _
      rw [Sem.run_bind, run_eqGuard_agg w .eql t x y _ _ h3, Result.andThen_ok, run_eql_struct, hq, Result.andThen_ok]
    · refine ⟨!b, ?_, by cases b <;> simp at hiff ⊢ <;> exact hiff⟩
      change (do eqGuard .neq t x y _ _; binOp .neq t _ _ : Sem Value).run P w = _
      rw [Sem.run_bind, run_eqGuard_agg w .neq t x y _ _ h3, Result.andThen_ok, run_neq_struct, hq, Result.andThen_ok]
  · cases h1
/-- Structs of numbers are compared. -/
theorem r_eqs {n t : Nat} {x y : Operand} {cs ds : List Value} {C : World → Prop} {K : Value → Prop} (hi : intsT P t n = true) (hl : cs.length = n) (hk : IntsAlike cs ds) (k : ∀ b, (b = true ↔ cs = ds) → K (.bool b)) : Get P (G.sem (.eq .eql t x y) [.agg ⟨cs⟩, .agg ⟨ds⟩]) C K := by
  by_cases h : cs = ds
  · refine r_get (v := .bool true) (fun w _ => ?_) (k true (by simp [h]))
    obtain ⟨⟨b, hb, hiff⟩, _⟩ := run_eqn x y w hi hl hk
    rw [hb, hiff.2 h]
  · refine r_get (v := .bool false) (fun w _ => ?_) (k false (by simp [h]))
    obtain ⟨⟨b, hb, hiff⟩, _⟩ := run_eqn x y w hi hl hk
    cases b with
    | false => exact hb
    | true => exact absurd (hiff.1 rfl) h
theorem r_nes {n t : Nat} {x y : Operand} {cs ds : List Value} {C : World → Prop} {K : Value → Prop} (hi : intsT P t n = true) (hl : cs.length = n) (hk : IntsAlike cs ds) (k : ∀ b, (b = true ↔ cs ≠ ds) → K (.bool b)) : Get P (G.sem (.eq .neq t x y) [.agg ⟨cs⟩, .agg ⟨ds⟩]) C K := by
  by_cases h : cs = ds
  · refine r_get (v := .bool false) (fun w _ => ?_) (k false (by simp [h]))
    obtain ⟨_, b, hb, hiff⟩ := run_eqn x y w hi hl hk
    cases b with
    | false => exact hb
    | true => exact absurd h (hiff.1 rfl)
  · refine r_get (v := .bool true) (fun w _ => ?_) (k true (by simp [h]))
    obtain ⟨_, b, hb, hiff⟩ := run_eqn x y w hi hl hk
    rw [hb, hiff.2 h]
end
end Fb
