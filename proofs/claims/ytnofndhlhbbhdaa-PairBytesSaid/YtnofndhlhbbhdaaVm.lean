/-
  Rules for make, for every program.
-/
import Derived.Test.YtnofndhlhbbhdaaVr
import Derived.Laws.MakeOwn
namespace Fb
open Go

theorem flat_rep (zs : List Value) (size : Nat) (hs : zs.length = size) (hpos : 0 < size) : ∀ (c i : Nat), i < c * size → (List.replicate c zs).flatten[i]? = zs[i % size]?
  | 0, i, h => by omega
  | c + 1, i, h => by
    rw [List.replicate_succ, List.flatten_cons]
    by_cases hi : i < size
    · rw [List.getElem?_append_left (by omega), Nat.mod_eq_of_lt hi]
    · rw [List.getElem?_append_right (by omega), hs, flat_rep zs size hs hpos c (i - size) (by rw [Nat.add_mul] at h; omega)]
      congr 1
      rw [← Nat.mod_eq_sub_mod (by omega)]
theorem flat_rep_len (zs : List Value) : ∀ (c : Nat), (List.replicate c zs).flatten.length = c * zs.length
  | 0 => by simp
  | c + 1 => by rw [List.replicate_succ, List.flatten_cons, List.length_append, flat_rep_len zs c, Nat.add_mul]; omega
theorem made_list (z : Array Value) (size c : Nat) (hs : z.size = size) (hpos : 0 < size) : (madeCells z (c * size)).toList = (List.replicate c z.toList).flatten := by
  apply List.ext_getElem?
  intro i
  by_cases hi : i < c * size
  · rw [flat_rep z.toList size (by simpa using hs) hpos c i hi]
    have hm : i % z.size < z.size := Nat.mod_lt _ (by omega)
    simp [madeCells, ← hs, hm]
    exact ⟨i, by rw [List.getElem?_range (by rw [hs]; exact hi)], getElem!_pos z _ hm⟩
  · rw [List.getElem?_eq_none (by simp [madeCells]; omega), List.getElem?_eq_none (by rw [flat_rep_len]; simp; rw [hs]; omega)]

/-- A slice type, its element's type and that one's zero value. -/
def MakeE (P : Program) (t e size bytes : Nat) (zs : List Value) : Prop :=
  P.underlying t = some (.slice e) ∧ ∃ i z, P.info? e = some i ∧ i.zero = some z ∧ i.size = size ∧ i.bytes = bytes ∧ z.cells = ⟨zs⟩ ∧ zs.length = size ∧ 0 < size
def makeZ (P : Program) (t e size bytes : Nat) : Option (List Value) :=
  match P.underlying t, P.info? e with
  | some (.slice e'), some i => match i.zero with
    | some z => match z.cells with
      | ⟨zs⟩ => bif Nat.beq e e' && Nat.beq i.size size && Nat.beq i.bytes bytes && Nat.beq zs.length size && Nat.blt 0 size then some zs else none
    | none => none
  | _, _ => none
theorem MakeE.of {P : Program} {t e size bytes : Nat} {zs : List Value} (h : makeZ P t e size bytes = some zs) : MakeE P t e size bytes zs := by
  unfold makeZ at h
  split at h
  · rename_i e' i h1 h2
    split at h
    · rename_i z hz
      split at h
      rename_i ys hc
      cases hb : (Nat.beq e e' && Nat.beq i.size size && Nat.beq i.bytes bytes && Nat.beq ys.length size && Nat.blt 0 size) with
      | false => rw [hb] at h; cases h
      | true =>
        rw [hb] at h
        cases h
        simp only [Bool.and_eq_true] at hb
        obtain ⟨⟨⟨⟨a, b⟩, c⟩, d⟩, f⟩ := hb
        have a := Nat.eq_of_beq_eq_true a
        subst a
        exact ⟨h1, i, z, h2, hz, Nat.eq_of_beq_eq_true b, Nat.eq_of_beq_eq_true c, hc, Nat.eq_of_beq_eq_true d, by simpa using f⟩
    · cases h
  · cases h

section
variable {P : Program} {w : World}
theorem r_make {t e size bytes : Nat} {zs : List Value} {kl kc : IntKind} {l c : Int} {K : Value → World → Prop} (hm : MakeE P t e size bytes zs) (h : 0 ≤ l ∧ l ≤ c ∧ c * bytes ≤ 281474976710656 ∧ c ≤ 9223372036854775807)
    (k : ∀ b w', Ext w w' → w.heap.size ≤ b → w'.heap.size = w.heap.size + 1 → Blk w' b e (List.replicate c.toNat zs).flatten → K (.slice (some ⟨b, 0, none⟩) l.toNat c.toNat) w') : Run P (G.sem (.makeSlice t) [.int kl l, .int kc c]) w K := by
  obtain ⟨ht, i, z, hi, hz, hs, hb, hc, hzl, hpos⟩ := hm
  have hr := run_make (P := P) w t e i z ht hi hz kl kc l c h.1 h.2.1 (by rw [hb, Int.mul_comm]; exact h.2.2.1) h.2.2.2
  refine r_run hr (k _ _ (Ext.alloc w _) (Nat.le_refl _) (by simp) ?_)
  have hb := heap_alloc_new w (.cells (madeCells z.cells (c.toNat * i.size)) e)
  unfold Blk
  rw [hb, hs, hc]
  have := made_list ⟨zs⟩ size c.toNat (by simpa using hzl) hpos
  congr 2
  rw [← this]
end
end Fb
