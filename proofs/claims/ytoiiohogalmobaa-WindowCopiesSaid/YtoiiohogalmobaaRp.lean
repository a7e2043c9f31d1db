/-
  Rings in memory, for every kind of element: plain facts.
-/
import Derived.Test.YtoiiohogalmobaaVn
namespace Fb
open Go

theorem adr0 (x p s : Nat) : (⟨blk (some ⟨x, 0, none⟩), ofs (some ⟨x, 0, none⟩) + (p : Int).toNat * s, none⟩ : Addr) = ⟨x, p * s, none⟩ := by simp [blk, ofs]
/-- A ring's parts: where its array lies, how long it is, where it begins; its cells, what is left behind them. -/
structure RC where
  a : Option Addr
  len : Nat
  cap : Nat
  head : Nat
  C : List Value
  R : List Value
def RC.cells (r : RC) (n fr room : Nat) : List Value := [.slice r.a r.len r.cap, .int .i64 (r.head : Int), .int .i64 (n : Int), .int .i64 (fr : Int), .int .i64 (room : Int)]

/-- A ring: the things 'L', each of them some cells. -/
structure RingAt (tr te size : Nat) (w : World) (b : Nat) (g : Option Nat) (L : List (List Value)) (fr room : Nat) (r : RC) : Prop where
  blk : Blk w b tr (r.cells L.length fr room)
  len : r.C.length = r.len * size
  le : L.length ≤ r.len
  fits : r.len ≤ room
  most : room ≤ 1048576
  head : 0 < r.len → r.head < r.len
  zero : r.len = 0 → r.head = 0
  at' : ∀ i e, L[i]? = some e → seg r.C size ((r.head + i) % r.len) = e
  elem : ∀ e ∈ L, e.length = size ∧ ∀ v ∈ e, v.oneCell' = true
  one : ∀ v ∈ r.C, v.oneCell' = true
  arr : match g with
    | none => r.a = none ∧ r.len = 0 ∧ r.cap = 0
    | some g => r.a = some ⟨g, 0, none⟩ ∧ r.len ≤ r.cap ∧ r.cap ≤ maxLen ∧ Blk w g te (r.C ++ r.R) ∧ g ≠ b ∧ 0 < r.len

def RingP (tr te size : Nat) (w : World) (b : Nat) (g : Option Nat) (L : List (List Value)) (fr room : Nat) : Prop := ∃ r, RingAt tr te size w b g L fr room r

section
variable {tr te size : Nat} {w w' : World} {b : Nat} {g : Option Nat} {L : List (List Value)} {fr room : Nat} {r : RC}
theorem RingAt.keep {S : Nat → Prop} (h : RingAt tr te size w b g L fr room r) (k : Chg S w w') (hb : ¬ S b) (hg : ∀ x, g = some x → ¬ S x) : RingAt tr te size w' b g L fr room r :=
  ⟨h.blk.keep k hb, h.len, h.le, h.fits, h.most, h.head, h.zero, h.at', h.elem, h.one, by
    have := h.arr
    cases g with
    | none => exact this
    | some x => exact ⟨this.1, this.2.1, this.2.2.1, this.2.2.2.1.keep k (hg x rfl), this.2.2.2.2.1, this.2.2.2.2.2⟩⟩
theorem RingAt.ext (h : RingAt tr te size w b g L fr room r) (k : Ext w w') : RingAt tr te size w' b g L fr room r := h.keep k (fun f => f) fun _ _ f => f
theorem RingP.keep {S : Nat → Prop} (h : RingP tr te size w b g L fr room) (k : Chg S w w') (hb : ¬ S b) (hg : ∀ x, g = some x → ¬ S x) : RingP tr te size w' b g L fr room := by
  obtain ⟨r, h⟩ := h
  exact ⟨r, h.keep k hb hg⟩
theorem RingP.ext (h : RingP tr te size w b g L fr room) (k : Ext w w') : RingP tr te size w' b g L fr room := h.keep k (fun f => f) fun _ _ f => f
theorem RingP.lt (h : RingP tr te size w b g L fr room) : b < w.heap.size ∧ ∀ x, g = some x → x < w.heap.size := by
  obtain ⟨r, h⟩ := h
  refine ⟨h.blk.lt, fun x hx => ?_⟩
  have := h.arr
  rw [hx] at this
  exact this.2.2.2.1.lt
theorem RingP.len_le (h : RingP tr te size w b g L fr room) : L.length ≤ room ∧ room ≤ 1048576 := by
  obtain ⟨r, h⟩ := h
  exact ⟨Nat.le_trans h.le h.fits, h.most⟩
/-- The array as a slice to read. -/
theorem RingAt.view (h : RingAt tr te size w b g L fr room r) : View w r.a r.len r.cap size r.C := by
  have ha := h.arr
  cases g with
  | none =>
    obtain ⟨h1, h2, h3⟩ := ha
    have : r.C = [] := by
      have := h.len
      rw [h2] at this
      simpa using this
    rw [h1, h2, h3, this]
    exact View.nil w size
  | some g =>
    obtain ⟨h1, h2, h3, h4, _, _⟩ := ha
    rw [h1]
    refine ⟨h.len, h2, h3, fun _ => rfl, fun i u hu => ?_⟩
    have hi := (List.getElem?_eq_some_iff.1 hu).1
    simp only [Fb.blk, ofs, Nat.zero_add]
    rw [h4.cell, List.getElem?_append_left hi]
    exact hu
theorem RingAt.pos (h : RingAt tr te size w b g L fr room r) (hl : 0 < r.len) : ∃ x, g = some x ∧ r.a = some ⟨x, 0, none⟩ ∧ Blk w x te (r.C ++ r.R) ∧ x ≠ b := by
  have := h.arr
  cases g with
  | none => exact absurd this.2.1 (by omega)
  | some x => exact ⟨x, rfl, this.1, this.2.2.2.1, this.2.2.2.2.1⟩
/-- Another thing at place 'i', or behind the last one. -/
theorem RingAt.put (h : RingAt tr te size w b g L fr room r) {x : Nat} (hg : g = some x) (i : Nat) (hi : i < r.len) (e : List Value) (he : e.length = size ∧ ∀ v ∈ e, v.oneCell' = true) {L' : List (List Value)} {fr' n : Nat}
    (hb : Blk w' b tr (r.cells n fr' room)) (hn : L'.length = n) (hB : Blk w' x te (putSeg r.C size ((r.head + i) % r.len) e ++ r.R)) (hle : L'.length ≤ r.len)
    (hL : ∀ j y, L'[j]? = some y → (j = i ∧ y = e) ∨ (j ≠ i ∧ L[j]? = some y)) : RingAt tr te size w' b g L' fr' room { r with C := putSeg r.C size ((r.head + i) % r.len) e } := by
  have hpos : 0 < r.len := by omega
  have hmod := Nat.mod_lt (r.head + i) hpos
  have hhead := h.head hpos
  subst hn
  refine ⟨hb, putSeg_length h.len hmod he.1, hle, h.fits, h.most, h.head, h.zero, fun j y hj => ?_, fun y hy => ?_, fun v hv => ?_, ?_⟩
  · rcases hL j y hj with ⟨rfl, rfl⟩ | ⟨hne, hj'⟩
    · exact seg_put_same h.len hmod he.1
    · have hjl : j < r.len := by have := (List.getElem?_eq_some_iff.1 hj').1; have := h.le; omega
      have hmj := Nat.mod_lt (r.head + j) hpos
      change seg (putSeg r.C size ((r.head + i) % r.len) e) size ((r.head + j) % r.len) = y
      rw [seg_put_ne h.len hmod hmj he.1]
      · exact h.at' j y hj'
      · intro heq
        apply hne
        have e1 : (r.head + i) % r.len = if r.head + i < r.len then r.head + i else r.head + i - r.len := by
          split
          · exact Nat.mod_eq_of_lt ‹_›
          · rw [Nat.mod_eq_sub_mod (by omega), Nat.mod_eq_of_lt (by omega)]
        have e2 : (r.head + j) % r.len = if r.head + j < r.len then r.head + j else r.head + j - r.len := by
          split
          · exact Nat.mod_eq_of_lt ‹_›
          · rw [Nat.mod_eq_sub_mod (by omega), Nat.mod_eq_of_lt (by omega)]
        rw [e1, e2] at heq
        split at heq <;> split at heq <;> omega
  · obtain ⟨j, hj⟩ := List.getElem?_of_mem hy
    rcases hL j y hj with ⟨_, rfl⟩ | ⟨_, hj'⟩
    · exact he
    · exact h.elem y (List.mem_of_getElem? hj')
  · simp only [putSeg, List.mem_append] at hv
    rcases hv with (hv | hv) | hv
    · exact h.one v (List.mem_of_mem_take hv)
    · exact he.2 v hv
    · exact h.one v (List.mem_of_mem_drop hv)
  · have := h.arr
    rw [hg] at this ⊢
    exact ⟨this.1, this.2.1, this.2.2.1, hB, this.2.2.2.2.1, this.2.2.2.2.2⟩
/-- The array behind 'grow': all things from its front on. -/
theorem grow_seg (h : RingAt tr te size w b g L fr room r) (Z : List Value) (hfull : L.length = r.len) (m : Nat) (hm : r.len ≤ m) (hZ : Z.length = (m - r.len) * size) (i : Nat) (e : List Value) (hi : L[i]? = some e) :
    seg (r.C.drop (r.head * size) ++ r.C.take (r.head * size) ++ Z) size i = e := by
  have hil : i < r.len := by have := (List.getElem?_eq_some_iff.1 hi).1; omega
  have hpos : 0 < r.len := by omega
  have hhead := h.head hpos
  have hmod := Nat.mod_lt (r.head + i) hpos
  have h1 : r.head * size ≤ r.len * size := Nat.mul_le_mul_right _ (by omega)
  have hD : (r.C.drop (r.head * size) ++ r.C.take (r.head * size) ++ Z).length = m * size := by
    simp only [List.length_append, List.length_drop, List.length_take, h.len, hZ, Nat.sub_mul]
    have : r.len * size ≤ m * size := Nat.mul_le_mul_right _ hm
    omega
  rw [← h.at' i e hi]
  have e1 : (r.head + i) % r.len = if r.head + i < r.len then r.head + i else r.head + i - r.len := by
    split
    · exact Nat.mod_eq_of_lt ‹_›
    · rw [Nat.mod_eq_sub_mod (by omega), Nat.mod_eq_of_lt (by omega)]
  refine seg_ext hD h.len (by omega) hmod fun j hj => ?_
  have hdl : (r.C.drop (r.head * size)).length = r.len * size - r.head * size := by rw [List.length_drop, h.len]
  have htl : (r.C.take (r.head * size)).length = r.head * size := by rw [List.length_take, h.len]; omega
  have hmul : ∀ a b : Nat, a < b → a * size + size ≤ b * size := fun a b hab => by rw [← Nat.succ_mul]; exact Nat.mul_le_mul_right _ hab
  by_cases hlt : r.head + i < r.len
  · have := hmul _ _ hlt
    rw [Nat.add_mul] at this
    rw [e1, if_pos hlt, List.append_assoc, List.getElem?_append_left (by omega), List.getElem?_drop, Nat.add_mul]
    congr 1
    omega
  · rw [e1, if_neg hlt, List.getElem?_append_left (by rw [List.length_append, hdl, htl]; have := hmul _ _ hil; omega)]
    have h2 : (r.head + i - r.len) * size = r.head * size + i * size - r.len * size := by rw [Nat.sub_mul, Nat.add_mul]
    have h3 : r.len * size ≤ (r.head + i) * size := Nat.mul_le_mul_right _ (by omega)
    rw [Nat.add_mul] at h3
    have h4 := hmul (r.head + i - r.len) r.head (by omega)
    rw [List.getElem?_append_right (by rw [hdl]; omega), List.getElem?_take_of_lt (by rw [hdl]; omega), hdl, h2]
    congr 1
    omega
end
end Fb
