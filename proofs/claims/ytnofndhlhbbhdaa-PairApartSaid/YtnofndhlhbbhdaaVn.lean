/-
  Rules for copy, and cells in segments, for every program.
-/
import Derived.Test.YtnofndhlhbbhdaaVm
import Derived.Laws.CopyRow
namespace Fb
open Go

/-! ### Cells in segments -/
def seg (C : List Value) (size p : Nat) : List Value := (C.drop (p * size)).take size
def putSeg (C : List Value) (size p : Nat) (e : List Value) : List Value := C.take (p * size) ++ e ++ C.drop (p * size + size)

theorem putSeg_length {C : List Value} {size p len : Nat} {e : List Value} (hC : C.length = len * size) (hp : p < len) (he : e.length = size) : (putSeg C size p e).length = len * size := by
  have : p * size + size ≤ len * size := by rw [← Nat.succ_mul]; exact Nat.mul_le_mul_right _ hp
  simp only [putSeg, List.length_append, List.length_take, List.length_drop, he, hC]
  omega
theorem seg_put_same {C : List Value} {size p len : Nat} {e : List Value} (hC : C.length = len * size) (hp : p < len) (he : e.length = size) : seg (putSeg C size p e) size p = e := by
  have : p * size + size ≤ len * size := by rw [← Nat.succ_mul]; exact Nat.mul_le_mul_right _ hp
  have hl : (C.take (p * size)).length = p * size := by rw [List.length_take, hC]; omega
  unfold seg putSeg
  rw [List.append_assoc, List.drop_append_of_le_length (by omega), List.drop_of_length_le (by omega), List.nil_append, List.take_append_of_le_length (by omega), List.take_of_length_le (by omega)]
theorem seg_getElem? (C : List Value) (size p i : Nat) (h : i < size) : (seg C size p)[i]? = C[p * size + i]? := by
  unfold seg
  rw [List.getElem?_take_of_lt h, List.getElem?_drop]
theorem seg_length {C : List Value} {size p len : Nat} (hC : C.length = len * size) (hp : p < len) : (seg C size p).length = size := by
  have : p * size + size ≤ len * size := by rw [← Nat.succ_mul]; exact Nat.mul_le_mul_right _ hp
  unfold seg
  rw [List.length_take, List.length_drop, hC]
  omega
theorem seg_ext {C D : List Value} {size p q len m : Nat} (hC : C.length = len * size) (hD : D.length = m * size) (hp : p < len) (hq : q < m) (h : ∀ i, i < size → C[p * size + i]? = D[q * size + i]?) : seg C size p = seg D size q := by
  apply List.ext_getElem?
  intro i
  by_cases hi : i < size
  · rw [seg_getElem? _ _ _ _ hi, seg_getElem? _ _ _ _ hi, h i hi]
  · rw [List.getElem?_eq_none (by rw [seg_length hC hp]; omega), List.getElem?_eq_none (by rw [seg_length hD hq]; omega)]
theorem seg_put_ne {C : List Value} {size p q len : Nat} {e : List Value} (hC : C.length = len * size) (hp : p < len) (hq : q < len) (he : e.length = size) (hne : q ≠ p) : seg (putSeg C size p e) size q = seg C size q := by
  have h1 : p * size + size ≤ len * size := by rw [← Nat.succ_mul]; exact Nat.mul_le_mul_right _ hp
  have hl : (C.take (p * size)).length = p * size := by rw [List.length_take, hC]; omega
  refine seg_ext (putSeg_length hC hp he) hC hq hq fun i hi => ?_
  unfold putSeg
  rcases Nat.lt_or_gt_of_ne hne with h | h
  · have : q * size + size ≤ p * size := by rw [← Nat.succ_mul]; exact Nat.mul_le_mul_right _ h
    rw [List.append_assoc, List.getElem?_append_left (by omega), List.getElem?_take_of_lt (by omega)]
  · have : p * size + size ≤ q * size := by rw [← Nat.succ_mul]; exact Nat.mul_le_mul_right _ h
    rw [List.getElem?_append_right (by rw [List.length_append, hl, he]; omega), List.getElem?_drop, List.length_append, hl, he]
    congr 1
    omega
theorem set_put {C R : List Value} {p : Nat} {v : Value} (hp : p < C.length) : (C ++ R).set p v = putSeg C 1 p [v] ++ R := by
  rw [List.set_append_left _ _ hp]
  unfold putSeg
  rw [Nat.mul_one, List.set_eq_take_append_cons_drop, if_pos hp]
  simp
theorem setL_put : ∀ (C : List Value) (o : Nat) (e R : List Value), o + e.length ≤ C.length → setL (C ++ R) o e = C.take o ++ e ++ C.drop (o + e.length) ++ R
  | C, o, [], R, _ => by
    have : setL (C ++ R) o [] = C ++ R := by cases (C ++ R) <;> rfl
    rw [this]
    simp
  | [], o, v :: e, R, h => by simp at h
  | c :: C, 0, v :: e, R, h => by
    have ih := setL_put C 0 e R (by simpa using h)
    simp only [List.cons_append, setL, ih]
    simp
  | c :: C, o + 1, v :: e, R, h => by
    have ih := setL_put C o (v :: e) R (by simp at h ⊢; omega)
    simp only [List.cons_append, setL]
    rw [ih]
    simp only [List.take_succ_cons, List.cons_append]
    congr 1
    rw [show o + 1 + (v :: e).length = (o + (v :: e).length) + 1 by omega, List.drop_succ_cons]

section
variable {P : Program} {w : World}
/-- A slice type's element has so many cells. -/
def SlSize (P : Program) (t size : Nat) : Prop := ∃ e, P.underlying t = some (.slice e) ∧ (P.info? e).map (·.size) = some size

def slSizeB (P : Program) (t size : Nat) : Bool :=
  match P.underlying t with
  | some (.slice e) => match P.info? e with
    | some i => Nat.beq i.size size
    | none => false
  | _ => false
theorem SlSize.of {P : Program} {t size : Nat} (h : slSizeB P t size = true) : SlSize P t size := by
  unfold slSizeB at h
  split at h
  · rename_i e h1
    split at h
    · rename_i i h2
      exact ⟨e, h1, by rw [h2]; simpa using h⟩
    · cases h
  · cases h

theorem run_copy_cells' (dT sT ty size : Nat) (g o dLen dCap : Nat) (a : Addr) (sLen sCap : Nat) (cur : List Value) (t : TypeId) (cs : List Value) (hs : SlSize P dT size)
    (hg : Blk w g t cur) (hn : cs.length = Nat.min sLen dLen * size)
    (hsrc : ∀ j v, cs[j]? = some v → w.cell? (a.add j) = some v) (hfit : o + cs.length ≤ cur.length) (h1 : ∀ v ∈ cs, v.oneCell' = true) :
    (Builtin.copy_ #[dT, sT] ty #[.slice (some ⟨g, o, none⟩) dLen dCap, .slice (some a) sLen sCap]).run P w =
      .ok (goInt (Nat.min sLen dLen : Nat)) (w.setRow g (cur.take o ++ cs ++ cur.drop (o + cs.length)).toArray) := by
  obtain ⟨elem, hu, hs⟩ := hs
  have hl := run_loadCells_list (P := P) w a cs hsrc
  have hst := run_storeCells_at P g o t cs 0 ⟨cur⟩ w hg (by simpa using hfit) h1
  simp only [Nat.add_zero] at hst
  cases hq : P.info? elem with
  | none => simp [hq] at hs
  | some i =>
    have hi : i.size = size := by simpa [hq] using hs
    simp [Builtin.copy_, run_underlying hu, Builtin.lenOf, Builtin.firstCells, Go.sizeOf, typeInfo, hq, hi, ← hn, hl, hst]

/-- copy into what is known whole. -/
theorem r_copy {dT sT ty size : Nat} {g o dLen dCap : Nat} {a : Option Addr} {sLen sCap : Nat} {cur cs : List Value} {t : TypeId} {K : Value → World → Prop} (hs : SlSize P dT size) (hg : Blk w g t cur) (hv : View w a sLen sCap size cs)
    (hfit : o + Nat.min sLen dLen * size ≤ cur.length) (h1 : ∀ v ∈ cs, v.oneCell' = true) (hsz : 0 < size)
    (k : ∀ w', Chg (· = g) w w' → w'.heap.size = w.heap.size → Blk w' g t (cur.take o ++ cs.take (Nat.min sLen dLen * size) ++ cur.drop (o + Nat.min sLen dLen * size)) → K (.int .i64 (Nat.min sLen dLen : Nat)) w') :
    Run P (G.sem (.bi .copy ⟨[dT, sT]⟩ ty) [.slice (some ⟨g, o, none⟩) dLen dCap, .slice a sLen sCap]) w K := by
  have hlen : (cs.take (Nat.min sLen dLen * size)).length = Nat.min sLen dLen * size := by
    rw [List.length_take, hv.length]
    exact Nat.min_eq_left (Nat.mul_le_mul_right _ (Nat.min_le_left _ _))
  rcases Nat.eq_zero_or_pos (Nat.min sLen dLen) with h0 | hpos
  · -- nothing goes over
    have hk := k w (Chg.refl _ w) rfl (by rw [h0]; simpa using hg)
    rw [h0] at hk
    refine r_run ?_ hk
    obtain ⟨elem, hu, hs⟩ := hs
    change (Builtin.copy_ #[dT, sT] ty #[.slice (some ⟨g, o, none⟩) dLen dCap, .slice a sLen sCap]).run P w = _
    cases hq : P.info? elem with
    | none => simp [hq] at hs
    | some i =>
      have h0' : min sLen dLen = 0 := h0
      cases a <;> simp [Builtin.copy_, run_underlying hu, Builtin.lenOf, Builtin.firstCells, Go.sizeOf, typeInfo, hq, storeCells, loadCells, loadCellsFrom, h0', goInt]
  · have hp := hv.plain (by rw [hv.length]; exact Nat.mul_pos (Nat.lt_of_lt_of_le hpos (Nat.min_le_left _ _)) hsz)
    unfold plainA at hp
    generalize hbk : blk a = b at hp
    generalize hof : ofs a = q at hp
    subst hp
    have hr := run_copy_cells' (w := w) dT sT ty size g o dLen dCap ⟨b, q, none⟩ sLen sCap cur t (cs.take (Nat.min sLen dLen * size)) hs hg hlen (fun j v hj => by
      rw [Addr.add_plain]
      refine hv.cell j v ?_
      rw [List.getElem?_take] at hj
      split at hj
      · exact hj
      · cases hj) (by rw [hlen]; exact hfit) (fun v hv => h1 v (List.mem_of_mem_take hv))
    rw [hlen] at hr
    refine r_run hr (k _ ⟨rfl, rfl, rfl, by simp [World.setRow], fun i hi hne => setRow_other w g i _ hne⟩ (by simp [World.setRow]) ?_)
    have := setRow_heap w g ⟨cur⟩ (cur.take o ++ cs.take (Nat.min sLen dLen * size) ++ cur.drop (o + Nat.min sLen dLen * size)).toArray t _ hg
    unfold Blk
    rw [this]
end
end Fb
