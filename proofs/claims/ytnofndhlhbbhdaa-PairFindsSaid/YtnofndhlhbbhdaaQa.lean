/-
  Walks: the heap's own methods.
-/
import Derived.Test.YtnofndhlhbbhdaaQp
namespace Fb
open Go Go.Proofs
theorem r_ldnbS' {S : Nat → Prop} {w : World} {b o n : Nat} {e : TypeId} {cs vs : List Value} {K : Value → Prop} (h : Blk w b e cs) (hv : (cs.drop o).take n = vs) (hl : vs.length = n) (hs : ¬ S b) (k : K (.agg ⟨vs⟩)) : LoadN ⟨b, o, none⟩ n (Chg S w) K :=
  r_ldn vs hl (fun w' hw i v hi => by
    rw [Addr.add_plain, (h.keep hw hs).cell]
    rw [← hv, List.getElem?_take] at hi
    split at hi
    · rwa [List.getElem?_drop] at hi
    · cases hi) k
theorem Blk.ne {w : World} {a b : Nat} {t t' : TypeId} {cs cs' : List Value} (h : Blk w a t cs) (h' : Blk w b t' cs') (ht : t ≠ t') : a ≠ b := by
  rintro rfl
  unfold Blk at h h'
  rw [h] at h'
  cases h'
  exact ht rfl
theorem adr0 (x p s : Nat) : (⟨blk (some ⟨x, 0, none⟩), ofs (some ⟨x, 0, none⟩) + (p : Int).toNat * s, none⟩ : Addr) = ⟨x, p * s, none⟩ := by simp [blk, ofs]
theorem adrF (x p s f : Nat) : (⟨blk (some ⟨x, 0, none⟩), ofs (some ⟨x, 0, none⟩) + (p : Int).toNat * s + f, none⟩ : Addr) = ⟨x, p * s + f, none⟩ := by simp [blk, ofs]
end Fb
namespace Fb.Try.QU
open Go Go.Proofs Fb
def En.cells (e : En) : List Value := [.int .i64 e.place, .int .i64 e.order, .int .i64 e.out]
def flat (l : List En) : List Value := (l.map En.cells).flatten
theorem flat_len : ∀ l : List En, (flat l).length = l.length * 3
  | [] => rfl
  | e :: l => by
    have := flat_len l
    unfold flat at this ⊢
    simp only [List.map_cons, List.flatten_cons, List.length_append, List.length_cons, this, En.cells, List.length_nil]
    omega
theorem cells_one (e : En) : ∀ v ∈ e.cells, v.oneCell' = true := by
  intro v hv
  simp [En.cells] at hv
  rcases hv with rfl | rfl | rfl <;> rfl
theorem flat_app (l k : List En) : flat (l ++ k) = flat l ++ flat k := by simp [flat]
theorem flat_split {l : List En} {i : Nat} (h : i < l.length) : flat l = flat (l.take i) ++ (gt l i).cells ++ flat (l.drop (i + 1)) := by
  have e : l = l.take i ++ [gt l i] ++ l.drop (i + 1) := by
    have h1 := gt_get h
    rw [List.getElem?_eq_getElem h] at h1
    rw [← Option.some.inj h1]
    simp
  have h2 : flat [gt l i] = (gt l i).cells := by simp [flat]
  rw [← h2, ← flat_app, ← flat_app]
  exact congrArg flat e
theorem flat_get {l : List En} {i : Nat} (h : i < l.length) (R : List Value) : ((flat l ++ R).drop (i * 3)).take 3 = (gt l i).cells := by
  have hl : (flat (l.take i)).length = i * 3 := by rw [flat_len, List.length_take]; omega
  rw [flat_split h, List.append_assoc, List.append_assoc, List.drop_append_of_le_length (by omega), List.drop_of_length_le (by omega), List.nil_append]
  rfl
theorem flat_cell {l : List En} {i : Nat} (h : i < l.length) (R : List Value) (j : Nat) (hj : j < 3) : (flat l ++ R)[i * 3 + j]? = (gt l i).cells[j]? := by
  rw [← flat_get h R, List.getElem?_take_of_lt hj, List.getElem?_drop]
theorem flat_set {l : List En} {i : Nat} (h : i < l.length) (R : List Value) (e : En) : setL (flat l ++ R) (i * 3) e.cells = flat (l.set i e) ++ R := by
  have hl : (flat (l.take i)).length = i * 3 := by rw [flat_len, List.length_take]; omega
  have hf := flat_len l
  have hc : e.cells.length = 3 := rfl
  rw [setL_put _ _ _ _ (by omega), hc]
  congr 1
  have h1 : (flat l).take (i * 3) = flat (l.take i) := by
    rw [flat_split h, List.append_assoc, List.take_append_of_le_length (by omega), List.take_of_length_le (by omega)]
  have h2 : (flat l).drop (i * 3 + 3) = flat (l.drop (i + 1)) := by
    rw [flat_split h, List.append_assoc, ← List.drop_drop, List.drop_append_of_le_length (by omega), List.drop_of_length_le (l := flat (l.take i)) (by omega), List.nil_append]
    rfl
  rw [h1, h2]
  have e1 : l.set i e = l.take i ++ [e] ++ l.drop (i + 1) := by
    rw [List.set_eq_take_append_cons_drop, if_pos h]
    simp
  rw [e1, flat_app, flat_app]
  simp [flat]
def adr (g : Option Nat) : Option Addr := g.map fun x => ⟨x, 0, none⟩
/-- The row's array. -/
def Row (w : World) (g : Option Nat) (c : Nat) (l : List En) : Prop :=
  match g with
  | none => l = [] ∧ c = 0
  | some x => ∃ R, Blk w x 28 (flat l ++ R) ∧ R.length = (c - l.length) * 3 ∧ l.length ≤ c ∧ c ≤ maxLen
structure Pile (w : World) (ab mb : Nat) (g : Option Nat) (c : Nat) (l : List En) : Prop where
  blk : Blk w ab 92 [.slice (adr g) l.length c, .map (some mb)]
  row : Row w g c l
  map : MapV Try.prog 3 w mb (idx l)
  dist : Dist l
  len : l.length ≤ 1000
  wf : ∀ e ∈ l, -9223372036854775808 ≤ e.place ∧ e.place ≤ 9223372036854775807
def PS (ab mb : Nat) (g : Option Nat) (k : Nat) : Prop := k = ab ∨ k = mb ∨ g = some k
theorem wf_i64 {a : Int} (h : -9223372036854775808 ≤ a ∧ a ≤ 9223372036854775807) : (Lit.int .i64 a).wf = true := by
  have h1 : IntKind.min .i64 = -9223372036854775808 := by decide
  have h2 : IntKind.max .i64 = 9223372036854775807 := by decide
  simp only [Lit.wf, h1, h2, Bool.and_eq_true, decide_eq_true_eq]
  exact h
theorem ukey : Try.prog.underlying 3 = some (.int .i64) := by kernel_rfl
theorem umap : Try.prog.underlying 88 = some (.map 3 3) := by kernel_rfl
theorem key_of {a : Int} (h : -9223372036854775808 ≤ a ∧ a ≤ 9223372036854775807) : keyOf Try.prog 3 (.int .i64 a) = some (.int .i64 a) := Maps.keyOf_int_mk ukey (wf_i64 h)
theorem keyed : Maps.Keyed Try.prog 3 := Maps.int_keyed ukey
theorem zero_run {P : Program} {t : TypeId} {z : Value} (h : (P.info? t).bind (·.zero) = some z) (w : World) : (zeroValue t).run P w = .ok z w := by
  rw [Option.bind_eq_some_iff] at h
  obtain ⟨i, h1, h2⟩ := h
  simp [zeroValue, typeInfo, h1, h2, Result.andThen]
theorem zint (w : World) : (zeroValue 3).run Try.prog w = .ok (.int .i64 0) w := zero_run (by kernel_rfl) w
section
variable {w w' : World} {ab mb c : Nat} {g : Option Nat} {l : List En}
theorem Pile.wfAt (h : Pile w ab mb g c l) {i : Nat} (hi : i < l.length) : -9223372036854775808 ≤ (gt l i).place ∧ (gt l i).place ≤ 9223372036854775807 := h.wf _ (List.mem_of_getElem? (gt_get hi))
theorem Row.keep {S : Nat → Prop} (h : Row w g c l) (k : Chg S w w') (hs : ∀ x, g = some x → ¬ S x) : Row w' g c l := by
  cases g with
  | none => exact h
  | some x =>
    obtain ⟨R, h1, h2⟩ := h
    exact ⟨R, h1.keep k (hs x rfl), h2⟩
theorem Pile.keep {S : Nat → Prop} (h : Pile w ab mb g c l) (k : Chg S w w') (hs : ∀ x, PS ab mb g x → ¬ S x) : Pile w' ab mb g c l :=
  ⟨h.blk.keep k (hs _ (.inl rfl)), h.row.keep k fun x e => hs x (.inr (.inr e)), h.map.keep k (hs _ (.inr (.inl rfl))), h.dist, h.len, h.wf⟩
theorem Pile.ext (h : Pile w ab mb g c l) (k : Ext w w') : Pile w' ab mb g c l := h.keep k fun _ _ f => f
theorem Pile.at (h : Pile w ab mb g c l) (hl : 0 < l.length) : ∃ x R, g = some x ∧ Blk w x 28 (flat l ++ R) ∧ R.length = (c - l.length) * 3 ∧ l.length ≤ c ∧ c ≤ maxLen := by
  have hr := h.row
  cases g with
  | none => rw [hr.1] at hl; simp at hl
  | some x =>
    obtain ⟨R, h1, h2, h3, h4⟩ := hr
    exact ⟨x, R, rfl, h1, h2, h3, h4⟩
theorem Len_ok (h : Pile w ab mb g c l) : Cal Try.prog 54 ⟨[.pointer (some ⟨ab, 0, none⟩)]⟩ w fun v w' => w' = w ∧ v = .int .i64 (l.length : Int) := by
  have hblk := h.blk
  refine go54 (by rfl) ?_
  (repeat ((conv => whnf); (first | (with_reducible first | refine jA ?_ | refine jB ?_ | refine jC ?_ | refine jD ?_) | refine jE ?_ | refine jF ?_ | refine jG ?_ | refine jH ?_ | refine jI ?_ | refine jJ ?_ | refine jK ?_ | refine jL ?_ | refine jM ?_ | refine jN ?_ | refine jO ?_ | refine jP ?_ | refine jQ ?_ | refine jR ?_ | refine jS (k := ?_) | refine jT (k := ?_)))); (conv => whnf)
  exact ⟨rfl, rfl⟩
theorem Less_ok (h : Pile w ab mb g c l) {i j : Nat} (hi : i < l.length) (hj : j < l.length) : Cal Try.prog 112 ⟨[.pointer (some ⟨ab, 0, none⟩), .int .i64 (i : Int), .int .i64 (j : Int)]⟩ w fun v w' => Ext w w' ∧ v = .bool (decide (less (gt l i) (gt l j))) := by
  obtain ⟨x, R, rfl, hrow, hR, hlc, hc⟩ := h.at (by omega)
  have hblk : Blk w ab 92 [.slice (some ⟨x, 0, none⟩) l.length c, .map (some mb)] := h.blk
  have hlen := h.len
  unfold maxLen at hc
  refine go112 (by rfl) ?_
  (repeat ((conv => whnf); (first | (with_reducible first | refine jA ?_ | refine jB ?_ | refine jC ?_ | refine jD ?_) | refine jE ?_ | refine jF ?_ | refine jG ?_ | refine jH ?_ | refine jI ?_ | refine jJ ?_ | refine jK ?_ | refine jL ?_ | refine jM ?_ | refine jN ?_ | refine jO ?_ | refine jP ?_ | refine jQ ?_ | refine jR ?_ | refine jS (k := ?_) | refine jT (k := ?_)))); (conv => whnf)
  refine r_drawE fun w1 hx1 hh1 => ?_
  (repeat ((conv => whnf); (first | refine r_need rfl ?_ | (with_reducible first | refine jA ?_ | refine jB ?_ | refine jC ?_ | refine jD ?_) | refine jE ?_ | refine jF ?_ | refine jG ?_ | refine jH ?_ | refine jI ?_ | refine jJ ?_ | refine jK ?_ | refine jL ?_ | refine jM ?_ | refine jN ?_ | refine jO ?_ | refine jP ?_ | refine jQ ?_ | refine jR ?_ | refine jS (k := ?_) | refine jT (k := ?_)))); (conv => whnf)
  rw [adr0]
  refine r_ldnbE (vs := (gt l i).cells) hrow (flat_get hi R) rfl ?_
  (repeat ((conv => whnf); (first | refine r_need rfl ?_ | (with_reducible first | refine jA ?_ | refine jB ?_ | refine jC ?_ | refine jD ?_) | refine jE ?_ | refine jF ?_ | refine jG ?_ | refine jH ?_ | refine jI ?_ | refine jJ ?_ | refine jK ?_ | refine jL ?_ | refine jM ?_ | refine jN ?_ | refine jO ?_ | refine jP ?_ | refine jQ ?_ | refine jR ?_ | refine jS (k := ?_) | refine jT (k := ?_)))); (conv => whnf)
  rw [adr0]
  refine r_ldnbE (vs := (gt l j).cells) hrow (flat_get hj R) rfl ?_
  (repeat ((conv => whnf); (first | (with_reducible first | refine jA ?_ | refine jB ?_ | refine jC ?_ | refine jD ?_) | refine jE ?_ | refine jF ?_ | refine jG ?_ | refine jH ?_ | refine jI ?_ | refine jJ ?_ | refine jK ?_ | refine jL ?_ | refine jM ?_ | refine jN ?_ | refine jO ?_ | refine jP ?_ | refine jQ ?_ | refine jR ?_ | refine jS (k := ?_) | refine jT (k := ?_)))); (conv => whnf)
  refine r_both ?_ ?_
  focus
    (conv => whnf)
    refine r_new fun ba w2 hx2 hb2 hs2 hblkba => ?_
    have y2 := hx1.trans hx2
    (repeat ((conv => whnf); (first | (with_reducible first | refine jA ?_ | refine jB ?_ | refine jC ?_ | refine jD ?_) | refine jE ?_ | refine jF ?_ | refine jG ?_ | refine jH ?_ | refine jI ?_ | refine jJ ?_ | refine jK ?_ | refine jL ?_ | refine jM ?_ | refine jN ?_ | refine jO ?_ | refine jP ?_ | refine jQ ?_ | refine jR ?_ | refine jS (k := ?_) | refine jT (k := ?_)))); (conv => whnf)
    refine r_held y2 ?_
    (repeat ((conv => whnf); (first | (with_reducible first | refine jA ?_ | refine jB ?_ | refine jC ?_ | refine jD ?_) | refine jE ?_ | refine jF ?_ | refine jG ?_ | refine jH ?_ | refine jI ?_ | refine jJ ?_ | refine jK ?_ | refine jL ?_ | refine jM ?_ | refine jN ?_ | refine jO ?_ | refine jP ?_ | refine jQ ?_ | refine jR ?_ | refine jS (k := ?_) | refine jT (k := ?_)))); (conv => whnf)
    refine r_new fun bb w3 hx3 hb3 hs3 hblkbb => ?_
    have y3 := y2.trans hx3
    have l2 := hblkba.lt
    (repeat ((conv => whnf); (first | (with_reducible first | refine jA ?_ | refine jB ?_ | refine jC ?_ | refine jD ?_) | refine jE ?_ | refine jF ?_ | refine jG ?_ | refine jH ?_ | refine jI ?_ | refine jJ ?_ | refine jK ?_ | refine jL ?_ | refine jM ?_ | refine jN ?_ | refine jO ?_ | refine jP ?_ | refine jQ ?_ | refine jR ?_ | refine jS (k := ?_) | refine jT (k := ?_)))); (conv => whnf)
    refine r_held y3 ?_
    (repeat ((conv => whnf); (first | (with_reducible first | refine jA ?_ | refine jB ?_ | refine jC ?_ | refine jD ?_) | refine jE ?_ | refine jF ?_ | refine jG ?_ | refine jH ?_ | refine jI ?_ | refine jJ ?_ | refine jK ?_ | refine jL ?_ | refine jM ?_ | refine jN ?_ | refine jO ?_ | refine jP ?_ | refine jQ ?_ | refine jR ?_ | refine jS (k := ?_) | refine jT (k := ?_)))); (conv => whnf)
    have hblkba := hblkba.ext hx3
    refine r_stn hblkba (by simp [En.cells]) (cells_one _) fun w4 hc4 hs4 hblkba => ?_
    have hblkba : Blk w4 ba 28 (gt l i).cells := hblkba
    have y4 : Ext w w4 := Chg.step y3 hc4 fun k hk hlt => by have := hx1.size; have := hx2.size; omega
    (repeat ((conv => whnf); (first | (with_reducible first | refine jA ?_ | refine jB ?_ | refine jC ?_ | refine jD ?_) | refine jE ?_ | refine jF ?_ | refine jG ?_ | refine jH ?_ | refine jI ?_ | refine jJ ?_ | refine jK ?_ | refine jL ?_ | refine jM ?_ | refine jN ?_ | refine jO ?_ | refine jP ?_ | refine jQ ?_ | refine jR ?_ | refine jS (k := ?_) | refine jT (k := ?_)))); (conv => whnf)
    refine r_held y4 ?_
    (repeat ((conv => whnf); (first | (with_reducible first | refine jA ?_ | refine jB ?_ | refine jC ?_ | refine jD ?_) | refine jE ?_ | refine jF ?_ | refine jG ?_ | refine jH ?_ | refine jI ?_ | refine jJ ?_ | refine jK ?_ | refine jL ?_ | refine jM ?_ | refine jN ?_ | refine jO ?_ | refine jP ?_ | refine jQ ?_ | refine jR ?_ | refine jS (k := ?_) | refine jT (k := ?_)))); (conv => whnf)
    refine r_stn (hblkbb.keep hc4 (by omega)) (by simp [En.cells]) (cells_one _) fun w5 hc5 hs5 hblkbb => ?_
    have hblkbb : Blk w5 bb 28 (gt l j).cells := hblkbb
    have y5 : Ext w w5 := Chg.step y4 hc5 fun k hk hlt => by have := hx1.size; have := hx2.size; omega
    have hblkba := hblkba.keep hc5 (by omega)
    unfold En.cells at hblkba hblkbb
    (repeat ((conv => whnf); (first | (with_reducible first | refine jA ?_ | refine jB ?_ | refine jC ?_ | refine jD ?_) | refine jE ?_ | refine jF ?_ | refine jG ?_ | refine jH ?_ | refine jI ?_ | refine jJ ?_ | refine jK ?_ | refine jL ?_ | refine jM ?_ | refine jN ?_ | refine jO ?_ | refine jP ?_ | refine jQ ?_ | refine jR ?_ | refine jS (k := ?_) | refine jT (k := ?_)))); (conv => whnf)
  rotate_left
  focus
    (conv => whnf)
    refine r_new fun bb w2 hx2 hb2 hs2 hblkbb => ?_
    have y2 := hx1.trans hx2
    (repeat ((conv => whnf); (first | (with_reducible first | refine jA ?_ | refine jB ?_ | refine jC ?_ | refine jD ?_) | refine jE ?_ | refine jF ?_ | refine jG ?_ | refine jH ?_ | refine jI ?_ | refine jJ ?_ | refine jK ?_ | refine jL ?_ | refine jM ?_ | refine jN ?_ | refine jO ?_ | refine jP ?_ | refine jQ ?_ | refine jR ?_ | refine jS (k := ?_) | refine jT (k := ?_)))); (conv => whnf)
    refine r_held y2 ?_
    (repeat ((conv => whnf); (first | (with_reducible first | refine jA ?_ | refine jB ?_ | refine jC ?_ | refine jD ?_) | refine jE ?_ | refine jF ?_ | refine jG ?_ | refine jH ?_ | refine jI ?_ | refine jJ ?_ | refine jK ?_ | refine jL ?_ | refine jM ?_ | refine jN ?_ | refine jO ?_ | refine jP ?_ | refine jQ ?_ | refine jR ?_ | refine jS (k := ?_) | refine jT (k := ?_)))); (conv => whnf)
    refine r_new fun ba w3 hx3 hb3 hs3 hblkba => ?_
    have y3 := y2.trans hx3
    have l2 := hblkbb.lt
    (repeat ((conv => whnf); (first | (with_reducible first | refine jA ?_ | refine jB ?_ | refine jC ?_ | refine jD ?_) | refine jE ?_ | refine jF ?_ | refine jG ?_ | refine jH ?_ | refine jI ?_ | refine jJ ?_ | refine jK ?_ | refine jL ?_ | refine jM ?_ | refine jN ?_ | refine jO ?_ | refine jP ?_ | refine jQ ?_ | refine jR ?_ | refine jS (k := ?_) | refine jT (k := ?_)))); (conv => whnf)
    refine r_held y3 ?_
    (repeat ((conv => whnf); (first | (with_reducible first | refine jA ?_ | refine jB ?_ | refine jC ?_ | refine jD ?_) | refine jE ?_ | refine jF ?_ | refine jG ?_ | refine jH ?_ | refine jI ?_ | refine jJ ?_ | refine jK ?_ | refine jL ?_ | refine jM ?_ | refine jN ?_ | refine jO ?_ | refine jP ?_ | refine jQ ?_ | refine jR ?_ | refine jS (k := ?_) | refine jT (k := ?_)))); (conv => whnf)
    have hblkbb := hblkbb.ext hx3
    refine r_stn hblkba (by simp [En.cells]) (cells_one _) fun w4 hc4 hs4 hblkba => ?_
    have hblkba : Blk w4 ba 28 (gt l i).cells := hblkba
    have y4 : Ext w w4 := Chg.step y3 hc4 fun k hk hlt => by have := hx1.size; have := hx2.size; omega
    (repeat ((conv => whnf); (first | (with_reducible first | refine jA ?_ | refine jB ?_ | refine jC ?_ | refine jD ?_) | refine jE ?_ | refine jF ?_ | refine jG ?_ | refine jH ?_ | refine jI ?_ | refine jJ ?_ | refine jK ?_ | refine jL ?_ | refine jM ?_ | refine jN ?_ | refine jO ?_ | refine jP ?_ | refine jQ ?_ | refine jR ?_ | refine jS (k := ?_) | refine jT (k := ?_)))); (conv => whnf)
    refine r_held y4 ?_
    (repeat ((conv => whnf); (first | (with_reducible first | refine jA ?_ | refine jB ?_ | refine jC ?_ | refine jD ?_) | refine jE ?_ | refine jF ?_ | refine jG ?_ | refine jH ?_ | refine jI ?_ | refine jJ ?_ | refine jK ?_ | refine jL ?_ | refine jM ?_ | refine jN ?_ | refine jO ?_ | refine jP ?_ | refine jQ ?_ | refine jR ?_ | refine jS (k := ?_) | refine jT (k := ?_)))); (conv => whnf)
    refine r_stn (hblkbb.keep hc4 (by omega)) (by simp [En.cells]) (cells_one _) fun w5 hc5 hs5 hblkbb => ?_
    have hblkbb : Blk w5 bb 28 (gt l j).cells := hblkbb
    have y5 : Ext w w5 := Chg.step y4 hc5 fun k hk hlt => by have := hx1.size; have := hx2.size; omega
    have hblkba := hblkba.keep hc5 (by omega)
    unfold En.cells at hblkba hblkbb
    (repeat ((conv => whnf); (first | (with_reducible first | refine jA ?_ | refine jB ?_ | refine jC ?_ | refine jD ?_) | refine jE ?_ | refine jF ?_ | refine jG ?_ | refine jH ?_ | refine jI ?_ | refine jJ ?_ | refine jK ?_ | refine jL ?_ | refine jM ?_ | refine jN ?_ | refine jO ?_ | refine jP ?_ | refine jQ ?_ | refine jR ?_ | refine jS (k := ?_) | refine jT (k := ?_)))); (conv => whnf)
  all_goals
    by_cases h1 : (gt l i).order < (gt l j).order
    · (repeat ((conv => whnf); (first | (with_reducible first | refine jA ?_ | refine jB ?_ | refine jC ?_ | refine jD ?_) | refine jE ?_ | refine jF ?_ | refine jG ?_ | refine jH ?_ | refine jI ?_ | refine jJ ?_ | refine jK ?_ | refine jL ?_ | refine jM ?_ | refine jN ?_ | refine jO ?_ | refine jP ?_ | refine jQ ?_ | refine jR ?_ | refine jS (k := ?_) | refine jT (k := ?_)))); (conv => whnf)
      exact ⟨y5, by simp [less, h1]⟩
    · by_cases h2 : (gt l i).order = (gt l j).order
      all_goals
        (repeat ((conv => whnf); (first | (with_reducible first | refine jA ?_ | refine jB ?_ | refine jC ?_ | refine jD ?_) | refine jE ?_ | refine jF ?_ | refine jG ?_ | refine jH ?_ | refine jI ?_ | refine jJ ?_ | refine jK ?_ | refine jL ?_ | refine jM ?_ | refine jN ?_ | refine jO ?_ | refine jP ?_ | refine jQ ?_ | refine jR ?_ | refine jS (k := ?_) | refine jT (k := ?_)))); (conv => whnf)
        exact ⟨y5, by simp [less, h2] <;> omega⟩
theorem Swap_ok (h : Pile w ab mb g c l) {i j : Nat} (hi : i < l.length) (hj : j < l.length) : Cal Try.prog 115 ⟨[.pointer (some ⟨ab, 0, none⟩), .int .i64 (i : Int), .int .i64 (j : Int)]⟩ w fun _ w' => Pile w' ab mb g c (swL l i j) ∧ Chg (fun k => k = mb ∨ g = some k) w w' := by
  obtain ⟨x, R, rfl, hrow, hR, hlc, hc⟩ := h.at (by omega)
  have hblk : Blk w ab 92 [.slice (some ⟨x, 0, none⟩) l.length c, .map (some mb)] := h.blk
  have hlen := h.len
  have hmap := h.map
  have hfl := flat_len l
  have hax : ¬ ab = x := Blk.ne hblk hrow (by decide)
  have ham : ¬ ab = mb := hmap.ne hblk
  have hxm : ¬ x = mb := hmap.ne hrow
  have hwi := h.wfAt hi
  have hwj := h.wfAt hj
  unfold maxLen at hc
  refine go115 (by rfl) ?_
  (repeat ((conv => whnf); (first | (with_reducible first | refine jA ?_ | refine jB ?_ | refine jC ?_ | refine jD ?_) | refine jE ?_ | refine jF ?_ | refine jG ?_ | refine jH ?_ | refine jI ?_ | refine jJ ?_ | refine jK ?_ | refine jL ?_ | refine jM ?_ | refine jN ?_ | refine jO ?_ | refine jP ?_ | refine jQ ?_ | refine jR ?_ | refine jS (k := ?_) | refine jT (k := ?_)))); (conv => whnf)
  refine r_drawE fun w1 hx1 hh1 => ?_
  (repeat ((conv => whnf); (first | refine r_need rfl ?_ | (with_reducible first | refine jA ?_ | refine jB ?_ | refine jC ?_ | refine jD ?_) | refine jE ?_ | refine jF ?_ | refine jG ?_ | refine jH ?_ | refine jI ?_ | refine jJ ?_ | refine jK ?_ | refine jL ?_ | refine jM ?_ | refine jN ?_ | refine jO ?_ | refine jP ?_ | refine jQ ?_ | refine jR ?_ | refine jS (k := ?_) | refine jT (k := ?_)))); (conv => whnf)
  rw [adr0]
  refine r_ldnbE (vs := (gt l j).cells) hrow (flat_get hj R) rfl ?_
  (repeat ((conv => whnf); (first | refine r_need rfl ?_ | (with_reducible first | refine jA ?_ | refine jB ?_ | refine jC ?_ | refine jD ?_) | refine jE ?_ | refine jF ?_ | refine jG ?_ | refine jH ?_ | refine jI ?_ | refine jJ ?_ | refine jK ?_ | refine jL ?_ | refine jM ?_ | refine jN ?_ | refine jO ?_ | refine jP ?_ | refine jQ ?_ | refine jR ?_ | refine jS (k := ?_) | refine jT (k := ?_)))); (conv => whnf)
  rw [adr0]
  refine r_ldnbE (vs := (gt l i).cells) hrow (flat_get hi R) rfl ?_
  (repeat ((conv => whnf); (first | refine r_need rfl ?_ | (with_reducible first | refine jA ?_ | refine jB ?_ | refine jC ?_ | refine jD ?_) | refine jE ?_ | refine jF ?_ | refine jG ?_ | refine jH ?_ | refine jI ?_ | refine jJ ?_ | refine jK ?_ | refine jL ?_ | refine jM ?_ | refine jN ?_ | refine jO ?_ | refine jP ?_ | refine jQ ?_ | refine jR ?_ | refine jS (k := ?_) | refine jT (k := ?_)))); (conv => whnf)
  rw [adr0]
  refine r_stn (hrow.ext hx1) (by rw [List.length_append]; simp [En.cells]; omega) (cells_one _) fun w2 hc2 hs2 hrow2 => ?_
  rw [flat_set hi] at hrow2
  (repeat ((conv => whnf); (first | refine r_need rfl ?_ | (with_reducible first | refine jA ?_ | refine jB ?_ | refine jC ?_ | refine jD ?_) | refine jE ?_ | refine jF ?_ | refine jG ?_ | refine jH ?_ | refine jI ?_ | refine jJ ?_ | refine jK ?_ | refine jL ?_ | refine jM ?_ | refine jN ?_ | refine jO ?_ | refine jP ?_ | refine jQ ?_ | refine jR ?_ | refine jS (k := ?_) | refine jT (k := ?_)))); (conv => whnf)
  rw [adr0]
  refine r_stn hrow2 (by rw [List.length_append, flat_len]; simp [En.cells]; omega) (cells_one _) fun w3 hc3 hs3 hrow3 => ?_
  rw [flat_set (by simpa using hj)] at hrow3
  have hrow3 : Blk w3 x 28 (flat (swL l i j) ++ R) := hrow3
  have hl' : (swL l i j).length = l.length := swL_len l i j
  have hx3 : Chg (fun k => k = x) w w3 := (hx1.wide _).trans (hc2.trans hc3)
  have hblk3 := hblk.keep hx3 hax
  have hmap3 := hmap.keep hx3 fun e => hxm e.symm
  have gi := gt_swL hi hj i
  have gj := gt_swL hi hj j
  rw [sw_l] at gi
  rw [sw_r] at gj
  have ci := flat_cell (l := swL l i j) (i := i) (by omega) R 0 (by omega)
  have cj := flat_cell (l := swL l i j) (i := j) (by omega) R 0 (by omega)
  rw [gi] at ci
  rw [gj] at cj
  (repeat ((conv => whnf); (first | (with_reducible first | refine jA ?_ | refine jB ?_ | refine jC ?_ | refine jD ?_) | refine jE ?_ | refine jF ?_ | refine jG ?_ | refine jH ?_ | refine jI ?_ | refine jJ ?_ | refine jK ?_ | refine jL ?_ | refine jM ?_ | refine jN ?_ | refine jO ?_ | refine jP ?_ | refine jQ ?_ | refine jR ?_ | refine jS (k := ?_) | refine jT (k := ?_)))); (conv => whnf)
  refine r_drawS (fun k => k = mb) fun w4 hx4 hh4 => ?_
  (repeat ((conv => whnf); (first | refine r_ldbS hblk3 (by rfl) ham ?_ | refine r_need rfl ?_ | (with_reducible first | refine jA ?_ | refine jB ?_ | refine jC ?_ | refine jD ?_) | refine jE ?_ | refine jF ?_ | refine jG ?_ | refine jH ?_ | refine jI ?_ | refine jJ ?_ | refine jK ?_ | refine jL ?_ | refine jM ?_ | refine jN ?_ | refine jO ?_ | refine jP ?_ | refine jQ ?_ | refine jR ?_ | refine jS (k := ?_) | refine jT (k := ?_)))); (conv => whnf)
  rw [adrF]
  refine r_ldbS hrow3 ci hxm ?_
  (repeat ((conv => whnf); (first | refine r_ldbS hblk3 (by rfl) ham ?_ | refine r_need rfl ?_ | (with_reducible first | refine jA ?_ | refine jB ?_ | refine jC ?_ | refine jD ?_) | refine jE ?_ | refine jF ?_ | refine jG ?_ | refine jH ?_ | refine jI ?_ | refine jJ ?_ | refine jK ?_ | refine jL ?_ | refine jM ?_ | refine jN ?_ | refine jO ?_ | refine jP ?_ | refine jQ ?_ | refine jR ?_ | refine jS (k := ?_) | refine jT (k := ?_)))); (conv => whnf)
  rw [adrF]
  refine r_ldbS hrow3 cj hxm ?_
  (repeat ((conv => whnf); (first | (with_reducible first | refine jA ?_ | refine jB ?_ | refine jC ?_ | refine jD ?_) | refine jE ?_ | refine jF ?_ | refine jG ?_ | refine jH ?_ | refine jI ?_ | refine jJ ?_ | refine jK ?_ | refine jL ?_ | refine jM ?_ | refine jN ?_ | refine jO ?_ | refine jP ?_ | refine jQ ?_ | refine jR ?_ | refine jS (k := ?_) | refine jT (k := ?_)))); (conv => whnf)
  refine r_entry (hmap3.ext hx4) keyed umap zint _ (fun key hk => idx_key hk) (by simp [maxLen]; omega) (key_of hwj) fun v0 st w5 hc5 hs5 hst => ?_
  (repeat ((conv => whnf); (first | (with_reducible first | refine jA ?_ | refine jB ?_ | refine jC ?_ | refine jD ?_) | refine jE ?_ | refine jF ?_ | refine jG ?_ | refine jH ?_ | refine jI ?_ | refine jJ ?_ | refine jK ?_ | refine jL ?_ | refine jM ?_ | refine jN ?_ | refine jO ?_ | refine jP ?_ | refine jQ ?_ | refine jR ?_ | refine jS (k := ?_) | refine jT (k := ?_)))); (conv => whnf)
  refine r_held (Chg.step (hx4.wide _) hc5 fun k hk _ => hk) ?_
  (repeat ((conv => whnf); (first | (with_reducible first | refine jA ?_ | refine jB ?_ | refine jC ?_ | refine jD ?_) | refine jE ?_ | refine jF ?_ | refine jG ?_ | refine jH ?_ | refine jI ?_ | refine jJ ?_ | refine jK ?_ | refine jL ?_ | refine jM ?_ | refine jN ?_ | refine jO ?_ | refine jP ?_ | refine jQ ?_ | refine jR ?_ | refine jS (k := ?_) | refine jT (k := ?_)))); (conv => whnf)
  refine hst _ _ fun w6 hc6 hs6 hmap6 => ?_
  (repeat ((conv => whnf); (first | (with_reducible first | refine jA ?_ | refine jB ?_ | refine jC ?_ | refine jD ?_) | refine jE ?_ | refine jF ?_ | refine jG ?_ | refine jH ?_ | refine jI ?_ | refine jJ ?_ | refine jK ?_ | refine jL ?_ | refine jM ?_ | refine jN ?_ | refine jO ?_ | refine jP ?_ | refine jQ ?_ | refine jR ?_ | refine jS (k := ?_) | refine jT (k := ?_)))); (conv => whnf)
  have hL : ∀ key, upd (idx l) (.int .i64 (gt l j).place) (some (.int .i64 (i : Int))) key ≠ none → key ∈ Value.int .i64 (gt l j).place :: l.map fun e => Value.int .i64 e.place := fun key hk => by
    by_cases e : key = .int .i64 (gt l j).place
    · rw [e]; simp
    · rw [upd_ne _ _ e] at hk
      exact List.mem_cons_of_mem _ (idx_key hk)
  refine r_entry hmap6 keyed umap zint _ hL (by simp [maxLen]; omega) (key_of hwi) fun v1 st1 w7 hc7 hs7 hst1 => ?_
  (repeat ((conv => whnf); (first | (with_reducible first | refine jA ?_ | refine jB ?_ | refine jC ?_ | refine jD ?_) | refine jE ?_ | refine jF ?_ | refine jG ?_ | refine jH ?_ | refine jI ?_ | refine jJ ?_ | refine jK ?_ | refine jL ?_ | refine jM ?_ | refine jN ?_ | refine jO ?_ | refine jP ?_ | refine jQ ?_ | refine jR ?_ | refine jS (k := ?_) | refine jT (k := ?_)))); (conv => whnf)
  refine hst1 _ _ fun w8 hc8 hs8 hmap8 => ?_
  rw [idx_swap h.dist hi hj] at hmap8
  have hx8 : Chg (fun k => k = mb) w3 w8 := ((((hx4.wide _).trans hc5).trans hc6).trans hc7).trans hc8
  (repeat ((conv => whnf); (first | (with_reducible first | refine jA ?_ | refine jB ?_ | refine jC ?_ | refine jD ?_) | refine jE ?_ | refine jF ?_ | refine jG ?_ | refine jH ?_ | refine jI ?_ | refine jJ ?_ | refine jK ?_ | refine jL ?_ | refine jM ?_ | refine jN ?_ | refine jO ?_ | refine jP ?_ | refine jQ ?_ | refine jR ?_ | refine jS (k := ?_) | refine jT (k := ?_)))); (conv => whnf)
  refine ⟨⟨by rw [hl']; exact hblk3.keep hx8 ham, ⟨R, hrow3.keep hx8 hxm, by omega, by omega, by unfold maxLen; omega⟩, hmap8, swL_dist h.dist hi hj, by omega, fun e he => ?_⟩, ?_⟩
  · obtain ⟨k, hk, rfl⟩ := List.getElem_of_mem he
    rw [hl'] at hk
    have e1 := gt_get (l := swL l i j) (i := k) (by omega)
    rw [List.getElem?_eq_getElem (by omega)] at e1
    rw [Option.some.inj e1, gt_swL hi hj]
    unfold sw
    split
    · exact hwj
    · split
      · exact hwi
      · exact h.wfAt hk
  · exact Chg.step (hx3.mono fun k _ e => .inr (by rw [e])) hx8 fun k hk _ => .inl hk
end
end Fb.Try.QU
