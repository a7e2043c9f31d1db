/-
  Walks: Push and Pop of the heap's own.
-/
import Derived.Test.YtnofndhlhbbhdaaQa
import Derived.Test.YtnofndhlhbbhdaaVb
namespace Fb.Try.QU
open Go Go.Proofs Fb
theorem een : Elem Try.prog 22 28 3 24 := Elem.of (by kernel_rfl)
def Wf (e : En) : Prop := -9223372036854775808 ≤ e.place ∧ e.place ≤ 9223372036854775807
section
variable {w w' : World} {ab mb c : Nat} {g : Option Nat} {l : List En}
theorem row_own (h : Row w g c l) : w.ownsRow 0 28 3 (.slice (adr g) l.length c) l.length (flat l) := by
  refine ⟨flat_len l, ?_⟩
  cases g with
  | none =>
    obtain ⟨rfl, rfl⟩ := h
    exact .inl ⟨rfl, rfl⟩
  | some x =>
    obtain ⟨R, h1, h2, h3, h4⟩ := h
    have hf := flat_len l
    refine .inr ⟨x, c, ⟨flat l ++ R⟩, rfl, Nat.zero_le _, h1, h3, h4, ?_, ?_⟩
    · simp [hf, h2]
      omega
    · dsimp only
      rw [List.take_append_of_le_length (by omega), List.take_of_length_le (by omega)]
theorem own_row {v : Value} {n : Nat} (h : w.ownsRow 0 28 3 v n (flat l)) (hn : l.length = n) : ∃ g c, v = .slice (adr g) n c ∧ Row w g c l ∧ v.ownBlock = g := by
  obtain ⟨h1, h2⟩ := h
  rcases h2 with ⟨rfl, h0⟩ | ⟨x, cap, ⟨cur⟩, rfl, _, hg, hc, hm, hs, ht⟩
  · have : l = [] := List.length_eq_zero_iff.1 (by omega)
    exact ⟨none, 0, by rw [← hn, this]; rfl, ⟨this, rfl⟩, rfl⟩
  · dsimp only at ht
    have hs : cur.length = cap * 3 := by simpa using hs
    refine ⟨some x, cap, rfl, ⟨cur.drop (n * 3), ?_, ?_, by omega, hm⟩, rfl⟩
    · rw [← ht, List.take_append_drop]
      exact hg
    · rw [List.length_drop, hs, hn, Nat.sub_mul]
theorem Push_ok (h : Pile w ab mb g c l) {e : En} (he : Wf e) (hn : pos l e.place = none) (hl : l.length < 1000) : Cal Try.prog 114 ⟨[.pointer (some ⟨ab, 0, none⟩), .iface 28 (.agg ⟨e.cells⟩)]⟩ w fun _ w' => ∃ g' c', Pile w' ab mb g' c' (l ++ [e]) ∧ (g' = g ∨ ∃ y, g' = some y ∧ w.heap.size ≤ y) ∧ Chg (PS ab mb g) w w' := by
  have hblk := h.blk
  have hmap := h.map
  have hla := hblk.lt
  have hlm := hmap.lt
  have ham : ¬ ab = mb := hmap.ne hblk
  refine go114 (by rfl) ?_
  (repeat ((conv => whnf); (first | (with_reducible first | refine jA ?_ | refine jB ?_ | refine jC ?_ | refine jD ?_) | refine jE ?_ | refine jF ?_ | refine jG ?_ | refine jH ?_ | refine jI ?_ | refine jJ ?_ | refine jK ?_ | refine jL ?_ | refine jM ?_ | refine jN ?_ | refine jO ?_ | refine jP ?_ | refine jQ ?_ | refine jR ?_ | refine jS (k := ?_) | refine jT (k := ?_)))); (conv => whnf)
  refine r_new fun q w1 hx1 hb1 hs1 hblk1 => ?_
  (repeat ((conv => whnf); (first | (with_reducible first | refine jA ?_ | refine jB ?_ | refine jC ?_ | refine jD ?_) | refine jE ?_ | refine jF ?_ | refine jG ?_ | refine jH ?_ | refine jI ?_ | refine jJ ?_ | refine jK ?_ | refine jL ?_ | refine jM ?_ | refine jN ?_ | refine jO ?_ | refine jP ?_ | refine jQ ?_ | refine jR ?_ | refine jS (k := ?_) | refine jT (k := ?_)))); (conv => whnf)
  refine r_stn hblk1 (by simp [En.cells]) (cells_one e) fun w2 hc2 hs2 hblk2 => ?_
  have hblk2 : Blk w2 q 28 [.int .i64 e.place, .int .i64 e.order, .int .i64 e.out] := hblk2
  have hx02 : Ext w w2 := Chg.step hx1 hc2 fun k hk hlt => by omega
  have hblka := hblk.ext hx02
  (repeat ((conv => whnf); (first | (with_reducible first | refine jA ?_ | refine jB ?_ | refine jC ?_ | refine jD ?_) | refine jE ?_ | refine jF ?_ | refine jG ?_ | refine jH ?_ | refine jI ?_ | refine jJ ?_ | refine jK ?_ | refine jL ?_ | refine jM ?_ | refine jN ?_ | refine jO ?_ | refine jP ?_ | refine jQ ?_ | refine jR ?_ | refine jS (k := ?_) | refine jT (k := ?_)))); (conv => whnf)
  refine r_drawE fun w3 hx3 hh3 => ?_
  (repeat ((conv => whnf); (first | (with_reducible first | refine jA ?_ | refine jB ?_ | refine jC ?_ | refine jD ?_) | refine jE ?_ | refine jF ?_ | refine jG ?_ | refine jH ?_ | refine jI ?_ | refine jJ ?_ | refine jK ?_ | refine jL ?_ | refine jM ?_ | refine jN ?_ | refine jO ?_ | refine jP ?_ | refine jQ ?_ | refine jR ?_ | refine jS (k := ?_) | refine jT (k := ?_)))); (conv => whnf)
  refine r_mapSet (hmap.ext (hx02.trans hx3)) keyed umap _ (fun key hk => idx_key hk) (by simp [maxLen]; omega) (key_of he) fun w4 hc4 hs4 hmap4 => ?_
  rw [idx_app h.dist hn] at hmap4
  have hx24 : Chg (fun k => k = mb) w2 w4 := (hx3.wide _).trans hc4
  have hqm : ¬ q = mb := by omega
  have hblkq := hblk2.keep hx24 hqm
  have hblka := hblka.keep hx24 ham
  have hrow0 : Row w g c l := h.row
  have hrow4 : Row w4 g c l := Row.keep (Row.keep hrow0 hx02 fun _ _ f => f) hx24 fun x e => by
    subst e
    obtain ⟨R, h1, _⟩ := h.row
    exact hmap.ne h1
  have hga : ¬ g = some ab := fun e => by
    subst e
    obtain ⟨R, h1, _⟩ := h.row
    exact Blk.ne h1 hblk (by decide) rfl
  have hgm : ¬ g = some mb := fun e => by
    subst e
    obtain ⟨R, h1, _⟩ := h.row
    exact hmap.ne h1 rfl
  have hgq : ¬ g = some q := fun e => by
    subst e
    obtain ⟨R, h1, _⟩ := h.row
    have := h1.lt
    omega
  (repeat ((conv => whnf); (first | (with_reducible first | refine jA ?_ | refine jB ?_ | refine jC ?_ | refine jD ?_) | refine jE ?_ | refine jF ?_ | refine jG ?_ | refine jH ?_ | refine jI ?_ | refine jJ ?_ | refine jK ?_ | refine jL ?_ | refine jM ?_ | refine jN ?_ | refine jO ?_ | refine jP ?_ | refine jQ ?_ | refine jR ?_ | refine jS (k := ?_) | refine jT (k := ?_)))); (conv => whnf)
  refine r_drawS (fun k => g = some k) fun w5 hx5 hh5 => ?_
  (repeat ((conv => whnf); (first | refine r_ldbS hblka (by rfl) hga ?_ | refine r_ldnbS' (vs := e.cells) hblkq rfl rfl hgq ?_ | (with_reducible first | refine jA ?_ | refine jB ?_ | refine jC ?_ | refine jD ?_) | refine jE ?_ | refine jF ?_ | refine jG ?_ | refine jH ?_ | refine jI ?_ | refine jJ ?_ | refine jK ?_ | refine jL ?_ | refine jM ?_ | refine jN ?_ | refine jO ?_ | refine jP ?_ | refine jQ ?_ | refine jR ?_ | refine jS (k := ?_) | refine jT (k := ?_)))); (conv => whnf)
  refine r_new fun b6 w6 hx6 hb6 hs6 hblk6 => ?_
  have y6 := hx5.trans hx6
  (repeat ((conv => whnf); (first | (with_reducible first | refine jA ?_ | refine jB ?_ | refine jC ?_ | refine jD ?_) | refine jE ?_ | refine jF ?_ | refine jG ?_ | refine jH ?_ | refine jI ?_ | refine jJ ?_ | refine jK ?_ | refine jL ?_ | refine jM ?_ | refine jN ?_ | refine jO ?_ | refine jP ?_ | refine jQ ?_ | refine jR ?_ | refine jS (k := ?_) | refine jT (k := ?_)))); (conv => whnf)
  refine r_held (y6.wide _) ?_
  (repeat ((conv => whnf); (first | (with_reducible first | refine jA ?_ | refine jB ?_ | refine jC ?_ | refine jD ?_) | refine jE ?_ | refine jF ?_ | refine jG ?_ | refine jH ?_ | refine jI ?_ | refine jJ ?_ | refine jK ?_ | refine jL ?_ | refine jM ?_ | refine jN ?_ | refine jO ?_ | refine jP ?_ | refine jQ ?_ | refine jR ?_ | refine jS (k := ?_) | refine jT (k := ?_)))); (conv => whnf)
  have ho6 : (Value.slice (adr g) l.length c).ownBlock = g := by
    cases g with
    | none => rfl
    | some x => rfl
  refine r_appAt een (row_own (Row.keep hrow4 y6 fun _ _ f => f)) (View.of_blk (n := 1) (size := 3) hblk6 (by rfl) (by simp [maxLen])) (cells_one e) (by omega) (Nat.zero_le _) fun v7 w7 hown7 hc7 _ hv7 => ?_
  have hfl : flat l ++ [.int .i64 e.place, .int .i64 e.order, .int .i64 e.out] = flat (l ++ [e]) := by
    rw [flat_app]
    simp [flat, En.cells]
  rw [ho6] at hc7 hv7
  obtain ⟨g7, c7, rfl, hrow7, hg7⟩ := own_row (l := l ++ [e]) (by rw [← hfl]; exact hown7) (by simp)
  rw [hg7] at hv7
  have hc57 : Chg (fun k => g = some k) w4 w7 := Chg.step (y6.wide _) hc7 fun k hk _ => hk
  have hblka := hblka.keep hc57 hga
  (repeat ((conv => whnf); (first | (with_reducible first | refine jA ?_ | refine jB ?_ | refine jC ?_ | refine jD ?_) | refine jE ?_ | refine jF ?_ | refine jG ?_ | refine jH ?_ | refine jI ?_ | refine jJ ?_ | refine jK ?_ | refine jL ?_ | refine jM ?_ | refine jN ?_ | refine jO ?_ | refine jP ?_ | refine jQ ?_ | refine jR ?_ | refine jS (k := ?_) | refine jT (k := ?_)))); (conv => whnf)
  refine r_held hc57 ?_
  (repeat ((conv => whnf); (first | (with_reducible first | refine jA ?_ | refine jB ?_ | refine jC ?_ | refine jD ?_) | refine jE ?_ | refine jF ?_ | refine jG ?_ | refine jH ?_ | refine jI ?_ | refine jJ ?_ | refine jK ?_ | refine jL ?_ | refine jM ?_ | refine jN ?_ | refine jO ?_ | refine jP ?_ | refine jQ ?_ | refine jR ?_ | refine jS (k := ?_) | refine jT (k := ?_)))); (conv => whnf)
  refine r_st hblka (by simp) rfl fun w8 hc8 hs8 hblk8 => ?_
  have hblk8 : Blk w8 ab 92 [.slice (adr g7) (l.length + 1) c7, .map (some mb)] := hblk8
  (repeat ((conv => whnf); (first | (with_reducible first | refine jA ?_ | refine jB ?_ | refine jC ?_ | refine jD ?_) | refine jE ?_ | refine jF ?_ | refine jG ?_ | refine jH ?_ | refine jI ?_ | refine jJ ?_ | refine jK ?_ | refine jL ?_ | refine jM ?_ | refine jN ?_ | refine jO ?_ | refine jP ?_ | refine jQ ?_ | refine jR ?_ | refine jS (k := ?_) | refine jT (k := ?_)))); (conv => whnf)
  have hs03 := hx02.size
  have hs6' := y6.size
  have hwf : ∀ x ∈ l ++ [e], -9223372036854775808 ≤ x.place ∧ x.place ≤ 9223372036854775807 := by
    intro x hx
    simp only [List.mem_append, List.mem_singleton] at hx
    rcases hx with hx | rfl
    · exact h.wf x hx
    · exact he
  have hg7' : g7 = g ∨ g7 = some w6.heap.size := hv7
  have hg7a : ¬ g7 = some ab := by
    rcases hg7' with rfl | rfl
    · exact hga
    · intro e'; have := Option.some.inj e'; have := hx24.size; omega
  refine ⟨g7, c7, ⟨by simpa using hblk8, Row.keep hrow7 hc8 fun x e' hx' => hg7a (by rw [e', hx']), (hmap4.keep hc57 hgm).keep hc8 fun e' => ham e'.symm, app_dist h.dist hn, by simp; omega, hwf⟩, ?_, ?_⟩
  · rcases hg7' with rfl | rfl
    · exact .inl rfl
    · exact .inr ⟨_, rfl, by have := hx24.size; omega⟩
  · refine Chg.step (Chg.step (Chg.step (hx02.wide _) hx24 fun k hk _ => .inr (.inl hk)) hc57 fun k hk _ => .inr (.inr hk)) hc8 fun k hk _ => .inl hk
theorem Pop_ok (h : Pile w ab mb g c l) (h0 : 0 < l.length) : Cal Try.prog 113 ⟨[.pointer (some ⟨ab, 0, none⟩)]⟩ w fun v w' => Pile w' ab mb g c (l.take (l.length - 1)) ∧ v = .iface 28 (.agg ⟨(gt l (l.length - 1)).cells⟩) ∧ Chg (PS ab mb g) w w' := by
  obtain ⟨x, R, rfl, hrow, hR, hlc, hc⟩ := h.at h0
  have hblk : Blk w ab 92 [.slice (some ⟨x, 0, none⟩) l.length c, .map (some mb)] := h.blk
  have hlen := h.len
  have hmap := h.map
  have hfl := flat_len l
  have hax : ¬ ab = x := Blk.ne hblk hrow (by decide)
  have ham : ¬ ab = mb := hmap.ne hblk
  have hxm : ¬ x = mb := hmap.ne hrow
  have hla := hblk.lt
  have hlm := hmap.lt
  have hlx := hrow.lt
  unfold maxLen at hc
  refine go113 (by rfl) ?_
  (repeat ((conv => whnf); (first | (with_reducible first | refine jA ?_ | refine jB ?_ | refine jC ?_ | refine jD ?_) | refine jE ?_ | refine jF ?_ | refine jG ?_ | refine jH ?_ | refine jI ?_ | refine jJ ?_ | refine jK ?_ | refine jL ?_ | refine jM ?_ | refine jN ?_ | refine jO ?_ | refine jP ?_ | refine jQ ?_ | refine jR ?_ | refine jS (k := ?_) | refine jT (k := ?_)))); (conv => whnf)
  refine r_drawE fun w1 hx1 hh1 => ?_
  (repeat ((conv => whnf); (first | refine r_need rfl ?_ | (with_reducible first | refine jA ?_ | refine jB ?_ | refine jC ?_ | refine jD ?_) | refine jE ?_ | refine jF ?_ | refine jG ?_ | refine jH ?_ | refine jI ?_ | refine jJ ?_ | refine jK ?_ | refine jL ?_ | refine jM ?_ | refine jN ?_ | refine jO ?_ | refine jP ?_ | refine jQ ?_ | refine jR ?_ | refine jS (k := ?_) | refine jT (k := ?_)))); (conv => whnf)
  rw [show (l.length : Int) - 1 = ((l.length - 1 : Nat) : Int) by omega, adr0]
  refine r_ldnbE (vs := (gt l (l.length - 1)).cells) hrow (flat_get (by omega) R) rfl ?_
  (repeat ((conv => whnf); (first | (with_reducible first | refine jA ?_ | refine jB ?_ | refine jC ?_ | refine jD ?_) | refine jE ?_ | refine jF ?_ | refine jG ?_ | refine jH ?_ | refine jI ?_ | refine jJ ?_ | refine jK ?_ | refine jL ?_ | refine jM ?_ | refine jN ?_ | refine jO ?_ | refine jP ?_ | refine jQ ?_ | refine jR ?_ | refine jS (k := ?_) | refine jT (k := ?_)))); (conv => whnf)
  refine r_new fun q w2 hx2 hb2 hs2 hblk2 => ?_
  have y2 := hx1.trans hx2
  (repeat ((conv => whnf); (first | (with_reducible first | refine jA ?_ | refine jB ?_ | refine jC ?_ | refine jD ?_) | refine jE ?_ | refine jF ?_ | refine jG ?_ | refine jH ?_ | refine jI ?_ | refine jJ ?_ | refine jK ?_ | refine jL ?_ | refine jM ?_ | refine jN ?_ | refine jO ?_ | refine jP ?_ | refine jQ ?_ | refine jR ?_ | refine jS (k := ?_) | refine jT (k := ?_)))); (conv => whnf)
  refine r_held y2 ?_
  (repeat ((conv => whnf); (first | (with_reducible first | refine jA ?_ | refine jB ?_ | refine jC ?_ | refine jD ?_) | refine jE ?_ | refine jF ?_ | refine jG ?_ | refine jH ?_ | refine jI ?_ | refine jJ ?_ | refine jK ?_ | refine jL ?_ | refine jM ?_ | refine jN ?_ | refine jO ?_ | refine jP ?_ | refine jQ ?_ | refine jR ?_ | refine jS (k := ?_) | refine jT (k := ?_)))); (conv => whnf)
  refine r_stn hblk2 (by simp [En.cells]) (cells_one _) fun w3 hc3 hs3 hblk3 => ?_
  have hblk3 : Blk w3 q 28 [.int .i64 (gt l (l.length - 1)).place, .int .i64 (gt l (l.length - 1)).order, .int .i64 (gt l (l.length - 1)).out] := hblk3
  have hz1 := hx1.size
  have hx03 : Ext w w3 := Chg.step y2 hc3 fun k hk hlt => by omega
  have hblka := hblk.ext hx03
  (repeat ((conv => whnf); (first | (with_reducible first | refine jA ?_ | refine jB ?_ | refine jC ?_ | refine jD ?_) | refine jE ?_ | refine jF ?_ | refine jG ?_ | refine jH ?_ | refine jI ?_ | refine jJ ?_ | refine jK ?_ | refine jL ?_ | refine jM ?_ | refine jN ?_ | refine jO ?_ | refine jP ?_ | refine jQ ?_ | refine jR ?_ | refine jS (k := ?_) | refine jT (k := ?_)))); (conv => whnf)
  refine r_drawE fun w4 hx4 hh4 => ?_
  (repeat ((conv => whnf); (first | (with_reducible first | refine jA ?_ | refine jB ?_ | refine jC ?_ | refine jD ?_) | refine jE ?_ | refine jF ?_ | refine jG ?_ | refine jH ?_ | refine jI ?_ | refine jJ ?_ | refine jK ?_ | refine jL ?_ | refine jM ?_ | refine jN ?_ | refine jO ?_ | refine jP ?_ | refine jQ ?_ | refine jR ?_ | refine jS (k := ?_) | refine jT (k := ?_)))); (conv => whnf)
  rw [show ((l.length : Int) - 1).toNat = l.length - 1 by omega]
  refine r_st (hblka.ext hx4) (by simp) rfl fun w5 hc5 hs5 hblk5 => ?_
  have hblk5 : Blk w5 ab 92 [.slice (some ⟨x, 0, none⟩) (l.length - 1) c, .map (some mb)] := hblk5
  have hblkq := (hblk3.ext hx4).keep hc5 (by omega)
  have hx05 : Chg (fun k => k = ab) w w5 := Chg.step ((hx03.trans hx4).wide _) hc5 fun k hk _ => hk
  have hmap5 := hmap.keep hx05 fun e => ham e.symm
  (repeat ((conv => whnf); (first | (with_reducible first | refine jA ?_ | refine jB ?_ | refine jC ?_ | refine jD ?_) | refine jE ?_ | refine jF ?_ | refine jG ?_ | refine jH ?_ | refine jI ?_ | refine jJ ?_ | refine jK ?_ | refine jL ?_ | refine jM ?_ | refine jN ?_ | refine jO ?_ | refine jP ?_ | refine jQ ?_ | refine jR ?_ | refine jS (k := ?_) | refine jT (k := ?_)))); (conv => whnf)
  refine r_drawE fun w6 hx6 hh6 => ?_
  (repeat ((conv => whnf); (first | (with_reducible first | refine jA ?_ | refine jB ?_ | refine jC ?_ | refine jD ?_) | refine jE ?_ | refine jF ?_ | refine jG ?_ | refine jH ?_ | refine jI ?_ | refine jJ ?_ | refine jK ?_ | refine jL ?_ | refine jM ?_ | refine jN ?_ | refine jO ?_ | refine jP ?_ | refine jQ ?_ | refine jR ?_ | refine jS (k := ?_) | refine jT (k := ?_)))); (conv => whnf)
  refine r_delete (hmap5.ext hx6) keyed umap (key_of (h.wfAt (by omega))) fun w7 hc7 hs7 hmap7 => ?_
  rw [idx_pop h.dist h0] at hmap7
  have hx57 : Chg (fun k => k = mb) w5 w7 := (hx6.wide _).trans hc7
  have hblkq := hblkq.keep hx57 (show ¬ q = mb by omega)
  (repeat ((conv => whnf); (first | (with_reducible first | refine jA ?_ | refine jB ?_ | refine jC ?_ | refine jD ?_) | refine jE ?_ | refine jF ?_ | refine jG ?_ | refine jH ?_ | refine jI ?_ | refine jJ ?_ | refine jK ?_ | refine jL ?_ | refine jM ?_ | refine jN ?_ | refine jO ?_ | refine jP ?_ | refine jQ ?_ | refine jR ?_ | refine jS (k := ?_) | refine jT (k := ?_)))); (conv => whnf)
  refine r_ldnb (vs := (gt l (l.length - 1)).cells) hblkq rfl rfl ?_
  (repeat ((conv => whnf); (first | (with_reducible first | refine jA ?_ | refine jB ?_ | refine jC ?_ | refine jD ?_) | refine jE ?_ | refine jF ?_ | refine jG ?_ | refine jH ?_ | refine jI ?_ | refine jJ ?_ | refine jK ?_ | refine jL ?_ | refine jM ?_ | refine jN ?_ | refine jO ?_ | refine jP ?_ | refine jQ ?_ | refine jR ?_ | refine jS (k := ?_) | refine jT (k := ?_)))); (conv => whnf)
  have hsp := flat_split (l := l) (i := l.length - 1) (by omega)
  have hdr : l.drop (l.length - 1 + 1) = [] := List.drop_of_length_le (by omega)
  have hrow7 := (hrow.keep hx05 fun e => hax e.symm).keep hx57 hxm
  have htl : (l.take (l.length - 1)).length = l.length - 1 := by simp
  refine ⟨⟨by rw [htl]; exact hblk5.keep hx57 ham, ⟨(gt l (l.length - 1)).cells ++ R, ?_, ?_, by omega, by unfold maxLen; omega⟩, hmap7, take_dist h.dist _, by omega, fun e he => h.wf e (List.mem_of_mem_take he)⟩, rfl, ?_⟩
  · rw [hsp, hdr] at hrow7
    simpa [flat] using hrow7
  · rw [List.length_append, hR, htl]
    simp [En.cells]
    omega
  · exact Chg.step (hx05.mono fun k _ e => .inl e) hx57 fun k hk _ => .inr (.inl hk)
end
end Fb.Try.QU
