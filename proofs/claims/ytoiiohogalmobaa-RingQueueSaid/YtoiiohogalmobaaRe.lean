/-
  Walks: what is done to a ring and to its row.
-/
import Derived.Test.YtoiiohogalmobaaRd
namespace Fb
open Go Go.Proofs
theorem r_ldnbS {S : Nat → Prop} {w : World} {b o n : Nat} {e : TypeId} {cs vs : List Value} {K : Value → Prop} (h : Blk w b e cs) (hv : (cs.drop o).take n = vs) (hl : vs.length = n) (hs : ¬ S b) (k : K (.agg ⟨vs⟩)) : LoadN ⟨b, o, none⟩ n (Chg S w) K :=
  r_ldn vs hl (fun w' hw i v hi => by
    rw [Addr.add_plain, (h.keep hw hs).cell]
    rw [← hv, List.getElem?_take] at hi
    split at hi
    · rwa [List.getElem?_drop] at hi
    · cases hi) k
end Fb
namespace Fb.Try.RI
open Go Go.Proofs Fb

def cutL (L : List Int) (fr : Nat) (n : Int) : List Int := if (fr : Int) ≤ n ∧ n - fr ≤ L.length then L.take (n - fr).toNat else L
theorem rPush_all {w : World} {L : List Int} {fr room : Nat} {cs : List Value} (h : IsRow w L fr room cs) (z : Int) (hr : room ≤ 1048576) :
    Cal Try.prog 54 ⟨[.agg ⟨cs⟩, .int .i32 z]⟩ w fun v w' => Ext w w' ∧ ∃ cs', v = .tuple ⟨[.agg ⟨cs'⟩, .bool (decide (L.length < room))]⟩ ∧ IsRow w' (if L.length < room then L ++ [z] else L) fr room cs' ∧ (cs' = cs ∨ NewRow w.heap.size cs') := by
  by_cases hl : L.length < room
  · refine r_cal (rPush_ok h z hl hr) ?_
    rintro v w' ⟨hx, cs', rfl, h1, h2⟩
    rw [if_pos hl, decide_eq_true hl]
    exact ⟨hx, cs', rfl, h1, .inr h2⟩
  · refine r_cal (rPush_no h z hl) ?_
    rintro v w' ⟨hx, rfl⟩
    rw [if_neg hl, decide_eq_false hl]
    exact ⟨hx, cs, rfl, h.ext hx, .inl rfl⟩
theorem rCut_all {w : World} {L : List Int} {fr room : Nat} {cs : List Value} (h : IsRow w L fr room cs) (n : Int) (hfr : fr ≤ 4611686018427387904) (hl : L.length ≤ 1048576) :
    Cal Try.prog 56 ⟨[.agg ⟨cs⟩, .int .i64 n]⟩ w fun v w' => Ext w w' ∧ ∃ cs', v = .tuple ⟨[.agg ⟨cs'⟩, .bool (decide ((fr : Int) ≤ n ∧ n - fr ≤ L.length))]⟩ ∧ IsRow w' (cutL L fr n) fr room cs' ∧ (cs' = cs ∨ NewRow w.heap.size cs') := by
  unfold cutL
  by_cases hy : (fr : Int) ≤ n ∧ n - fr ≤ L.length
  · refine r_cal (rCut_ok h n hfr hl hy) ?_
    rintro v w' ⟨hx, cs', rfl, h1, h2⟩
    rw [if_pos hy, decide_eq_true hy]
    exact ⟨hx, cs', rfl, h1, .inr h2⟩
  · refine r_cal (rCut_no h n hfr hl hy) ?_
    rintro v w' ⟨hx, rfl⟩
    rw [if_neg hy, decide_eq_false hy]
    exact ⟨hx, cs, rfl, h.ext hx, .inl rfl⟩
theorem Cut_all {w : World} {b : Nat} {g : Option Nat} {L : List Int} {fr room : Nat} (h : RG w b g L fr room) (n : Int) (hn : -9223372036854775808 ≤ n ∧ n ≤ 9223372036854775807) (hfr : fr ≤ 4611686018427387904) :
    Cal Try.prog 31 ⟨[.pointer (some ⟨b, 0, none⟩), .int .i64 n]⟩ w fun v w' => v = .bool (decide ((fr : Int) ≤ n ∧ n - fr ≤ L.length)) ∧ RG w' b g (cutL L fr n) fr room ∧ Chg (fun k => k = b ∨ g = some k) w w' := by
  unfold cutL
  by_cases hy : (fr : Int) ≤ n ∧ n - fr ≤ L.length
  · refine r_cal (Cut_ok h n hn hfr hy) ?_
    rintro v w' ⟨rfl, h1, h2⟩
    rw [if_pos hy, decide_eq_true hy]
    exact ⟨rfl, h1, h2⟩
  · refine r_cal (Cut_no h n hn hfr hy) ?_
    rintro v w' ⟨hx, rfl⟩
    rw [if_neg hy, decide_eq_false hy]
    exact ⟨rfl, h.ext hx, hx.wide _⟩

/-- What may change while a ring is told something. -/
def DS (b : Nat) (g : Option Nat) (c : Nat) : Nat → Prop := fun k => k = b ∨ g = some k ∨ k = c
def RS (b : Nat) (g : Option Nat) : Nat → Prop := fun k => k = b ∨ g = some k
theorem RS_no {w : World} {b : Nat} {g : Option Nat} {L : List Int} {fr room : Nat} (h : RG w b g L fr room) {k : Nat} (hk : w.heap.size ≤ k) : ¬ RS b g k := by
  have h1 := h.lt
  rintro (rfl | hg)
  · omega
  · have := h1.2 _ hg; omega
theorem DS_no {w : World} {b : Nat} {g : Option Nat} {L : List Int} {fr room : Nat} (h : RG w b g L fr room) {c k : Nat} (hk : w.heap.size ≤ k) (hc : k ≠ c) : ¬ DS b g c k := by
  rintro (e | e | e)
  · exact RS_no h hk (.inl e)
  · exact RS_no h hk (.inr e)
  · exact hc e
theorem DS_RS {w : World} {b : Nat} {g : Option Nat} {c k : Nat} (h : DS b g c k) (hc : w.heap.size ≤ c) (hk : k < w.heap.size) : RS b g k := by
  rcases h with e | e | e
  · exact .inl e
  · exact .inr e
  · omega
theorem off_DS {w : World} {b : Nat} {g : Option Nat} {L L0 : List Int} {fr fr0 room room0 : Nat} {cs cs' : List Value} (h : RG w b g L fr room) (hr : IsRow w L0 fr0 room0 cs) (ho : Off (RS b g) cs) {n c : Nat} (hcs : cs' = cs ∨ NewRow n cs') (hc : w.heap.size ≤ c ∧ c < n) : Off (DS b g c) cs' := by
  rcases hcs with rfl | hn
  · intro a len cap hm hp hs
    rcases hs with e | e | e
    · exact ho a len cap hm hp (.inl e)
    · exact ho a len cap hm hp (.inr e)
    · obtain ⟨a', len', cap', rfl, hv⟩ := hr
      simp [rowCells] at hm
      obtain ⟨rfl, rfl, rfl⟩ := hm
      have hl := view_len hv
      have := hv.lt (by rw [vals_len]; omega)
      omega
  · intro a len cap hm hp hs
    have h1 := hn a len cap hm hp
    exact DS_no h (k := blk a) (c := c) (by omega) (by omega) hs
theorem off_arr {w w1 : World} {b : Nat} {g g' : Option Nat} {L : List Int} {fr room : Nat} {cs : List Value} (hr : IsRow w L fr room cs) (ho : Off (RS b g) cs) (ha : Arr w1 g g') (hs : w.heap.size ≤ w1.heap.size) : Off (RS b g') cs := by
  rcases ha with rfl | ⟨x, rfl, hx⟩
  · exact ho
  · intro a len cap hm hp hs
    rcases hs with e | e
    · exact ho a len cap hm hp (.inl e)
    · obtain ⟨a', len', cap', rfl, hv⟩ := hr
      simp [rowCells] at hm
      obtain ⟨rfl, rfl, rfl⟩ := hm
      have hl := view_len hv
      have := hv.lt (by rw [vals_len]; omega)
      simp at e
      omega
theorem DS_off {b c : Nat} {g : Option Nat} {cs : List Value} (h : Off (DS b g c) cs) : Off (RS b g) cs := h.mono fun k hk => by
  rcases hk with e | e
  · exact .inl e
  · exact .inr (.inl e)

/-- Told, and answered alike. -/
def Done (w : World) (b : Nat) (g : Option Nat) (fr room : Nat) (cs : List Value) (v : Value) (w' : World) : Prop :=
  ∃ L' fr' g' cs', v = .tuple ⟨[.agg ⟨cs'⟩, .bool true]⟩ ∧ RG w' b g' L' fr' room ∧ IsRow w' L' fr' room cs' ∧ Off (RS b g') cs' ∧ Arr w g g' ∧ Chg (RS b g) w w' ∧ fr' ≤ fr + 1 ∧ (cs' = cs ∨ NewRow w.heap.size cs')
theorem IsRow.cells {w : World} {L : List Int} {fr room : Nat} {cs : List Value} (h : IsRow w L fr room cs) : ∃ a len cap, cs = rowCells a len cap fr room := by
  obtain ⟨a, len, cap, rfl, _⟩ := h
  exact ⟨a, len, cap, rfl⟩
theorem Arr.mono {w w' : World} {g g' : Option Nat} (h : Arr w' g g') (hs : w.heap.size ≤ w'.heap.size) : Arr w g g' := h.imp id fun ⟨x, e, h⟩ => ⟨x, e, by omega⟩
theorem NewRow.mono {n m : Nat} {cs : List Value} (h : NewRow n cs) (hm : m ≤ n) : NewRow m cs := fun a len cap hx hp => Nat.le_trans hm (h a len cap hx hp)

section
variable {w : World} {b : Nat} {g : Option Nat} {L : List Int} {fr room : Nat} {cs : List Value}
set_option maxRecDepth 100000 in
theorem does0 (h : RG w b g L fr room) (hr : IsRow w L fr room cs) (ho : Off (RS b g) cs) (x n : Int) :
    Cal Try.prog 20 ⟨[.pointer (some ⟨b, 0, none⟩), .agg ⟨cs⟩, .agg ⟨[.int .u8 0, .int .i32 x, .int .i64 n]⟩]⟩ w (Done w b g fr room cs) := by
  have hll := h.len_le
  obtain ⟨a, len, cap, rfl⟩ := hr.cells
  refine go20 (by rfl) ?_
  (repeat ((conv => whnf); (first | with_reducible refine r_tt ?_ | with_reducible refine r_ff ?_ | with_reducible refine r_ntt ?_ | with_reducible refine r_nff ?_ | refine r_need (by omega) ?_ | refine r_i64 (by omega) ?_ | refine r_dect (by omega) ?_ | refine r_decf (by omega) ?_ | refine r_eqt (by omega) ?_ | refine r_eqf (by omega) ?_ | refine r_net (by omega) ?_ | refine r_nef (by omega) ?_ | refine r_u8 (by omega) ?_ | refine r_u64 (by omega) ?_ | refine r_i32 (by omega) ?_ | refine r_u32 (by omega) ?_ | refine r_rem (by omega) ?_ | refine r_quo (by omega) ?_ | refine r_ldb (by assumption) (by rfl) ?_ | refine r_ldbE (by assumption) (by rfl) ?_))); (conv => whnf)
  refine r_new fun b4 w1 hx1 hb1 hs1 hblk4 => ?_
  (repeat ((conv => whnf); (first | with_reducible refine r_tt ?_ | with_reducible refine r_ff ?_ | with_reducible refine r_ntt ?_ | with_reducible refine r_nff ?_ | refine r_need (by omega) ?_ | refine r_i64 (by omega) ?_ | refine r_dect (by omega) ?_ | refine r_decf (by omega) ?_ | refine r_eqt (by omega) ?_ | refine r_eqf (by omega) ?_ | refine r_net (by omega) ?_ | refine r_nef (by omega) ?_ | refine r_u8 (by omega) ?_ | refine r_u64 (by omega) ?_ | refine r_i32 (by omega) ?_ | refine r_u32 (by omega) ?_ | refine r_rem (by omega) ?_ | refine r_quo (by omega) ?_ | refine r_ldb (by assumption) (by rfl) ?_ | refine r_ldbE (by assumption) (by rfl) ?_))); (conv => whnf)
  refine r_new fun b5 w2 hx2 hb2 hs2 hblk5 => ?_
  (repeat ((conv => whnf); (first | with_reducible refine r_tt ?_ | with_reducible refine r_ff ?_ | with_reducible refine r_ntt ?_ | with_reducible refine r_nff ?_ | refine r_need (by omega) ?_ | refine r_i64 (by omega) ?_ | refine r_dect (by omega) ?_ | refine r_decf (by omega) ?_ | refine r_eqt (by omega) ?_ | refine r_eqf (by omega) ?_ | refine r_net (by omega) ?_ | refine r_nef (by omega) ?_ | refine r_u8 (by omega) ?_ | refine r_u64 (by omega) ?_ | refine r_i32 (by omega) ?_ | refine r_u32 (by omega) ?_ | refine r_rem (by omega) ?_ | refine r_quo (by omega) ?_ | refine r_ldb (by assumption) (by rfl) ?_ | refine r_ldbE (by assumption) (by rfl) ?_))); (conv => whnf)
  have hl52 := hblk5.lt
  refine r_new fun b6 w3 hx3 hb3 hs3 hblk6 => ?_
  have hblk4 : Blk w3 b4 37 (rowCells a len cap fr room) := (hblk4.ext hx2).ext hx3
  have hblk5 : Blk w3 b5 39 [.int .u8 0, .int .i32 x, .int .i64 n] := hblk5.ext hx3
  have hx03 := (hx1.trans hx2).trans hx3
  (repeat ((conv => whnf); (first | with_reducible refine r_tt ?_ | with_reducible refine r_ff ?_ | with_reducible refine r_ntt ?_ | with_reducible refine r_nff ?_ | refine r_need (by omega) ?_ | refine r_i64 (by omega) ?_ | refine r_dect (by omega) ?_ | refine r_decf (by omega) ?_ | refine r_eqt (by omega) ?_ | refine r_eqf (by omega) ?_ | refine r_net (by omega) ?_ | refine r_nef (by omega) ?_ | refine r_u8 (by omega) ?_ | refine r_u64 (by omega) ?_ | refine r_i32 (by omega) ?_ | refine r_u32 (by omega) ?_ | refine r_rem (by omega) ?_ | refine r_quo (by omega) ?_ | refine r_ldb (by assumption) (by rfl) ?_ | refine r_ldbE (by assumption) (by rfl) ?_))); (conv => whnf)
  refine r_ldnb (vs := rowCells a len cap fr room) hblk4 rfl rfl ?_
  (repeat ((conv => whnf); (first | with_reducible refine r_tt ?_ | with_reducible refine r_ff ?_ | with_reducible refine r_ntt ?_ | with_reducible refine r_nff ?_ | refine r_need (by omega) ?_ | refine r_i64 (by omega) ?_ | refine r_dect (by omega) ?_ | refine r_decf (by omega) ?_ | refine r_eqt (by omega) ?_ | refine r_eqf (by omega) ?_ | refine r_net (by omega) ?_ | refine r_nef (by omega) ?_ | refine r_u8 (by omega) ?_ | refine r_u64 (by omega) ?_ | refine r_i32 (by omega) ?_ | refine r_u32 (by omega) ?_ | refine r_rem (by omega) ?_ | refine r_quo (by omega) ?_ | refine r_ldb (by assumption) (by rfl) ?_ | refine r_ldbE (by assumption) (by rfl) ?_))); (conv => whnf)
  refine r_cal (rPush_all (hr.ext hx03) x (by omega)) ?_
  rintro _ w4 ⟨hx4, cs', rfl, hr4, hn4⟩
  have hl4 := hblk4.lt
  have hl5 := hblk5.lt
  have hl6 := hblk6.lt
  have hoD : Off (DS b g b6) cs' := off_DS h hr ho hn4 (by have := hx1.size; have := hx2.size; omega)
  obtain ⟨a', len', cap', rfl⟩ := hr4.cells
  (repeat ((conv => whnf); (first | with_reducible refine r_tt ?_ | with_reducible refine r_ff ?_ | with_reducible refine r_ntt ?_ | with_reducible refine r_nff ?_ | refine r_need (by omega) ?_ | refine r_i64 (by omega) ?_ | refine r_dect (by omega) ?_ | refine r_decf (by omega) ?_ | refine r_eqt (by omega) ?_ | refine r_eqf (by omega) ?_ | refine r_net (by omega) ?_ | refine r_nef (by omega) ?_ | refine r_u8 (by omega) ?_ | refine r_u64 (by omega) ?_ | refine r_i32 (by omega) ?_ | refine r_u32 (by omega) ?_ | refine r_rem (by omega) ?_ | refine r_quo (by omega) ?_ | refine r_ldb (by assumption) (by rfl) ?_ | refine r_ldbE (by assumption) (by rfl) ?_))); (conv => whnf)
  refine r_new fun b8 w5 hx5 hb5 hs5 hblk8 => ?_
  have hs4 := hx4.size
  have hs03 := hx03.size
  have hs01 := hx1.size
  have hs02 := hx2.size
  (repeat ((conv => whnf); (first | with_reducible refine r_tt ?_ | with_reducible refine r_ff ?_ | with_reducible refine r_ntt ?_ | with_reducible refine r_nff ?_ | refine r_need (by omega) ?_ | refine r_i64 (by omega) ?_ | refine r_dect (by omega) ?_ | refine r_decf (by omega) ?_ | refine r_eqt (by omega) ?_ | refine r_eqf (by omega) ?_ | refine r_net (by omega) ?_ | refine r_nef (by omega) ?_ | refine r_u8 (by omega) ?_ | refine r_u64 (by omega) ?_ | refine r_i32 (by omega) ?_ | refine r_u32 (by omega) ?_ | refine r_rem (by omega) ?_ | refine r_quo (by omega) ?_ | refine r_ldb (by assumption) (by rfl) ?_ | refine r_ldbE (by assumption) (by rfl) ?_))); (conv => whnf)
  refine r_stn hblk8 (by simp [rowCells]) (row_one _ _ _ _ _) fun w6 hc6 hs6 hblk8 => ?_
  have hblk8 : Blk w6 b8 37 (rowCells a' len' cap' fr room) := hblk8
  have hx06 : Ext w w6 := Chg.step ((hx03.trans hx4).trans hx5) hc6 fun k hk hlt => by have := hx03.size; omega
  have hx36 : Ext w3 w6 := Chg.step (hx4.trans hx5) hc6 fun k hk hlt => by omega
  have hx46 : Ext w4 w6 := Chg.step hx5 hc6 fun k hk hlt => by omega
  have hblk5 := hblk5.ext hx36
  have hblk6 := hblk6.ext hx36
  have hr6 := hr4.ext hx46
  (repeat ((conv => whnf); (first | with_reducible refine r_tt ?_ | with_reducible refine r_ff ?_ | with_reducible refine r_ntt ?_ | with_reducible refine r_nff ?_ | refine r_need (by omega) ?_ | refine r_i64 (by omega) ?_ | refine r_dect (by omega) ?_ | refine r_decf (by omega) ?_ | refine r_eqt (by omega) ?_ | refine r_eqf (by omega) ?_ | refine r_net (by omega) ?_ | refine r_nef (by omega) ?_ | refine r_u8 (by omega) ?_ | refine r_u64 (by omega) ?_ | refine r_i32 (by omega) ?_ | refine r_u32 (by omega) ?_ | refine r_rem (by omega) ?_ | refine r_quo (by omega) ?_ | refine r_ldb (by assumption) (by rfl) ?_ | refine r_ldbE (by assumption) (by rfl) ?_))); (conv => whnf)
  refine r_drawS (DS b g b6) fun w7 hx7 hh7 => ?_
  have hn8 : ¬ DS b g b6 b8 := DS_no h (by have := hx03.size; omega) (by omega)
  have hn5 : ¬ DS b g b6 b5 := DS_no h (by have := hx1.size; omega) (by omega)
  (repeat ((conv => whnf); (first | refine r_ldbS hblk5 (by rfl) hn5 ?_ | refine r_ldnbS (vs := rowCells a' len' cap' fr room) hblk8 rfl rfl hn8 ?_ | with_reducible refine r_tt ?_ | with_reducible refine r_ff ?_ | with_reducible refine r_ntt ?_ | with_reducible refine r_nff ?_ | refine r_need (by omega) ?_ | refine r_i64 (by omega) ?_ | refine r_dect (by omega) ?_ | refine r_decf (by omega) ?_ | refine r_eqt (by omega) ?_ | refine r_eqf (by omega) ?_ | refine r_net (by omega) ?_ | refine r_nef (by omega) ?_ | refine r_u8 (by omega) ?_ | refine r_u64 (by omega) ?_ | refine r_i32 (by omega) ?_ | refine r_u32 (by omega) ?_ | refine r_rem (by omega) ?_ | refine r_quo (by omega) ?_ | refine r_ldb (by assumption) (by rfl) ?_ | refine r_ldbE (by assumption) (by rfl) ?_))); (conv => whnf)
  have h7 : RG w7 b g L fr room := h.ext (hx06.trans hx7)
  refine r_cal (Push_ok h7 x) ?_
  rintro _ w8 ⟨g', rfl, h8, ha8, hc8⟩
  have hc8 : Chg (RS b g) w7 w8 := hc8
  have hc68 : Chg (DS b g b6) w6 w8 := Chg.step (hx7.wide _) hc8 fun k hk _ => hk.elim .inl fun e => .inr (.inl e)
  (repeat ((conv => whnf); (first | with_reducible refine r_tt ?_ | with_reducible refine r_ff ?_ | with_reducible refine r_ntt ?_ | with_reducible refine r_nff ?_ | refine r_need (by omega) ?_ | refine r_i64 (by omega) ?_ | refine r_dect (by omega) ?_ | refine r_decf (by omega) ?_ | refine r_eqt (by omega) ?_ | refine r_eqf (by omega) ?_ | refine r_net (by omega) ?_ | refine r_nef (by omega) ?_ | refine r_u8 (by omega) ?_ | refine r_u64 (by omega) ?_ | refine r_i32 (by omega) ?_ | refine r_u32 (by omega) ?_ | refine r_rem (by omega) ?_ | refine r_quo (by omega) ?_ | refine r_ldb (by assumption) (by rfl) ?_ | refine r_ldbE (by assumption) (by rfl) ?_))); (conv => whnf)
  refine r_held hc68 ?_
  (repeat ((conv => whnf); (first | with_reducible refine r_tt ?_ | with_reducible refine r_ff ?_ | with_reducible refine r_ntt ?_ | with_reducible refine r_nff ?_ | refine r_need (by omega) ?_ | refine r_i64 (by omega) ?_ | refine r_dect (by omega) ?_ | refine r_decf (by omega) ?_ | refine r_eqt (by omega) ?_ | refine r_eqf (by omega) ?_ | refine r_net (by omega) ?_ | refine r_nef (by omega) ?_ | refine r_u8 (by omega) ?_ | refine r_u64 (by omega) ?_ | refine r_i32 (by omega) ?_ | refine r_u32 (by omega) ?_ | refine r_rem (by omega) ?_ | refine r_quo (by omega) ?_ | refine r_ldb (by assumption) (by rfl) ?_ | refine r_ldbE (by assumption) (by rfl) ?_))); (conv => whnf)
  have hn6 : ¬ RS b g b6 := RS_no h (by omega)
  refine r_stn ((hblk6.ext hx7).keep hc8 hn6) (by simp [rowCells]) (row_one _ _ _ _ _) fun w9 hc9 hs9 hblk9 => ?_
  have hblk9 : Blk w9 b6 37 (rowCells a' len' cap' fr room) := hblk9
  have hc69 : Chg (DS b g b6) w6 w9 := Chg.step hc68 hc9 fun k hk _ => .inr (.inr hk)
  (repeat ((conv => whnf); (first | with_reducible refine r_tt ?_ | with_reducible refine r_ff ?_ | with_reducible refine r_ntt ?_ | with_reducible refine r_nff ?_ | refine r_need (by omega) ?_ | refine r_i64 (by omega) ?_ | refine r_dect (by omega) ?_ | refine r_decf (by omega) ?_ | refine r_eqt (by omega) ?_ | refine r_eqf (by omega) ?_ | refine r_net (by omega) ?_ | refine r_nef (by omega) ?_ | refine r_u8 (by omega) ?_ | refine r_u64 (by omega) ?_ | refine r_i32 (by omega) ?_ | refine r_u32 (by omega) ?_ | refine r_rem (by omega) ?_ | refine r_quo (by omega) ?_ | refine r_ldb (by assumption) (by rfl) ?_ | refine r_ldbE (by assumption) (by rfl) ?_))); (conv => whnf)
  refine r_held hc69 ?_
  (repeat ((conv => whnf); (first | with_reducible refine r_tt ?_ | with_reducible refine r_ff ?_ | with_reducible refine r_ntt ?_ | with_reducible refine r_nff ?_ | refine r_need (by omega) ?_ | refine r_i64 (by omega) ?_ | refine r_dect (by omega) ?_ | refine r_decf (by omega) ?_ | refine r_eqt (by omega) ?_ | refine r_eqf (by omega) ?_ | refine r_net (by omega) ?_ | refine r_nef (by omega) ?_ | refine r_u8 (by omega) ?_ | refine r_u64 (by omega) ?_ | refine r_i32 (by omega) ?_ | refine r_u32 (by omega) ?_ | refine r_rem (by omega) ?_ | refine r_quo (by omega) ?_ | refine r_ldb (by assumption) (by rfl) ?_ | refine r_ldbE (by assumption) (by rfl) ?_))); (conv => whnf)
  refine r_ldnb (vs := rowCells a' len' cap' fr room) hblk9 rfl rfl ?_
  (repeat ((conv => whnf); (first | with_reducible refine r_tt ?_ | with_reducible refine r_ff ?_ | with_reducible refine r_ntt ?_ | with_reducible refine r_nff ?_ | refine r_need (by omega) ?_ | refine r_i64 (by omega) ?_ | refine r_dect (by omega) ?_ | refine r_decf (by omega) ?_ | refine r_eqt (by omega) ?_ | refine r_eqf (by omega) ?_ | refine r_net (by omega) ?_ | refine r_nef (by omega) ?_ | refine r_u8 (by omega) ?_ | refine r_u64 (by omega) ?_ | refine r_i32 (by omega) ?_ | refine r_u32 (by omega) ?_ | refine r_rem (by omega) ?_ | refine r_quo (by omega) ?_ | refine r_ldb (by assumption) (by rfl) ?_ | refine r_ldbE (by assumption) (by rfl) ?_))); (conv => whnf)
  refine ⟨_, fr, g', _, by simp, h8.keep hc9 (by have := h.lt.1; omega) (fun y hy e => ?_), hr6.keep hc69 hoD, off_arr hr6 (DS_off hoD) ha8 hx7.size, ha8.mono (by have := hx06.size; have := hx7.size; omega), Chg.step (hx06.wide _) hc69 fun k hk hlt => DS_RS hk (by omega) hlt, by omega, hn4.imp id fun e => e.mono (by omega)⟩
  have := hx7.size
  have := hx46.size
  rcases ha8 with rfl | ⟨z, e1, e2⟩
  · have := h.lt.2 y hy; omega
  · rw [e1] at hy; cases hy; omega

set_option maxRecDepth 100000 in
theorem does4 (h : RG w b g L fr room) (hr : IsRow w L fr room cs) (ho : Off (RS b g) cs) (x n : Int) (hn : -9223372036854775808 ≤ n ∧ n ≤ 9223372036854775807) (hfr : fr ≤ 4611686018427387904) :
    Cal Try.prog 20 ⟨[.pointer (some ⟨b, 0, none⟩), .agg ⟨cs⟩, .agg ⟨[.int .u8 4, .int .i32 x, .int .i64 n]⟩]⟩ w (Done w b g fr room cs) := by
  have hll := h.len_le
  rw [encs_len] at hll
  obtain ⟨a, len, cap, rfl⟩ := hr.cells
  refine go20 (by rfl) ?_
  (repeat ((conv => whnf); (first | with_reducible refine r_tt ?_ | with_reducible refine r_ff ?_ | with_reducible refine r_ntt ?_ | with_reducible refine r_nff ?_ | refine r_need (by omega) ?_ | refine r_i64 (by omega) ?_ | refine r_dect (by omega) ?_ | refine r_decf (by omega) ?_ | refine r_eqt (by omega) ?_ | refine r_eqf (by omega) ?_ | refine r_net (by omega) ?_ | refine r_nef (by omega) ?_ | refine r_u8 (by omega) ?_ | refine r_u64 (by omega) ?_ | refine r_i32 (by omega) ?_ | refine r_u32 (by omega) ?_ | refine r_rem (by omega) ?_ | refine r_quo (by omega) ?_ | refine r_ldb (by assumption) (by rfl) ?_ | refine r_ldbE (by assumption) (by rfl) ?_))); (conv => whnf)
  refine r_new fun b4 w1 hx1 hb1 hs1 hblk4 => ?_
  (repeat ((conv => whnf); (first | with_reducible refine r_tt ?_ | with_reducible refine r_ff ?_ | with_reducible refine r_ntt ?_ | with_reducible refine r_nff ?_ | refine r_need (by omega) ?_ | refine r_i64 (by omega) ?_ | refine r_dect (by omega) ?_ | refine r_decf (by omega) ?_ | refine r_eqt (by omega) ?_ | refine r_eqf (by omega) ?_ | refine r_net (by omega) ?_ | refine r_nef (by omega) ?_ | refine r_u8 (by omega) ?_ | refine r_u64 (by omega) ?_ | refine r_i32 (by omega) ?_ | refine r_u32 (by omega) ?_ | refine r_rem (by omega) ?_ | refine r_quo (by omega) ?_ | refine r_ldb (by assumption) (by rfl) ?_ | refine r_ldbE (by assumption) (by rfl) ?_))); (conv => whnf)
  refine r_new fun b5 w2 hx2 hb2 hs2 hblk5 => ?_
  have hl42 := (hblk4.ext hx2).lt
  have hl52 := hblk5.lt
  (repeat ((conv => whnf); (first | with_reducible refine r_tt ?_ | with_reducible refine r_ff ?_ | with_reducible refine r_ntt ?_ | with_reducible refine r_nff ?_ | refine r_need (by omega) ?_ | refine r_i64 (by omega) ?_ | refine r_dect (by omega) ?_ | refine r_decf (by omega) ?_ | refine r_eqt (by omega) ?_ | refine r_eqf (by omega) ?_ | refine r_net (by omega) ?_ | refine r_nef (by omega) ?_ | refine r_u8 (by omega) ?_ | refine r_u64 (by omega) ?_ | refine r_i32 (by omega) ?_ | refine r_u32 (by omega) ?_ | refine r_rem (by omega) ?_ | refine r_quo (by omega) ?_ | refine r_ldb (by assumption) (by rfl) ?_ | refine r_ldbE (by assumption) (by rfl) ?_))); (conv => whnf)
  refine r_new fun b6 w3 hx3 hb3 hs3 hblk6 => ?_
  have hblk4 : Blk w3 b4 37 (rowCells a len cap fr room) := (hblk4.ext hx2).ext hx3
  have hblk5 : Blk w3 b5 39 [.int .u8 4, .int .i32 x, .int .i64 n] := hblk5.ext hx3
  have hx03 := (hx1.trans hx2).trans hx3
  have hs03 := hx03.size
  have hs01 := hx1.size
  have hs02 := hx2.size
  have hl6 := hblk6.lt
  have h3 := h.ext hx03
  have hr3 := hr.ext hx03
  (repeat ((conv => whnf); (first | with_reducible refine r_tt ?_ | with_reducible refine r_ff ?_ | with_reducible refine r_ntt ?_ | with_reducible refine r_nff ?_ | refine r_need (by omega) ?_ | refine r_i64 (by omega) ?_ | refine r_dect (by omega) ?_ | refine r_decf (by omega) ?_ | refine r_eqt (by omega) ?_ | refine r_eqf (by omega) ?_ | refine r_net (by omega) ?_ | refine r_nef (by omega) ?_ | refine r_u8 (by omega) ?_ | refine r_u64 (by omega) ?_ | refine r_i32 (by omega) ?_ | refine r_u32 (by omega) ?_ | refine r_rem (by omega) ?_ | refine r_quo (by omega) ?_ | refine r_ldb (by assumption) (by rfl) ?_ | refine r_ldbE (by assumption) (by rfl) ?_))); (conv => whnf)
  refine r_ldnb (vs := rowCells a len cap fr room) hblk4 rfl rfl ?_
  (repeat ((conv => whnf); (first | with_reducible refine r_tt ?_ | with_reducible refine r_ff ?_ | with_reducible refine r_ntt ?_ | with_reducible refine r_nff ?_ | refine r_need (by omega) ?_ | refine r_i64 (by omega) ?_ | refine r_dect (by omega) ?_ | refine r_decf (by omega) ?_ | refine r_eqt (by omega) ?_ | refine r_eqf (by omega) ?_ | refine r_net (by omega) ?_ | refine r_nef (by omega) ?_ | refine r_u8 (by omega) ?_ | refine r_u64 (by omega) ?_ | refine r_i32 (by omega) ?_ | refine r_u32 (by omega) ?_ | refine r_rem (by omega) ?_ | refine r_quo (by omega) ?_ | refine r_ldb (by assumption) (by rfl) ?_ | refine r_ldbE (by assumption) (by rfl) ?_))); (conv => whnf)
  refine r_cal (rCut_all hr3 n hfr (by omega)) ?_
  rintro _ w4 ⟨hx4, cs', rfl, hr4, hn4⟩
  have hl4 := hblk4.lt
  have hl5 := hblk5.lt
  have hoD : Off (DS b g b6) cs' := off_DS h hr ho hn4 (by have := hx1.size; have := hx2.size; omega)
  obtain ⟨a', len', cap', rfl⟩ := hr4.cells
  (repeat ((conv => whnf); (first | with_reducible refine r_tt ?_ | with_reducible refine r_ff ?_ | with_reducible refine r_ntt ?_ | with_reducible refine r_nff ?_ | refine r_need (by omega) ?_ | refine r_i64 (by omega) ?_ | refine r_dect (by omega) ?_ | refine r_decf (by omega) ?_ | refine r_eqt (by omega) ?_ | refine r_eqf (by omega) ?_ | refine r_net (by omega) ?_ | refine r_nef (by omega) ?_ | refine r_u8 (by omega) ?_ | refine r_u64 (by omega) ?_ | refine r_i32 (by omega) ?_ | refine r_u32 (by omega) ?_ | refine r_rem (by omega) ?_ | refine r_quo (by omega) ?_ | refine r_ldb (by assumption) (by rfl) ?_ | refine r_ldbE (by assumption) (by rfl) ?_))); (conv => whnf)
  refine r_new fun b8 w5 hx5 hb5 hs5 hblk8 => ?_
  have hs4 := hx4.size
  have hs03 := hx03.size
  have hs01 := hx1.size
  have hs02 := hx2.size
  (repeat ((conv => whnf); (first | with_reducible refine r_tt ?_ | with_reducible refine r_ff ?_ | with_reducible refine r_ntt ?_ | with_reducible refine r_nff ?_ | refine r_need (by omega) ?_ | refine r_i64 (by omega) ?_ | refine r_dect (by omega) ?_ | refine r_decf (by omega) ?_ | refine r_eqt (by omega) ?_ | refine r_eqf (by omega) ?_ | refine r_net (by omega) ?_ | refine r_nef (by omega) ?_ | refine r_u8 (by omega) ?_ | refine r_u64 (by omega) ?_ | refine r_i32 (by omega) ?_ | refine r_u32 (by omega) ?_ | refine r_rem (by omega) ?_ | refine r_quo (by omega) ?_ | refine r_ldb (by assumption) (by rfl) ?_ | refine r_ldbE (by assumption) (by rfl) ?_))); (conv => whnf)
  refine r_stn hblk8 (by simp [rowCells]) (row_one _ _ _ _ _) fun w6 hc6 hs6 hblk8 => ?_
  have hblk8 : Blk w6 b8 37 (rowCells a' len' cap' fr room) := hblk8
  have hx06 : Ext w w6 := Chg.step ((hx03.trans hx4).trans hx5) hc6 fun k hk hlt => by have := hx03.size; omega
  have hx36 : Ext w3 w6 := Chg.step (hx4.trans hx5) hc6 fun k hk hlt => by omega
  have hx46 : Ext w4 w6 := Chg.step hx5 hc6 fun k hk hlt => by omega
  have hblk5 := hblk5.ext hx36
  have hblk6 := hblk6.ext hx36
  have hr6 := hr4.ext hx46
  (repeat ((conv => whnf); (first | with_reducible refine r_tt ?_ | with_reducible refine r_ff ?_ | with_reducible refine r_ntt ?_ | with_reducible refine r_nff ?_ | refine r_need (by omega) ?_ | refine r_i64 (by omega) ?_ | refine r_dect (by omega) ?_ | refine r_decf (by omega) ?_ | refine r_eqt (by omega) ?_ | refine r_eqf (by omega) ?_ | refine r_net (by omega) ?_ | refine r_nef (by omega) ?_ | refine r_u8 (by omega) ?_ | refine r_u64 (by omega) ?_ | refine r_i32 (by omega) ?_ | refine r_u32 (by omega) ?_ | refine r_rem (by omega) ?_ | refine r_quo (by omega) ?_ | refine r_ldb (by assumption) (by rfl) ?_ | refine r_ldbE (by assumption) (by rfl) ?_))); (conv => whnf)
  refine r_drawS (DS b g b6) fun w7 hx7 hh7 => ?_
  have hn8 : ¬ DS b g b6 b8 := DS_no h (by have := hx03.size; omega) (by omega)
  have hn5 : ¬ DS b g b6 b5 := DS_no h (by have := hx1.size; omega) (by omega)
  (repeat ((conv => whnf); (first | refine r_ldbS hblk5 (by rfl) hn5 ?_ | refine r_ldnbS (vs := rowCells a' len' cap' fr room) hblk8 rfl rfl hn8 ?_ | with_reducible refine r_tt ?_ | with_reducible refine r_ff ?_ | with_reducible refine r_ntt ?_ | with_reducible refine r_nff ?_ | refine r_need (by omega) ?_ | refine r_i64 (by omega) ?_ | refine r_dect (by omega) ?_ | refine r_decf (by omega) ?_ | refine r_eqt (by omega) ?_ | refine r_eqf (by omega) ?_ | refine r_net (by omega) ?_ | refine r_nef (by omega) ?_ | refine r_u8 (by omega) ?_ | refine r_u64 (by omega) ?_ | refine r_i32 (by omega) ?_ | refine r_u32 (by omega) ?_ | refine r_rem (by omega) ?_ | refine r_quo (by omega) ?_ | refine r_ldb (by assumption) (by rfl) ?_ | refine r_ldbE (by assumption) (by rfl) ?_))); (conv => whnf)
  have h7 : RG w7 b g L fr room := h.ext (hx06.trans hx7)
  refine r_cal (Cut_all h7 n hn hfr) ?_
  rintro _ w8 ⟨rfl, h8, hc8⟩
  have ha8 : Arr w7 g g := .inl rfl
  have hc8 : Chg (RS b g) w7 w8 := hc8
  have hc68 : Chg (DS b g b6) w6 w8 := Chg.step (hx7.wide _) hc8 fun k hk _ => hk.elim .inl fun e => .inr (.inl e)
  (repeat ((conv => whnf); (first | with_reducible refine r_tt ?_ | with_reducible refine r_ff ?_ | with_reducible refine r_ntt ?_ | with_reducible refine r_nff ?_ | refine r_need (by omega) ?_ | refine r_i64 (by omega) ?_ | refine r_dect (by omega) ?_ | refine r_decf (by omega) ?_ | refine r_eqt (by omega) ?_ | refine r_eqf (by omega) ?_ | refine r_net (by omega) ?_ | refine r_nef (by omega) ?_ | refine r_u8 (by omega) ?_ | refine r_u64 (by omega) ?_ | refine r_i32 (by omega) ?_ | refine r_u32 (by omega) ?_ | refine r_rem (by omega) ?_ | refine r_quo (by omega) ?_ | refine r_ldb (by assumption) (by rfl) ?_ | refine r_ldbE (by assumption) (by rfl) ?_))); (conv => whnf)
  refine r_held hc68 ?_
  (repeat ((conv => whnf); (first | with_reducible refine r_tt ?_ | with_reducible refine r_ff ?_ | with_reducible refine r_ntt ?_ | with_reducible refine r_nff ?_ | refine r_need (by omega) ?_ | refine r_i64 (by omega) ?_ | refine r_dect (by omega) ?_ | refine r_decf (by omega) ?_ | refine r_eqt (by omega) ?_ | refine r_eqf (by omega) ?_ | refine r_net (by omega) ?_ | refine r_nef (by omega) ?_ | refine r_u8 (by omega) ?_ | refine r_u64 (by omega) ?_ | refine r_i32 (by omega) ?_ | refine r_u32 (by omega) ?_ | refine r_rem (by omega) ?_ | refine r_quo (by omega) ?_ | refine r_ldb (by assumption) (by rfl) ?_ | refine r_ldbE (by assumption) (by rfl) ?_))); (conv => whnf)
  have hn6 : ¬ RS b g b6 := RS_no h (by omega)
  refine r_stn ((hblk6.ext hx7).keep hc8 hn6) (by simp [rowCells]) (row_one _ _ _ _ _) fun w9 hc9 hs9 hblk9 => ?_
  have hblk9 : Blk w9 b6 37 (rowCells a' len' cap' fr room) := hblk9
  have hc69 : Chg (DS b g b6) w6 w9 := Chg.step hc68 hc9 fun k hk _ => .inr (.inr hk)
  (repeat ((conv => whnf); (first | with_reducible refine r_tt ?_ | with_reducible refine r_ff ?_ | with_reducible refine r_ntt ?_ | with_reducible refine r_nff ?_ | refine r_need (by omega) ?_ | refine r_i64 (by omega) ?_ | refine r_dect (by omega) ?_ | refine r_decf (by omega) ?_ | refine r_eqt (by omega) ?_ | refine r_eqf (by omega) ?_ | refine r_net (by omega) ?_ | refine r_nef (by omega) ?_ | refine r_u8 (by omega) ?_ | refine r_u64 (by omega) ?_ | refine r_i32 (by omega) ?_ | refine r_u32 (by omega) ?_ | refine r_rem (by omega) ?_ | refine r_quo (by omega) ?_ | refine r_ldb (by assumption) (by rfl) ?_ | refine r_ldbE (by assumption) (by rfl) ?_))); (conv => whnf)
  refine r_held hc69 ?_
  (repeat ((conv => whnf); (first | with_reducible refine r_tt ?_ | with_reducible refine r_ff ?_ | with_reducible refine r_ntt ?_ | with_reducible refine r_nff ?_ | refine r_need (by omega) ?_ | refine r_i64 (by omega) ?_ | refine r_dect (by omega) ?_ | refine r_decf (by omega) ?_ | refine r_eqt (by omega) ?_ | refine r_eqf (by omega) ?_ | refine r_net (by omega) ?_ | refine r_nef (by omega) ?_ | refine r_u8 (by omega) ?_ | refine r_u64 (by omega) ?_ | refine r_i32 (by omega) ?_ | refine r_u32 (by omega) ?_ | refine r_rem (by omega) ?_ | refine r_quo (by omega) ?_ | refine r_ldb (by assumption) (by rfl) ?_ | refine r_ldbE (by assumption) (by rfl) ?_))); (conv => whnf)
  refine r_ldnb (vs := rowCells a' len' cap' fr room) hblk9 rfl rfl ?_
  (repeat ((conv => whnf); (first | with_reducible refine r_tt ?_ | with_reducible refine r_ff ?_ | with_reducible refine r_ntt ?_ | with_reducible refine r_nff ?_ | refine r_need (by omega) ?_ | refine r_i64 (by omega) ?_ | refine r_dect (by omega) ?_ | refine r_decf (by omega) ?_ | refine r_eqt (by omega) ?_ | refine r_eqf (by omega) ?_ | refine r_net (by omega) ?_ | refine r_nef (by omega) ?_ | refine r_u8 (by omega) ?_ | refine r_u64 (by omega) ?_ | refine r_i32 (by omega) ?_ | refine r_u32 (by omega) ?_ | refine r_rem (by omega) ?_ | refine r_quo (by omega) ?_ | refine r_ldb (by assumption) (by rfl) ?_ | refine r_ldbE (by assumption) (by rfl) ?_))); (conv => whnf)
  refine ⟨_, fr, g, _, by simp, h8.keep hc9 (by have := h.lt.1; omega) (fun y hy e => ?_), hr6.keep hc69 hoD, off_arr hr6 (DS_off hoD) ha8 hx7.size, ha8.mono (by have := hx06.size; have := hx7.size; omega), Chg.step (hx06.wide _) hc69 fun k hk hlt => DS_RS hk (by omega) hlt, by omega, hn4.imp id fun e => e.mono (by omega)⟩
  have := hx7.size
  have := hx46.size
  have := h.lt.2 y hy
  omega


set_option maxRecDepth 100000 in
theorem does3 (h : RG w b g L fr room) (hr : IsRow w L fr room cs) (ho : Off (RS b g) cs) (x n : Int) (hn : -9223372036854775808 ≤ n ∧ n ≤ 9223372036854775807) (hfr : fr ≤ 4611686018427387904) :
    Cal Try.prog 20 ⟨[.pointer (some ⟨b, 0, none⟩), .agg ⟨cs⟩, .agg ⟨[.int .u8 3, .int .i32 x, .int .i64 n]⟩]⟩ w (Done w b g fr room cs) := by
  have hll := h.len_le
  rw [encs_len] at hll
  obtain ⟨a, len, cap, rfl⟩ := hr.cells
  refine go20 (by rfl) ?_
  (repeat ((conv => whnf); (first | with_reducible refine r_tt ?_ | with_reducible refine r_ff ?_ | with_reducible refine r_ntt ?_ | with_reducible refine r_nff ?_ | refine r_need (by omega) ?_ | refine r_i64 (by omega) ?_ | refine r_dect (by omega) ?_ | refine r_decf (by omega) ?_ | refine r_eqt (by omega) ?_ | refine r_eqf (by omega) ?_ | refine r_net (by omega) ?_ | refine r_nef (by omega) ?_ | refine r_u8 (by omega) ?_ | refine r_u64 (by omega) ?_ | refine r_i32 (by omega) ?_ | refine r_u32 (by omega) ?_ | refine r_rem (by omega) ?_ | refine r_quo (by omega) ?_ | refine r_ldb (by assumption) (by rfl) ?_ | refine r_ldbE (by assumption) (by rfl) ?_))); (conv => whnf)
  refine r_new fun b4 w1 hx1 hb1 hs1 hblk4 => ?_
  (repeat ((conv => whnf); (first | with_reducible refine r_tt ?_ | with_reducible refine r_ff ?_ | with_reducible refine r_ntt ?_ | with_reducible refine r_nff ?_ | refine r_need (by omega) ?_ | refine r_i64 (by omega) ?_ | refine r_dect (by omega) ?_ | refine r_decf (by omega) ?_ | refine r_eqt (by omega) ?_ | refine r_eqf (by omega) ?_ | refine r_net (by omega) ?_ | refine r_nef (by omega) ?_ | refine r_u8 (by omega) ?_ | refine r_u64 (by omega) ?_ | refine r_i32 (by omega) ?_ | refine r_u32 (by omega) ?_ | refine r_rem (by omega) ?_ | refine r_quo (by omega) ?_ | refine r_ldb (by assumption) (by rfl) ?_ | refine r_ldbE (by assumption) (by rfl) ?_))); (conv => whnf)
  refine r_new fun b5 w2 hx2 hb2 hs2 hblk5 => ?_
  have hl42 := (hblk4.ext hx2).lt
  have hl52 := hblk5.lt
  (repeat ((conv => whnf); (first | with_reducible refine r_tt ?_ | with_reducible refine r_ff ?_ | with_reducible refine r_ntt ?_ | with_reducible refine r_nff ?_ | refine r_need (by omega) ?_ | refine r_i64 (by omega) ?_ | refine r_dect (by omega) ?_ | refine r_decf (by omega) ?_ | refine r_eqt (by omega) ?_ | refine r_eqf (by omega) ?_ | refine r_net (by omega) ?_ | refine r_nef (by omega) ?_ | refine r_u8 (by omega) ?_ | refine r_u64 (by omega) ?_ | refine r_i32 (by omega) ?_ | refine r_u32 (by omega) ?_ | refine r_rem (by omega) ?_ | refine r_quo (by omega) ?_ | refine r_ldb (by assumption) (by rfl) ?_ | refine r_ldbE (by assumption) (by rfl) ?_))); (conv => whnf)
  refine r_new fun b6 w3 hx3 hb3 hs3 hblk6 => ?_
  have hblk4 : Blk w3 b4 37 (rowCells a len cap fr room) := (hblk4.ext hx2).ext hx3
  have hblk5 : Blk w3 b5 39 [.int .u8 3, .int .i32 x, .int .i64 n] := hblk5.ext hx3
  have hx03 := (hx1.trans hx2).trans hx3
  have hs03 := hx03.size
  have hs01 := hx1.size
  have hs02 := hx2.size
  have hl6 := hblk6.lt
  have h3 := h.ext hx03
  have hr3 := hr.ext hx03
  (repeat ((conv => whnf); (first | with_reducible refine r_tt ?_ | with_reducible refine r_ff ?_ | with_reducible refine r_ntt ?_ | with_reducible refine r_nff ?_ | refine r_need (by omega) ?_ | refine r_i64 (by omega) ?_ | refine r_dect (by omega) ?_ | refine r_decf (by omega) ?_ | refine r_eqt (by omega) ?_ | refine r_eqf (by omega) ?_ | refine r_net (by omega) ?_ | refine r_nef (by omega) ?_ | refine r_u8 (by omega) ?_ | refine r_u64 (by omega) ?_ | refine r_i32 (by omega) ?_ | refine r_u32 (by omega) ?_ | refine r_rem (by omega) ?_ | refine r_quo (by omega) ?_ | refine r_ldb (by assumption) (by rfl) ?_ | refine r_ldbE (by assumption) (by rfl) ?_))); (conv => whnf)
  refine r_cal (At_ok h3 n hn hfr) ?_
  rintro _ w4 ⟨hx4, rfl⟩
  have hblk4 := hblk4.ext hx4
  have hblk5 := hblk5.ext hx4
  have hblk6 := hblk6.ext hx4
  have hr4 := hr3.ext hx4
  have h4 := h3.ext hx4
  have hs4 := hx4.size
  have hfin : ∀ w5 w6 : World, Ext w4 w5 → Chg (· = b6) w5 w6 → Done w b g fr room (rowCells a len cap fr room) (.tuple ⟨[.agg ⟨rowCells a len cap fr room⟩, .bool true]⟩) w6 := fun w5 w6 hx5 hc6 => by
    have hx06 : Ext w w6 := Chg.step ((hx03.trans hx4).trans hx5) hc6 fun k hk hlt => by omega
    exact ⟨L, fr, g, _, rfl, h.ext hx06, hr.ext hx06, ho, .inl rfl, hx06.wide _, by omega, .inl rfl⟩
  cases hv : atV L fr n with
  | none =>
    dsimp only [atR]
    (repeat ((conv => whnf); (first | with_reducible refine r_tt ?_ | with_reducible refine r_ff ?_ | with_reducible refine r_ntt ?_ | with_reducible refine r_nff ?_ | refine r_need (by omega) ?_ | refine r_i64 (by omega) ?_ | refine r_dect (by omega) ?_ | refine r_decf (by omega) ?_ | refine r_eqt (by omega) ?_ | refine r_eqf (by omega) ?_ | refine r_net (by omega) ?_ | refine r_nef (by omega) ?_ | refine r_u8 (by omega) ?_ | refine r_u64 (by omega) ?_ | refine r_i32 (by omega) ?_ | refine r_u32 (by omega) ?_ | refine r_rem (by omega) ?_ | refine r_quo (by omega) ?_ | refine r_ldb (by assumption) (by rfl) ?_ | refine r_ldbE (by assumption) (by rfl) ?_))); (conv => whnf)
    refine r_ldnb (vs := rowCells a len cap fr room) hblk4 rfl rfl ?_
    (repeat ((conv => whnf); (first | with_reducible refine r_tt ?_ | with_reducible refine r_ff ?_ | with_reducible refine r_ntt ?_ | with_reducible refine r_nff ?_ | refine r_need (by omega) ?_ | refine r_i64 (by omega) ?_ | refine r_dect (by omega) ?_ | refine r_decf (by omega) ?_ | refine r_eqt (by omega) ?_ | refine r_eqf (by omega) ?_ | refine r_net (by omega) ?_ | refine r_nef (by omega) ?_ | refine r_u8 (by omega) ?_ | refine r_u64 (by omega) ?_ | refine r_i32 (by omega) ?_ | refine r_u32 (by omega) ?_ | refine r_rem (by omega) ?_ | refine r_quo (by omega) ?_ | refine r_ldb (by assumption) (by rfl) ?_ | refine r_ldbE (by assumption) (by rfl) ?_))); (conv => whnf)
    refine r_cal (rAt_ok hr4 n hfr (by omega)) ?_
    rintro _ w5 ⟨hx5, rfl⟩
    rw [hv]
    dsimp only [atR]
    (repeat ((conv => whnf); (first | with_reducible refine r_tt ?_ | with_reducible refine r_ff ?_ | with_reducible refine r_ntt ?_ | with_reducible refine r_nff ?_ | refine r_need (by omega) ?_ | refine r_i64 (by omega) ?_ | refine r_dect (by omega) ?_ | refine r_decf (by omega) ?_ | refine r_eqt (by omega) ?_ | refine r_eqf (by omega) ?_ | refine r_net (by omega) ?_ | refine r_nef (by omega) ?_ | refine r_u8 (by omega) ?_ | refine r_u64 (by omega) ?_ | refine r_i32 (by omega) ?_ | refine r_u32 (by omega) ?_ | refine r_rem (by omega) ?_ | refine r_quo (by omega) ?_ | refine r_ldb (by assumption) (by rfl) ?_ | refine r_ldbE (by assumption) (by rfl) ?_))); (conv => whnf)
    refine r_ldnb (vs := rowCells a len cap fr room) (hblk4.ext hx5) rfl rfl ?_
    (repeat ((conv => whnf); (first | with_reducible refine r_tt ?_ | with_reducible refine r_ff ?_ | with_reducible refine r_ntt ?_ | with_reducible refine r_nff ?_ | refine r_need (by omega) ?_ | refine r_i64 (by omega) ?_ | refine r_dect (by omega) ?_ | refine r_decf (by omega) ?_ | refine r_eqt (by omega) ?_ | refine r_eqf (by omega) ?_ | refine r_net (by omega) ?_ | refine r_nef (by omega) ?_ | refine r_u8 (by omega) ?_ | refine r_u64 (by omega) ?_ | refine r_i32 (by omega) ?_ | refine r_u32 (by omega) ?_ | refine r_rem (by omega) ?_ | refine r_quo (by omega) ?_ | refine r_ldb (by assumption) (by rfl) ?_ | refine r_ldbE (by assumption) (by rfl) ?_))); (conv => whnf)
    refine r_stn (hblk6.ext hx5) (by simp [rowCells]) (row_one _ _ _ _ _) fun w6 hc6 hs6 hblk6 => ?_
    have hblk6 : Blk w6 b6 37 (rowCells a len cap fr room) := hblk6
    (repeat ((conv => whnf); (first | with_reducible refine r_tt ?_ | with_reducible refine r_ff ?_ | with_reducible refine r_ntt ?_ | with_reducible refine r_nff ?_ | refine r_need (by omega) ?_ | refine r_i64 (by omega) ?_ | refine r_dect (by omega) ?_ | refine r_decf (by omega) ?_ | refine r_eqt (by omega) ?_ | refine r_eqf (by omega) ?_ | refine r_net (by omega) ?_ | refine r_nef (by omega) ?_ | refine r_u8 (by omega) ?_ | refine r_u64 (by omega) ?_ | refine r_i32 (by omega) ?_ | refine r_u32 (by omega) ?_ | refine r_rem (by omega) ?_ | refine r_quo (by omega) ?_ | refine r_ldb (by assumption) (by rfl) ?_ | refine r_ldbE (by assumption) (by rfl) ?_))); (conv => whnf)
    refine r_ldnb (vs := rowCells a len cap fr room) hblk6 rfl rfl ?_
    (repeat ((conv => whnf); (first | with_reducible refine r_tt ?_ | with_reducible refine r_ff ?_ | with_reducible refine r_ntt ?_ | with_reducible refine r_nff ?_ | refine r_need (by omega) ?_ | refine r_i64 (by omega) ?_ | refine r_dect (by omega) ?_ | refine r_decf (by omega) ?_ | refine r_eqt (by omega) ?_ | refine r_eqf (by omega) ?_ | refine r_net (by omega) ?_ | refine r_nef (by omega) ?_ | refine r_u8 (by omega) ?_ | refine r_u64 (by omega) ?_ | refine r_i32 (by omega) ?_ | refine r_u32 (by omega) ?_ | refine r_rem (by omega) ?_ | refine r_quo (by omega) ?_ | refine r_ldb (by assumption) (by rfl) ?_ | refine r_ldbE (by assumption) (by rfl) ?_))); (conv => whnf)
    exact hfin w5 w6 hx5 hc6
  | some z =>
    dsimp only [atR]
    (repeat ((conv => whnf); (first | with_reducible refine r_tt ?_ | with_reducible refine r_ff ?_ | with_reducible refine r_ntt ?_ | with_reducible refine r_nff ?_ | refine r_need (by omega) ?_ | refine r_i64 (by omega) ?_ | refine r_dect (by omega) ?_ | refine r_decf (by omega) ?_ | refine r_eqt (by omega) ?_ | refine r_eqf (by omega) ?_ | refine r_net (by omega) ?_ | refine r_nef (by omega) ?_ | refine r_u8 (by omega) ?_ | refine r_u64 (by omega) ?_ | refine r_i32 (by omega) ?_ | refine r_u32 (by omega) ?_ | refine r_rem (by omega) ?_ | refine r_quo (by omega) ?_ | refine r_ldb (by assumption) (by rfl) ?_ | refine r_ldbE (by assumption) (by rfl) ?_))); (conv => whnf)
    refine r_ldnb (vs := rowCells a len cap fr room) hblk4 rfl rfl ?_
    (repeat ((conv => whnf); (first | with_reducible refine r_tt ?_ | with_reducible refine r_ff ?_ | with_reducible refine r_ntt ?_ | with_reducible refine r_nff ?_ | refine r_need (by omega) ?_ | refine r_i64 (by omega) ?_ | refine r_dect (by omega) ?_ | refine r_decf (by omega) ?_ | refine r_eqt (by omega) ?_ | refine r_eqf (by omega) ?_ | refine r_net (by omega) ?_ | refine r_nef (by omega) ?_ | refine r_u8 (by omega) ?_ | refine r_u64 (by omega) ?_ | refine r_i32 (by omega) ?_ | refine r_u32 (by omega) ?_ | refine r_rem (by omega) ?_ | refine r_quo (by omega) ?_ | refine r_ldb (by assumption) (by rfl) ?_ | refine r_ldbE (by assumption) (by rfl) ?_))); (conv => whnf)
    refine r_cal (rAt_ok hr4 n hfr (by omega)) ?_
    rintro _ w5 ⟨hx5, rfl⟩
    rw [hv]
    dsimp only [atR]
    (repeat ((conv => whnf); (first | with_reducible refine r_tt ?_ | with_reducible refine r_ff ?_ | with_reducible refine r_ntt ?_ | with_reducible refine r_nff ?_ | refine r_need (by omega) ?_ | refine r_i64 (by omega) ?_ | refine r_dect (by omega) ?_ | refine r_decf (by omega) ?_ | refine r_eqt (by omega) ?_ | refine r_eqf (by omega) ?_ | refine r_net (by omega) ?_ | refine r_nef (by omega) ?_ | refine r_u8 (by omega) ?_ | refine r_u64 (by omega) ?_ | refine r_i32 (by omega) ?_ | refine r_u32 (by omega) ?_ | refine r_rem (by omega) ?_ | refine r_quo (by omega) ?_ | refine r_ldb (by assumption) (by rfl) ?_ | refine r_ldbE (by assumption) (by rfl) ?_))); (conv => whnf)
    refine r_ldnb (vs := rowCells a len cap fr room) (hblk4.ext hx5) rfl rfl ?_
    (repeat ((conv => whnf); (first | with_reducible refine r_tt ?_ | with_reducible refine r_ff ?_ | with_reducible refine r_ntt ?_ | with_reducible refine r_nff ?_ | refine r_need (by omega) ?_ | refine r_i64 (by omega) ?_ | refine r_dect (by omega) ?_ | refine r_decf (by omega) ?_ | refine r_eqt (by omega) ?_ | refine r_eqf (by omega) ?_ | refine r_net (by omega) ?_ | refine r_nef (by omega) ?_ | refine r_u8 (by omega) ?_ | refine r_u64 (by omega) ?_ | refine r_i32 (by omega) ?_ | refine r_u32 (by omega) ?_ | refine r_rem (by omega) ?_ | refine r_quo (by omega) ?_ | refine r_ldb (by assumption) (by rfl) ?_ | refine r_ldbE (by assumption) (by rfl) ?_))); (conv => whnf)
    refine r_stn (hblk6.ext hx5) (by simp [rowCells]) (row_one _ _ _ _ _) fun w6 hc6 hs6 hblk6 => ?_
    have hblk6 : Blk w6 b6 37 (rowCells a len cap fr room) := hblk6
    (repeat ((conv => whnf); (first | with_reducible refine r_tt ?_ | with_reducible refine r_ff ?_ | with_reducible refine r_ntt ?_ | with_reducible refine r_nff ?_ | refine r_need (by omega) ?_ | refine r_i64 (by omega) ?_ | refine r_dect (by omega) ?_ | refine r_decf (by omega) ?_ | refine r_eqt (by omega) ?_ | refine r_eqf (by omega) ?_ | refine r_net (by omega) ?_ | refine r_nef (by omega) ?_ | refine r_u8 (by omega) ?_ | refine r_u64 (by omega) ?_ | refine r_i32 (by omega) ?_ | refine r_u32 (by omega) ?_ | refine r_rem (by omega) ?_ | refine r_quo (by omega) ?_ | refine r_ldb (by assumption) (by rfl) ?_ | refine r_ldbE (by assumption) (by rfl) ?_))); (conv => whnf)
    refine r_ldnb (vs := rowCells a len cap fr room) hblk6 rfl rfl ?_
    (repeat ((conv => whnf); (first | with_reducible refine r_tt ?_ | with_reducible refine r_ff ?_ | with_reducible refine r_ntt ?_ | with_reducible refine r_nff ?_ | refine r_need (by omega) ?_ | refine r_i64 (by omega) ?_ | refine r_dect (by omega) ?_ | refine r_decf (by omega) ?_ | refine r_eqt (by omega) ?_ | refine r_eqf (by omega) ?_ | refine r_net (by omega) ?_ | refine r_nef (by omega) ?_ | refine r_u8 (by omega) ?_ | refine r_u64 (by omega) ?_ | refine r_i32 (by omega) ?_ | refine r_u32 (by omega) ?_ | refine r_rem (by omega) ?_ | refine r_quo (by omega) ?_ | refine r_ldb (by assumption) (by rfl) ?_ | refine r_ldbE (by assumption) (by rfl) ?_))); (conv => whnf)
    exact hfin w5 w6 hx5 hc6

def shiftV : List Int → Int
  | [] => 0
  | z :: _ => z
def shiftB : List Int → Bool
  | [] => false
  | _ :: _ => true
def shiftF (L : List Int) (fr : Nat) : Nat := if L = [] then fr else fr + 1
theorem Shift_all (h : RG w b g L fr room) (hfr : fr ≤ 4611686018427387904) : Cal Try.prog 28 ⟨[.pointer (some ⟨b, 0, none⟩)]⟩ w fun v w' => v = .tuple ⟨[.int .i32 (shiftV L), .bool (shiftB L)]⟩ ∧ RG w' b g L.tail (shiftF L fr) room ∧ Chg (RS b g) w w' := by
  cases L with
  | nil =>
    refine r_cal (Shift_no h) ?_
    rintro _ w' ⟨rfl, rfl⟩
    exact ⟨rfl, h, Chg.refl _ _⟩
  | cons z L => exact r_cal (Shift_ok h hfr) fun _ _ h => h
theorem rShift_all (h : IsRow w L fr room cs) (hfr : fr ≤ 4611686018427387904) (hl : L.length ≤ 1048576) :
    Cal Try.prog 57 ⟨[.agg ⟨cs⟩]⟩ w fun v w' => Ext w w' ∧ ∃ cs', v = .tuple ⟨[.agg ⟨cs'⟩, .int .i32 (shiftV L), .bool (shiftB L)]⟩ ∧ IsRow w' L.tail (shiftF L fr) room cs' ∧ (cs' = cs ∨ NewRow w.heap.size cs') := by
  cases L with
  | nil =>
    refine r_cal (rShift_no h) ?_
    rintro _ w' ⟨hx, rfl⟩
    exact ⟨hx, cs, rfl, h.ext hx, .inl rfl⟩
  | cons z L =>
    refine r_cal (rShift_ok h hfr (by simp at hl; omega)) ?_
    rintro _ w' ⟨hx, cs', rfl, h1, h2⟩
    exact ⟨hx, cs', rfl, h1, .inr h2⟩

set_option maxRecDepth 100000 in
theorem does2 (h : RG w b g L fr room) (hr : IsRow w L fr room cs) (ho : Off (RS b g) cs) (x n : Int) (hfr : fr ≤ 4611686018427387904) :
    Cal Try.prog 20 ⟨[.pointer (some ⟨b, 0, none⟩), .agg ⟨cs⟩, .agg ⟨[.int .u8 2, .int .i32 x, .int .i64 n]⟩]⟩ w (Done w b g fr room cs) := by
  have hll := h.len_le
  rw [encs_len] at hll
  obtain ⟨a, len, cap, rfl⟩ := hr.cells
  refine go20 (by rfl) ?_
  (repeat ((conv => whnf); (first | with_reducible refine r_tt ?_ | with_reducible refine r_ff ?_ | with_reducible refine r_ntt ?_ | with_reducible refine r_nff ?_ | refine r_need (by omega) ?_ | refine r_i64 (by omega) ?_ | refine r_dect (by omega) ?_ | refine r_decf (by omega) ?_ | refine r_eqt (by omega) ?_ | refine r_eqf (by omega) ?_ | refine r_net (by omega) ?_ | refine r_nef (by omega) ?_ | refine r_u8 (by omega) ?_ | refine r_u64 (by omega) ?_ | refine r_i32 (by omega) ?_ | refine r_u32 (by omega) ?_ | refine r_rem (by omega) ?_ | refine r_quo (by omega) ?_ | refine r_ldb (by assumption) (by rfl) ?_ | refine r_ldbE (by assumption) (by rfl) ?_))); (conv => whnf)
  refine r_new fun b4 w1 hx1 hb1 hs1 hblk4 => ?_
  (repeat ((conv => whnf); (first | with_reducible refine r_tt ?_ | with_reducible refine r_ff ?_ | with_reducible refine r_ntt ?_ | with_reducible refine r_nff ?_ | refine r_need (by omega) ?_ | refine r_i64 (by omega) ?_ | refine r_dect (by omega) ?_ | refine r_decf (by omega) ?_ | refine r_eqt (by omega) ?_ | refine r_eqf (by omega) ?_ | refine r_net (by omega) ?_ | refine r_nef (by omega) ?_ | refine r_u8 (by omega) ?_ | refine r_u64 (by omega) ?_ | refine r_i32 (by omega) ?_ | refine r_u32 (by omega) ?_ | refine r_rem (by omega) ?_ | refine r_quo (by omega) ?_ | refine r_ldb (by assumption) (by rfl) ?_ | refine r_ldbE (by assumption) (by rfl) ?_))); (conv => whnf)
  refine r_new fun b5 w2 hx2 hb2 hs2 hblk5 => ?_
  have hl42 := (hblk4.ext hx2).lt
  have hl52 := hblk5.lt
  (repeat ((conv => whnf); (first | with_reducible refine r_tt ?_ | with_reducible refine r_ff ?_ | with_reducible refine r_ntt ?_ | with_reducible refine r_nff ?_ | refine r_need (by omega) ?_ | refine r_i64 (by omega) ?_ | refine r_dect (by omega) ?_ | refine r_decf (by omega) ?_ | refine r_eqt (by omega) ?_ | refine r_eqf (by omega) ?_ | refine r_net (by omega) ?_ | refine r_nef (by omega) ?_ | refine r_u8 (by omega) ?_ | refine r_u64 (by omega) ?_ | refine r_i32 (by omega) ?_ | refine r_u32 (by omega) ?_ | refine r_rem (by omega) ?_ | refine r_quo (by omega) ?_ | refine r_ldb (by assumption) (by rfl) ?_ | refine r_ldbE (by assumption) (by rfl) ?_))); (conv => whnf)
  refine r_new fun b6 w3 hx3 hb3 hs3 hblk6 => ?_
  have hblk4 : Blk w3 b4 37 (rowCells a len cap fr room) := (hblk4.ext hx2).ext hx3
  have hblk5 : Blk w3 b5 39 [.int .u8 2, .int .i32 x, .int .i64 n] := hblk5.ext hx3
  have hx03 := (hx1.trans hx2).trans hx3
  have hs03 := hx03.size
  have hs01 := hx1.size
  have hs02 := hx2.size
  have hl6 := hblk6.lt
  have h3 := h.ext hx03
  have hr3 := hr.ext hx03
  (repeat ((conv => whnf); (first | with_reducible refine r_tt ?_ | with_reducible refine r_ff ?_ | with_reducible refine r_ntt ?_ | with_reducible refine r_nff ?_ | refine r_need (by omega) ?_ | refine r_i64 (by omega) ?_ | refine r_dect (by omega) ?_ | refine r_decf (by omega) ?_ | refine r_eqt (by omega) ?_ | refine r_eqf (by omega) ?_ | refine r_net (by omega) ?_ | refine r_nef (by omega) ?_ | refine r_u8 (by omega) ?_ | refine r_u64 (by omega) ?_ | refine r_i32 (by omega) ?_ | refine r_u32 (by omega) ?_ | refine r_rem (by omega) ?_ | refine r_quo (by omega) ?_ | refine r_ldb (by assumption) (by rfl) ?_ | refine r_ldbE (by assumption) (by rfl) ?_))); (conv => whnf)
  refine r_cal (Shift_all h3 hfr) ?_
  rintro _ w4 ⟨rfl, h4, hc4⟩
  have hs4 := hc4.size
  have hn4 : ¬ RS b g b4 := RS_no h (by omega)
  have hn6 : ¬ RS b g b6 := RS_no h (by omega)
  have hblk4 := hblk4.keep hc4 hn4
  have hblk6 := hblk6.keep hc4 hn6
  have hr4 := hr3.keep hc4 ho
  (repeat ((conv => whnf); (first | with_reducible refine r_tt ?_ | with_reducible refine r_ff ?_ | with_reducible refine r_ntt ?_ | with_reducible refine r_nff ?_ | refine r_need (by omega) ?_ | refine r_i64 (by omega) ?_ | refine r_dect (by omega) ?_ | refine r_decf (by omega) ?_ | refine r_eqt (by omega) ?_ | refine r_eqf (by omega) ?_ | refine r_net (by omega) ?_ | refine r_nef (by omega) ?_ | refine r_u8 (by omega) ?_ | refine r_u64 (by omega) ?_ | refine r_i32 (by omega) ?_ | refine r_u32 (by omega) ?_ | refine r_rem (by omega) ?_ | refine r_quo (by omega) ?_ | refine r_ldb (by assumption) (by rfl) ?_ | refine r_ldbE (by assumption) (by rfl) ?_))); (conv => whnf)
  refine r_ldnb (vs := rowCells a len cap fr room) hblk4 rfl rfl ?_
  (repeat ((conv => whnf); (first | with_reducible refine r_tt ?_ | with_reducible refine r_ff ?_ | with_reducible refine r_ntt ?_ | with_reducible refine r_nff ?_ | refine r_need (by omega) ?_ | refine r_i64 (by omega) ?_ | refine r_dect (by omega) ?_ | refine r_decf (by omega) ?_ | refine r_eqt (by omega) ?_ | refine r_eqf (by omega) ?_ | refine r_net (by omega) ?_ | refine r_nef (by omega) ?_ | refine r_u8 (by omega) ?_ | refine r_u64 (by omega) ?_ | refine r_i32 (by omega) ?_ | refine r_u32 (by omega) ?_ | refine r_rem (by omega) ?_ | refine r_quo (by omega) ?_ | refine r_ldb (by assumption) (by rfl) ?_ | refine r_ldbE (by assumption) (by rfl) ?_))); (conv => whnf)
  refine r_cal (rShift_all hr4 hfr (by omega)) ?_
  rintro _ w5 ⟨hx5, cs', rfl, hr5, hn5⟩
  have hs5 := hx5.size
  have hoD : Off (DS b g b6) cs' := off_DS h hr ho hn5 (by omega)
  obtain ⟨a', len', cap', rfl⟩ := hr5.cells
  (repeat ((conv => whnf); (first | with_reducible refine r_tt ?_ | with_reducible refine r_ff ?_ | with_reducible refine r_ntt ?_ | with_reducible refine r_nff ?_ | refine r_need (by omega) ?_ | refine r_i64 (by omega) ?_ | refine r_dect (by omega) ?_ | refine r_decf (by omega) ?_ | refine r_eqt (by omega) ?_ | refine r_eqf (by omega) ?_ | refine r_net (by omega) ?_ | refine r_nef (by omega) ?_ | refine r_u8 (by omega) ?_ | refine r_u64 (by omega) ?_ | refine r_i32 (by omega) ?_ | refine r_u32 (by omega) ?_ | refine r_rem (by omega) ?_ | refine r_quo (by omega) ?_ | refine r_ldb (by assumption) (by rfl) ?_ | refine r_ldbE (by assumption) (by rfl) ?_))); (conv => whnf)
  refine r_new fun b8 w6 hx6 hb6 hs6 hblk8 => ?_
  (repeat ((conv => whnf); (first | with_reducible refine r_tt ?_ | with_reducible refine r_ff ?_ | with_reducible refine r_ntt ?_ | with_reducible refine r_nff ?_ | refine r_need (by omega) ?_ | refine r_i64 (by omega) ?_ | refine r_dect (by omega) ?_ | refine r_decf (by omega) ?_ | refine r_eqt (by omega) ?_ | refine r_eqf (by omega) ?_ | refine r_net (by omega) ?_ | refine r_nef (by omega) ?_ | refine r_u8 (by omega) ?_ | refine r_u64 (by omega) ?_ | refine r_i32 (by omega) ?_ | refine r_u32 (by omega) ?_ | refine r_rem (by omega) ?_ | refine r_quo (by omega) ?_ | refine r_ldb (by assumption) (by rfl) ?_ | refine r_ldbE (by assumption) (by rfl) ?_))); (conv => whnf)
  refine r_stn hblk8 (by simp [rowCells]) (row_one _ _ _ _ _) fun w7 hc7 hs7 hblk8 => ?_
  have hblk8 : Blk w7 b8 37 (rowCells a' len' cap' (shiftF L fr) room) := hblk8
  have hx57 : Ext w5 w7 := Chg.step hx6 hc7 fun k hk hlt => by omega
  by_cases hb : shiftB L = true
  focus
    rw [hb]
    (repeat ((conv => whnf); (first | with_reducible refine r_tt ?_ | with_reducible refine r_ff ?_ | with_reducible refine r_ntt ?_ | with_reducible refine r_nff ?_ | refine r_need (by omega) ?_ | refine r_i64 (by omega) ?_ | refine r_dect (by omega) ?_ | refine r_decf (by omega) ?_ | refine r_eqt (by omega) ?_ | refine r_eqf (by omega) ?_ | refine r_net (by omega) ?_ | refine r_nef (by omega) ?_ | refine r_u8 (by omega) ?_ | refine r_u64 (by omega) ?_ | refine r_i32 (by omega) ?_ | refine r_u32 (by omega) ?_ | refine r_rem (by omega) ?_ | refine r_quo (by omega) ?_ | refine r_ldb (by assumption) (by rfl) ?_ | refine r_ldbE (by assumption) (by rfl) ?_))); (conv => whnf)
    refine r_ldnb (vs := rowCells a' len' cap' (shiftF L fr) room) hblk8 rfl rfl ?_
    (repeat ((conv => whnf); (first | with_reducible refine r_tt ?_ | with_reducible refine r_ff ?_ | with_reducible refine r_ntt ?_ | with_reducible refine r_nff ?_ | refine r_need (by omega) ?_ | refine r_i64 (by omega) ?_ | refine r_dect (by omega) ?_ | refine r_decf (by omega) ?_ | refine r_eqt (by omega) ?_ | refine r_eqf (by omega) ?_ | refine r_net (by omega) ?_ | refine r_nef (by omega) ?_ | refine r_u8 (by omega) ?_ | refine r_u64 (by omega) ?_ | refine r_i32 (by omega) ?_ | refine r_u32 (by omega) ?_ | refine r_rem (by omega) ?_ | refine r_quo (by omega) ?_ | refine r_ldb (by assumption) (by rfl) ?_ | refine r_ldbE (by assumption) (by rfl) ?_))); (conv => whnf)
  rotate_left
  focus
    rw [Bool.not_eq_true] at hb
    rw [hb]
    (repeat ((conv => whnf); (first | with_reducible refine r_tt ?_ | with_reducible refine r_ff ?_ | with_reducible refine r_ntt ?_ | with_reducible refine r_nff ?_ | refine r_need (by omega) ?_ | refine r_i64 (by omega) ?_ | refine r_dect (by omega) ?_ | refine r_decf (by omega) ?_ | refine r_eqt (by omega) ?_ | refine r_eqf (by omega) ?_ | refine r_net (by omega) ?_ | refine r_nef (by omega) ?_ | refine r_u8 (by omega) ?_ | refine r_u64 (by omega) ?_ | refine r_i32 (by omega) ?_ | refine r_u32 (by omega) ?_ | refine r_rem (by omega) ?_ | refine r_quo (by omega) ?_ | refine r_ldb (by assumption) (by rfl) ?_ | refine r_ldbE (by assumption) (by rfl) ?_))); (conv => whnf)
    refine r_ldnb (vs := rowCells a' len' cap' (shiftF L fr) room) hblk8 rfl rfl ?_
    (repeat ((conv => whnf); (first | with_reducible refine r_tt ?_ | with_reducible refine r_ff ?_ | with_reducible refine r_ntt ?_ | with_reducible refine r_nff ?_ | refine r_need (by omega) ?_ | refine r_i64 (by omega) ?_ | refine r_dect (by omega) ?_ | refine r_decf (by omega) ?_ | refine r_eqt (by omega) ?_ | refine r_eqf (by omega) ?_ | refine r_net (by omega) ?_ | refine r_nef (by omega) ?_ | refine r_u8 (by omega) ?_ | refine r_u64 (by omega) ?_ | refine r_i32 (by omega) ?_ | refine r_u32 (by omega) ?_ | refine r_rem (by omega) ?_ | refine r_quo (by omega) ?_ | refine r_ldb (by assumption) (by rfl) ?_ | refine r_ldbE (by assumption) (by rfl) ?_))); (conv => whnf)
  all_goals
    refine r_stn ((hblk6.ext hx5).ext hx57) (by simp [rowCells]) (row_one _ _ _ _ _) fun w8 hc8 hs8 hblk6 => ?_
    have hblk6 : Blk w8 b6 37 (rowCells a' len' cap' (shiftF L fr) room) := hblk6
    (repeat ((conv => whnf); (first | with_reducible refine r_tt ?_ | with_reducible refine r_ff ?_ | with_reducible refine r_ntt ?_ | with_reducible refine r_nff ?_ | refine r_need (by omega) ?_ | refine r_i64 (by omega) ?_ | refine r_dect (by omega) ?_ | refine r_decf (by omega) ?_ | refine r_eqt (by omega) ?_ | refine r_eqf (by omega) ?_ | refine r_net (by omega) ?_ | refine r_nef (by omega) ?_ | refine r_u8 (by omega) ?_ | refine r_u64 (by omega) ?_ | refine r_i32 (by omega) ?_ | refine r_u32 (by omega) ?_ | refine r_rem (by omega) ?_ | refine r_quo (by omega) ?_ | refine r_ldb (by assumption) (by rfl) ?_ | refine r_ldbE (by assumption) (by rfl) ?_))); (conv => whnf)
    refine r_ldnb (vs := rowCells a' len' cap' (shiftF L fr) room) hblk6 rfl rfl ?_
    (repeat ((conv => whnf); (first | with_reducible refine r_tt ?_ | with_reducible refine r_ff ?_ | with_reducible refine r_ntt ?_ | with_reducible refine r_nff ?_ | refine r_need (by omega) ?_ | refine r_i64 (by omega) ?_ | refine r_dect (by omega) ?_ | refine r_decf (by omega) ?_ | refine r_eqt (by omega) ?_ | refine r_eqf (by omega) ?_ | refine r_net (by omega) ?_ | refine r_nef (by omega) ?_ | refine r_u8 (by omega) ?_ | refine r_u64 (by omega) ?_ | refine r_i32 (by omega) ?_ | refine r_u32 (by omega) ?_ | refine r_rem (by omega) ?_ | refine r_quo (by omega) ?_ | refine r_ldb (by assumption) (by rfl) ?_ | refine r_ldbE (by assumption) (by rfl) ?_))); (conv => whnf)
    have hc08 : Chg (RS b g) w w8 := Chg.step ((Chg.step (hx03.wide _) hc4 fun k hk _ => hk).ext (hx5.trans hx57)) hc8 fun k hk hlt => by omega
    refine ⟨_, shiftF L fr, g, _, rfl, ((h4.ext hx5).ext hx57).keep hc8 (by have := h.lt.1; omega) (fun y hy e => by have := h.lt.2 y hy; omega), (hr5.ext hx57).keep hc8 (hoD.mono fun k hk => .inr (.inr hk)), DS_off hoD, .inl rfl, hc08, by unfold shiftF; split <;> omega, hn5.imp id fun e => e.mono (by omega)⟩

set_option maxRecDepth 100000 in
theorem does5 (h : RG w b g L fr room) (hr : IsRow w L fr room cs) (ho : Off (RS b g) cs) (x n : Int) (kd : Int) (hkd : kd ≠ 0 ∧ kd ≠ 1 ∧ kd ≠ 2 ∧ kd ≠ 3 ∧ kd ≠ 4) :
    Cal Try.prog 20 ⟨[.pointer (some ⟨b, 0, none⟩), .agg ⟨cs⟩, .agg ⟨[.int .u8 kd, .int .i32 x, .int .i64 n]⟩]⟩ w (Done w b g fr room cs) := by
  have hll := h.len_le
  rw [encs_len] at hll
  obtain ⟨a, len, cap, rfl⟩ := hr.cells
  refine go20 (by rfl) ?_
  (repeat ((conv => whnf); (first | with_reducible refine r_tt ?_ | with_reducible refine r_ff ?_ | with_reducible refine r_ntt ?_ | with_reducible refine r_nff ?_ | refine r_need (by omega) ?_ | refine r_i64 (by omega) ?_ | refine r_dect (by omega) ?_ | refine r_decf (by omega) ?_ | refine r_eqt (by omega) ?_ | refine r_eqf (by omega) ?_ | refine r_net (by omega) ?_ | refine r_nef (by omega) ?_ | refine r_u8 (by omega) ?_ | refine r_u64 (by omega) ?_ | refine r_i32 (by omega) ?_ | refine r_u32 (by omega) ?_ | refine r_rem (by omega) ?_ | refine r_quo (by omega) ?_ | refine r_ldb (by assumption) (by rfl) ?_ | refine r_ldbE (by assumption) (by rfl) ?_))); (conv => whnf)
  refine r_new fun b4 w1 hx1 hb1 hs1 hblk4 => ?_
  (repeat ((conv => whnf); (first | with_reducible refine r_tt ?_ | with_reducible refine r_ff ?_ | with_reducible refine r_ntt ?_ | with_reducible refine r_nff ?_ | refine r_need (by omega) ?_ | refine r_i64 (by omega) ?_ | refine r_dect (by omega) ?_ | refine r_decf (by omega) ?_ | refine r_eqt (by omega) ?_ | refine r_eqf (by omega) ?_ | refine r_net (by omega) ?_ | refine r_nef (by omega) ?_ | refine r_u8 (by omega) ?_ | refine r_u64 (by omega) ?_ | refine r_i32 (by omega) ?_ | refine r_u32 (by omega) ?_ | refine r_rem (by omega) ?_ | refine r_quo (by omega) ?_ | refine r_ldb (by assumption) (by rfl) ?_ | refine r_ldbE (by assumption) (by rfl) ?_))); (conv => whnf)
  refine r_new fun b5 w2 hx2 hb2 hs2 hblk5 => ?_
  have hl42 := (hblk4.ext hx2).lt
  have hl52 := hblk5.lt
  (repeat ((conv => whnf); (first | with_reducible refine r_tt ?_ | with_reducible refine r_ff ?_ | with_reducible refine r_ntt ?_ | with_reducible refine r_nff ?_ | refine r_need (by omega) ?_ | refine r_i64 (by omega) ?_ | refine r_dect (by omega) ?_ | refine r_decf (by omega) ?_ | refine r_eqt (by omega) ?_ | refine r_eqf (by omega) ?_ | refine r_net (by omega) ?_ | refine r_nef (by omega) ?_ | refine r_u8 (by omega) ?_ | refine r_u64 (by omega) ?_ | refine r_i32 (by omega) ?_ | refine r_u32 (by omega) ?_ | refine r_rem (by omega) ?_ | refine r_quo (by omega) ?_ | refine r_ldb (by assumption) (by rfl) ?_ | refine r_ldbE (by assumption) (by rfl) ?_))); (conv => whnf)
  refine r_new fun b6 w3 hx3 hb3 hs3 hblk6 => ?_
  have hblk4 : Blk w3 b4 37 (rowCells a len cap fr room) := (hblk4.ext hx2).ext hx3
  have hblk5 : Blk w3 b5 39 [.int .u8 kd, .int .i32 x, .int .i64 n] := hblk5.ext hx3
  have hx03 := (hx1.trans hx2).trans hx3
  have hs03 := hx03.size
  have hs01 := hx1.size
  have hs02 := hx2.size
  have hl6 := hblk6.lt
  have h3 := h.ext hx03
  have hr3 := hr.ext hx03
  (repeat ((conv => whnf); (first | with_reducible refine r_tt ?_ | with_reducible refine r_ff ?_ | with_reducible refine r_ntt ?_ | with_reducible refine r_nff ?_ | refine r_need (by omega) ?_ | refine r_i64 (by omega) ?_ | refine r_dect (by omega) ?_ | refine r_decf (by omega) ?_ | refine r_eqt (by omega) ?_ | refine r_eqf (by omega) ?_ | refine r_net (by omega) ?_ | refine r_nef (by omega) ?_ | refine r_u8 (by omega) ?_ | refine r_u64 (by omega) ?_ | refine r_i32 (by omega) ?_ | refine r_u32 (by omega) ?_ | refine r_rem (by omega) ?_ | refine r_quo (by omega) ?_ | refine r_ldb (by assumption) (by rfl) ?_ | refine r_ldbE (by assumption) (by rfl) ?_))); (conv => whnf)
  refine r_drawS (DS b g b6) fun w4 hx4 hh4 => ?_
  have hn4 : ¬ DS b g b6 b4 := DS_no h (by omega) (by omega)
  have hs4 := hx4.size
  have hO : Off (DS b g b6) (rowCells a len cap fr room) := off_DS h hr ho (n := w.heap.size + 100000) (.inl rfl) (by omega)
  (repeat ((conv => whnf); (first | refine r_ldbS hblk4 (by rfl) hn4 ?_ | refine r_ldnbS (vs := rowCells a len cap fr room) hblk4 rfl rfl hn4 ?_ | with_reducible refine r_tt ?_ | with_reducible refine r_ff ?_ | with_reducible refine r_ntt ?_ | with_reducible refine r_nff ?_ | refine r_need (by omega) ?_ | refine r_i64 (by omega) ?_ | refine r_dect (by omega) ?_ | refine r_decf (by omega) ?_ | refine r_eqt (by omega) ?_ | refine r_eqf (by omega) ?_ | refine r_net (by omega) ?_ | refine r_nef (by omega) ?_ | refine r_u8 (by omega) ?_ | refine r_u64 (by omega) ?_ | refine r_i32 (by omega) ?_ | refine r_u32 (by omega) ?_ | refine r_rem (by omega) ?_ | refine r_quo (by omega) ?_ | refine r_ldb (by assumption) (by rfl) ?_ | refine r_ldbE (by assumption) (by rfl) ?_))); (conv => whnf)
  refine r_cal (All_ok (h3.ext hx4)) ?_
  rintro _ w5 ⟨hx5, hown⟩
  have hx35 := hx4.trans hx5
  (repeat ((conv => whnf); (first | with_reducible refine r_tt ?_ | with_reducible refine r_ff ?_ | with_reducible refine r_ntt ?_ | with_reducible refine r_nff ?_ | refine r_need (by omega) ?_ | refine r_i64 (by omega) ?_ | refine r_dect (by omega) ?_ | refine r_decf (by omega) ?_ | refine r_eqt (by omega) ?_ | refine r_eqf (by omega) ?_ | refine r_net (by omega) ?_ | refine r_nef (by omega) ?_ | refine r_u8 (by omega) ?_ | refine r_u64 (by omega) ?_ | refine r_i32 (by omega) ?_ | refine r_u32 (by omega) ?_ | refine r_rem (by omega) ?_ | refine r_quo (by omega) ?_ | refine r_ldb (by assumption) (by rfl) ?_ | refine r_ldbE (by assumption) (by rfl) ?_))); (conv => whnf)
  refine r_held (hx35.wide _) ?_
  obtain ⟨a5, c5, rfl, hv5, hn5⟩ := own_row hown
  obtain ⟨a', len', cap', e', hv'⟩ := hr3
  simp only [rowCells, List.cons.injEq, Value.slice.injEq] at e'
  obtain ⟨⟨rfl, rfl, rfl⟩, -, -, -⟩ := e'
  (repeat ((conv => whnf); (first | with_reducible refine r_tt ?_ | with_reducible refine r_ff ?_ | with_reducible refine r_ntt ?_ | with_reducible refine r_nff ?_ | refine r_need (by omega) ?_ | refine r_i64 (by omega) ?_ | refine r_dect (by omega) ?_ | refine r_decf (by omega) ?_ | refine r_eqt (by omega) ?_ | refine r_eqf (by omega) ?_ | refine r_net (by omega) ?_ | refine r_nef (by omega) ?_ | refine r_u8 (by omega) ?_ | refine r_u64 (by omega) ?_ | refine r_i32 (by omega) ?_ | refine r_u32 (by omega) ?_ | refine r_rem (by omega) ?_ | refine r_quo (by omega) ?_ | refine r_ldb (by assumption) (by rfl) ?_ | refine r_ldbE (by assumption) (by rfl) ?_))); (conv => whnf)
  refine r_cal (same_ok hv5 (hv'.ext hx35)) ?_
  rintro _ w6 ⟨hx6, r, rfl, hres⟩
  have hres : r = true := hres.2 rfl
  subst hres
  have hx36 := hx35.trans hx6
  have hs6 := hx36.size
  (repeat ((conv => whnf); (first | with_reducible refine r_tt ?_ | with_reducible refine r_ff ?_ | with_reducible refine r_ntt ?_ | with_reducible refine r_nff ?_ | refine r_need (by omega) ?_ | refine r_i64 (by omega) ?_ | refine r_dect (by omega) ?_ | refine r_decf (by omega) ?_ | refine r_eqt (by omega) ?_ | refine r_eqf (by omega) ?_ | refine r_net (by omega) ?_ | refine r_nef (by omega) ?_ | refine r_u8 (by omega) ?_ | refine r_u64 (by omega) ?_ | refine r_i32 (by omega) ?_ | refine r_u32 (by omega) ?_ | refine r_rem (by omega) ?_ | refine r_quo (by omega) ?_ | refine r_ldb (by assumption) (by rfl) ?_ | refine r_ldbE (by assumption) (by rfl) ?_))); (conv => whnf)
  refine r_held (hx36.wide _) ?_
  (repeat ((conv => whnf); (first | with_reducible refine r_tt ?_ | with_reducible refine r_ff ?_ | with_reducible refine r_ntt ?_ | with_reducible refine r_nff ?_ | refine r_need (by omega) ?_ | refine r_i64 (by omega) ?_ | refine r_dect (by omega) ?_ | refine r_decf (by omega) ?_ | refine r_eqt (by omega) ?_ | refine r_eqf (by omega) ?_ | refine r_net (by omega) ?_ | refine r_nef (by omega) ?_ | refine r_u8 (by omega) ?_ | refine r_u64 (by omega) ?_ | refine r_i32 (by omega) ?_ | refine r_u32 (by omega) ?_ | refine r_rem (by omega) ?_ | refine r_quo (by omega) ?_ | refine r_ldb (by assumption) (by rfl) ?_ | refine r_ldbE (by assumption) (by rfl) ?_))); (conv => whnf)
  refine r_stn (hblk6.ext hx36) (by simp [rowCells]) (row_one _ _ _ _ _) fun w7 hc7 hs7 hblk7 => ?_
  have hblk7 : Blk w7 b6 37 (rowCells a len cap fr room) := hblk7
  have hc37 : Chg (DS b g b6) w3 w7 := Chg.step (hx36.wide _) hc7 fun k hk _ => .inr (.inr hk)
  (repeat ((conv => whnf); (first | with_reducible refine r_tt ?_ | with_reducible refine r_ff ?_ | with_reducible refine r_ntt ?_ | with_reducible refine r_nff ?_ | refine r_need (by omega) ?_ | refine r_i64 (by omega) ?_ | refine r_dect (by omega) ?_ | refine r_decf (by omega) ?_ | refine r_eqt (by omega) ?_ | refine r_eqf (by omega) ?_ | refine r_net (by omega) ?_ | refine r_nef (by omega) ?_ | refine r_u8 (by omega) ?_ | refine r_u64 (by omega) ?_ | refine r_i32 (by omega) ?_ | refine r_u32 (by omega) ?_ | refine r_rem (by omega) ?_ | refine r_quo (by omega) ?_ | refine r_ldb (by assumption) (by rfl) ?_ | refine r_ldbE (by assumption) (by rfl) ?_))); (conv => whnf)
  refine r_held hc37 ?_
  (repeat ((conv => whnf); (first | with_reducible refine r_tt ?_ | with_reducible refine r_ff ?_ | with_reducible refine r_ntt ?_ | with_reducible refine r_nff ?_ | refine r_need (by omega) ?_ | refine r_i64 (by omega) ?_ | refine r_dect (by omega) ?_ | refine r_decf (by omega) ?_ | refine r_eqt (by omega) ?_ | refine r_eqf (by omega) ?_ | refine r_net (by omega) ?_ | refine r_nef (by omega) ?_ | refine r_u8 (by omega) ?_ | refine r_u64 (by omega) ?_ | refine r_i32 (by omega) ?_ | refine r_u32 (by omega) ?_ | refine r_rem (by omega) ?_ | refine r_quo (by omega) ?_ | refine r_ldb (by assumption) (by rfl) ?_ | refine r_ldbE (by assumption) (by rfl) ?_))); (conv => whnf)
  refine r_ldnb (vs := rowCells a len cap fr room) hblk7 rfl rfl ?_
  (repeat ((conv => whnf); (first | with_reducible refine r_tt ?_ | with_reducible refine r_ff ?_ | with_reducible refine r_ntt ?_ | with_reducible refine r_nff ?_ | refine r_need (by omega) ?_ | refine r_i64 (by omega) ?_ | refine r_dect (by omega) ?_ | refine r_decf (by omega) ?_ | refine r_eqt (by omega) ?_ | refine r_eqf (by omega) ?_ | refine r_net (by omega) ?_ | refine r_nef (by omega) ?_ | refine r_u8 (by omega) ?_ | refine r_u64 (by omega) ?_ | refine r_i32 (by omega) ?_ | refine r_u32 (by omega) ?_ | refine r_rem (by omega) ?_ | refine r_quo (by omega) ?_ | refine r_ldb (by assumption) (by rfl) ?_ | refine r_ldbE (by assumption) (by rfl) ?_))); (conv => whnf)
  have hx07 : Ext w w7 := Chg.step (hx03.trans hx36) hc7 fun k hk hlt => by omega
  exact ⟨L, fr, g, _, rfl, h.ext hx07, hr.ext hx07, ho, .inl rfl, hx07.wide _, by omega, .inl rfl⟩

def lastV (L : List Int) : Int := (L.getLast?).getD 0
theorem Pop_all (h : RG w b g L fr room) : Cal Try.prog 27 ⟨[.pointer (some ⟨b, 0, none⟩)]⟩ w fun v w' => v = .tuple ⟨[.int .i32 (lastV L), .bool (decide (0 < L.length))]⟩ ∧ RG w' b g L.dropLast fr room ∧ Chg (RS b g) w w' := by
  rcases List.eq_nil_or_concat L with rfl | ⟨M, z, rfl⟩
  · refine r_cal (Pop_no h) ?_
    rintro _ w' ⟨rfl, rfl⟩
    exact ⟨rfl, h, Chg.refl _ _⟩
  · rw [List.concat_eq_append] at h ⊢
    refine r_cal (Pop_ok h) ?_
    rintro _ w' ⟨rfl, h1, h2⟩
    exact ⟨by simp [lastV], by simpa using h1, h2⟩
theorem at_last (L : List Int) (fr : Nat) : atR (atV L fr ((fr : Int) + L.length - 1)) = .tuple ⟨[.int .i32 (lastV L), .bool (decide (0 < L.length))]⟩ := by
  rcases List.eq_nil_or_concat L with rfl | ⟨M, z, rfl⟩
  · unfold atV
    rw [if_neg (by simp; omega)]
    rfl
  · rw [List.concat_eq_append]
    unfold atV
    rw [if_pos (by simp; omega), show ((fr : Int) + (M ++ [z]).length - 1 - fr).toNat = M.length by simp; omega]
    simp [lastV, atR]
theorem cut_last (L : List Int) (fr : Nat) : cutL L fr ((fr : Int) + max 0 ((L.length : Int) - 1)) = L.dropLast := by
  unfold cutL
  rcases Nat.eq_zero_or_pos L.length with h0 | h0
  · have : L = [] := List.length_eq_zero_iff.1 h0
    subst this
    simp
  · rw [if_pos (by omega), List.dropLast_eq_take]
    congr 1
    omega

set_option maxRecDepth 100000 in
theorem does1 (h : RG w b g L fr room) (hr : IsRow w L fr room cs) (ho : Off (RS b g) cs) (x n : Int) (hfr : fr ≤ 4611686018427387904) :
    Cal Try.prog 20 ⟨[.pointer (some ⟨b, 0, none⟩), .agg ⟨cs⟩, .agg ⟨[.int .u8 1, .int .i32 x, .int .i64 n]⟩]⟩ w (Done w b g fr room cs) := by
  have hll := h.len_le
  rw [encs_len] at hll
  obtain ⟨a, len, cap, rfl⟩ := hr.cells
  refine go20 (by rfl) ?_
  (repeat ((conv => whnf); (first | with_reducible refine r_tt ?_ | with_reducible refine r_ff ?_ | with_reducible refine r_ntt ?_ | with_reducible refine r_nff ?_ | refine r_need (by omega) ?_ | refine r_i64 (by omega) ?_ | refine r_dect (by omega) ?_ | refine r_decf (by omega) ?_ | refine r_eqt (by omega) ?_ | refine r_eqf (by omega) ?_ | refine r_net (by omega) ?_ | refine r_nef (by omega) ?_ | refine r_u8 (by omega) ?_ | refine r_u64 (by omega) ?_ | refine r_i32 (by omega) ?_ | refine r_u32 (by omega) ?_ | refine r_rem (by omega) ?_ | refine r_quo (by omega) ?_ | refine r_ldb (by assumption) (by rfl) ?_ | refine r_ldbE (by assumption) (by rfl) ?_))); (conv => whnf)
  refine r_new fun b4 w1 hx1 hb1 hs1 hblk4 => ?_
  (repeat ((conv => whnf); (first | with_reducible refine r_tt ?_ | with_reducible refine r_ff ?_ | with_reducible refine r_ntt ?_ | with_reducible refine r_nff ?_ | refine r_need (by omega) ?_ | refine r_i64 (by omega) ?_ | refine r_dect (by omega) ?_ | refine r_decf (by omega) ?_ | refine r_eqt (by omega) ?_ | refine r_eqf (by omega) ?_ | refine r_net (by omega) ?_ | refine r_nef (by omega) ?_ | refine r_u8 (by omega) ?_ | refine r_u64 (by omega) ?_ | refine r_i32 (by omega) ?_ | refine r_u32 (by omega) ?_ | refine r_rem (by omega) ?_ | refine r_quo (by omega) ?_ | refine r_ldb (by assumption) (by rfl) ?_ | refine r_ldbE (by assumption) (by rfl) ?_))); (conv => whnf)
  refine r_new fun b5 w2 hx2 hb2 hs2 hblk5 => ?_
  have hl42 := (hblk4.ext hx2).lt
  have hl52 := hblk5.lt
  (repeat ((conv => whnf); (first | with_reducible refine r_tt ?_ | with_reducible refine r_ff ?_ | with_reducible refine r_ntt ?_ | with_reducible refine r_nff ?_ | refine r_need (by omega) ?_ | refine r_i64 (by omega) ?_ | refine r_dect (by omega) ?_ | refine r_decf (by omega) ?_ | refine r_eqt (by omega) ?_ | refine r_eqf (by omega) ?_ | refine r_net (by omega) ?_ | refine r_nef (by omega) ?_ | refine r_u8 (by omega) ?_ | refine r_u64 (by omega) ?_ | refine r_i32 (by omega) ?_ | refine r_u32 (by omega) ?_ | refine r_rem (by omega) ?_ | refine r_quo (by omega) ?_ | refine r_ldb (by assumption) (by rfl) ?_ | refine r_ldbE (by assumption) (by rfl) ?_))); (conv => whnf)
  refine r_new fun b6 w3 hx3 hb3 hs3 hblk6 => ?_
  have hblk4 : Blk w3 b4 37 (rowCells a len cap fr room) := (hblk4.ext hx2).ext hx3
  have hblk5 : Blk w3 b5 39 [.int .u8 1, .int .i32 x, .int .i64 n] := hblk5.ext hx3
  have hx03 := (hx1.trans hx2).trans hx3
  have hs03 := hx03.size
  have hs01 := hx1.size
  have hs02 := hx2.size
  have hl6 := hblk6.lt
  have h3 := h.ext hx03
  have hr3 := hr.ext hx03
  (repeat ((conv => whnf); (first | with_reducible refine r_tt ?_ | with_reducible refine r_ff ?_ | with_reducible refine r_ntt ?_ | with_reducible refine r_nff ?_ | refine r_need (by omega) ?_ | refine r_i64 (by omega) ?_ | refine r_dect (by omega) ?_ | refine r_decf (by omega) ?_ | refine r_eqt (by omega) ?_ | refine r_eqf (by omega) ?_ | refine r_net (by omega) ?_ | refine r_nef (by omega) ?_ | refine r_u8 (by omega) ?_ | refine r_u64 (by omega) ?_ | refine r_i32 (by omega) ?_ | refine r_u32 (by omega) ?_ | refine r_rem (by omega) ?_ | refine r_quo (by omega) ?_ | refine r_ldb (by assumption) (by rfl) ?_ | refine r_ldbE (by assumption) (by rfl) ?_))); (conv => whnf)
  refine r_cal (Pop_all h3) ?_
  rintro _ w4 ⟨rfl, h4, hc4⟩
  have hs4 := hc4.size
  have hn4 : ¬ RS b g b4 := RS_no h (by omega)
  have hn6 : ¬ RS b g b6 := RS_no h (by omega)
  have hblk4 : Blk w4 b4 37 [.slice a len cap, .int .i64 (fr : Int), .int .i64 (room : Int)] := hblk4.keep hc4 hn4
  have hblk6 := hblk6.keep hc4 hn6
  have hr4 := hr3.keep hc4 ho
  have hlen : L.length = len := by
    obtain ⟨a', len', cap', e', hv'⟩ := hr4
    simp only [rowCells, List.cons.injEq, Value.slice.injEq] at e'
    obtain ⟨⟨rfl, rfl, rfl⟩, -, -, -⟩ := e'
    exact view_len hv'
  subst hlen
  (repeat ((conv => whnf); (first | with_reducible refine r_tt ?_ | with_reducible refine r_ff ?_ | with_reducible refine r_ntt ?_ | with_reducible refine r_nff ?_ | refine r_need (by omega) ?_ | refine r_i64 (by omega) ?_ | refine r_dect (by omega) ?_ | refine r_decf (by omega) ?_ | refine r_eqt (by omega) ?_ | refine r_eqf (by omega) ?_ | refine r_net (by omega) ?_ | refine r_nef (by omega) ?_ | refine r_u8 (by omega) ?_ | refine r_u64 (by omega) ?_ | refine r_i32 (by omega) ?_ | refine r_u32 (by omega) ?_ | refine r_rem (by omega) ?_ | refine r_quo (by omega) ?_ | refine r_ldb (by assumption) (by rfl) ?_ | refine r_ldbE (by assumption) (by rfl) ?_))); (conv => whnf)
  refine r_ldnb (vs := rowCells a L.length cap fr room) hblk4 rfl rfl ?_
  (repeat ((conv => whnf); (first | with_reducible refine r_tt ?_ | with_reducible refine r_ff ?_ | with_reducible refine r_ntt ?_ | with_reducible refine r_nff ?_ | refine r_need (by omega) ?_ | refine r_i64 (by omega) ?_ | refine r_dect (by omega) ?_ | refine r_decf (by omega) ?_ | refine r_eqt (by omega) ?_ | refine r_eqf (by omega) ?_ | refine r_net (by omega) ?_ | refine r_nef (by omega) ?_ | refine r_u8 (by omega) ?_ | refine r_u64 (by omega) ?_ | refine r_i32 (by omega) ?_ | refine r_u32 (by omega) ?_ | refine r_rem (by omega) ?_ | refine r_quo (by omega) ?_ | refine r_ldb (by assumption) (by rfl) ?_ | refine r_ldbE (by assumption) (by rfl) ?_))); (conv => whnf)
  refine r_cal (rAt_ok hr4 _ hfr (by omega)) ?_
  rintro _ w5 ⟨hx5, rfl⟩
  rw [at_last]
  have hblk5 := hblk4.ext hx5
  (repeat ((conv => whnf); (first | with_reducible refine r_tt ?_ | with_reducible refine r_ff ?_ | with_reducible refine r_ntt ?_ | with_reducible refine r_nff ?_ | refine r_need (by omega) ?_ | refine r_i64 (by omega) ?_ | refine r_dect (by omega) ?_ | refine r_decf (by omega) ?_ | refine r_eqt (by omega) ?_ | refine r_eqf (by omega) ?_ | refine r_net (by omega) ?_ | refine r_nef (by omega) ?_ | refine r_u8 (by omega) ?_ | refine r_u64 (by omega) ?_ | refine r_i32 (by omega) ?_ | refine r_u32 (by omega) ?_ | refine r_rem (by omega) ?_ | refine r_quo (by omega) ?_ | refine r_ldb (by assumption) (by rfl) ?_ | refine r_ldbE (by assumption) (by rfl) ?_))); (conv => whnf)
  refine r_ldnb (vs := rowCells a L.length cap fr room) hblk5 rfl rfl ?_
  (repeat ((conv => whnf); (first | with_reducible refine r_tt ?_ | with_reducible refine r_ff ?_ | with_reducible refine r_ntt ?_ | with_reducible refine r_nff ?_ | refine r_need (by omega) ?_ | refine r_i64 (by omega) ?_ | refine r_dect (by omega) ?_ | refine r_decf (by omega) ?_ | refine r_eqt (by omega) ?_ | refine r_eqf (by omega) ?_ | refine r_net (by omega) ?_ | refine r_nef (by omega) ?_ | refine r_u8 (by omega) ?_ | refine r_u64 (by omega) ?_ | refine r_i32 (by omega) ?_ | refine r_u32 (by omega) ?_ | refine r_rem (by omega) ?_ | refine r_quo (by omega) ?_ | refine r_ldb (by assumption) (by rfl) ?_ | refine r_ldbE (by assumption) (by rfl) ?_))); (conv => whnf)
  simp only [cond_true]
  (repeat ((conv => whnf); (first | with_reducible refine r_tt ?_ | with_reducible refine r_ff ?_ | with_reducible refine r_ntt ?_ | with_reducible refine r_nff ?_ | refine r_need (by omega) ?_ | refine r_i64 (by omega) ?_ | refine r_dect (by omega) ?_ | refine r_decf (by omega) ?_ | refine r_eqt (by omega) ?_ | refine r_eqf (by omega) ?_ | refine r_net (by omega) ?_ | refine r_nef (by omega) ?_ | refine r_u8 (by omega) ?_ | refine r_u64 (by omega) ?_ | refine r_i32 (by omega) ?_ | refine r_u32 (by omega) ?_ | refine r_rem (by omega) ?_ | refine r_quo (by omega) ?_ | refine r_ldb (by assumption) (by rfl) ?_ | refine r_ldbE (by assumption) (by rfl) ?_))); (conv => whnf)
  refine r_cal (rCut_all (hr4.ext hx5) _ hfr (by omega)) ?_
  rintro _ w6 ⟨hx6, cs', rfl, hr6, hn6'⟩
  rw [cut_last] at hr6
  have hs5 := hx5.size
  have hs6 := hx6.size
  have hoD : Off (DS b g b6) cs' := off_DS h hr ho hn6' (by omega)
  obtain ⟨a', len', cap', rfl⟩ := hr6.cells
  have hblk6' := hblk5.ext hx6
  (repeat ((conv => whnf); (first | with_reducible refine r_tt ?_ | with_reducible refine r_ff ?_ | with_reducible refine r_ntt ?_ | with_reducible refine r_nff ?_ | refine r_need (by omega) ?_ | refine r_i64 (by omega) ?_ | refine r_dect (by omega) ?_ | refine r_decf (by omega) ?_ | refine r_eqt (by omega) ?_ | refine r_eqf (by omega) ?_ | refine r_net (by omega) ?_ | refine r_nef (by omega) ?_ | refine r_u8 (by omega) ?_ | refine r_u64 (by omega) ?_ | refine r_i32 (by omega) ?_ | refine r_u32 (by omega) ?_ | refine r_rem (by omega) ?_ | refine r_quo (by omega) ?_ | refine r_ldb (by assumption) (by rfl) ?_ | refine r_ldbE (by assumption) (by rfl) ?_))); (conv => whnf)
  refine r_new fun b8 w7 hx7 hb7 hs7 hblk8 => ?_
  (repeat ((conv => whnf); (first | with_reducible refine r_tt ?_ | with_reducible refine r_ff ?_ | with_reducible refine r_ntt ?_ | with_reducible refine r_nff ?_ | refine r_need (by omega) ?_ | refine r_i64 (by omega) ?_ | refine r_dect (by omega) ?_ | refine r_decf (by omega) ?_ | refine r_eqt (by omega) ?_ | refine r_eqf (by omega) ?_ | refine r_net (by omega) ?_ | refine r_nef (by omega) ?_ | refine r_u8 (by omega) ?_ | refine r_u64 (by omega) ?_ | refine r_i32 (by omega) ?_ | refine r_u32 (by omega) ?_ | refine r_rem (by omega) ?_ | refine r_quo (by omega) ?_ | refine r_ldb (by assumption) (by rfl) ?_ | refine r_ldbE (by assumption) (by rfl) ?_))); (conv => whnf)
  refine r_stn hblk8 (by simp [rowCells]) (row_one _ _ _ _ _) fun w8 hc8 hs8 hblk8 => ?_
  have hblk8 : Blk w8 b8 37 (rowCells a' len' cap' fr room) := hblk8
  have hx68 : Ext w6 w8 := Chg.step hx7 hc8 fun k hk hlt => by omega
  have hs8' := hx68.size
  have hblk4 := (hblk6'.ext hx68)
  have hb86 : ¬ b8 = b6 := by omega
  have hb46 : ¬ b4 = b6 := by omega
  (repeat ((conv => whnf); (first | with_reducible refine r_tt ?_ | with_reducible refine r_ff ?_ | with_reducible refine r_ntt ?_ | with_reducible refine r_nff ?_ | refine r_need (by omega) ?_ | refine r_i64 (by omega) ?_ | refine r_dect (by omega) ?_ | refine r_decf (by omega) ?_ | refine r_eqt (by omega) ?_ | refine r_eqf (by omega) ?_ | refine r_net (by omega) ?_ | refine r_nef (by omega) ?_ | refine r_u8 (by omega) ?_ | refine r_u64 (by omega) ?_ | refine r_i32 (by omega) ?_ | refine r_u32 (by omega) ?_ | refine r_rem (by omega) ?_ | refine r_quo (by omega) ?_ | refine r_ldb (by assumption) (by rfl) ?_ | refine r_ldbE (by assumption) (by rfl) ?_))); (conv => whnf)
  refine r_drawS (fun k => k = b6) fun w9 hx9 hh9 => ?_
  (repeat ((conv => whnf); (first | refine r_ldbS hblk4 (by rfl) hb46 ?_ | refine r_ldnbS (vs := rowCells a' len' cap' fr room) hblk8 rfl rfl hb86 ?_ | with_reducible refine r_tt ?_ | with_reducible refine r_ff ?_ | with_reducible refine r_ntt ?_ | with_reducible refine r_nff ?_ | refine r_need (by omega) ?_ | refine r_i64 (by omega) ?_ | refine r_dect (by omega) ?_ | refine r_decf (by omega) ?_ | refine r_eqt (by omega) ?_ | refine r_eqf (by omega) ?_ | refine r_net (by omega) ?_ | refine r_nef (by omega) ?_ | refine r_u8 (by omega) ?_ | refine r_u64 (by omega) ?_ | refine r_i32 (by omega) ?_ | refine r_u32 (by omega) ?_ | refine r_rem (by omega) ?_ | refine r_quo (by omega) ?_ | refine r_ldb (by assumption) (by rfl) ?_ | refine r_ldbE (by assumption) (by rfl) ?_))); (conv => whnf)
  refine r_stn ((((hblk6.ext hx5).ext hx6).ext hx68).ext hx9) (by simp [rowCells]) (row_one _ _ _ _ _) fun w10 hc10 hs10 hblk10 => ?_
  have hblk10 : Blk w10 b6 37 (rowCells a' len' cap' fr room) := hblk10
  (repeat ((conv => whnf); (first | with_reducible refine r_tt ?_ | with_reducible refine r_ff ?_ | with_reducible refine r_ntt ?_ | with_reducible refine r_nff ?_ | refine r_need (by omega) ?_ | refine r_i64 (by omega) ?_ | refine r_dect (by omega) ?_ | refine r_decf (by omega) ?_ | refine r_eqt (by omega) ?_ | refine r_eqf (by omega) ?_ | refine r_net (by omega) ?_ | refine r_nef (by omega) ?_ | refine r_u8 (by omega) ?_ | refine r_u64 (by omega) ?_ | refine r_i32 (by omega) ?_ | refine r_u32 (by omega) ?_ | refine r_rem (by omega) ?_ | refine r_quo (by omega) ?_ | refine r_ldb (by assumption) (by rfl) ?_ | refine r_ldbE (by assumption) (by rfl) ?_))); (conv => whnf)
  refine r_held (Chg.trans (hx9.wide _) hc10) ?_
  (repeat ((conv => whnf); (first | with_reducible refine r_tt ?_ | with_reducible refine r_ff ?_ | with_reducible refine r_ntt ?_ | with_reducible refine r_nff ?_ | refine r_need (by omega) ?_ | refine r_i64 (by omega) ?_ | refine r_dect (by omega) ?_ | refine r_decf (by omega) ?_ | refine r_eqt (by omega) ?_ | refine r_eqf (by omega) ?_ | refine r_net (by omega) ?_ | refine r_nef (by omega) ?_ | refine r_u8 (by omega) ?_ | refine r_u64 (by omega) ?_ | refine r_i32 (by omega) ?_ | refine r_u32 (by omega) ?_ | refine r_rem (by omega) ?_ | refine r_quo (by omega) ?_ | refine r_ldb (by assumption) (by rfl) ?_ | refine r_ldbE (by assumption) (by rfl) ?_))); (conv => whnf)
  refine r_ldnb (vs := rowCells a' len' cap' fr room) hblk10 rfl rfl ?_
  (repeat ((conv => whnf); (first | with_reducible refine r_tt ?_ | with_reducible refine r_ff ?_ | with_reducible refine r_ntt ?_ | with_reducible refine r_nff ?_ | refine r_need (by omega) ?_ | refine r_i64 (by omega) ?_ | refine r_dect (by omega) ?_ | refine r_decf (by omega) ?_ | refine r_eqt (by omega) ?_ | refine r_eqf (by omega) ?_ | refine r_net (by omega) ?_ | refine r_nef (by omega) ?_ | refine r_u8 (by omega) ?_ | refine r_u64 (by omega) ?_ | refine r_i32 (by omega) ?_ | refine r_u32 (by omega) ?_ | refine r_rem (by omega) ?_ | refine r_quo (by omega) ?_ | refine r_ldb (by assumption) (by rfl) ?_ | refine r_ldbE (by assumption) (by rfl) ?_))); (conv => whnf)
  have hx49 : Ext w4 w9 := ((hx5.trans hx6).trans hx68).trans hx9
  have hc010 : Chg (RS b g) w w10 := Chg.step ((Chg.step (hx03.wide _) hc4 fun k hk _ => hk).ext hx49) hc10 fun k hk hlt => by omega
  refine ⟨_, fr, g, _, by simp, (h4.ext hx49).keep hc10 (by have := h.lt.1; omega) (fun y hy e => by have := h.lt.2 y hy; omega), (hr6.ext (hx68.trans hx9)).keep hc10 (hoD.mono fun k hk => .inr (.inr hk)), DS_off hoD, .inl rfl, hc010, by omega, hn6'.imp id fun e => e.mono (by omega)⟩

theorem does_ok (h : RG w b g L fr room) (hr : IsRow w L fr room cs) (ho : Off (RS b g) cs) (kd x n : Int) (hn : -9223372036854775808 ≤ n ∧ n ≤ 9223372036854775807) (hfr : fr ≤ 4611686018427387904) :
    Cal Try.prog 20 ⟨[.pointer (some ⟨b, 0, none⟩), .agg ⟨cs⟩, .agg ⟨[.int .u8 kd, .int .i32 x, .int .i64 n]⟩]⟩ w (Done w b g fr room cs) := by
  by_cases h0 : kd = 0
  · subst h0; exact does0 h hr ho x n
  by_cases h1 : kd = 1
  · subst h1; exact does1 h hr ho x n hfr
  by_cases h2 : kd = 2
  · subst h2; exact does2 h hr ho x n hfr
  by_cases h3 : kd = 3
  · subst h3; exact does3 h hr ho x n hn hfr
  by_cases h4 : kd = 4
  · subst h4; exact does4 h hr ho x n hn hfr
  exact does5 h hr ho x n kd ⟨h0, h1, h2, h3, h4⟩
end
end Fb.Try.RI
