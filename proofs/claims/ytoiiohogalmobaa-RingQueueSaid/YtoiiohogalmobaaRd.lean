/-
  Walks: the document's rows.
-/
import Derived.Test.YtoiiohogalmobaaRa
namespace Fb.Try.RI
open Go Go.Proofs Fb

def rowCells (a : Option Addr) (len cap fr room : Nat) : List Value := [.slice a len cap, .int .i64 (fr : Int), .int .i64 (room : Int)]
/-- A row in memory. -/
def IsRow (w : World) (L : List Int) (fr room : Nat) (cs : List Value) : Prop := ∃ a len cap, cs = rowCells a len cap fr room ∧ View w a len cap 1 (vals L)
/-- Where its array does not lie. -/
def Off (S : Nat → Prop) (cs : List Value) : Prop := ∀ a len cap, .slice a len cap ∈ cs → 0 < len → ¬ S (blk a)
theorem vals_len (L : List Int) : (vals L).length = L.length := by simp [vals]
theorem view_len {w : World} {a : Option Addr} {len cap : Nat} {L : List Int} (h : View w a len cap 1 (vals L)) : L.length = len := by
  have := h.length
  simpa [vals] using this
theorem IsRow.keep {S : Nat → Prop} {w w' : World} {L : List Int} {fr room : Nat} {cs : List Value} (h : IsRow w L fr room cs) (k : Chg S w w') (hs : Off S cs) : IsRow w' L fr room cs := by
  obtain ⟨a, len, cap, rfl, hv⟩ := h
  have hl := view_len hv
  exact ⟨a, len, cap, rfl, hv.keepN k fun hp => hs a len cap (by simp [rowCells]) (by rw [vals_len] at hp; omega)⟩
theorem IsRow.ext {w w' : World} {L : List Int} {fr room : Nat} {cs : List Value} (h : IsRow w L fr room cs) (k : Ext w w') : IsRow w' L fr room cs := h.keep k fun _ _ _ _ _ f => f
theorem Off.mono {S T : Nat → Prop} {cs : List Value} (h : Off S cs) (hST : ∀ k, T k → S k) : Off T cs := fun a len cap hm hp ht => h a len cap hm hp (hST _ ht)
theorem IsRow.off {w : World} {L : List Int} {fr room : Nat} {cs : List Value} (h : IsRow w L fr room cs) {S : Nat → Prop} (hS : ∀ k, S k → w.heap.size ≤ k) : Off S cs := by
  obtain ⟨a, len, cap, rfl, hv⟩ := h
  intro a' len' cap' hm hp hs
  simp [rowCells] at hm
  obtain ⟨rfl, rfl, rfl⟩ := hm
  have hl := view_len hv
  have := hv.lt (by rw [vals_len]; omega)
  have := hS _ hs
  omega
theorem row_one (a : Option Addr) (len cap fr room : Nat) : ∀ v ∈ rowCells a len cap fr room, v.oneCell' = true := by
  intro v hv
  simp [rowCells] at hv
  rcases hv with rfl | rfl | rfl <;> rfl
theorem vals_one (L : List Int) : ∀ v ∈ vals L, v.oneCell' = true := by
  intro v hv
  obtain ⟨z, _, rfl⟩ := List.mem_map.1 hv
  rfl
theorem own_row {w : World} {base : Nat} {v : Value} {L : List Int} {n : Nat} (h : w.ownsRow base 21 1 v n (vals L)) : ∃ a cap, v = .slice a n cap ∧ View w a n cap 1 (vals L) ∧ (0 < n → base ≤ blk a) := by
  obtain ⟨a, cap, rfl, hv, _, hge⟩ := View.of_own h
  refine ⟨a, cap, rfl, hv, fun hp => ?_⟩
  have hl := view_len hv
  have hpl := hv.plain (by rw [vals_len]; omega)
  unfold plainA at hpl
  exact hge _ hpl
theorem empty_own {w : World} {b base : Nat} (h : Blk w b 21 []) (hb : base ≤ b) : w.ownsRow base 21 1 (.slice (some ⟨b, 0, none⟩) 0 0) 0 [] :=
  ⟨rfl, .inr ⟨b, 0, #[], rfl, hb, h, Nat.le_refl _, by simp [maxLen], rfl, rfl⟩⟩

/-- A new row: its array lies in what is new. -/
def NewRow (base : Nat) (cs : List Value) : Prop := ∀ a len cap, .slice a len cap ∈ cs → 0 < len → base ≤ blk a
theorem NewRow.off {base : Nat} {cs : List Value} (h : NewRow base cs) {S : Nat → Prop} (hS : ∀ k, S k → k < base) : Off S cs := fun a len cap hm hp hs => by
  have := h a len cap hm hp
  have := hS _ hs
  omega
theorem newRow_of {base : Nat} {a : Option Addr} {len cap fr room : Nat} (h : 0 < len → base ≤ blk a) : NewRow base (rowCells a len cap fr room) := fun a' len' cap' hm hp => by
  simp [rowCells] at hm
  obtain ⟨rfl, rfl, rfl⟩ := hm
  exact h hp

theorem rPush_no {w : World} {L : List Int} {fr room : Nat} {cs : List Value} (h : IsRow w L fr room cs) (z : Int) (hl : ¬ L.length < room) :
    Cal Try.prog 54 ⟨[.agg ⟨cs⟩, .int .i32 z]⟩ w fun v w' => Ext w w' ∧ v = .tuple ⟨[.agg ⟨cs⟩, .bool false]⟩ := by
  obtain ⟨a, len, cap, rfl, hv⟩ := h
  have hlen := view_len hv
  refine go54 (by rfl) ?_
  (repeat ((conv => whnf); (first | with_reducible refine r_tt ?_ | with_reducible refine r_ff ?_ | with_reducible refine r_ntt ?_ | with_reducible refine r_nff ?_ | refine r_need (by omega) ?_ | refine r_i64 (by omega) ?_ | refine r_dect (by omega) ?_ | refine r_decf (by omega) ?_ | refine r_eqt (by omega) ?_ | refine r_eqf (by omega) ?_ | refine r_net (by omega) ?_ | refine r_nef (by omega) ?_ | refine r_u8 (by omega) ?_ | refine r_u64 (by omega) ?_ | refine r_i32 (by omega) ?_ | refine r_u32 (by omega) ?_ | refine r_rem (by omega) ?_ | refine r_quo (by omega) ?_ | refine r_ldb (by assumption) (by rfl) ?_ | refine r_ldbE (by assumption) (by rfl) ?_))); (conv => whnf)
  refine r_new fun b2 w1 hx1 hb1 hs1 hblk1 => ?_
  have hblk1 : Blk w1 b2 37 [.slice a len cap, .int .i64 (fr : Int), .int .i64 (room : Int)] := hblk1
  (repeat ((conv => whnf); (first | with_reducible refine r_tt ?_ | with_reducible refine r_ff ?_ | with_reducible refine r_ntt ?_ | with_reducible refine r_nff ?_ | refine r_need (by omega) ?_ | refine r_i64 (by omega) ?_ | refine r_dect (by omega) ?_ | refine r_decf (by omega) ?_ | refine r_eqt (by omega) ?_ | refine r_eqf (by omega) ?_ | refine r_net (by omega) ?_ | refine r_nef (by omega) ?_ | refine r_u8 (by omega) ?_ | refine r_u64 (by omega) ?_ | refine r_i32 (by omega) ?_ | refine r_u32 (by omega) ?_ | refine r_rem (by omega) ?_ | refine r_quo (by omega) ?_ | refine r_ldb (by assumption) (by rfl) ?_ | refine r_ldbE (by assumption) (by rfl) ?_))); (conv => whnf)
  refine r_new fun b4 w2 hx2 hb2 hs2 hblk2 => ?_
  have hblk12 := hblk1.ext hx2
  (repeat ((conv => whnf); (first | with_reducible refine r_tt ?_ | with_reducible refine r_ff ?_ | with_reducible refine r_ntt ?_ | with_reducible refine r_nff ?_ | refine r_need (by omega) ?_ | refine r_i64 (by omega) ?_ | refine r_dect (by omega) ?_ | refine r_decf (by omega) ?_ | refine r_eqt (by omega) ?_ | refine r_eqf (by omega) ?_ | refine r_net (by omega) ?_ | refine r_nef (by omega) ?_ | refine r_u8 (by omega) ?_ | refine r_u64 (by omega) ?_ | refine r_i32 (by omega) ?_ | refine r_u32 (by omega) ?_ | refine r_rem (by omega) ?_ | refine r_quo (by omega) ?_ | refine r_ldb (by assumption) (by rfl) ?_ | refine r_ldbE (by assumption) (by rfl) ?_))); (conv => whnf)
  refine r_ldnb (vs := rowCells a len cap fr room) hblk12 rfl rfl ?_
  (repeat ((conv => whnf); (first | with_reducible refine r_tt ?_ | with_reducible refine r_ff ?_ | with_reducible refine r_ntt ?_ | with_reducible refine r_nff ?_ | refine r_need (by omega) ?_ | refine r_i64 (by omega) ?_ | refine r_dect (by omega) ?_ | refine r_decf (by omega) ?_ | refine r_eqt (by omega) ?_ | refine r_eqf (by omega) ?_ | refine r_net (by omega) ?_ | refine r_nef (by omega) ?_ | refine r_u8 (by omega) ?_ | refine r_u64 (by omega) ?_ | refine r_i32 (by omega) ?_ | refine r_u32 (by omega) ?_ | refine r_rem (by omega) ?_ | refine r_quo (by omega) ?_ | refine r_ldb (by assumption) (by rfl) ?_ | refine r_ldbE (by assumption) (by rfl) ?_))); (conv => whnf)
  refine r_stn hblk2 (by simp [rowCells]) (row_one _ _ _ _ _) fun w3 hc3 hs3 hblk3 => ?_
  have hblk3 : Blk w3 b4 37 (rowCells a len cap fr room) := hblk3
  (repeat ((conv => whnf); (first | with_reducible refine r_tt ?_ | with_reducible refine r_ff ?_ | with_reducible refine r_ntt ?_ | with_reducible refine r_nff ?_ | refine r_need (by omega) ?_ | refine r_i64 (by omega) ?_ | refine r_dect (by omega) ?_ | refine r_decf (by omega) ?_ | refine r_eqt (by omega) ?_ | refine r_eqf (by omega) ?_ | refine r_net (by omega) ?_ | refine r_nef (by omega) ?_ | refine r_u8 (by omega) ?_ | refine r_u64 (by omega) ?_ | refine r_i32 (by omega) ?_ | refine r_u32 (by omega) ?_ | refine r_rem (by omega) ?_ | refine r_quo (by omega) ?_ | refine r_ldb (by assumption) (by rfl) ?_ | refine r_ldbE (by assumption) (by rfl) ?_))); (conv => whnf)
  refine r_ldnb (vs := rowCells a len cap fr room) hblk3 rfl rfl ?_
  (repeat ((conv => whnf); (first | with_reducible refine r_tt ?_ | with_reducible refine r_ff ?_ | with_reducible refine r_ntt ?_ | with_reducible refine r_nff ?_ | refine r_need (by omega) ?_ | refine r_i64 (by omega) ?_ | refine r_dect (by omega) ?_ | refine r_decf (by omega) ?_ | refine r_eqt (by omega) ?_ | refine r_eqf (by omega) ?_ | refine r_net (by omega) ?_ | refine r_nef (by omega) ?_ | refine r_u8 (by omega) ?_ | refine r_u64 (by omega) ?_ | refine r_i32 (by omega) ?_ | refine r_u32 (by omega) ?_ | refine r_rem (by omega) ?_ | refine r_quo (by omega) ?_ | refine r_ldb (by assumption) (by rfl) ?_ | refine r_ldbE (by assumption) (by rfl) ?_))); (conv => whnf)
  exact ⟨Chg.step (hx1.trans hx2) hc3 (fun k hk hlt => by omega), rfl⟩
theorem rPush_ok {w : World} {L : List Int} {fr room : Nat} {cs : List Value} (h : IsRow w L fr room cs) (z : Int) (hl : L.length < room) (hr : room ≤ 1048576) :
    Cal Try.prog 54 ⟨[.agg ⟨cs⟩, .int .i32 z]⟩ w fun v w' => Ext w w' ∧ ∃ cs', v = .tuple ⟨[.agg ⟨cs'⟩, .bool true]⟩ ∧ IsRow w' (L ++ [z]) fr room cs' ∧ NewRow w.heap.size cs' := by
  obtain ⟨a, len, cap, rfl, hv⟩ := h
  have hlen := view_len hv
  refine go54 (by rfl) ?_
  (repeat ((conv => whnf); (first | with_reducible refine r_tt ?_ | with_reducible refine r_ff ?_ | with_reducible refine r_ntt ?_ | with_reducible refine r_nff ?_ | refine r_need (by omega) ?_ | refine r_i64 (by omega) ?_ | refine r_dect (by omega) ?_ | refine r_decf (by omega) ?_ | refine r_eqt (by omega) ?_ | refine r_eqf (by omega) ?_ | refine r_net (by omega) ?_ | refine r_nef (by omega) ?_ | refine r_u8 (by omega) ?_ | refine r_u64 (by omega) ?_ | refine r_i32 (by omega) ?_ | refine r_u32 (by omega) ?_ | refine r_rem (by omega) ?_ | refine r_quo (by omega) ?_ | refine r_ldb (by assumption) (by rfl) ?_ | refine r_ldbE (by assumption) (by rfl) ?_))); (conv => whnf)
  refine r_new fun b2 w1 hx1 hb1 hs1 hblk1 => ?_
  have hblk1 : Blk w1 b2 37 [.slice a len cap, .int .i64 (fr : Int), .int .i64 (room : Int)] := hblk1
  (repeat ((conv => whnf); (first | with_reducible refine r_tt ?_ | with_reducible refine r_ff ?_ | with_reducible refine r_ntt ?_ | with_reducible refine r_nff ?_ | refine r_need (by omega) ?_ | refine r_i64 (by omega) ?_ | refine r_dect (by omega) ?_ | refine r_decf (by omega) ?_ | refine r_eqt (by omega) ?_ | refine r_eqf (by omega) ?_ | refine r_net (by omega) ?_ | refine r_nef (by omega) ?_ | refine r_u8 (by omega) ?_ | refine r_u64 (by omega) ?_ | refine r_i32 (by omega) ?_ | refine r_u32 (by omega) ?_ | refine r_rem (by omega) ?_ | refine r_quo (by omega) ?_ | refine r_ldb (by assumption) (by rfl) ?_ | refine r_ldbE (by assumption) (by rfl) ?_))); (conv => whnf)
  refine r_new fun b4 w2 hx2 hb2 hs2 hblk2 => ?_
  have hl1 := hblk1.lt
  have hblk1 := hblk1.ext hx2
  (repeat ((conv => whnf); (first | with_reducible refine r_tt ?_ | with_reducible refine r_ff ?_ | with_reducible refine r_ntt ?_ | with_reducible refine r_nff ?_ | refine r_need (by omega) ?_ | refine r_i64 (by omega) ?_ | refine r_dect (by omega) ?_ | refine r_decf (by omega) ?_ | refine r_eqt (by omega) ?_ | refine r_eqf (by omega) ?_ | refine r_net (by omega) ?_ | refine r_nef (by omega) ?_ | refine r_u8 (by omega) ?_ | refine r_u64 (by omega) ?_ | refine r_i32 (by omega) ?_ | refine r_u32 (by omega) ?_ | refine r_rem (by omega) ?_ | refine r_quo (by omega) ?_ | refine r_ldb (by assumption) (by rfl) ?_ | refine r_ldbE (by assumption) (by rfl) ?_))); (conv => whnf)
  refine r_new fun b6 w3 hx3 hb3 hs3 hblk3 => ?_
  have hl2 := hblk2.lt
  have hx03 := (hx1.trans hx2).trans hx3
  have hblk1 := hblk1.ext hx3
  (repeat ((conv => whnf); (first | with_reducible refine r_tt ?_ | with_reducible refine r_ff ?_ | with_reducible refine r_ntt ?_ | with_reducible refine r_nff ?_ | refine r_need (by omega) ?_ | refine r_i64 (by omega) ?_ | refine r_dect (by omega) ?_ | refine r_decf (by omega) ?_ | refine r_eqt (by omega) ?_ | refine r_eqf (by omega) ?_ | refine r_net (by omega) ?_ | refine r_nef (by omega) ?_ | refine r_u8 (by omega) ?_ | refine r_u64 (by omega) ?_ | refine r_i32 (by omega) ?_ | refine r_u32 (by omega) ?_ | refine r_rem (by omega) ?_ | refine r_quo (by omega) ?_ | refine r_ldb (by assumption) (by rfl) ?_ | refine r_ldbE (by assumption) (by rfl) ?_))); (conv => whnf)
  refine r_app el (empty_own hblk3 (Nat.le_refl _)) (hv.ext hx03) (vals_one L) (by omega) (by have := hblk3.lt; omega) fun v4 w4 hown4 hc4 _ => ?_
  have hx04 : Ext w w4 := Chg.own hx03 hc4 (empty_own hblk3 (by omega))
  have hne4 : ∀ k, (Value.slice (some ⟨b6, 0, none⟩) 0 0).ownBlock = some k → k = b6 := fun k hk => by simp [Value.ownBlock] at hk; exact hk.symm
  have hblk1 := hblk1.keep hc4 (fun e => by have := hne4 _ e; omega)
  have hblk2 := (hblk2.ext hx3).keep hc4 (fun e => by have := hne4 _ e; omega)
  (repeat ((conv => whnf); (first | with_reducible refine r_tt ?_ | with_reducible refine r_ff ?_ | with_reducible refine r_ntt ?_ | with_reducible refine r_nff ?_ | refine r_need (by omega) ?_ | refine r_i64 (by omega) ?_ | refine r_dect (by omega) ?_ | refine r_decf (by omega) ?_ | refine r_eqt (by omega) ?_ | refine r_eqf (by omega) ?_ | refine r_net (by omega) ?_ | refine r_nef (by omega) ?_ | refine r_u8 (by omega) ?_ | refine r_u64 (by omega) ?_ | refine r_i32 (by omega) ?_ | refine r_u32 (by omega) ?_ | refine r_rem (by omega) ?_ | refine r_quo (by omega) ?_ | refine r_ldb (by assumption) (by rfl) ?_ | refine r_ldbE (by assumption) (by rfl) ?_))); (conv => whnf)
  refine r_new fun b7 w5 hx5 hb5 hs5 hblk5 => ?_
  have hblk5 : Blk w5 b7 21 [.int .i32 z] := hblk5
  (repeat ((conv => whnf); (first | with_reducible refine r_tt ?_ | with_reducible refine r_ff ?_ | with_reducible refine r_ntt ?_ | with_reducible refine r_nff ?_ | refine r_need (by omega) ?_ | refine r_i64 (by omega) ?_ | refine r_dect (by omega) ?_ | refine r_decf (by omega) ?_ | refine r_eqt (by omega) ?_ | refine r_eqf (by omega) ?_ | refine r_net (by omega) ?_ | refine r_nef (by omega) ?_ | refine r_u8 (by omega) ?_ | refine r_u64 (by omega) ?_ | refine r_i32 (by omega) ?_ | refine r_u32 (by omega) ?_ | refine r_rem (by omega) ?_ | refine r_quo (by omega) ?_ | refine r_ldb (by assumption) (by rfl) ?_ | refine r_ldbE (by assumption) (by rfl) ?_))); (conv => whnf)
  refine r_app el (own_ext hown4 hx5) (View.of_blk (n := 1) hblk5 (by simp) (by simp [maxLen])) (by simp [Value.oneCell']) (by omega) (by have := hblk3.lt; have := hc4.size; omega) fun v6 w6 hown6 hc6 _ => ?_
  have hx06 : Ext w w6 := Chg.own (hx04.trans hx5) hc6 (own_mono (own_ext hown4 hx5) (by omega))
  have hge4 : ∀ k, v4.ownBlock = some k → b6 ≤ k := fun k hk => own_ge hown4 hk
  have hblk1 := (hblk1.ext hx5).keep hc6 (fun e => by have := hge4 _ e; omega)
  have hblk2 := (hblk2.ext hx5).keep hc6 (fun e => by have := hge4 _ e; omega)
  have hown6 : w6.ownsRow b6 21 1 v6 (L.length + 1) (vals (L ++ [z])) := by
    have e : vals (L ++ [z]) = [] ++ vals L ++ [.int .i32 z] := by simp [vals]
    rw [e, show L.length + 1 = 0 + len + 1 by omega]
    exact hown6
  obtain ⟨a6, c6, rfl, hv6, hn6⟩ := own_row hown6
  (repeat ((conv => whnf); (first | with_reducible refine r_tt ?_ | with_reducible refine r_ff ?_ | with_reducible refine r_ntt ?_ | with_reducible refine r_nff ?_ | refine r_need (by omega) ?_ | refine r_i64 (by omega) ?_ | refine r_dect (by omega) ?_ | refine r_decf (by omega) ?_ | refine r_eqt (by omega) ?_ | refine r_eqf (by omega) ?_ | refine r_net (by omega) ?_ | refine r_nef (by omega) ?_ | refine r_u8 (by omega) ?_ | refine r_u64 (by omega) ?_ | refine r_i32 (by omega) ?_ | refine r_u32 (by omega) ?_ | refine r_rem (by omega) ?_ | refine r_quo (by omega) ?_ | refine r_ldb (by assumption) (by rfl) ?_ | refine r_ldbE (by assumption) (by rfl) ?_))); (conv => whnf)
  refine r_stn hblk2 (by simp) (row_one a6 (L.length + 1) c6 fr room) fun w7 hc7 hs7 hblk7 => ?_
  have hblk7 : Blk w7 b4 37 (rowCells a6 (L.length + 1) c6 fr room) := hblk7
  (repeat ((conv => whnf); (first | with_reducible refine r_tt ?_ | with_reducible refine r_ff ?_ | with_reducible refine r_ntt ?_ | with_reducible refine r_nff ?_ | refine r_need (by omega) ?_ | refine r_i64 (by omega) ?_ | refine r_dect (by omega) ?_ | refine r_decf (by omega) ?_ | refine r_eqt (by omega) ?_ | refine r_eqf (by omega) ?_ | refine r_net (by omega) ?_ | refine r_nef (by omega) ?_ | refine r_u8 (by omega) ?_ | refine r_u64 (by omega) ?_ | refine r_i32 (by omega) ?_ | refine r_u32 (by omega) ?_ | refine r_rem (by omega) ?_ | refine r_quo (by omega) ?_ | refine r_ldb (by assumption) (by rfl) ?_ | refine r_ldbE (by assumption) (by rfl) ?_))); (conv => whnf)
  refine r_ldnb (vs := rowCells a6 (L.length + 1) c6 fr room) hblk7 rfl rfl ?_
  (repeat ((conv => whnf); (first | with_reducible refine r_tt ?_ | with_reducible refine r_ff ?_ | with_reducible refine r_ntt ?_ | with_reducible refine r_nff ?_ | refine r_need (by omega) ?_ | refine r_i64 (by omega) ?_ | refine r_dect (by omega) ?_ | refine r_decf (by omega) ?_ | refine r_eqt (by omega) ?_ | refine r_eqf (by omega) ?_ | refine r_net (by omega) ?_ | refine r_nef (by omega) ?_ | refine r_u8 (by omega) ?_ | refine r_u64 (by omega) ?_ | refine r_i32 (by omega) ?_ | refine r_u32 (by omega) ?_ | refine r_rem (by omega) ?_ | refine r_quo (by omega) ?_ | refine r_ldb (by assumption) (by rfl) ?_ | refine r_ldbE (by assumption) (by rfl) ?_))); (conv => whnf)
  refine ⟨Chg.step hx06 hc7 (fun k hk hlt => by omega), _, rfl, ⟨a6, L.length + 1, c6, rfl, hv6.keepN hc7 fun hp e => ?_⟩, newRow_of fun hp => ?_⟩
  · have := hn6 (by omega); omega
  · have := hn6 hp; omega

theorem rAt_ok {w : World} {L : List Int} {fr room : Nat} {cs : List Value} (h : IsRow w L fr room cs) (n : Int) (hfr : fr ≤ 4611686018427387904) (hl : L.length ≤ 1048576) :
    Cal Try.prog 55 ⟨[.agg ⟨cs⟩, .int .i64 n]⟩ w fun v w' => Ext w w' ∧ v = atR (atV L fr n) := by
  obtain ⟨a, len, cap, rfl, hv⟩ := h
  have hlen := view_len hv
  refine go55 (by rfl) ?_
  (repeat ((conv => whnf); (first | with_reducible refine r_tt ?_ | with_reducible refine r_ff ?_ | with_reducible refine r_ntt ?_ | with_reducible refine r_nff ?_ | refine r_need (by omega) ?_ | refine r_i64 (by omega) ?_ | refine r_dect (by omega) ?_ | refine r_decf (by omega) ?_ | refine r_eqt (by omega) ?_ | refine r_eqf (by omega) ?_ | refine r_net (by omega) ?_ | refine r_nef (by omega) ?_ | refine r_u8 (by omega) ?_ | refine r_u64 (by omega) ?_ | refine r_i32 (by omega) ?_ | refine r_u32 (by omega) ?_ | refine r_rem (by omega) ?_ | refine r_quo (by omega) ?_ | refine r_ldb (by assumption) (by rfl) ?_ | refine r_ldbE (by assumption) (by rfl) ?_))); (conv => whnf)
  refine r_new fun b2 w1 hx1 hb1 hs1 hblk1 => ?_
  have hblk1 : Blk w1 b2 37 [.slice a len cap, .int .i64 (fr : Int), .int .i64 (room : Int)] := hblk1
  (repeat ((conv => whnf); (first | with_reducible refine r_tt ?_ | with_reducible refine r_ff ?_ | with_reducible refine r_ntt ?_ | with_reducible refine r_nff ?_ | refine r_need (by omega) ?_ | refine r_i64 (by omega) ?_ | refine r_dect (by omega) ?_ | refine r_decf (by omega) ?_ | refine r_eqt (by omega) ?_ | refine r_eqf (by omega) ?_ | refine r_net (by omega) ?_ | refine r_nef (by omega) ?_ | refine r_u8 (by omega) ?_ | refine r_u64 (by omega) ?_ | refine r_i32 (by omega) ?_ | refine r_u32 (by omega) ?_ | refine r_rem (by omega) ?_ | refine r_quo (by omega) ?_ | refine r_ldb (by assumption) (by rfl) ?_ | refine r_ldbE (by assumption) (by rfl) ?_))); (conv => whnf)
  refine r_loop (σ := Nat) (fun i => [.int .i64 (i : Int)]) (fun i w' => i ≤ len ∧ w' = w1 ∧ ∀ j, j < i → (fr : Int) + j ≠ n) (fun i _ => len - i) 0 rfl ⟨Nat.zero_le _, rfl, fun j hj => by omega⟩ ?_
  rintro i w2 again ⟨hi, rfl, hno⟩ hagain
  by_cases hil : i < len
  · have ea : (vals L)[i]? = some (.int .i32 L[i]) := by simp [vals]
    have hp := hv.plain (by rw [vals_len]; omega)
    by_cases hq : (fr : Int) + i = n
    · have hres : atV L fr n = some L[i] := by
        unfold atV
        rw [if_pos (by omega), show (n - fr).toNat = i by omega]
        simp
      rw [hres]
      (repeat ((conv => whnf); (first | with_reducible refine r_tt ?_ | with_reducible refine r_ff ?_ | with_reducible refine r_ntt ?_ | with_reducible refine r_nff ?_ | refine r_need (by omega) ?_ | refine r_i64 (by omega) ?_ | refine r_dect (by omega) ?_ | refine r_decf (by omega) ?_ | refine r_eqt (by omega) ?_ | refine r_eqf (by omega) ?_ | refine r_net (by omega) ?_ | refine r_nef (by omega) ?_ | refine r_u8 (by omega) ?_ | refine r_u64 (by omega) ?_ | refine r_i32 (by omega) ?_ | refine r_u32 (by omega) ?_ | refine r_rem (by omega) ?_ | refine r_quo (by omega) ?_ | refine r_ldb (by assumption) (by rfl) ?_ | refine r_ldbE (by assumption) (by rfl) ?_))); (conv => whnf)
      refine r_ldv (j := (i : Int).toNat * 1) (hv.ext hx1) (by simpa using ea) ?_
      (repeat ((conv => whnf); (first | with_reducible refine r_tt ?_ | with_reducible refine r_ff ?_ | with_reducible refine r_ntt ?_ | with_reducible refine r_nff ?_ | refine r_need (by omega) ?_ | refine r_i64 (by omega) ?_ | refine r_dect (by omega) ?_ | refine r_decf (by omega) ?_ | refine r_eqt (by omega) ?_ | refine r_eqf (by omega) ?_ | refine r_net (by omega) ?_ | refine r_nef (by omega) ?_ | refine r_u8 (by omega) ?_ | refine r_u64 (by omega) ?_ | refine r_i32 (by omega) ?_ | refine r_u32 (by omega) ?_ | refine r_rem (by omega) ?_ | refine r_quo (by omega) ?_ | refine r_ldb (by assumption) (by rfl) ?_ | refine r_ldbE (by assumption) (by rfl) ?_))); (conv => whnf)
      exact ⟨hx1, rfl⟩
    · (repeat ((conv => whnf); (first | with_reducible refine r_tt ?_ | with_reducible refine r_ff ?_ | with_reducible refine r_ntt ?_ | with_reducible refine r_nff ?_ | refine r_need (by omega) ?_ | refine r_i64 (by omega) ?_ | refine r_dect (by omega) ?_ | refine r_decf (by omega) ?_ | refine r_eqt (by omega) ?_ | refine r_eqf (by omega) ?_ | refine r_net (by omega) ?_ | refine r_nef (by omega) ?_ | refine r_u8 (by omega) ?_ | refine r_u64 (by omega) ?_ | refine r_i32 (by omega) ?_ | refine r_u32 (by omega) ?_ | refine r_rem (by omega) ?_ | refine r_quo (by omega) ?_ | refine r_ldb (by assumption) (by rfl) ?_ | refine r_ldbE (by assumption) (by rfl) ?_))); (conv => whnf)
      exact hagain (i + 1) w2 ⟨by omega, rfl, fun j hj => by
        rcases Nat.lt_or_ge j i with h | h
        · exact hno j h
        · have : j = i := by omega
          subst this
          exact hq⟩ (by omega)
  · have hres : atV L fr n = none := by
      unfold atV
      split
      · rename_i h1
        apply List.getElem?_eq_none
        rcases Nat.lt_or_ge (n - fr).toNat L.length with h | h
        · exact absurd (by omega) (hno (n - fr).toNat (by omega))
        · exact h
      · rfl
    rw [hres]
    (repeat ((conv => whnf); (first | with_reducible refine r_tt ?_ | with_reducible refine r_ff ?_ | with_reducible refine r_ntt ?_ | with_reducible refine r_nff ?_ | refine r_need (by omega) ?_ | refine r_i64 (by omega) ?_ | refine r_dect (by omega) ?_ | refine r_decf (by omega) ?_ | refine r_eqt (by omega) ?_ | refine r_eqf (by omega) ?_ | refine r_net (by omega) ?_ | refine r_nef (by omega) ?_ | refine r_u8 (by omega) ?_ | refine r_u64 (by omega) ?_ | refine r_i32 (by omega) ?_ | refine r_u32 (by omega) ?_ | refine r_rem (by omega) ?_ | refine r_quo (by omega) ?_ | refine r_ldb (by assumption) (by rfl) ?_ | refine r_ldbE (by assumption) (by rfl) ?_))); (conv => whnf)
    exact ⟨hx1, rfl⟩

theorem rCut_no {w : World} {L : List Int} {fr room : Nat} {cs : List Value} (h : IsRow w L fr room cs) (n : Int) (hfr : fr ≤ 4611686018427387904) (hl : L.length ≤ 1048576) (hno : ¬ ((fr : Int) ≤ n ∧ n - fr ≤ L.length)) :
    Cal Try.prog 56 ⟨[.agg ⟨cs⟩, .int .i64 n]⟩ w fun v w' => Ext w w' ∧ v = .tuple ⟨[.agg ⟨cs⟩, .bool false]⟩ := by
  obtain ⟨a, len, cap, rfl, hv⟩ := h
  have hlen := view_len hv
  refine go56 (by rfl) ?_
  (repeat ((conv => whnf); (first | with_reducible refine r_tt ?_ | with_reducible refine r_ff ?_ | with_reducible refine r_ntt ?_ | with_reducible refine r_nff ?_ | refine r_need (by omega) ?_ | refine r_i64 (by omega) ?_ | refine r_dect (by omega) ?_ | refine r_decf (by omega) ?_ | refine r_eqt (by omega) ?_ | refine r_eqf (by omega) ?_ | refine r_net (by omega) ?_ | refine r_nef (by omega) ?_ | refine r_u8 (by omega) ?_ | refine r_u64 (by omega) ?_ | refine r_i32 (by omega) ?_ | refine r_u32 (by omega) ?_ | refine r_rem (by omega) ?_ | refine r_quo (by omega) ?_ | refine r_ldb (by assumption) (by rfl) ?_ | refine r_ldbE (by assumption) (by rfl) ?_))); (conv => whnf)
  refine r_new fun b2 w1 hx1 hb1 hs1 hblk1 => ?_
  have hblk1 : Blk w1 b2 37 [.slice a len cap, .int .i64 (fr : Int), .int .i64 (room : Int)] := hblk1
  (repeat ((conv => whnf); (first | with_reducible refine r_tt ?_ | with_reducible refine r_ff ?_ | with_reducible refine r_ntt ?_ | with_reducible refine r_nff ?_ | refine r_need (by omega) ?_ | refine r_i64 (by omega) ?_ | refine r_dect (by omega) ?_ | refine r_decf (by omega) ?_ | refine r_eqt (by omega) ?_ | refine r_eqf (by omega) ?_ | refine r_net (by omega) ?_ | refine r_nef (by omega) ?_ | refine r_u8 (by omega) ?_ | refine r_u64 (by omega) ?_ | refine r_i32 (by omega) ?_ | refine r_u32 (by omega) ?_ | refine r_rem (by omega) ?_ | refine r_quo (by omega) ?_ | refine r_ldb (by assumption) (by rfl) ?_ | refine r_ldbE (by assumption) (by rfl) ?_))); (conv => whnf)
  refine r_new fun b4 w2 hx2 hb2 hs2 hblk2 => ?_
  have hblk12 := hblk1.ext hx2
  by_cases h1 : n < fr
  all_goals
    (repeat ((conv => whnf); (first | with_reducible refine r_tt ?_ | with_reducible refine r_ff ?_ | with_reducible refine r_ntt ?_ | with_reducible refine r_nff ?_ | refine r_need (by omega) ?_ | refine r_i64 (by omega) ?_ | refine r_dect (by omega) ?_ | refine r_decf (by omega) ?_ | refine r_eqt (by omega) ?_ | refine r_eqf (by omega) ?_ | refine r_net (by omega) ?_ | refine r_nef (by omega) ?_ | refine r_u8 (by omega) ?_ | refine r_u64 (by omega) ?_ | refine r_i32 (by omega) ?_ | refine r_u32 (by omega) ?_ | refine r_rem (by omega) ?_ | refine r_quo (by omega) ?_ | refine r_ldb (by assumption) (by rfl) ?_ | refine r_ldbE (by assumption) (by rfl) ?_))); (conv => whnf)
    refine r_ldnb (vs := rowCells a len cap fr room) hblk12 rfl rfl ?_
    (repeat ((conv => whnf); (first | with_reducible refine r_tt ?_ | with_reducible refine r_ff ?_ | with_reducible refine r_ntt ?_ | with_reducible refine r_nff ?_ | refine r_need (by omega) ?_ | refine r_i64 (by omega) ?_ | refine r_dect (by omega) ?_ | refine r_decf (by omega) ?_ | refine r_eqt (by omega) ?_ | refine r_eqf (by omega) ?_ | refine r_net (by omega) ?_ | refine r_nef (by omega) ?_ | refine r_u8 (by omega) ?_ | refine r_u64 (by omega) ?_ | refine r_i32 (by omega) ?_ | refine r_u32 (by omega) ?_ | refine r_rem (by omega) ?_ | refine r_quo (by omega) ?_ | refine r_ldb (by assumption) (by rfl) ?_ | refine r_ldbE (by assumption) (by rfl) ?_))); (conv => whnf)
    refine r_stn hblk2 (by simp [rowCells]) (row_one _ _ _ _ _) fun w3 hc3 hs3 hblk3 => ?_
    have hblk3 : Blk w3 b4 37 (rowCells a len cap fr room) := hblk3
    (repeat ((conv => whnf); (first | with_reducible refine r_tt ?_ | with_reducible refine r_ff ?_ | with_reducible refine r_ntt ?_ | with_reducible refine r_nff ?_ | refine r_need (by omega) ?_ | refine r_i64 (by omega) ?_ | refine r_dect (by omega) ?_ | refine r_decf (by omega) ?_ | refine r_eqt (by omega) ?_ | refine r_eqf (by omega) ?_ | refine r_net (by omega) ?_ | refine r_nef (by omega) ?_ | refine r_u8 (by omega) ?_ | refine r_u64 (by omega) ?_ | refine r_i32 (by omega) ?_ | refine r_u32 (by omega) ?_ | refine r_rem (by omega) ?_ | refine r_quo (by omega) ?_ | refine r_ldb (by assumption) (by rfl) ?_ | refine r_ldbE (by assumption) (by rfl) ?_))); (conv => whnf)
    refine r_ldnb (vs := rowCells a len cap fr room) hblk3 rfl rfl ?_
    (repeat ((conv => whnf); (first | with_reducible refine r_tt ?_ | with_reducible refine r_ff ?_ | with_reducible refine r_ntt ?_ | with_reducible refine r_nff ?_ | refine r_need (by omega) ?_ | refine r_i64 (by omega) ?_ | refine r_dect (by omega) ?_ | refine r_decf (by omega) ?_ | refine r_eqt (by omega) ?_ | refine r_eqf (by omega) ?_ | refine r_net (by omega) ?_ | refine r_nef (by omega) ?_ | refine r_u8 (by omega) ?_ | refine r_u64 (by omega) ?_ | refine r_i32 (by omega) ?_ | refine r_u32 (by omega) ?_ | refine r_rem (by omega) ?_ | refine r_quo (by omega) ?_ | refine r_ldb (by assumption) (by rfl) ?_ | refine r_ldbE (by assumption) (by rfl) ?_))); (conv => whnf)
    exact ⟨Chg.step (hx1.trans hx2) hc3 (fun k hk hlt => by omega), rfl⟩
theorem rCut_ok {w : World} {L : List Int} {fr room : Nat} {cs : List Value} (h : IsRow w L fr room cs) (n : Int) (hfr : fr ≤ 4611686018427387904) (hl : L.length ≤ 1048576) (hyes : (fr : Int) ≤ n ∧ n - fr ≤ L.length) :
    Cal Try.prog 56 ⟨[.agg ⟨cs⟩, .int .i64 n]⟩ w fun v w' => Ext w w' ∧ ∃ cs', v = .tuple ⟨[.agg ⟨cs'⟩, .bool true]⟩ ∧ IsRow w' (L.take (n - fr).toNat) fr room cs' ∧ NewRow w.heap.size cs' := by
  obtain ⟨a, len, cap, rfl, hv⟩ := h
  have hlen := view_len hv
  obtain ⟨m, hm⟩ : ∃ m : Nat, n - fr = m := ⟨(n - fr).toNat, by omega⟩
  rw [hm, Int.toNat_natCast]
  refine go56 (by rfl) ?_
  (repeat ((conv => whnf); (first | with_reducible refine r_tt ?_ | with_reducible refine r_ff ?_ | with_reducible refine r_ntt ?_ | with_reducible refine r_nff ?_ | refine r_need (by omega) ?_ | refine r_i64 (by omega) ?_ | refine r_dect (by omega) ?_ | refine r_decf (by omega) ?_ | refine r_eqt (by omega) ?_ | refine r_eqf (by omega) ?_ | refine r_net (by omega) ?_ | refine r_nef (by omega) ?_ | refine r_u8 (by omega) ?_ | refine r_u64 (by omega) ?_ | refine r_i32 (by omega) ?_ | refine r_u32 (by omega) ?_ | refine r_rem (by omega) ?_ | refine r_quo (by omega) ?_ | refine r_ldb (by assumption) (by rfl) ?_ | refine r_ldbE (by assumption) (by rfl) ?_))); (conv => whnf)
  refine r_new fun b2 w1 hx1 hb1 hs1 hblk1 => ?_
  have hblk1 : Blk w1 b2 37 [.slice a len cap, .int .i64 (fr : Int), .int .i64 (room : Int)] := hblk1
  (repeat ((conv => whnf); (first | with_reducible refine r_tt ?_ | with_reducible refine r_ff ?_ | with_reducible refine r_ntt ?_ | with_reducible refine r_nff ?_ | refine r_need (by omega) ?_ | refine r_i64 (by omega) ?_ | refine r_dect (by omega) ?_ | refine r_decf (by omega) ?_ | refine r_eqt (by omega) ?_ | refine r_eqf (by omega) ?_ | refine r_net (by omega) ?_ | refine r_nef (by omega) ?_ | refine r_u8 (by omega) ?_ | refine r_u64 (by omega) ?_ | refine r_i32 (by omega) ?_ | refine r_u32 (by omega) ?_ | refine r_rem (by omega) ?_ | refine r_quo (by omega) ?_ | refine r_ldb (by assumption) (by rfl) ?_ | refine r_ldbE (by assumption) (by rfl) ?_))); (conv => whnf)
  refine r_new fun b4 w2 hx2 hb2 hs2 hblk2 => ?_
  have hl1 := hblk1.lt
  have hblk1 := hblk1.ext hx2
  (repeat ((conv => whnf); (first | with_reducible refine r_tt ?_ | with_reducible refine r_ff ?_ | with_reducible refine r_ntt ?_ | with_reducible refine r_nff ?_ | refine r_need (by omega) ?_ | refine r_i64 (by omega) ?_ | refine r_dect (by omega) ?_ | refine r_decf (by omega) ?_ | refine r_eqt (by omega) ?_ | refine r_eqf (by omega) ?_ | refine r_net (by omega) ?_ | refine r_nef (by omega) ?_ | refine r_u8 (by omega) ?_ | refine r_u64 (by omega) ?_ | refine r_i32 (by omega) ?_ | refine r_u32 (by omega) ?_ | refine r_rem (by omega) ?_ | refine r_quo (by omega) ?_ | refine r_ldb (by assumption) (by rfl) ?_ | refine r_ldbE (by assumption) (by rfl) ?_))); (conv => whnf)
  refine r_new fun b6 w3 hx3 hb3 hs3 hblk3 => ?_
  have hl2 := hblk2.lt
  have hx03 := (hx1.trans hx2).trans hx3
  have hblk1 := hblk1.ext hx3
  have hblk2 := hblk2.ext hx3
  (repeat ((conv => whnf); (first | with_reducible refine r_tt ?_ | with_reducible refine r_ff ?_ | with_reducible refine r_ntt ?_ | with_reducible refine r_nff ?_ | refine r_need (by omega) ?_ | refine r_i64 (by omega) ?_ | refine r_dect (by omega) ?_ | refine r_decf (by omega) ?_ | refine r_eqt (by omega) ?_ | refine r_eqf (by omega) ?_ | refine r_net (by omega) ?_ | refine r_nef (by omega) ?_ | refine r_u8 (by omega) ?_ | refine r_u64 (by omega) ?_ | refine r_i32 (by omega) ?_ | refine r_u32 (by omega) ?_ | refine r_rem (by omega) ?_ | refine r_quo (by omega) ?_ | refine r_ldb (by assumption) (by rfl) ?_ | refine r_ldbE (by assumption) (by rfl) ?_))); (conv => whnf)
  refine r_loop (σ := Nat × Value) (fun s => [s.2, .int .i64 (s.1 : Int)])
    (fun s w' => s.1 ≤ m ∧ Ext w w' ∧ w'.ownsRow b6 21 1 s.2 s.1 (vals (L.take s.1)) ∧ Blk w' b2 37 [.slice a len cap, .int .i64 (fr : Int), .int .i64 (room : Int)] ∧ Blk w' b4 37 [.slice none 0 0, .int .i64 0, .int .i64 0] ∧ b6 < w'.heap.size)
    (fun s _ => m - s.1) (0, .slice (some ⟨b6, 0, none⟩) 0 0) rfl ⟨Nat.zero_le _, hx03, empty_own hblk3 (Nat.le_refl _), hblk1, hblk2, hblk3.lt⟩ ?_
  clear hblk1 hblk2
  rintro ⟨i, v⟩ w4 again ⟨hi, hx4, hown, hblk1, hblk2, hlt4⟩ hagain
  dsimp only at *
  have hge : ∀ k, v.ownBlock = some k → b6 ≤ k := fun k hk => own_ge hown hk
  by_cases him : i < m
  · have ea : (vals L)[i]? = some (.int .i32 L[i]) := by simp [vals]
    have hp := hv.plain (by rw [vals_len]; omega)
    (repeat ((conv => whnf); (first | with_reducible refine r_tt ?_ | with_reducible refine r_ff ?_ | with_reducible refine r_ntt ?_ | with_reducible refine r_nff ?_ | refine r_need (by omega) ?_ | refine r_i64 (by omega) ?_ | refine r_dect (by omega) ?_ | refine r_decf (by omega) ?_ | refine r_eqt (by omega) ?_ | refine r_eqf (by omega) ?_ | refine r_net (by omega) ?_ | refine r_nef (by omega) ?_ | refine r_u8 (by omega) ?_ | refine r_u64 (by omega) ?_ | refine r_i32 (by omega) ?_ | refine r_u32 (by omega) ?_ | refine r_rem (by omega) ?_ | refine r_quo (by omega) ?_ | refine r_ldb (by assumption) (by rfl) ?_ | refine r_ldbE (by assumption) (by rfl) ?_))); (conv => whnf)
    refine r_ldv (j := (i : Int).toNat * 1) (hv.ext hx4) (by simpa using ea) ?_
    (repeat ((conv => whnf); (first | with_reducible refine r_tt ?_ | with_reducible refine r_ff ?_ | with_reducible refine r_ntt ?_ | with_reducible refine r_nff ?_ | refine r_need (by omega) ?_ | refine r_i64 (by omega) ?_ | refine r_dect (by omega) ?_ | refine r_decf (by omega) ?_ | refine r_eqt (by omega) ?_ | refine r_eqf (by omega) ?_ | refine r_net (by omega) ?_ | refine r_nef (by omega) ?_ | refine r_u8 (by omega) ?_ | refine r_u64 (by omega) ?_ | refine r_i32 (by omega) ?_ | refine r_u32 (by omega) ?_ | refine r_rem (by omega) ?_ | refine r_quo (by omega) ?_ | refine r_ldb (by assumption) (by rfl) ?_ | refine r_ldbE (by assumption) (by rfl) ?_))); (conv => whnf)
    refine r_new fun b7 w5 hx5 hb5 hs5 hblk5 => ?_
    have hblk5 : Blk w5 b7 21 [.int .i32 L[i]] := hblk5
    (repeat ((conv => whnf); (first | with_reducible refine r_tt ?_ | with_reducible refine r_ff ?_ | with_reducible refine r_ntt ?_ | with_reducible refine r_nff ?_ | refine r_need (by omega) ?_ | refine r_i64 (by omega) ?_ | refine r_dect (by omega) ?_ | refine r_decf (by omega) ?_ | refine r_eqt (by omega) ?_ | refine r_eqf (by omega) ?_ | refine r_net (by omega) ?_ | refine r_nef (by omega) ?_ | refine r_u8 (by omega) ?_ | refine r_u64 (by omega) ?_ | refine r_i32 (by omega) ?_ | refine r_u32 (by omega) ?_ | refine r_rem (by omega) ?_ | refine r_quo (by omega) ?_ | refine r_ldb (by assumption) (by rfl) ?_ | refine r_ldbE (by assumption) (by rfl) ?_))); (conv => whnf)
    refine r_app el (own_ext hown hx5) (View.of_blk (n := 1) hblk5 (by simp) (by simp [maxLen])) (by simp [Value.oneCell']) (by omega) (by omega) fun v6 w6 hown6 hc6 _ => ?_
    (repeat ((conv => whnf); (first | with_reducible refine r_tt ?_ | with_reducible refine r_ff ?_ | with_reducible refine r_ntt ?_ | with_reducible refine r_nff ?_ | refine r_need (by omega) ?_ | refine r_i64 (by omega) ?_ | refine r_dect (by omega) ?_ | refine r_decf (by omega) ?_ | refine r_eqt (by omega) ?_ | refine r_eqf (by omega) ?_ | refine r_net (by omega) ?_ | refine r_nef (by omega) ?_ | refine r_u8 (by omega) ?_ | refine r_u64 (by omega) ?_ | refine r_i32 (by omega) ?_ | refine r_u32 (by omega) ?_ | refine r_rem (by omega) ?_ | refine r_quo (by omega) ?_ | refine r_ldb (by assumption) (by rfl) ?_ | refine r_ldbE (by assumption) (by rfl) ?_))); (conv => whnf)
    refine hagain (i + 1, v6) w6 ⟨by dsimp only; omega, Chg.own (hx4.trans hx5) hc6 (own_mono (own_ext hown hx5) (by omega)), ?_, (hblk1.ext hx5).keep hc6 (fun e => by have := hge _ e; omega), (hblk2.ext hx5).keep hc6 (fun e => by have := hge _ e; omega), by have := hc6.size; omega⟩ (by dsimp only; omega)
    have e : vals (L.take (i + 1)) = vals (L.take i) ++ [.int .i32 L[i]] := by
      rw [List.take_succ_eq_append_getElem (by omega)]
      simp only [vals, List.map_append, List.map_cons, List.map_nil]
    dsimp only
    rw [e]
    exact hown6
  · have : i = m := by omega
    subst this
    obtain ⟨a6, c6, rfl, hv6, hn6⟩ := own_row hown
    (repeat ((conv => whnf); (first | with_reducible refine r_tt ?_ | with_reducible refine r_ff ?_ | with_reducible refine r_ntt ?_ | with_reducible refine r_nff ?_ | refine r_need (by omega) ?_ | refine r_i64 (by omega) ?_ | refine r_dect (by omega) ?_ | refine r_decf (by omega) ?_ | refine r_eqt (by omega) ?_ | refine r_eqf (by omega) ?_ | refine r_net (by omega) ?_ | refine r_nef (by omega) ?_ | refine r_u8 (by omega) ?_ | refine r_u64 (by omega) ?_ | refine r_i32 (by omega) ?_ | refine r_u32 (by omega) ?_ | refine r_rem (by omega) ?_ | refine r_quo (by omega) ?_ | refine r_ldb (by assumption) (by rfl) ?_ | refine r_ldbE (by assumption) (by rfl) ?_))); (conv => whnf)
    refine r_stn hblk2 (by simp) (row_one a6 i c6 fr room) fun w7 hc7 hs7 hblk7 => ?_
    have hblk7 : Blk w7 b4 37 (rowCells a6 i c6 fr room) := hblk7
    (repeat ((conv => whnf); (first | with_reducible refine r_tt ?_ | with_reducible refine r_ff ?_ | with_reducible refine r_ntt ?_ | with_reducible refine r_nff ?_ | refine r_need (by omega) ?_ | refine r_i64 (by omega) ?_ | refine r_dect (by omega) ?_ | refine r_decf (by omega) ?_ | refine r_eqt (by omega) ?_ | refine r_eqf (by omega) ?_ | refine r_net (by omega) ?_ | refine r_nef (by omega) ?_ | refine r_u8 (by omega) ?_ | refine r_u64 (by omega) ?_ | refine r_i32 (by omega) ?_ | refine r_u32 (by omega) ?_ | refine r_rem (by omega) ?_ | refine r_quo (by omega) ?_ | refine r_ldb (by assumption) (by rfl) ?_ | refine r_ldbE (by assumption) (by rfl) ?_))); (conv => whnf)
    refine r_ldnb (vs := rowCells a6 i c6 fr room) hblk7 rfl rfl ?_
    (repeat ((conv => whnf); (first | with_reducible refine r_tt ?_ | with_reducible refine r_ff ?_ | with_reducible refine r_ntt ?_ | with_reducible refine r_nff ?_ | refine r_need (by omega) ?_ | refine r_i64 (by omega) ?_ | refine r_dect (by omega) ?_ | refine r_decf (by omega) ?_ | refine r_eqt (by omega) ?_ | refine r_eqf (by omega) ?_ | refine r_net (by omega) ?_ | refine r_nef (by omega) ?_ | refine r_u8 (by omega) ?_ | refine r_u64 (by omega) ?_ | refine r_i32 (by omega) ?_ | refine r_u32 (by omega) ?_ | refine r_rem (by omega) ?_ | refine r_quo (by omega) ?_ | refine r_ldb (by assumption) (by rfl) ?_ | refine r_ldbE (by assumption) (by rfl) ?_))); (conv => whnf)
    have hl6 := view_len hv6
    refine ⟨Chg.step hx4 hc7 (fun k hk hlt => by omega), _, rfl, ⟨a6, i, c6, rfl, hv6.keepN hc7 fun hp e => ?_⟩, newRow_of fun hp => ?_⟩
    · rw [vals_len] at hp
      have := hn6 (by omega); omega
    · have := hn6 hp; omega

theorem rShift_no {w : World} {fr room : Nat} {cs : List Value} (h : IsRow w [] fr room cs) :
    Cal Try.prog 57 ⟨[.agg ⟨cs⟩]⟩ w fun v w' => Ext w w' ∧ v = .tuple ⟨[.agg ⟨cs⟩, .int .i32 0, .bool false]⟩ := by
  obtain ⟨a, len, cap, rfl, hv⟩ := h
  have hlen := view_len hv
  simp at hlen
  refine go57 (by rfl) ?_
  (repeat ((conv => whnf); (first | with_reducible refine r_tt ?_ | with_reducible refine r_ff ?_ | with_reducible refine r_ntt ?_ | with_reducible refine r_nff ?_ | refine r_need (by omega) ?_ | refine r_i64 (by omega) ?_ | refine r_dect (by omega) ?_ | refine r_decf (by omega) ?_ | refine r_eqt (by omega) ?_ | refine r_eqf (by omega) ?_ | refine r_net (by omega) ?_ | refine r_nef (by omega) ?_ | refine r_u8 (by omega) ?_ | refine r_u64 (by omega) ?_ | refine r_i32 (by omega) ?_ | refine r_u32 (by omega) ?_ | refine r_rem (by omega) ?_ | refine r_quo (by omega) ?_ | refine r_ldb (by assumption) (by rfl) ?_ | refine r_ldbE (by assumption) (by rfl) ?_))); (conv => whnf)
  refine r_new fun b2 w1 hx1 hb1 hs1 hblk1 => ?_
  have hblk1 : Blk w1 b2 37 [.slice a len cap, .int .i64 (fr : Int), .int .i64 (room : Int)] := hblk1
  (repeat ((conv => whnf); (first | with_reducible refine r_tt ?_ | with_reducible refine r_ff ?_ | with_reducible refine r_ntt ?_ | with_reducible refine r_nff ?_ | refine r_need (by omega) ?_ | refine r_i64 (by omega) ?_ | refine r_dect (by omega) ?_ | refine r_decf (by omega) ?_ | refine r_eqt (by omega) ?_ | refine r_eqf (by omega) ?_ | refine r_net (by omega) ?_ | refine r_nef (by omega) ?_ | refine r_u8 (by omega) ?_ | refine r_u64 (by omega) ?_ | refine r_i32 (by omega) ?_ | refine r_u32 (by omega) ?_ | refine r_rem (by omega) ?_ | refine r_quo (by omega) ?_ | refine r_ldb (by assumption) (by rfl) ?_ | refine r_ldbE (by assumption) (by rfl) ?_))); (conv => whnf)
  refine r_new fun b4 w2 hx2 hb2 hs2 hblk2 => ?_
  have hblk12 := hblk1.ext hx2
  (repeat ((conv => whnf); (first | with_reducible refine r_tt ?_ | with_reducible refine r_ff ?_ | with_reducible refine r_ntt ?_ | with_reducible refine r_nff ?_ | refine r_need (by omega) ?_ | refine r_i64 (by omega) ?_ | refine r_dect (by omega) ?_ | refine r_decf (by omega) ?_ | refine r_eqt (by omega) ?_ | refine r_eqf (by omega) ?_ | refine r_net (by omega) ?_ | refine r_nef (by omega) ?_ | refine r_u8 (by omega) ?_ | refine r_u64 (by omega) ?_ | refine r_i32 (by omega) ?_ | refine r_u32 (by omega) ?_ | refine r_rem (by omega) ?_ | refine r_quo (by omega) ?_ | refine r_ldb (by assumption) (by rfl) ?_ | refine r_ldbE (by assumption) (by rfl) ?_))); (conv => whnf)
  refine r_ldnb (vs := rowCells a len cap fr room) hblk12 rfl rfl ?_
  (repeat ((conv => whnf); (first | with_reducible refine r_tt ?_ | with_reducible refine r_ff ?_ | with_reducible refine r_ntt ?_ | with_reducible refine r_nff ?_ | refine r_need (by omega) ?_ | refine r_i64 (by omega) ?_ | refine r_dect (by omega) ?_ | refine r_decf (by omega) ?_ | refine r_eqt (by omega) ?_ | refine r_eqf (by omega) ?_ | refine r_net (by omega) ?_ | refine r_nef (by omega) ?_ | refine r_u8 (by omega) ?_ | refine r_u64 (by omega) ?_ | refine r_i32 (by omega) ?_ | refine r_u32 (by omega) ?_ | refine r_rem (by omega) ?_ | refine r_quo (by omega) ?_ | refine r_ldb (by assumption) (by rfl) ?_ | refine r_ldbE (by assumption) (by rfl) ?_))); (conv => whnf)
  refine r_stn hblk2 (by simp [rowCells]) (row_one _ _ _ _ _) fun w3 hc3 hs3 hblk3 => ?_
  have hblk3 : Blk w3 b4 37 (rowCells a len cap fr room) := hblk3
  (repeat ((conv => whnf); (first | with_reducible refine r_tt ?_ | with_reducible refine r_ff ?_ | with_reducible refine r_ntt ?_ | with_reducible refine r_nff ?_ | refine r_need (by omega) ?_ | refine r_i64 (by omega) ?_ | refine r_dect (by omega) ?_ | refine r_decf (by omega) ?_ | refine r_eqt (by omega) ?_ | refine r_eqf (by omega) ?_ | refine r_net (by omega) ?_ | refine r_nef (by omega) ?_ | refine r_u8 (by omega) ?_ | refine r_u64 (by omega) ?_ | refine r_i32 (by omega) ?_ | refine r_u32 (by omega) ?_ | refine r_rem (by omega) ?_ | refine r_quo (by omega) ?_ | refine r_ldb (by assumption) (by rfl) ?_ | refine r_ldbE (by assumption) (by rfl) ?_))); (conv => whnf)
  refine r_ldnb (vs := rowCells a len cap fr room) hblk3 rfl rfl ?_
  (repeat ((conv => whnf); (first | with_reducible refine r_tt ?_ | with_reducible refine r_ff ?_ | with_reducible refine r_ntt ?_ | with_reducible refine r_nff ?_ | refine r_need (by omega) ?_ | refine r_i64 (by omega) ?_ | refine r_dect (by omega) ?_ | refine r_decf (by omega) ?_ | refine r_eqt (by omega) ?_ | refine r_eqf (by omega) ?_ | refine r_net (by omega) ?_ | refine r_nef (by omega) ?_ | refine r_u8 (by omega) ?_ | refine r_u64 (by omega) ?_ | refine r_i32 (by omega) ?_ | refine r_u32 (by omega) ?_ | refine r_rem (by omega) ?_ | refine r_quo (by omega) ?_ | refine r_ldb (by assumption) (by rfl) ?_ | refine r_ldbE (by assumption) (by rfl) ?_))); (conv => whnf)
  exact ⟨Chg.step (hx1.trans hx2) hc3 (fun k hk hlt => by omega), rfl⟩
theorem rShift_ok {w : World} {z : Int} {L : List Int} {fr room : Nat} {cs : List Value} (h : IsRow w (z :: L) fr room cs) (hfr : fr ≤ 4611686018427387904) (hl : L.length ≤ 1048576) :
    Cal Try.prog 57 ⟨[.agg ⟨cs⟩]⟩ w fun v w' => Ext w w' ∧ ∃ cs', v = .tuple ⟨[.agg ⟨cs'⟩, .int .i32 z, .bool true]⟩ ∧ IsRow w' L (fr + 1) room cs' ∧ NewRow w.heap.size cs' := by
  obtain ⟨a, len, cap, rfl, hv⟩ := h
  have hlen := view_len hv
  rw [List.length_cons] at hlen
  have hp := hv.plain (by rw [vals_len]; simp)
  have hle := hv.le
  refine go57 (by rfl) ?_
  (repeat ((conv => whnf); (first | with_reducible refine r_tt ?_ | with_reducible refine r_ff ?_ | with_reducible refine r_ntt ?_ | with_reducible refine r_nff ?_ | refine r_need (by omega) ?_ | refine r_i64 (by omega) ?_ | refine r_dect (by omega) ?_ | refine r_decf (by omega) ?_ | refine r_eqt (by omega) ?_ | refine r_eqf (by omega) ?_ | refine r_net (by omega) ?_ | refine r_nef (by omega) ?_ | refine r_u8 (by omega) ?_ | refine r_u64 (by omega) ?_ | refine r_i32 (by omega) ?_ | refine r_u32 (by omega) ?_ | refine r_rem (by omega) ?_ | refine r_quo (by omega) ?_ | refine r_ldb (by assumption) (by rfl) ?_ | refine r_ldbE (by assumption) (by rfl) ?_))); (conv => whnf)
  refine r_new fun b2 w1 hx1 hb1 hs1 hblk1 => ?_
  have hblk1 : Blk w1 b2 37 [.slice a len cap, .int .i64 (fr : Int), .int .i64 (room : Int)] := hblk1
  (repeat ((conv => whnf); (first | with_reducible refine r_tt ?_ | with_reducible refine r_ff ?_ | with_reducible refine r_ntt ?_ | with_reducible refine r_nff ?_ | refine r_need (by omega) ?_ | refine r_i64 (by omega) ?_ | refine r_dect (by omega) ?_ | refine r_decf (by omega) ?_ | refine r_eqt (by omega) ?_ | refine r_eqf (by omega) ?_ | refine r_net (by omega) ?_ | refine r_nef (by omega) ?_ | refine r_u8 (by omega) ?_ | refine r_u64 (by omega) ?_ | refine r_i32 (by omega) ?_ | refine r_u32 (by omega) ?_ | refine r_rem (by omega) ?_ | refine r_quo (by omega) ?_ | refine r_ldb (by assumption) (by rfl) ?_ | refine r_ldbE (by assumption) (by rfl) ?_))); (conv => whnf)
  refine r_new fun b4 w2 hx2 hb2 hs2 hblk2 => ?_
  have hl1 := hblk1.lt
  have hblk1 := hblk1.ext hx2
  (repeat ((conv => whnf); (first | with_reducible refine r_tt ?_ | with_reducible refine r_ff ?_ | with_reducible refine r_ntt ?_ | with_reducible refine r_nff ?_ | refine r_need (by omega) ?_ | refine r_i64 (by omega) ?_ | refine r_dect (by omega) ?_ | refine r_decf (by omega) ?_ | refine r_eqt (by omega) ?_ | refine r_eqf (by omega) ?_ | refine r_net (by omega) ?_ | refine r_nef (by omega) ?_ | refine r_u8 (by omega) ?_ | refine r_u64 (by omega) ?_ | refine r_i32 (by omega) ?_ | refine r_u32 (by omega) ?_ | refine r_rem (by omega) ?_ | refine r_quo (by omega) ?_ | refine r_ldb (by assumption) (by rfl) ?_ | refine r_ldbE (by assumption) (by rfl) ?_))); (conv => whnf)
  refine r_new fun b6 w3 hx3 hb3 hs3 hblk3 => ?_
  have hl2 := hblk2.lt
  have hx03 := (hx1.trans hx2).trans hx3
  have hblk1 := hblk1.ext hx3
  have hblk2 := hblk2.ext hx3
  have hsub := hv.sub 1 len (by omega) (Nat.le_refl _)
  have esub : ((vals (z :: L)).drop (1 * 1)).take ((len - 1) * 1) = vals L := by
    simp only [vals, List.map_cons, Nat.mul_one, List.drop_succ_cons, List.drop_zero]
    exact List.take_of_length_le (by rw [List.length_map]; omega)
  rw [esub] at hsub
  (repeat ((conv => whnf); (first | with_reducible refine r_tt ?_ | with_reducible refine r_ff ?_ | with_reducible refine r_ntt ?_ | with_reducible refine r_nff ?_ | refine r_need (by omega) ?_ | refine r_i64 (by omega) ?_ | refine r_dect (by omega) ?_ | refine r_decf (by omega) ?_ | refine r_eqt (by omega) ?_ | refine r_eqf (by omega) ?_ | refine r_net (by omega) ?_ | refine r_nef (by omega) ?_ | refine r_u8 (by omega) ?_ | refine r_u64 (by omega) ?_ | refine r_i32 (by omega) ?_ | refine r_u32 (by omega) ?_ | refine r_rem (by omega) ?_ | refine r_quo (by omega) ?_ | refine r_ldb (by assumption) (by rfl) ?_ | refine r_ldbE (by assumption) (by rfl) ?_))); (conv => whnf)
  refine r_app el (empty_own hblk3 (Nat.le_refl _)) (hsub.ext hx03) (vals_one L) (by omega) (by have := hblk3.lt; omega) fun v4 w4 hown4 hc4 _ => ?_
  have hx04 : Ext w w4 := Chg.own hx03 hc4 (empty_own hblk3 (by omega))
  have hne4 : ∀ k, (Value.slice (some ⟨b6, 0, none⟩) 0 0).ownBlock = some k → k = b6 := fun k hk => by simp [Value.ownBlock] at hk; exact hk.symm
  have hblk1 := hblk1.keep hc4 (fun e => by have := hne4 _ e; omega)
  have hblk2 := hblk2.keep hc4 (fun e => by have := hne4 _ e; omega)
  have hown4 : w4.ownsRow b6 21 1 v4 L.length (vals L) := by
    have : (0 + (len - (1 : Int).toNat)) = L.length := by simp; omega
    rw [← this]
    simpa using hown4
  obtain ⟨a6, c6, rfl, hv6, hn6⟩ := own_row hown4
  (repeat ((conv => whnf); (first | with_reducible refine r_tt ?_ | with_reducible refine r_ff ?_ | with_reducible refine r_ntt ?_ | with_reducible refine r_nff ?_ | refine r_need (by omega) ?_ | refine r_i64 (by omega) ?_ | refine r_dect (by omega) ?_ | refine r_decf (by omega) ?_ | refine r_eqt (by omega) ?_ | refine r_eqf (by omega) ?_ | refine r_net (by omega) ?_ | refine r_nef (by omega) ?_ | refine r_u8 (by omega) ?_ | refine r_u64 (by omega) ?_ | refine r_i32 (by omega) ?_ | refine r_u32 (by omega) ?_ | refine r_rem (by omega) ?_ | refine r_quo (by omega) ?_ | refine r_ldb (by assumption) (by rfl) ?_ | refine r_ldbE (by assumption) (by rfl) ?_))); (conv => whnf)
  refine r_drawS (fun k => k = b4) fun w5 hx5 hh5 => ?_
  have hnb : ¬ b2 = b4 := by omega
  have hxb : ¬ blk a = b4 := by have := hv.lt (by rw [vals_len]; simp); omega
  (repeat ((conv => whnf); (first | refine r_ldbS hblk1 (by rfl) hnb ?_ | with_reducible refine r_tt ?_ | with_reducible refine r_ff ?_ | with_reducible refine r_ntt ?_ | with_reducible refine r_nff ?_ | refine r_need (by omega) ?_ | refine r_i64 (by omega) ?_ | refine r_dect (by omega) ?_ | refine r_decf (by omega) ?_ | refine r_eqt (by omega) ?_ | refine r_eqf (by omega) ?_ | refine r_net (by omega) ?_ | refine r_nef (by omega) ?_ | refine r_u8 (by omega) ?_ | refine r_u64 (by omega) ?_ | refine r_i32 (by omega) ?_ | refine r_u32 (by omega) ?_ | refine r_rem (by omega) ?_ | refine r_quo (by omega) ?_ | refine r_ldb (by assumption) (by rfl) ?_ | refine r_ldbE (by assumption) (by rfl) ?_))); (conv => whnf)
  refine r_ld (fun w' hw' => Chg.cell hw' ((hv.ext hx04).cell 0 (.int .i32 z) (by simp [vals])) hxb) ?_
  (repeat ((conv => whnf); (first | with_reducible refine r_tt ?_ | with_reducible refine r_ff ?_ | with_reducible refine r_ntt ?_ | with_reducible refine r_nff ?_ | refine r_need (by omega) ?_ | refine r_i64 (by omega) ?_ | refine r_dect (by omega) ?_ | refine r_decf (by omega) ?_ | refine r_eqt (by omega) ?_ | refine r_eqf (by omega) ?_ | refine r_net (by omega) ?_ | refine r_nef (by omega) ?_ | refine r_u8 (by omega) ?_ | refine r_u64 (by omega) ?_ | refine r_i32 (by omega) ?_ | refine r_u32 (by omega) ?_ | refine r_rem (by omega) ?_ | refine r_quo (by omega) ?_ | refine r_ldb (by assumption) (by rfl) ?_ | refine r_ldbE (by assumption) (by rfl) ?_))); (conv => whnf)
  rw [show (fr : Int) + 1 = ((fr + 1 : Nat) : Int) by omega]
  refine r_stn (hblk2.ext hx5) (by simp) (row_one a6 L.length c6 (fr + 1) room) fun w7 hc7 hs7 hblk7 => ?_
  have hblk7 : Blk w7 b4 37 (rowCells a6 L.length c6 (fr + 1) room) := hblk7
  (repeat ((conv => whnf); (first | with_reducible refine r_tt ?_ | with_reducible refine r_ff ?_ | with_reducible refine r_ntt ?_ | with_reducible refine r_nff ?_ | refine r_need (by omega) ?_ | refine r_i64 (by omega) ?_ | refine r_dect (by omega) ?_ | refine r_decf (by omega) ?_ | refine r_eqt (by omega) ?_ | refine r_eqf (by omega) ?_ | refine r_net (by omega) ?_ | refine r_nef (by omega) ?_ | refine r_u8 (by omega) ?_ | refine r_u64 (by omega) ?_ | refine r_i32 (by omega) ?_ | refine r_u32 (by omega) ?_ | refine r_rem (by omega) ?_ | refine r_quo (by omega) ?_ | refine r_ldb (by assumption) (by rfl) ?_ | refine r_ldbE (by assumption) (by rfl) ?_))); (conv => whnf)
  refine r_held ((hx5.wide _).trans hc7) ?_
  (repeat ((conv => whnf); (first | with_reducible refine r_tt ?_ | with_reducible refine r_ff ?_ | with_reducible refine r_ntt ?_ | with_reducible refine r_nff ?_ | refine r_need (by omega) ?_ | refine r_i64 (by omega) ?_ | refine r_dect (by omega) ?_ | refine r_decf (by omega) ?_ | refine r_eqt (by omega) ?_ | refine r_eqf (by omega) ?_ | refine r_net (by omega) ?_ | refine r_nef (by omega) ?_ | refine r_u8 (by omega) ?_ | refine r_u64 (by omega) ?_ | refine r_i32 (by omega) ?_ | refine r_u32 (by omega) ?_ | refine r_rem (by omega) ?_ | refine r_quo (by omega) ?_ | refine r_ldb (by assumption) (by rfl) ?_ | refine r_ldbE (by assumption) (by rfl) ?_))); (conv => whnf)
  refine r_ldnb (vs := rowCells a6 L.length c6 (fr + 1) room) hblk7 rfl rfl ?_
  (repeat ((conv => whnf); (first | with_reducible refine r_tt ?_ | with_reducible refine r_ff ?_ | with_reducible refine r_ntt ?_ | with_reducible refine r_nff ?_ | refine r_need (by omega) ?_ | refine r_i64 (by omega) ?_ | refine r_dect (by omega) ?_ | refine r_decf (by omega) ?_ | refine r_eqt (by omega) ?_ | refine r_eqf (by omega) ?_ | refine r_net (by omega) ?_ | refine r_nef (by omega) ?_ | refine r_u8 (by omega) ?_ | refine r_u64 (by omega) ?_ | refine r_i32 (by omega) ?_ | refine r_u32 (by omega) ?_ | refine r_rem (by omega) ?_ | refine r_quo (by omega) ?_ | refine r_ldb (by assumption) (by rfl) ?_ | refine r_ldbE (by assumption) (by rfl) ?_))); (conv => whnf)
  refine ⟨Chg.step (hx04.trans hx5) hc7 (fun k hk hlt => by omega), _, rfl, ⟨a6, L.length, c6, rfl, (hv6.ext hx5).keepN hc7 fun hp e => ?_⟩, newRow_of fun hp => ?_⟩
  · rw [vals_len] at hp
    have := hn6 hp; omega
  · have := hn6 hp; omega

/-- Whether two lists are the same. -/
theorem same_ok {w : World} {a b : Option Addr} {al ac bl bc : Nat} {xs ys : List Int} (ha : View w a al ac 1 (vals xs)) (hb : View w b bl bc 1 (vals ys)) :
    Cal Try.prog 22 ⟨[.slice a al ac, .slice b bl bc]⟩ w fun v w' => Ext w w' ∧ ∃ r, v = .bool r ∧ (r = true ↔ xs = ys) := by
  have hal : xs.length = al := view_len ha
  have hbl : ys.length = bl := view_len hb
  have m1 := ha.le
  have m2 := ha.max
  unfold maxLen at m2
  refine go22 (by rfl) ?_
  by_cases hl : al = bl
  · (repeat ((conv => whnf); (first | with_reducible refine r_tt ?_ | with_reducible refine r_ff ?_ | with_reducible refine r_ntt ?_ | with_reducible refine r_nff ?_ | refine r_need (by omega) ?_ | refine r_i64 (by omega) ?_ | refine r_dect (by omega) ?_ | refine r_decf (by omega) ?_ | refine r_eqt (by omega) ?_ | refine r_eqf (by omega) ?_ | refine r_net (by omega) ?_ | refine r_nef (by omega) ?_ | refine r_u8 (by omega) ?_ | refine r_u64 (by omega) ?_ | refine r_i32 (by omega) ?_ | refine r_u32 (by omega) ?_ | refine r_rem (by omega) ?_ | refine r_quo (by omega) ?_ | refine r_ldb (by assumption) (by rfl) ?_ | refine r_ldbE (by assumption) (by rfl) ?_))); (conv => whnf)
    refine r_loop (σ := Nat) (fun i => [.int .i64 (i : Int)]) (fun i w' => i ≤ al ∧ Ext w w' ∧ xs.take i = ys.take i) (fun i _ => al - i) 0 rfl ⟨by omega, Ext.refl w, rfl⟩ ?_
    rintro i w1 again ⟨hi, hx1, htake⟩ hagain
    by_cases hil : i < al
    · have ea : (vals xs)[i]? = some (.int .i32 xs[i]) := by simp [vals]
      have eb : (vals ys)[i]? = some (.int .i32 ys[i]) := by simp [vals]
      have hpa := ha.plain (by rw [ha.length]; omega)
      have hpb := hb.plain (by rw [hb.length]; omega)
      by_cases hq : xs[i] = ys[i]
      all_goals
        (repeat ((conv => whnf); (first | with_reducible refine r_tt ?_ | with_reducible refine r_ff ?_ | with_reducible refine r_ntt ?_ | with_reducible refine r_nff ?_ | refine r_need (by omega) ?_ | refine r_i64 (by omega) ?_ | refine r_dect (by omega) ?_ | refine r_decf (by omega) ?_ | refine r_eqt (by omega) ?_ | refine r_eqf (by omega) ?_ | refine r_net (by omega) ?_ | refine r_nef (by omega) ?_ | refine r_u8 (by omega) ?_ | refine r_u64 (by omega) ?_ | refine r_i32 (by omega) ?_ | refine r_u32 (by omega) ?_ | refine r_rem (by omega) ?_ | refine r_quo (by omega) ?_ | refine r_ldb (by assumption) (by rfl) ?_ | refine r_ldbE (by assumption) (by rfl) ?_))); (conv => whnf)
        refine r_drawE fun w2 hx2 _ => ?_
        (repeat ((conv => whnf); (first | with_reducible refine r_tt ?_ | with_reducible refine r_ff ?_ | with_reducible refine r_ntt ?_ | with_reducible refine r_nff ?_ | refine r_need (by omega) ?_ | refine r_i64 (by omega) ?_ | refine r_dect (by omega) ?_ | refine r_decf (by omega) ?_ | refine r_eqt (by omega) ?_ | refine r_eqf (by omega) ?_ | refine r_net (by omega) ?_ | refine r_nef (by omega) ?_ | refine r_u8 (by omega) ?_ | refine r_u64 (by omega) ?_ | refine r_i32 (by omega) ?_ | refine r_u32 (by omega) ?_ | refine r_rem (by omega) ?_ | refine r_quo (by omega) ?_ | refine r_ldb (by assumption) (by rfl) ?_ | refine r_ldbE (by assumption) (by rfl) ?_))); (conv => whnf)
        refine r_ldvE (j := (i : Int).toNat * 1) (ha.ext hx1) (by simpa using ea) ?_
        (repeat ((conv => whnf); (first | with_reducible refine r_tt ?_ | with_reducible refine r_ff ?_ | with_reducible refine r_ntt ?_ | with_reducible refine r_nff ?_ | refine r_need (by omega) ?_ | refine r_i64 (by omega) ?_ | refine r_dect (by omega) ?_ | refine r_decf (by omega) ?_ | refine r_eqt (by omega) ?_ | refine r_eqf (by omega) ?_ | refine r_net (by omega) ?_ | refine r_nef (by omega) ?_ | refine r_u8 (by omega) ?_ | refine r_u64 (by omega) ?_ | refine r_i32 (by omega) ?_ | refine r_u32 (by omega) ?_ | refine r_rem (by omega) ?_ | refine r_quo (by omega) ?_ | refine r_ldb (by assumption) (by rfl) ?_ | refine r_ldbE (by assumption) (by rfl) ?_))); (conv => whnf)
        refine r_ldvE (j := (i : Int).toNat * 1) (hb.ext hx1) (by simpa using eb) ?_
        (repeat ((conv => whnf); (first | with_reducible refine r_tt ?_ | with_reducible refine r_ff ?_ | with_reducible refine r_ntt ?_ | with_reducible refine r_nff ?_ | refine r_need (by omega) ?_ | refine r_i64 (by omega) ?_ | refine r_dect (by omega) ?_ | refine r_decf (by omega) ?_ | refine r_eqt (by omega) ?_ | refine r_eqf (by omega) ?_ | refine r_net (by omega) ?_ | refine r_nef (by omega) ?_ | refine r_u8 (by omega) ?_ | refine r_u64 (by omega) ?_ | refine r_i32 (by omega) ?_ | refine r_u32 (by omega) ?_ | refine r_rem (by omega) ?_ | refine r_quo (by omega) ?_ | refine r_ldb (by assumption) (by rfl) ?_ | refine r_ldbE (by assumption) (by rfl) ?_))); (conv => whnf)
      · refine hagain (i + 1) w2 ⟨by omega, hx1.trans hx2, ?_⟩ (by omega)
        rw [List.take_succ_eq_append_getElem (by omega), List.take_succ_eq_append_getElem (by omega), htake, hq]
      · exact ⟨hx1.trans hx2, false, rfl, by
          simp only [Bool.false_eq_true, false_iff]
          intro h
          subst h
          exact hq rfl⟩
    · (repeat ((conv => whnf); (first | with_reducible refine r_tt ?_ | with_reducible refine r_ff ?_ | with_reducible refine r_ntt ?_ | with_reducible refine r_nff ?_ | refine r_need (by omega) ?_ | refine r_i64 (by omega) ?_ | refine r_dect (by omega) ?_ | refine r_decf (by omega) ?_ | refine r_eqt (by omega) ?_ | refine r_eqf (by omega) ?_ | refine r_net (by omega) ?_ | refine r_nef (by omega) ?_ | refine r_u8 (by omega) ?_ | refine r_u64 (by omega) ?_ | refine r_i32 (by omega) ?_ | refine r_u32 (by omega) ?_ | refine r_rem (by omega) ?_ | refine r_quo (by omega) ?_ | refine r_ldb (by assumption) (by rfl) ?_ | refine r_ldbE (by assumption) (by rfl) ?_))); (conv => whnf)
      refine ⟨hx1, true, rfl, ?_⟩
      rw [List.take_of_length_le (by omega), List.take_of_length_le (by omega)] at htake
      simp [htake]
  · (repeat ((conv => whnf); (first | with_reducible refine r_tt ?_ | with_reducible refine r_ff ?_ | with_reducible refine r_ntt ?_ | with_reducible refine r_nff ?_ | refine r_need (by omega) ?_ | refine r_i64 (by omega) ?_ | refine r_dect (by omega) ?_ | refine r_decf (by omega) ?_ | refine r_eqt (by omega) ?_ | refine r_eqf (by omega) ?_ | refine r_net (by omega) ?_ | refine r_nef (by omega) ?_ | refine r_u8 (by omega) ?_ | refine r_u64 (by omega) ?_ | refine r_i32 (by omega) ?_ | refine r_u32 (by omega) ?_ | refine r_rem (by omega) ?_ | refine r_quo (by omega) ?_ | refine r_ldb (by assumption) (by rfl) ?_ | refine r_ldbE (by assumption) (by rfl) ?_))); (conv => whnf)
    exact ⟨Ext.refl w, false, rfl, by
      simp only [Bool.false_eq_true, false_iff]
      intro h
      subst h
      omega⟩
end Fb.Try.RI
