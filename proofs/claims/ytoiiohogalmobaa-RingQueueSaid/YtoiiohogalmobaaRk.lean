/-
  Walks: a ring of bytes as a queue.
-/
import Derived.Test.YtoiiohogalmobaaRb
import Derived.Test.YtoiiohogalmobaaRf
import Derived.Test.YtoiiohogalmobaaVb
namespace Fb.Try.RB
open Go Go.Proofs Fb Fb.Bytes
theorem vals_bvs (l : List UInt8) : vals (l.map fun b => (b.toNat : Int)) = bvs l := by
  simp [vals, bvs, List.map_map, Function.comp_def]
theorem vals_app (A B : List Int) : vals (A ++ B) = vals A ++ vals B := by simp [vals]
theorem vals_one (L : List Int) : ∀ v ∈ vals L, v.oneCell' = true := by
  intro v hv
  obtain ⟨z, _, rfl⟩ := List.mem_map.1 hv
  rfl
theorem vals_len (L : List Int) : (vals L).length = L.length := by simp [vals]
/-- A ring, what came out of it, what goes in. -/
structure Que (w0 w : World) (b i room : Nat) (xs L O Z : List Int) (fr : Nat) (g : Option Nat) (v : Value) : Prop where
  ring : RG w b g L fr room
  own : w.ownsRow w0.heap.size 5 1 v O.length (vals O)
  apart : ∀ k, v.ownBlock = some k → k ≠ b ∧ g ≠ some k
  all : 0 < room → O ++ (Z ++ L) = xs.take i
  none : room = 0 → O = [] ∧ L = []
  fr : fr + L.length ≤ i
  ext : Ext w0 w
  nb : w0.heap.size ≤ b
  ng : ∀ x, g = some x → w0.heap.size ≤ x
section
variable {w0 w w' : World} {b i room : Nat} {xs L O Z : List Int} {fr : Nat} {g : Option Nat} {v : Value}
theorem Que.ext' (h : Que w0 w b i room xs L O Z fr g v) (k : Ext w w') : Que w0 w' b i room xs L O Z fr g v :=
  ⟨h.ring.ext k, own_ext h.own k, h.apart, h.all, h.none, h.fr, h.ext.trans k, h.nb, h.ng⟩
theorem Que.olen (h : Que w0 w b i room xs L O Z fr g v) : O.length ≤ i := by
  rcases Nat.eq_zero_or_pos room with h0 | h0
  · have := (h.none h0).1
    simp [this]
  · have := congrArg List.length (h.all h0)
    simp only [List.length_append, List.length_take] at this
    omega
/-- The ring was told something. -/
theorem Que.ring' (h : Que w0 w b i room xs L O Z fr g v) {L' Z' : List Int} {fr' i' : Nat} {g' : Option Nat} (hc : Chg (fun k => k = b ∨ g = some k) w w') (hr : RG w' b g' L' fr' room) (ha : Arr w g g') (hall : 0 < room → O ++ (Z' ++ L') = xs.take i') (hnone : room = 0 → L' = []) (hfr : fr' + L'.length ≤ i') :
    Que w0 w' b i' room xs L' O Z' fr' g' v := by
  refine ⟨hr, own_keep h.own hc fun k hk hs => ?_, fun k hk => ⟨(h.apart k hk).1, fun e => ?_⟩, hall, fun h0 => ⟨(h.none h0).1, hnone h0⟩, hfr, Chg.step h.ext hc fun k hk hlt => ?_, h.nb, fun x hx => ?_⟩
  · exact hs.elim (h.apart k hk).1 (h.apart k hk).2
  · rcases ha with rfl | ⟨x, rfl, hx⟩
    · exact (h.apart k hk).2 e
    · cases e
      have := (h.own.lt k hk).2
      omega
  · rcases hk with e | e
    · have := h.nb; omega
    · have := h.ng k e; omega
  · rcases ha with rfl | ⟨y, rfl, hy⟩
    · exact h.ng x hx
    · cases hx; have := h.ext.size; omega
/-- What came out was put behind the others. -/
theorem Que.out (h : Que w0 w b i room xs L O Z fr g v) {v' : Value} {O' : List Int} {L' : List Int} (hL : L' = L) (hc : Chg (fun k => v.ownBlock = some k) w w') (ho : w'.ownsRow w0.heap.size 5 1 v' O'.length (vals O')) (hv : v'.ownBlock = v.ownBlock ∨ v'.ownBlock = some w.heap.size) (hall : 0 < room → O' ++ L' = xs.take i) (hnone : room = 0 → O' = []) :
    Que w0 w' b i room xs L' O' [] fr g v' := by
  subst hL
  have hlt := h.ring.lt
  refine ⟨h.ring.keep hc (fun e => (h.apart _ e).1 rfl) (fun x hx e => (h.apart _ e).2 hx), ho, fun k hk => ?_, hall, fun h0 => ⟨hnone h0, (h.none h0).2⟩, h.fr, Chg.own h.ext hc h.own, h.nb, h.ng⟩
  rcases hv with e | e
  · exact h.apart k (e ▸ hk)
  · rw [e] at hk
    cases hk
    exact ⟨by have := hlt.1; omega, fun e => by have := hlt.2 _ e; omega⟩
end
set_option maxHeartbeats 1000000 in
set_option maxRecDepth 100000 in
theorem queue_ok {w : World} (room some' : Int) (hr : 0 ≤ room ∧ room ≤ 255) (hsm : 0 ≤ some' ∧ some' ≤ 255) {a : Option Addr} {len cap : Nat} {l : List UInt8} (hv : View w a len cap 1 (bvs l)) :
    Cal Try.prog 3 ⟨[.slice a len cap, .int .u8 room, .int .u8 some']⟩ w fun v w' => v = .bool true ∧ Ext w w' := by
  have hl : l.length = len := by have := hv.length; simpa [bvs] using this
  have hmax := hv.max
  unfold maxLen at hmax
  have hle := hv.le
  refine go3 (by rfl) ?_
  by_cases hlen : 500 < len
  · (repeat ((conv => whnf); (first | with_reducible refine r_tt ?_ | with_reducible refine r_ff ?_ | with_reducible refine r_ntt ?_ | with_reducible refine r_nff ?_ | refine r_need (by omega) ?_ | refine r_i64 (by omega) ?_ | refine r_dect (by omega) ?_ | refine r_decf (by omega) ?_ | refine r_eqt (by omega) ?_ | refine r_eqf (by omega) ?_ | refine r_net (by omega) ?_ | refine r_nef (by omega) ?_ | refine r_u8 (by omega) ?_ | refine r_u64 (by omega) ?_ | refine r_i32 (by omega) ?_ | refine r_u32 (by omega) ?_ | refine r_rem (by omega) ?_ | refine r_quo (by omega) ?_ | refine r_ldb (by assumption) (by rfl) ?_ | refine r_ldbE (by assumption) (by rfl) ?_))); (conv => whnf)
    refine r_cal (RI.fixed_ok _) ?_
    rintro _ w4 ⟨hx4, rfl⟩
    (repeat ((conv => whnf); (first | with_reducible refine r_tt ?_ | with_reducible refine r_ff ?_ | with_reducible refine r_ntt ?_ | with_reducible refine r_nff ?_ | refine r_need (by omega) ?_ | refine r_i64 (by omega) ?_ | refine r_dect (by omega) ?_ | refine r_decf (by omega) ?_ | refine r_eqt (by omega) ?_ | refine r_eqf (by omega) ?_ | refine r_net (by omega) ?_ | refine r_nef (by omega) ?_ | refine r_u8 (by omega) ?_ | refine r_u64 (by omega) ?_ | refine r_i32 (by omega) ?_ | refine r_u32 (by omega) ?_ | refine r_rem (by omega) ?_ | refine r_quo (by omega) ?_ | refine r_ldb (by assumption) (by rfl) ?_ | refine r_ldbE (by assumption) (by rfl) ?_))); (conv => whnf)
    exact ⟨rfl, hx4⟩
  obtain ⟨rm, rfl⟩ : ∃ rm : Nat, room = rm := ⟨room.toNat, by omega⟩
  generalize hxs : (l.map fun b => (b.toNat : Int)) = xs
  have hxl : xs.length = len := by rw [← hxs]; simpa using hl
  have hvx : View w a len cap 1 (vals xs) := by rw [← hxs, vals_bvs]; exact hv
  (repeat ((conv => whnf); (first | with_reducible refine r_tt ?_ | with_reducible refine r_ff ?_ | with_reducible refine r_ntt ?_ | with_reducible refine r_nff ?_ | refine r_need (by omega) ?_ | refine r_i64 (by omega) ?_ | refine r_dect (by omega) ?_ | refine r_decf (by omega) ?_ | refine r_eqt (by omega) ?_ | refine r_eqf (by omega) ?_ | refine r_net (by omega) ?_ | refine r_nef (by omega) ?_ | refine r_u8 (by omega) ?_ | refine r_u64 (by omega) ?_ | refine r_i32 (by omega) ?_ | refine r_u32 (by omega) ?_ | refine r_rem (by omega) ?_ | refine r_quo (by omega) ?_ | refine r_ldb (by assumption) (by rfl) ?_ | refine r_ldbE (by assumption) (by rfl) ?_))); (conv => whnf)
  refine r_cal (New_ok w rm (by omega)) ?_
  rintro _ w2 ⟨b, rfl, hx1, hb1, h1⟩
  rw [Int.toNat_natCast] at h1
  (repeat ((conv => whnf); (first | with_reducible refine r_tt ?_ | with_reducible refine r_ff ?_ | with_reducible refine r_ntt ?_ | with_reducible refine r_nff ?_ | refine r_need (by omega) ?_ | refine r_i64 (by omega) ?_ | refine r_dect (by omega) ?_ | refine r_decf (by omega) ?_ | refine r_eqt (by omega) ?_ | refine r_eqf (by omega) ?_ | refine r_net (by omega) ?_ | refine r_nef (by omega) ?_ | refine r_u8 (by omega) ?_ | refine r_u64 (by omega) ?_ | refine r_i32 (by omega) ?_ | refine r_u32 (by omega) ?_ | refine r_rem (by omega) ?_ | refine r_quo (by omega) ?_ | refine r_ldb (by assumption) (by rfl) ?_ | refine r_ldbE (by assumption) (by rfl) ?_))); (conv => whnf)
  refine r_new fun q w3 hx3 hb3 hs3 hblk3 => ?_
  have hs1 := hx1.size
  have hQ : Que w w3 b 0 rm xs [] [] [] 0 none (.slice (some ⟨q, 0, none⟩) 0 0) := by
    refine ⟨h1.ext hx3, ⟨rfl, .inr ⟨q, 0, #[], rfl, by omega, hblk3, Nat.le_refl _, by simp [maxLen], rfl, rfl⟩⟩, fun k hk => ?_, by simp, by simp, by simp, hx1.trans hx3, hb1, by simp⟩
    simp [Value.ownBlock] at hk
    subst hk
    have := h1.lt.1
    exact ⟨by omega, by simp⟩
  (repeat ((conv => whnf); (first | with_reducible refine r_tt ?_ | with_reducible refine r_ff ?_ | with_reducible refine r_ntt ?_ | with_reducible refine r_nff ?_ | refine r_need (by omega) ?_ | refine r_i64 (by omega) ?_ | refine r_dect (by omega) ?_ | refine r_decf (by omega) ?_ | refine r_eqt (by omega) ?_ | refine r_eqf (by omega) ?_ | refine r_net (by omega) ?_ | refine r_nef (by omega) ?_ | refine r_u8 (by omega) ?_ | refine r_u64 (by omega) ?_ | refine r_i32 (by omega) ?_ | refine r_u32 (by omega) ?_ | refine r_rem (by omega) ?_ | refine r_quo (by omega) ?_ | refine r_ldb (by assumption) (by rfl) ?_ | refine r_ldbE (by assumption) (by rfl) ?_))); (conv => whnf)
  refine r_loop (σ := Nat × Value) (fun s => [s.2, .int .i64 (s.1 : Int)]) (fun s w' => s.1 ≤ len ∧ ∃ L O fr g, Que w w' b s.1 rm xs L O [] fr g s.2) (fun s _ => len - s.1) (0, .slice (some ⟨q, 0, none⟩) 0 0) rfl ⟨by omega, _, _, _, _, hQ⟩ ?_
  clear hQ
  rintro ⟨i, v⟩ w4 again ⟨hi, L, O, fr, g, hQ⟩ hagain
  dsimp only at hi hQ ⊢
  have hll := hQ.ring.len_le
  rw [encs_len] at hll
  by_cases hil : i < len
  · have ea : (vals xs)[i]? = some (.int .u8 xs[i]) := by simp [vals]
    have hp := hvx.plain (by rw [vals_len]; omega)
    (repeat ((conv => whnf); (first | with_reducible refine r_tt ?_ | with_reducible refine r_ff ?_ | with_reducible refine r_ntt ?_ | with_reducible refine r_nff ?_ | refine r_need (by omega) ?_ | refine r_i64 (by omega) ?_ | refine r_dect (by omega) ?_ | refine r_decf (by omega) ?_ | refine r_eqt (by omega) ?_ | refine r_eqf (by omega) ?_ | refine r_net (by omega) ?_ | refine r_nef (by omega) ?_ | refine r_u8 (by omega) ?_ | refine r_u64 (by omega) ?_ | refine r_i32 (by omega) ?_ | refine r_u32 (by omega) ?_ | refine r_rem (by omega) ?_ | refine r_quo (by omega) ?_ | refine r_ldb (by assumption) (by rfl) ?_ | refine r_ldbE (by assumption) (by rfl) ?_))); (conv => whnf)
    refine r_ldv (j := (i : Int).toNat * 1) (hvx.ext hQ.ext) (by simpa using ea) ?_
    (repeat ((conv => whnf); (first | with_reducible refine r_tt ?_ | with_reducible refine r_ff ?_ | with_reducible refine r_ntt ?_ | with_reducible refine r_nff ?_ | refine r_need (by omega) ?_ | refine r_i64 (by omega) ?_ | refine r_dect (by omega) ?_ | refine r_decf (by omega) ?_ | refine r_eqt (by omega) ?_ | refine r_eqf (by omega) ?_ | refine r_net (by omega) ?_ | refine r_nef (by omega) ?_ | refine r_u8 (by omega) ?_ | refine r_u64 (by omega) ?_ | refine r_i32 (by omega) ?_ | refine r_u32 (by omega) ?_ | refine r_rem (by omega) ?_ | refine r_quo (by omega) ?_ | refine r_ldb (by assumption) (by rfl) ?_ | refine r_ldbE (by assumption) (by rfl) ?_))); (conv => whnf)
    refine r_loop (σ := Value × Nat) (fun s => [s.1]) (fun s w' => ∃ L O fr g, L.length = s.2 ∧ Que w w' b i rm xs L O [] fr g s.1) (fun s _ => s.2) (v, L.length) rfl ⟨L, O, fr, g, rfl, hQ⟩ ?_
    clear hQ hll
    rintro ⟨v, n⟩ w5 again5 ⟨L, O, fr, g, hn, hQ⟩ hagain5
    dsimp only at hn hQ ⊢
    subst hn
    have hll := hQ.ring.len_le
    rw [encs_len] at hll
    have hfr := hQ.fr
    (repeat ((conv => whnf); (first | with_reducible refine r_tt ?_ | with_reducible refine r_ff ?_ | with_reducible refine r_ntt ?_ | with_reducible refine r_nff ?_ | refine r_need (by omega) ?_ | refine r_i64 (by omega) ?_ | refine r_dect (by omega) ?_ | refine r_decf (by omega) ?_ | refine r_eqt (by omega) ?_ | refine r_eqf (by omega) ?_ | refine r_net (by omega) ?_ | refine r_nef (by omega) ?_ | refine r_u8 (by omega) ?_ | refine r_u64 (by omega) ?_ | refine r_i32 (by omega) ?_ | refine r_u32 (by omega) ?_ | refine r_rem (by omega) ?_ | refine r_quo (by omega) ?_ | refine r_ldb (by assumption) (by rfl) ?_ | refine r_ldbE (by assumption) (by rfl) ?_))); (conv => whnf)
    refine r_cal (Len_ok hQ.ring) ?_
    rintro _ w6 ⟨rfl, rfl⟩
    by_cases hfull : L.length = rm ∧ 0 < rm
    focus
      (repeat ((conv => whnf); (first | with_reducible refine r_tt ?_ | with_reducible refine r_ff ?_ | with_reducible refine r_ntt ?_ | with_reducible refine r_nff ?_ | refine r_need (by omega) ?_ | refine r_i64 (by omega) ?_ | refine r_dect (by omega) ?_ | refine r_decf (by omega) ?_ | refine r_eqt (by omega) ?_ | refine r_eqf (by omega) ?_ | refine r_net (by omega) ?_ | refine r_nef (by omega) ?_ | refine r_u8 (by omega) ?_ | refine r_u64 (by omega) ?_ | refine r_i32 (by omega) ?_ | refine r_u32 (by omega) ?_ | refine r_rem (by omega) ?_ | refine r_quo (by omega) ?_ | refine r_ldb (by assumption) (by rfl) ?_ | refine r_ldbE (by assumption) (by rfl) ?_))); (conv => whnf)
      cases L with
      | nil => simp at hfull; omega
      | cons z L =>
        refine r_cal (Shift_ok hQ.ring (by omega)) ?_
        rintro _ w7 ⟨rfl, h7, hc7⟩
        have hQ7 := hQ.ring' (i' := i) (Z' := [z]) (g' := g) hc7 h7 (.inl rfl) (fun h0 => by simpa using hQ.all h0) (fun h0 => by omega) (by have := hQ.fr; simp at this; omega)
        have hol : O.length ≤ i := by
          have := congrArg List.length (hQ7.all (by omega))
          simp only [List.length_append, List.length_take] at this
          omega
        (repeat ((conv => whnf); (first | with_reducible refine r_tt ?_ | with_reducible refine r_ff ?_ | with_reducible refine r_ntt ?_ | with_reducible refine r_nff ?_ | refine r_need (by omega) ?_ | refine r_i64 (by omega) ?_ | refine r_dect (by omega) ?_ | refine r_decf (by omega) ?_ | refine r_eqt (by omega) ?_ | refine r_eqf (by omega) ?_ | refine r_net (by omega) ?_ | refine r_nef (by omega) ?_ | refine r_u8 (by omega) ?_ | refine r_u64 (by omega) ?_ | refine r_i32 (by omega) ?_ | refine r_u32 (by omega) ?_ | refine r_rem (by omega) ?_ | refine r_quo (by omega) ?_ | refine r_ldb (by assumption) (by rfl) ?_ | refine r_ldbE (by assumption) (by rfl) ?_))); (conv => whnf)
        refine r_new fun y w8 hx8 hb8 hs8 hblk8 => ?_
        have hblk8 : Blk w8 y 5 [.int .u8 z] := hblk8
        have hQ8 := hQ7.ext' hx8
        (repeat ((conv => whnf); (first | with_reducible refine r_tt ?_ | with_reducible refine r_ff ?_ | with_reducible refine r_ntt ?_ | with_reducible refine r_nff ?_ | refine r_need (by omega) ?_ | refine r_i64 (by omega) ?_ | refine r_dect (by omega) ?_ | refine r_decf (by omega) ?_ | refine r_eqt (by omega) ?_ | refine r_eqf (by omega) ?_ | refine r_net (by omega) ?_ | refine r_nef (by omega) ?_ | refine r_u8 (by omega) ?_ | refine r_u64 (by omega) ?_ | refine r_i32 (by omega) ?_ | refine r_u32 (by omega) ?_ | refine r_rem (by omega) ?_ | refine r_quo (by omega) ?_ | refine r_ldb (by assumption) (by rfl) ?_ | refine r_ldbE (by assumption) (by rfl) ?_))); (conv => whnf)
        refine r_appAt el hQ8.own (View.of_blk (n := 1) hblk8 (by simp) (by simp [maxLen])) (by simp [Value.oneCell']) (by omega) (by have := hQ8.ext.size; omega) fun v' w9 hown9 hc9 _ hat9 => ?_
        have hQ9 := hQ8.out (O' := O ++ [z]) rfl hc9 (by rw [vals_app, List.length_append]; exact hown9) hat9 (fun h0 => by simpa using hQ8.all h0) (fun h0 => by omega)
        (repeat ((conv => whnf); (first | with_reducible refine r_tt ?_ | with_reducible refine r_ff ?_ | with_reducible refine r_ntt ?_ | with_reducible refine r_nff ?_ | refine r_need (by omega) ?_ | refine r_i64 (by omega) ?_ | refine r_dect (by omega) ?_ | refine r_decf (by omega) ?_ | refine r_eqt (by omega) ?_ | refine r_eqf (by omega) ?_ | refine r_net (by omega) ?_ | refine r_nef (by omega) ?_ | refine r_u8 (by omega) ?_ | refine r_u64 (by omega) ?_ | refine r_i32 (by omega) ?_ | refine r_u32 (by omega) ?_ | refine r_rem (by omega) ?_ | refine r_quo (by omega) ?_ | refine r_ldb (by assumption) (by rfl) ?_ | refine r_ldbE (by assumption) (by rfl) ?_))); (conv => whnf)
        exact hagain5 (v', L.length) w9 ⟨L, O ++ [z], fr + 1, g, rfl, hQ9⟩ (by simp)
    clear hagain5
    have hpush : rm = 0 ∨ L.length < rm := by omega
    by_cases hroom : 0 < rm
    focus
      have hne : ¬ L.length = rm := fun e => hfull ⟨e, hroom⟩
      (repeat ((conv => whnf); (first | with_reducible refine r_tt ?_ | with_reducible refine r_ff ?_ | with_reducible refine r_ntt ?_ | with_reducible refine r_nff ?_ | refine r_need (by omega) ?_ | refine r_i64 (by omega) ?_ | refine r_dect (by omega) ?_ | refine r_decf (by omega) ?_ | refine r_eqt (by omega) ?_ | refine r_eqf (by omega) ?_ | refine r_net (by omega) ?_ | refine r_nef (by omega) ?_ | refine r_u8 (by omega) ?_ | refine r_u64 (by omega) ?_ | refine r_i32 (by omega) ?_ | refine r_u32 (by omega) ?_ | refine r_rem (by omega) ?_ | refine r_quo (by omega) ?_ | refine r_ldb (by assumption) (by rfl) ?_ | refine r_ldbE (by assumption) (by rfl) ?_))); (conv => whnf)
      refine r_cal (Push_ok hQ.ring xs[i]) ?_
      rintro _ w7 ⟨g7, rfl, h7, ha7, hc7⟩
      have hlt : L.length < rm := by omega
      rw [if_pos hlt] at h7
      rw [decide_eq_true hlt]
      have hQ7 := hQ.ring' (i' := i + 1) (Z' := []) hc7 h7 ha7 (fun h0 => by
        have h1 := hQ.all h0
        rw [List.nil_append] at h1
        rw [List.nil_append, ← List.append_assoc, h1, List.take_succ_eq_append_getElem]) (fun h0 => by omega) (by simp; omega)
      clear h7 hc7 ha7 hQ
      (repeat ((conv => whnf); (first | with_reducible refine r_tt ?_ | with_reducible refine r_ff ?_ | with_reducible refine r_ntt ?_ | with_reducible refine r_nff ?_ | refine r_need (by omega) ?_ | refine r_i64 (by omega) ?_ | refine r_dect (by omega) ?_ | refine r_decf (by omega) ?_ | refine r_eqt (by omega) ?_ | refine r_eqf (by omega) ?_ | refine r_net (by omega) ?_ | refine r_nef (by omega) ?_ | refine r_u8 (by omega) ?_ | refine r_u64 (by omega) ?_ | refine r_i32 (by omega) ?_ | refine r_u32 (by omega) ?_ | refine r_rem (by omega) ?_ | refine r_quo (by omega) ?_ | refine r_ldb (by assumption) (by rfl) ?_ | refine r_ldbE (by assumption) (by rfl) ?_))); (conv => whnf)
      refine r_false (by simp [hroom]) ?_
      (repeat ((conv => whnf); (first | with_reducible refine r_tt ?_ | with_reducible refine r_ff ?_ | with_reducible refine r_ntt ?_ | with_reducible refine r_nff ?_ | refine r_need (by omega) ?_ | refine r_i64 (by omega) ?_ | refine r_dect (by omega) ?_ | refine r_decf (by omega) ?_ | refine r_eqt (by omega) ?_ | refine r_eqf (by omega) ?_ | refine r_net (by omega) ?_ | refine r_nef (by omega) ?_ | refine r_u8 (by omega) ?_ | refine r_u64 (by omega) ?_ | refine r_i32 (by omega) ?_ | refine r_u32 (by omega) ?_ | refine r_rem (by omega) ?_ | refine r_quo (by omega) ?_ | refine r_ldb (by assumption) (by rfl) ?_ | refine r_ldbE (by assumption) (by rfl) ?_))); (conv => whnf)
    rotate_left
    focus
      have h0 : rm = 0 := by omega
      subst h0
      obtain ⟨hO, hL⟩ := hQ.none rfl
      subst hO hL
      (repeat ((conv => whnf); (first | with_reducible refine r_tt ?_ | with_reducible refine r_ff ?_ | with_reducible refine r_ntt ?_ | with_reducible refine r_nff ?_ | refine r_need (by omega) ?_ | refine r_i64 (by omega) ?_ | refine r_dect (by omega) ?_ | refine r_decf (by omega) ?_ | refine r_eqt (by omega) ?_ | refine r_eqf (by omega) ?_ | refine r_net (by omega) ?_ | refine r_nef (by omega) ?_ | refine r_u8 (by omega) ?_ | refine r_u64 (by omega) ?_ | refine r_i32 (by omega) ?_ | refine r_u32 (by omega) ?_ | refine r_rem (by omega) ?_ | refine r_quo (by omega) ?_ | refine r_ldb (by assumption) (by rfl) ?_ | refine r_ldbE (by assumption) (by rfl) ?_))); (conv => whnf)
      refine r_cal (Push_ok hQ.ring xs[i]) ?_
      rintro _ w7 ⟨g7, rfl, h7, ha7, hc7⟩
      have hQ7 := hQ.ring' (i' := i + 1) (Z' := []) hc7 (by simpa using h7) ha7 (fun h0 => by omega) (fun h0 => rfl) (by have := hQ.fr; simp at this; simp; omega)
      clear h7 hc7 ha7 hQ
      (repeat ((conv => whnf); (first | with_reducible refine r_tt ?_ | with_reducible refine r_ff ?_ | with_reducible refine r_ntt ?_ | with_reducible refine r_nff ?_ | refine r_need (by omega) ?_ | refine r_i64 (by omega) ?_ | refine r_dect (by omega) ?_ | refine r_decf (by omega) ?_ | refine r_eqt (by omega) ?_ | refine r_eqf (by omega) ?_ | refine r_net (by omega) ?_ | refine r_nef (by omega) ?_ | refine r_u8 (by omega) ?_ | refine r_u64 (by omega) ?_ | refine r_i32 (by omega) ?_ | refine r_u32 (by omega) ?_ | refine r_rem (by omega) ?_ | refine r_quo (by omega) ?_ | refine r_ldb (by assumption) (by rfl) ?_ | refine r_ldbE (by assumption) (by rfl) ?_))); (conv => whnf)
    all_goals
      obtain ⟨L7, O7, fr7, g8, hQ7⟩ : ∃ L O fr g, Que w w7 b (i + 1) _ xs L O [] fr g v := ⟨_, _, _, _, hQ7⟩
      have hfr7 := hQ7.fr
      by_cases hst : (i : Int) % (1 + some' % 7) = 0
      focus
        refine r_eqt hst ?_
        (repeat ((conv => whnf); (first | with_reducible refine r_tt ?_ | with_reducible refine r_ff ?_ | with_reducible refine r_ntt ?_ | with_reducible refine r_nff ?_ | refine r_need (by omega) ?_ | refine r_i64 (by omega) ?_ | refine r_dect (by omega) ?_ | refine r_decf (by omega) ?_ | refine r_eqt (by omega) ?_ | refine r_eqf (by omega) ?_ | refine r_net (by omega) ?_ | refine r_nef (by omega) ?_ | refine r_u8 (by omega) ?_ | refine r_u64 (by omega) ?_ | refine r_i32 (by omega) ?_ | refine r_u32 (by omega) ?_ | refine r_rem (by omega) ?_ | refine r_quo (by omega) ?_ | refine r_ldb (by assumption) (by rfl) ?_ | refine r_ldbE (by assumption) (by rfl) ?_))); (conv => whnf)
        cases L7 with
        | nil =>
          refine r_cal (Shift_no hQ7.ring) ?_
          rintro _ w8 ⟨rfl, rfl⟩
          (repeat ((conv => whnf); (first | with_reducible refine r_tt ?_ | with_reducible refine r_ff ?_ | with_reducible refine r_ntt ?_ | with_reducible refine r_nff ?_ | refine r_need (by omega) ?_ | refine r_i64 (by omega) ?_ | refine r_dect (by omega) ?_ | refine r_decf (by omega) ?_ | refine r_eqt (by omega) ?_ | refine r_eqf (by omega) ?_ | refine r_net (by omega) ?_ | refine r_nef (by omega) ?_ | refine r_u8 (by omega) ?_ | refine r_u64 (by omega) ?_ | refine r_i32 (by omega) ?_ | refine r_u32 (by omega) ?_ | refine r_rem (by omega) ?_ | refine r_quo (by omega) ?_ | refine r_ldb (by assumption) (by rfl) ?_ | refine r_ldbE (by assumption) (by rfl) ?_))); (conv => whnf)
          exact hagain (i + 1, v) _ ⟨by dsimp only; omega, [], O7, fr7, g8, hQ7⟩ (by dsimp only; omega)
        | cons z L7 =>
          refine r_cal (Shift_ok hQ7.ring (by omega)) ?_
          rintro _ w8 ⟨rfl, h8, hc8⟩
          have hz := hQ7.olen
          have hQ8 := hQ7.ring' (i' := i + 1) (Z' := [z]) (g' := g8) hc8 h8 (.inl rfl) (fun h0 => by simpa using hQ7.all h0) (fun h0 => by have := (hQ7.none h0).2; cases this) (by have := hQ7.fr; simp at this; omega)
          (repeat ((conv => whnf); (first | with_reducible refine r_tt ?_ | with_reducible refine r_ff ?_ | with_reducible refine r_ntt ?_ | with_reducible refine r_nff ?_ | refine r_need (by omega) ?_ | refine r_i64 (by omega) ?_ | refine r_dect (by omega) ?_ | refine r_decf (by omega) ?_ | refine r_eqt (by omega) ?_ | refine r_eqf (by omega) ?_ | refine r_net (by omega) ?_ | refine r_nef (by omega) ?_ | refine r_u8 (by omega) ?_ | refine r_u64 (by omega) ?_ | refine r_i32 (by omega) ?_ | refine r_u32 (by omega) ?_ | refine r_rem (by omega) ?_ | refine r_quo (by omega) ?_ | refine r_ldb (by assumption) (by rfl) ?_ | refine r_ldbE (by assumption) (by rfl) ?_))); (conv => whnf)
          refine r_new fun y w9 hx9 hb9 hs9 hblk9 => ?_
          have hblk9 : Blk w9 y 5 [.int .u8 z] := hblk9
          have hQ9 := hQ8.ext' hx9
          (repeat ((conv => whnf); (first | with_reducible refine r_tt ?_ | with_reducible refine r_ff ?_ | with_reducible refine r_ntt ?_ | with_reducible refine r_nff ?_ | refine r_need (by omega) ?_ | refine r_i64 (by omega) ?_ | refine r_dect (by omega) ?_ | refine r_decf (by omega) ?_ | refine r_eqt (by omega) ?_ | refine r_eqf (by omega) ?_ | refine r_net (by omega) ?_ | refine r_nef (by omega) ?_ | refine r_u8 (by omega) ?_ | refine r_u64 (by omega) ?_ | refine r_i32 (by omega) ?_ | refine r_u32 (by omega) ?_ | refine r_rem (by omega) ?_ | refine r_quo (by omega) ?_ | refine r_ldb (by assumption) (by rfl) ?_ | refine r_ldbE (by assumption) (by rfl) ?_))); (conv => whnf)
          refine r_appAt el hQ9.own (View.of_blk (n := 1) hblk9 (by simp) (by simp [maxLen])) (by simp [Value.oneCell']) (by omega) (by have := hQ9.ext.size; omega) fun v' w10 hown10 hc10 _ hat10 => ?_
          have hQ10 := hQ9.out (O' := O7 ++ [z]) rfl hc10 (by rw [vals_app, List.length_append]; exact hown10) hat10 (fun h0 => by simpa using hQ9.all h0) (fun h0 => by have := (hQ7.none h0).2; cases this)
          (repeat ((conv => whnf); (first | with_reducible refine r_tt ?_ | with_reducible refine r_ff ?_ | with_reducible refine r_ntt ?_ | with_reducible refine r_nff ?_ | refine r_need (by omega) ?_ | refine r_i64 (by omega) ?_ | refine r_dect (by omega) ?_ | refine r_decf (by omega) ?_ | refine r_eqt (by omega) ?_ | refine r_eqf (by omega) ?_ | refine r_net (by omega) ?_ | refine r_nef (by omega) ?_ | refine r_u8 (by omega) ?_ | refine r_u64 (by omega) ?_ | refine r_i32 (by omega) ?_ | refine r_u32 (by omega) ?_ | refine r_rem (by omega) ?_ | refine r_quo (by omega) ?_ | refine r_ldb (by assumption) (by rfl) ?_ | refine r_ldbE (by assumption) (by rfl) ?_))); (conv => whnf)
          exact hagain (i + 1, v') _ ⟨by dsimp only; omega, L7, O7 ++ [z], fr7 + 1, g8, hQ10⟩ (by dsimp only; omega)
      refine r_eqf hst ?_
      (repeat ((conv => whnf); (first | with_reducible refine r_tt ?_ | with_reducible refine r_ff ?_ | with_reducible refine r_ntt ?_ | with_reducible refine r_nff ?_ | refine r_need (by omega) ?_ | refine r_i64 (by omega) ?_ | refine r_dect (by omega) ?_ | refine r_decf (by omega) ?_ | refine r_eqt (by omega) ?_ | refine r_eqf (by omega) ?_ | refine r_net (by omega) ?_ | refine r_nef (by omega) ?_ | refine r_u8 (by omega) ?_ | refine r_u64 (by omega) ?_ | refine r_i32 (by omega) ?_ | refine r_u32 (by omega) ?_ | refine r_rem (by omega) ?_ | refine r_quo (by omega) ?_ | refine r_ldb (by assumption) (by rfl) ?_ | refine r_ldbE (by assumption) (by rfl) ?_))); (conv => whnf)
      exact hagain (i + 1, v) _ ⟨by dsimp only; omega, L7, O7, fr7, g8, hQ7⟩ (by dsimp only; omega)
  · clear hagain
    have : i = len := by omega
    subst this
    (repeat ((conv => whnf); (first | with_reducible refine r_tt ?_ | with_reducible refine r_ff ?_ | with_reducible refine r_ntt ?_ | with_reducible refine r_nff ?_ | refine r_need (by omega) ?_ | refine r_i64 (by omega) ?_ | refine r_dect (by omega) ?_ | refine r_decf (by omega) ?_ | refine r_eqt (by omega) ?_ | refine r_eqf (by omega) ?_ | refine r_net (by omega) ?_ | refine r_nef (by omega) ?_ | refine r_u8 (by omega) ?_ | refine r_u64 (by omega) ?_ | refine r_i32 (by omega) ?_ | refine r_u32 (by omega) ?_ | refine r_rem (by omega) ?_ | refine r_quo (by omega) ?_ | refine r_ldb (by assumption) (by rfl) ?_ | refine r_ldbE (by assumption) (by rfl) ?_))); (conv => whnf)
    refine r_cal (All_ok hQ.ring) ?_
    rintro _ w5 ⟨hx5, hown5⟩
    obtain ⟨a5, c5, rfl, hv5, _⟩ := View.of_own hown5
    have hQ5 := hQ.ext' hx5
    have hol : O.length ≤ i := by
      by_cases h0 : 0 < rm
      · have := congrArg List.length (hQ.all h0)
        simp only [List.length_append, List.length_take] at this
        omega
      · have := (hQ.none (by omega)).1
        simp [this]
    have hLi := hQ.fr
    (repeat ((conv => whnf); (first | with_reducible refine r_tt ?_ | with_reducible refine r_ff ?_ | with_reducible refine r_ntt ?_ | with_reducible refine r_nff ?_ | refine r_need (by omega) ?_ | refine r_i64 (by omega) ?_ | refine r_dect (by omega) ?_ | refine r_decf (by omega) ?_ | refine r_eqt (by omega) ?_ | refine r_eqf (by omega) ?_ | refine r_net (by omega) ?_ | refine r_nef (by omega) ?_ | refine r_u8 (by omega) ?_ | refine r_u64 (by omega) ?_ | refine r_i32 (by omega) ?_ | refine r_u32 (by omega) ?_ | refine r_rem (by omega) ?_ | refine r_quo (by omega) ?_ | refine r_ldb (by assumption) (by rfl) ?_ | refine r_ldbE (by assumption) (by rfl) ?_))); (conv => whnf)
    refine r_app el hQ5.own hv5 (vals_one L) (by omega) (by have := hQ5.ext.size; omega) fun v' w6 hown6 hc6 _ => ?_
    have hx6 : Ext w w6 := Chg.own hQ5.ext hc6 hQ5.own
    obtain ⟨a6, c6, rfl, hv6, _⟩ := View.of_own hown6
    rw [← vals_app] at hv6
    (repeat ((conv => whnf); (first | with_reducible refine r_tt ?_ | with_reducible refine r_ff ?_ | with_reducible refine r_ntt ?_ | with_reducible refine r_nff ?_ | refine r_need (by omega) ?_ | refine r_i64 (by omega) ?_ | refine r_dect (by omega) ?_ | refine r_decf (by omega) ?_ | refine r_eqt (by omega) ?_ | refine r_eqf (by omega) ?_ | refine r_net (by omega) ?_ | refine r_nef (by omega) ?_ | refine r_u8 (by omega) ?_ | refine r_u64 (by omega) ?_ | refine r_i32 (by omega) ?_ | refine r_u32 (by omega) ?_ | refine r_rem (by omega) ?_ | refine r_quo (by omega) ?_ | refine r_ldb (by assumption) (by rfl) ?_ | refine r_ldbE (by assumption) (by rfl) ?_))); (conv => whnf)
    refine r_cal (RI.fixed_ok _) ?_
    rintro _ w7 ⟨hx7, rfl⟩
    by_cases h0 : rm = 0
    · (repeat ((conv => whnf); (first | with_reducible refine r_tt ?_ | with_reducible refine r_ff ?_ | with_reducible refine r_ntt ?_ | with_reducible refine r_nff ?_ | refine r_need (by omega) ?_ | refine r_i64 (by omega) ?_ | refine r_dect (by omega) ?_ | refine r_decf (by omega) ?_ | refine r_eqt (by omega) ?_ | refine r_eqf (by omega) ?_ | refine r_net (by omega) ?_ | refine r_nef (by omega) ?_ | refine r_u8 (by omega) ?_ | refine r_u64 (by omega) ?_ | refine r_i32 (by omega) ?_ | refine r_u32 (by omega) ?_ | refine r_rem (by omega) ?_ | refine r_quo (by omega) ?_ | refine r_ldb (by assumption) (by rfl) ?_ | refine r_ldbE (by assumption) (by rfl) ?_))); (conv => whnf)
      exact ⟨rfl, hx6.trans hx7⟩
    · have hall := hQ.all (by omega)
      rw [List.nil_append, List.take_of_length_le (by omega)] at hall
      rw [hall, ← hxs, vals_bvs] at hv6
      (repeat ((conv => whnf); (first | with_reducible refine r_tt ?_ | with_reducible refine r_ff ?_ | with_reducible refine r_ntt ?_ | with_reducible refine r_nff ?_ | refine r_need (by omega) ?_ | refine r_i64 (by omega) ?_ | refine r_dect (by omega) ?_ | refine r_decf (by omega) ?_ | refine r_eqt (by omega) ?_ | refine r_eqf (by omega) ?_ | refine r_net (by omega) ?_ | refine r_nef (by omega) ?_ | refine r_u8 (by omega) ?_ | refine r_u64 (by omega) ?_ | refine r_i32 (by omega) ?_ | refine r_u32 (by omega) ?_ | refine r_rem (by omega) ?_ | refine r_quo (by omega) ?_ | refine r_ldb (by assumption) (by rfl) ?_ | refine r_ldbE (by assumption) (by rfl) ?_))); (conv => whnf)
      refine r_conv (hv6.ext hx7) ?_
      (repeat ((conv => whnf); (first | with_reducible refine r_tt ?_ | with_reducible refine r_ff ?_ | with_reducible refine r_ntt ?_ | with_reducible refine r_nff ?_ | refine r_need (by omega) ?_ | refine r_i64 (by omega) ?_ | refine r_dect (by omega) ?_ | refine r_decf (by omega) ?_ | refine r_eqt (by omega) ?_ | refine r_eqf (by omega) ?_ | refine r_net (by omega) ?_ | refine r_nef (by omega) ?_ | refine r_u8 (by omega) ?_ | refine r_u64 (by omega) ?_ | refine r_i32 (by omega) ?_ | refine r_u32 (by omega) ?_ | refine r_rem (by omega) ?_ | refine r_quo (by omega) ?_ | refine r_ldb (by assumption) (by rfl) ?_ | refine r_ldbE (by assumption) (by rfl) ?_))); (conv => whnf)
      refine r_conv (hv.ext (hx6.trans hx7)) ?_
      (repeat ((conv => whnf); (first | with_reducible refine r_tt ?_ | with_reducible refine r_ff ?_ | with_reducible refine r_ntt ?_ | with_reducible refine r_nff ?_ | refine r_need (by omega) ?_ | refine r_i64 (by omega) ?_ | refine r_dect (by omega) ?_ | refine r_decf (by omega) ?_ | refine r_eqt (by omega) ?_ | refine r_eqf (by omega) ?_ | refine r_net (by omega) ?_ | refine r_nef (by omega) ?_ | refine r_u8 (by omega) ?_ | refine r_u64 (by omega) ?_ | refine r_i32 (by omega) ?_ | refine r_u32 (by omega) ?_ | refine r_rem (by omega) ?_ | refine r_quo (by omega) ?_ | refine r_ldb (by assumption) (by rfl) ?_ | refine r_ldbE (by assumption) (by rfl) ?_))); (conv => whnf)
      exact ⟨by rw [eqb rfl], hx6.trans hx7⟩
end Fb.Try.RB
