/-
  Walks: an event is written.
-/
import Derived.Test.YtalkcjehehljcaaCy
namespace Fb.Try
open Go Go.Proofs Fb Fb.Codec

theorem m_wnumber (b : Nat) (w : World) : (method (Try.prog.types.size + Made.depth) 69 (.pointer (some ⟨b, 0, none⟩)) "footbridge/codec.number").run Try.prog w = .ok (59, .pointer (some ⟨b, 0, none⟩)) w := by kernel_rfl
theorem m_wlist (b : Nat) (w : World) : (method (Try.prog.types.size + Made.depth) 69 (.pointer (some ⟨b, 0, none⟩)) "footbridge/codec.list").run Try.prog w = .ok (58, .pointer (some ⟨b, 0, none⟩)) w := by kernel_rfl
theorem n_wlist (b : Nat) (w : World) : (nilAhead (Try.prog.types.size + Made.depth) 69 (.pointer (some ⟨b, 0, none⟩)) "footbridge/codec.list").run Try.prog w = .ok (some false) w := by kernel_rfl

theorem listW_len : ∀ (xs : List Int) (pre : List UInt8), (∀ x ∈ xs, inI64 x) → (listW pre xs).length ≤ max pre.length 65546
  | [], pre, _ => by simp [listW]; omega
  | x :: r, pre, h => by
    rw [listW]
    split
    · have h1 := listW_len r (pre ++ num x) fun y hy => h y (by simp [hy])
      have h2 := num_len (h x (by simp))
      simp at h1
      omega
    · omega

/-- An event. -/
structure Ev where
  kind : Int
  slot : Int
  gen : Int
  text : List Int
  tokens : List Int
  n : Int
  side : Int
structure Ev.Ok (e : Ev) : Prop where
  kind : inI64 e.kind
  slot : inI64 e.slot
  gen : inI64 e.gen
  text : ∀ x ∈ e.text, inI64 x
  tokens : ∀ x ∈ e.tokens, inI64 x
  n : inI64 e.n
  side : inI64 e.side

/-- An event's bytes, up to the frame's bound. -/
def evW (e : Ev) : List UInt8 :=
  listW (listW (num e.kind ++ num e.slot ++ num e.gen ++ num e.n ++ num e.side ++ num e.text.length) e.text ++ num e.tokens.length) e.tokens

theorem wevent_ok {w : World} {base b be : Nat} {v : Value} (e : Ev) (ta tka : Option Addr) (tl tc tkl tkc : Nat) (h : Wr w base b [] v) (hb : be < base ∧ be ≠ b)
    (he : Blk w be 36 [.int .i64 e.kind, .int .i64 e.slot, .int .i64 e.gen, .slice ta tl tc, .slice tka tkl tkc, .int .i64 e.n, .int .i64 e.side])
    (hok : e.Ok) (ht : View w ta tl tc 1 (e.text.map (.int .i64))) (htk : View w tka tkl tkc 1 (e.tokens.map (.int .i64)))
    (hta : 0 < e.text.length → blk ta < base ∧ blk ta ≠ b) (htka : 0 < e.tokens.length → blk tka < base ∧ blk tka ≠ b) :
    Cal Try.prog 29 ⟨[.iface 69 (.pointer (some ⟨b, 0, none⟩)), .pointer (some ⟨be, 0, none⟩)]⟩ w fun _ w' => ∃ v', Wr w' base b (evW e) v' ∧ Chg (fun k => k = b ∨ base ≤ k) w w' := by
  refine go29 (by rfl) ?_
  (repeat ((conv => whnf); (first | with_reducible refine r_tt ?_ | with_reducible refine r_ff ?_ | with_reducible refine r_ntt ?_ | with_reducible refine r_nff ?_ | refine r_need (by omega) ?_ | refine r_i64 (by omega) ?_ | refine r_dect (by omega) ?_ | refine r_decf (by omega) ?_ | refine r_eqt (by omega) ?_ | refine r_eqf (by omega) ?_ | refine r_net (by omega) ?_ | refine r_nef (by omega) ?_ | refine r_u8 (by omega) ?_ | refine r_u64 (by omega) ?_ | refine r_i32 (by omega) ?_ | refine r_u32 (by omega) ?_ | refine r_rem (by omega) ?_ | refine r_quo (by omega) ?_ | refine r_ldb (by assumption) (by rfl) ?_ | refine r_ldbE (by assumption) (by rfl) ?_))); (conv => whnf)
  refine r_drawE fun w1 hx1 _ => ?_
  (repeat ((conv => whnf); (first | with_reducible refine r_tt ?_ | with_reducible refine r_ff ?_ | with_reducible refine r_ntt ?_ | with_reducible refine r_nff ?_ | refine r_need (by omega) ?_ | refine r_i64 (by omega) ?_ | refine r_dect (by omega) ?_ | refine r_decf (by omega) ?_ | refine r_eqt (by omega) ?_ | refine r_eqf (by omega) ?_ | refine r_net (by omega) ?_ | refine r_nef (by omega) ?_ | refine r_u8 (by omega) ?_ | refine r_u64 (by omega) ?_ | refine r_i32 (by omega) ?_ | refine r_u32 (by omega) ?_ | refine r_rem (by omega) ?_ | refine r_quo (by omega) ?_ | refine r_ldb (by assumption) (by rfl) ?_ | refine r_ldbE (by assumption) (by rfl) ?_))); (conv => whnf)
  have hw1 := h.ext hx1
  refine r_loop (σ := Nat × Value) (fun s => [.int .i64 (s.1 : Int)]) (fun s w' => s.1 ≤ 5 ∧ Wr w' base b (([num e.kind, num e.slot, num e.gen, num e.n, num e.side].take s.1).flatten) s.2 ∧ Chg (fun k => k = b ∨ base ≤ k) w w')
    (fun s _ => 5 - s.1) (0, v) rfl ⟨by omega, hw1, hx1.wide _⟩ ?_
  rintro ⟨i, v2⟩ w2 again ⟨hi, hw2, hc2⟩ hagain
  dsimp only at *
  by_cases hi5 : i < 5
  · have n1 := num_len hok.kind
    have n2 := num_len hok.slot
    have n3 := num_len hok.gen
    have n4 := num_len hok.n
    have n5 := num_len hok.side
    have hi' : i = 0 ∨ i = 1 ∨ i = 2 ∨ i = 3 ∨ i = 4 := by omega
    rcases hi' with rfl | rfl | rfl | rfl | rfl
    all_goals
      (repeat ((conv => whnf); (first | with_reducible refine r_tt ?_ | with_reducible refine r_ff ?_ | with_reducible refine r_ntt ?_ | with_reducible refine r_nff ?_ | refine r_need (by omega) ?_ | refine r_i64 (by omega) ?_ | refine r_dect (by omega) ?_ | refine r_decf (by omega) ?_ | refine r_eqt (by omega) ?_ | refine r_eqf (by omega) ?_ | refine r_net (by omega) ?_ | refine r_nef (by omega) ?_ | refine r_u8 (by omega) ?_ | refine r_u64 (by omega) ?_ | refine r_i32 (by omega) ?_ | refine r_u32 (by omega) ?_ | refine r_rem (by omega) ?_ | refine r_quo (by omega) ?_ | refine r_ldb (by assumption) (by rfl) ?_ | refine r_ldbE (by assumption) (by rfl) ?_))); (conv => whnf)
      refine r_get (fun _ _ => by rfl) ?_
      (repeat ((conv => whnf); (first | with_reducible refine r_tt ?_ | with_reducible refine r_ff ?_ | with_reducible refine r_ntt ?_ | with_reducible refine r_nff ?_ | refine r_need (by omega) ?_ | refine r_i64 (by omega) ?_ | refine r_dect (by omega) ?_ | refine r_decf (by omega) ?_ | refine r_eqt (by omega) ?_ | refine r_eqf (by omega) ?_ | refine r_net (by omega) ?_ | refine r_nef (by omega) ?_ | refine r_u8 (by omega) ?_ | refine r_u64 (by omega) ?_ | refine r_i32 (by omega) ?_ | refine r_u32 (by omega) ?_ | refine r_rem (by omega) ?_ | refine r_quo (by omega) ?_ | refine r_ldb (by assumption) (by rfl) ?_ | refine r_ldbE (by assumption) (by rfl) ?_))); (conv => whnf)
      refine r_calI (m_wnumber b) (by kernel_rfl) (wnumber_ok be _ _ hw2 (Chg.cell hc2 ((he.cell _).trans rfl) (by omega)) (fun e => by have := own_ge hw2.own e; omega) (by first | exact hok.kind | exact hok.slot | exact hok.gen | exact hok.n | exact hok.side) (by simp; try omega)) ?_
      rintro _ w3 ⟨v3, hw3, hc3⟩
      (repeat ((conv => whnf); (first | with_reducible refine r_tt ?_ | with_reducible refine r_ff ?_ | with_reducible refine r_ntt ?_ | with_reducible refine r_nff ?_ | refine r_need (by omega) ?_ | refine r_i64 (by omega) ?_ | refine r_dect (by omega) ?_ | refine r_decf (by omega) ?_ | refine r_eqt (by omega) ?_ | refine r_eqf (by omega) ?_ | refine r_net (by omega) ?_ | refine r_nef (by omega) ?_ | refine r_u8 (by omega) ?_ | refine r_u64 (by omega) ?_ | refine r_i32 (by omega) ?_ | refine r_u32 (by omega) ?_ | refine r_rem (by omega) ?_ | refine r_quo (by omega) ?_ | refine r_ldb (by assumption) (by rfl) ?_ | refine r_ldbE (by assumption) (by rfl) ?_))); (conv => whnf)
      exact hagain (_, v3) w3 ⟨by dsimp only; omega, by simpa using hw3, Chg.step hc2 hc3 (fun k hk _ => hk.elim .inl fun e => .inr (own_ge hw2.own e))⟩ (by dsimp only; omega)
  · have hi5 : i = 5 := by omega
    subst hi5
    (repeat ((conv => whnf); (first | with_reducible refine r_tt ?_ | with_reducible refine r_ff ?_ | with_reducible refine r_ntt ?_ | with_reducible refine r_nff ?_ | refine r_need (by omega) ?_ | refine r_i64 (by omega) ?_ | refine r_dect (by omega) ?_ | refine r_decf (by omega) ?_ | refine r_eqt (by omega) ?_ | refine r_eqf (by omega) ?_ | refine r_net (by omega) ?_ | refine r_nef (by omega) ?_ | refine r_u8 (by omega) ?_ | refine r_u64 (by omega) ?_ | refine r_i32 (by omega) ?_ | refine r_u32 (by omega) ?_ | refine r_rem (by omega) ?_ | refine r_quo (by omega) ?_ | refine r_ldb (by assumption) (by rfl) ?_ | refine r_ldbE (by assumption) (by rfl) ?_))); (conv => whnf)
    refine r_drawS (fun k => k = b ∨ base ≤ k) fun w3 hx3 _ => ?_
    (repeat ((conv => whnf); (first | with_reducible refine r_tt ?_ | with_reducible refine r_ff ?_ | with_reducible refine r_ntt ?_ | with_reducible refine r_nff ?_ | refine r_need (by omega) ?_ | refine r_i64 (by omega) ?_ | refine r_dect (by omega) ?_ | refine r_decf (by omega) ?_ | refine r_eqt (by omega) ?_ | refine r_eqf (by omega) ?_ | refine r_net (by omega) ?_ | refine r_nef (by omega) ?_ | refine r_u8 (by omega) ?_ | refine r_u64 (by omega) ?_ | refine r_i32 (by omega) ?_ | refine r_u32 (by omega) ?_ | refine r_rem (by omega) ?_ | refine r_quo (by omega) ?_ | refine r_ldb (by assumption) (by rfl) ?_ | refine r_ldbE (by assumption) (by rfl) ?_))); (conv => whnf)
    refine r_nilno (n_wlist b) ?_
    have hw3 := hw2.ext hx3
    have hc3 := hc2.ext hx3
    have n1 := num_len hok.kind
    have n2 := num_len hok.slot
    have n3 := num_len hok.gen
    have n4 := num_len hok.n
    have n5 := num_len hok.side
    have htl : e.text.length = tl := ht.int
    have htkl : e.tokens.length = tkl := htk.int
    have hflat : ([num e.kind, num e.slot, num e.gen, num e.n, num e.side].take 5).flatten = num e.kind ++ num e.slot ++ num e.gen ++ num e.n ++ num e.side := by simp
    rw [hflat] at hw3
    (repeat ((conv => whnf); (first | with_reducible refine r_tt ?_ | with_reducible refine r_ff ?_ | with_reducible refine r_ntt ?_ | with_reducible refine r_nff ?_ | refine r_need (by omega) ?_ | refine r_i64 (by omega) ?_ | refine r_dect (by omega) ?_ | refine r_decf (by omega) ?_ | refine r_eqt (by omega) ?_ | refine r_eqf (by omega) ?_ | refine r_net (by omega) ?_ | refine r_nef (by omega) ?_ | refine r_u8 (by omega) ?_ | refine r_u64 (by omega) ?_ | refine r_i32 (by omega) ?_ | refine r_u32 (by omega) ?_ | refine r_rem (by omega) ?_ | refine r_quo (by omega) ?_ | refine r_ldb (by assumption) (by rfl) ?_ | refine r_ldbE (by assumption) (by rfl) ?_))); (conv => whnf)
    refine r_calI (m_wlist b) (by kernel_rfl) (wlist_ok be (0 + 3) ta tl tc e.text hw3 (Chg.cell hc3 ((he.cell _).trans rfl) (by omega)) hb.1 hb.2 (ht.keepN hc3 (fun hp => by have := hta (by simpa using hp); omega)) hta hok.text (by simp; omega)) ?_
    rintro _ w4 ⟨v4, hw4, hc4⟩
    have hc4' := hc3.trans hc4
    (repeat ((conv => whnf); (first | with_reducible refine r_tt ?_ | with_reducible refine r_ff ?_ | with_reducible refine r_ntt ?_ | with_reducible refine r_nff ?_ | refine r_need (by omega) ?_ | refine r_i64 (by omega) ?_ | refine r_dect (by omega) ?_ | refine r_decf (by omega) ?_ | refine r_eqt (by omega) ?_ | refine r_eqf (by omega) ?_ | refine r_net (by omega) ?_ | refine r_nef (by omega) ?_ | refine r_u8 (by omega) ?_ | refine r_u64 (by omega) ?_ | refine r_i32 (by omega) ?_ | refine r_u32 (by omega) ?_ | refine r_rem (by omega) ?_ | refine r_quo (by omega) ?_ | refine r_ldb (by assumption) (by rfl) ?_ | refine r_ldbE (by assumption) (by rfl) ?_))); (conv => whnf)
    refine r_drawS (fun k => k = b ∨ base ≤ k) fun w5 hx5 _ => ?_
    (repeat ((conv => whnf); (first | with_reducible refine r_tt ?_ | with_reducible refine r_ff ?_ | with_reducible refine r_ntt ?_ | with_reducible refine r_nff ?_ | refine r_need (by omega) ?_ | refine r_i64 (by omega) ?_ | refine r_dect (by omega) ?_ | refine r_decf (by omega) ?_ | refine r_eqt (by omega) ?_ | refine r_eqf (by omega) ?_ | refine r_net (by omega) ?_ | refine r_nef (by omega) ?_ | refine r_u8 (by omega) ?_ | refine r_u64 (by omega) ?_ | refine r_i32 (by omega) ?_ | refine r_u32 (by omega) ?_ | refine r_rem (by omega) ?_ | refine r_quo (by omega) ?_ | refine r_ldb (by assumption) (by rfl) ?_ | refine r_ldbE (by assumption) (by rfl) ?_))); (conv => whnf)
    refine r_nilno (n_wlist b) ?_
    have hw5 := hw4.ext hx5
    have hc5 := hc4'.ext hx5
    have hlen5 := listW_len e.text (num e.kind ++ num e.slot ++ num e.gen ++ num e.n ++ num e.side ++ num tl) hok.text
    have hntl : inI64 (tl : Int) := by have h1 := ht.le; have h2 := ht.max; unfold maxLen at h2; unfold inI64; omega
    have n6 := num_len hntl
    (repeat ((conv => whnf); (first | with_reducible refine r_tt ?_ | with_reducible refine r_ff ?_ | with_reducible refine r_ntt ?_ | with_reducible refine r_nff ?_ | refine r_need (by omega) ?_ | refine r_i64 (by omega) ?_ | refine r_dect (by omega) ?_ | refine r_decf (by omega) ?_ | refine r_eqt (by omega) ?_ | refine r_eqf (by omega) ?_ | refine r_net (by omega) ?_ | refine r_nef (by omega) ?_ | refine r_u8 (by omega) ?_ | refine r_u64 (by omega) ?_ | refine r_i32 (by omega) ?_ | refine r_u32 (by omega) ?_ | refine r_rem (by omega) ?_ | refine r_quo (by omega) ?_ | refine r_ldb (by assumption) (by rfl) ?_ | refine r_ldbE (by assumption) (by rfl) ?_))); (conv => whnf)
    refine r_calI (m_wlist b) (by kernel_rfl) (wlist_ok be (0 + 4) tka tkl tkc e.tokens hw5 (Chg.cell hc5 ((he.cell _).trans rfl) (by omega)) hb.1 hb.2 (htk.keepN hc5 (fun hp => by have := htka (by simpa using hp); omega)) htka hok.tokens (by simp at hlen5 ⊢; omega)) ?_
    rintro _ w6 ⟨v6, hw6, hc6⟩
    (repeat ((conv => whnf); (first | with_reducible refine r_tt ?_ | with_reducible refine r_ff ?_ | with_reducible refine r_ntt ?_ | with_reducible refine r_nff ?_ | refine r_need (by omega) ?_ | refine r_i64 (by omega) ?_ | refine r_dect (by omega) ?_ | refine r_decf (by omega) ?_ | refine r_eqt (by omega) ?_ | refine r_eqf (by omega) ?_ | refine r_net (by omega) ?_ | refine r_nef (by omega) ?_ | refine r_u8 (by omega) ?_ | refine r_u64 (by omega) ?_ | refine r_i32 (by omega) ?_ | refine r_u32 (by omega) ?_ | refine r_rem (by omega) ?_ | refine r_quo (by omega) ?_ | refine r_ldb (by assumption) (by rfl) ?_ | refine r_ldbE (by assumption) (by rfl) ?_))); (conv => whnf)
    refine ⟨v6, ?_, hc5.trans hc6⟩
    rw [evW, htl, htkl]
    exact hw6
end Fb.Try
