/-
  Walks: an event is read.
-/
import Derived.Test.YtalkcjehehljcaaCr
namespace Fb.Try
open Go Go.Proofs Fb Fb.Codec

def Ev.items (e : Ev) : List It := [.n e.kind, .n e.slot, .n e.gen, .n e.n, .n e.side, .l e.text, .l e.tokens]
def evShape : List Bool := [false, false, false, false, false, true, true]
def Ev.zero : Ev := ⟨0, 0, 0, [], [], 0, 0⟩
theorem Ev.zero_ok : Ev.zero.Ok := evOk_zero 0 (by unfold inI64; omega)
/-- An event in memory. -/
def IsEv (w : World) (e : Ev) (cs : List Value) : Prop :=
  ∃ ta tl tc tka tkl tkc, cs = evCells e ta tl tc tka tkl tkc ∧ View w ta tl tc 1 (ivs e.text) ∧ View w tka tkl tkc 1 (ivs e.tokens) ∧ e.Ok
/-- The slices among cells are new. -/
def NewSl (base : Nat) (cs : List Value) : Prop := ∀ a len cap, .slice a len cap ∈ cs → 0 < len → base ≤ blk a
theorem IsEv.keep {S : Nat → Prop} {w w' : World} {base : Nat} {e : Ev} {cs : List Value} (h : IsEv w e cs) (k : Chg S w w') (hn : NewSl base cs) (hS : ∀ k, S k → k < base) : IsEv w' e cs := by
  obtain ⟨ta, tl, tc, tka, tkl, tkc, rfl, h2, h3, h4⟩ := h
  have l1 : e.text.length = tl := h2.int
  have l2 : e.tokens.length = tkl := h3.int
  refine ⟨ta, tl, tc, tka, tkl, tkc, rfl, h2.keepN k fun hp hk => ?_, h3.keepN k fun hp hk => ?_, h4⟩
  · have := hn ta tl tc (by simp [evCells]) (by simp [ivs] at hp; omega)
    have := hS _ hk
    omega
  · have := hn tka tkl tkc (by simp [evCells]) (by simp [ivs] at hp; omega)
    have := hS _ hk
    omega
theorem IsEv.ext {w w' : World} {e : Ev} {cs : List Value} (h : IsEv w e cs) (k : Ext w w') : IsEv w' e cs := by
  obtain ⟨ta, tl, tc, tka, tkl, tkc, h1, h2, h3, h4⟩ := h
  exact ⟨ta, tl, tc, tka, tkl, tkc, h1, h2.ext k, h3.ext k, h4⟩
theorem IsEv.zero (w : World) : IsEv w Ev.zero [.int .i64 0, .int .i64 0, .int .i64 0, .slice none 0 0, .slice none 0 0, .int .i64 0, .int .i64 0] :=
  ⟨none, 0, 0, none, 0, 0, rfl, View.nil w 1, View.nil w 1, Ev.zero_ok⟩
theorem IsEv.items_ok {w : World} {e : Ev} {cs : List Value} (h : IsEv w e cs) : ∀ i ∈ e.items, i.Ok := by
  obtain ⟨ta, tl, tc, tka, tkl, tkc, _, h2, h3, h4⟩ := h
  have l1 : e.text.length = tl := h2.int
  have l2 : e.tokens.length = tkl := h3.int
  have m1 := h2.le
  have m2 := h2.max
  have m3 := h3.le
  have m4 := h3.max
  unfold maxLen at m2 m4
  intro i hi
  simp only [Ev.items, List.mem_cons, List.not_mem_nil, or_false] at hi
  rcases hi with rfl | rfl | rfl | rfl | rfl | rfl | rfl
  · exact h4.kind
  · exact h4.slot
  · exact h4.gen
  · exact h4.n
  · exact h4.side
  · exact ⟨by omega, h4.text⟩
  · exact ⟨by omega, h4.tokens⟩
theorem Ev.items_inj {e f : Ev} (h : e.items = f.items) : e = f := by
  cases e
  cases f
  simp only [Ev.items, List.cons.injEq, It.n.injEq, It.l.injEq] at h
  obtain ⟨rfl, rfl, rfl, rfl, rfl, rfl, rfl, _⟩ := h
  rfl
theorem Ev.items_shape (e : Ev) : e.items.map It.isL = evShape := rfl

theorem m_rnumber (b : Nat) (w : World) : (method (Try.prog.types.size + Made.depth) 75 (.pointer (some ⟨b, 0, none⟩)) "footbridge/codec.number").run Try.prog w = .ok (61, .pointer (some ⟨b, 0, none⟩)) w := by kernel_rfl
theorem m_rlist (b : Nat) (w : World) : (method (Try.prog.types.size + Made.depth) 75 (.pointer (some ⟨b, 0, none⟩)) "footbridge/codec.list").run Try.prog w = .ok (60, .pointer (some ⟨b, 0, none⟩)) w := by kernel_rfl
theorem n_rlist (b : Nat) (w : World) : (nilAhead (Try.prog.types.size + Made.depth) 75 (.pointer (some ⟨b, 0, none⟩)) "footbridge/codec.list").run Try.prog w = .ok (some false) w := by kernel_rfl

theorem revent_ok {w : World} {base b be : Nat} {l : List UInt8} {bad : Bool} (h : Rdr w base b l bad) (he : Blk w be 36 [.int .i64 0, .int .i64 0, .int .i64 0, .slice none 0 0, .slice none 0 0, .int .i64 0, .int .i64 0])
    (hbs : base ≤ b ∧ base ≤ be) (hne : be ≠ b) (hl : bad = false → l.length ≤ 65536) :
    Cal Try.prog 29 ⟨[.iface 75 (.pointer (some ⟨b, 0, none⟩)), .pointer (some ⟨be, 0, none⟩)]⟩ w fun _ w' => ∃ e l' bad' cs, Rel evShape l bad e.items l' bad' ∧ Rdr w' base b l' bad' ∧
      Blk w' be 36 cs ∧ IsEv w' e cs ∧ NewSl w.heap.size cs ∧ Chg (fun k => k = b ∨ k = be) w w' := by
  have hbl : b < w.heap.size := by obtain ⟨_, _, _, h1, _⟩ := h; exact h1.lt
  have hnl := he.lt
  have h0 : inI64 0 := by unfold inI64; omega
  refine go29 (by rfl) ?_
  (repeat ((conv => whnf); (first | with_reducible refine r_tt ?_ | with_reducible refine r_ff ?_ | with_reducible refine r_ntt ?_ | with_reducible refine r_nff ?_ | refine r_need (by omega) ?_ | refine r_i64 (by omega) ?_ | refine r_dect (by omega) ?_ | refine r_decf (by omega) ?_ | refine r_eqt (by omega) ?_ | refine r_eqf (by omega) ?_ | refine r_net (by omega) ?_ | refine r_nef (by omega) ?_ | refine r_u8 (by omega) ?_ | refine r_u64 (by omega) ?_ | refine r_i32 (by omega) ?_ | refine r_u32 (by omega) ?_ | refine r_rem (by omega) ?_ | refine r_quo (by omega) ?_ | refine r_ldb (by assumption) (by rfl) ?_ | refine r_ldbE (by assumption) (by rfl) ?_))); (conv => whnf)
  refine r_drawE fun w1 hx1 _ => ?_
  (repeat ((conv => whnf); (first | with_reducible refine r_tt ?_ | with_reducible refine r_ff ?_ | with_reducible refine r_ntt ?_ | with_reducible refine r_nff ?_ | refine r_need (by omega) ?_ | refine r_i64 (by omega) ?_ | refine r_dect (by omega) ?_ | refine r_decf (by omega) ?_ | refine r_eqt (by omega) ?_ | refine r_eqf (by omega) ?_ | refine r_net (by omega) ?_ | refine r_nef (by omega) ?_ | refine r_u8 (by omega) ?_ | refine r_u64 (by omega) ?_ | refine r_i32 (by omega) ?_ | refine r_u32 (by omega) ?_ | refine r_rem (by omega) ?_ | refine r_quo (by omega) ?_ | refine r_ldb (by assumption) (by rfl) ?_ | refine r_ldbE (by assumption) (by rfl) ?_))); (conv => whnf)
  refine r_loop (σ := Nat × List UInt8 × Bool × (Nat → Int)) (fun s => [.int .i64 (s.1 : Int)])
    (fun s w' => s.1 ≤ 5 ∧ Rel ([false, false, false, false, false].take s.1) l bad ([It.n (s.2.2.2 0), .n (s.2.2.2 1), .n (s.2.2.2 2), .n (s.2.2.2 3), .n (s.2.2.2 4)].take s.1) s.2.1 s.2.2.1 ∧ Rdr w' base b s.2.1 s.2.2.1 ∧
      Blk w' be 36 [.int .i64 (s.2.2.2 0), .int .i64 (s.2.2.2 1), .int .i64 (s.2.2.2 2), .slice none 0 0, .slice none 0 0, .int .i64 (s.2.2.2 3), .int .i64 (s.2.2.2 4)] ∧ (∀ j, inI64 (s.2.2.2 j)) ∧ Chg (fun k => k = b ∨ k = be) w w')
    (fun s _ => 5 - s.1) (0, l, bad, fun _ => 0) rfl ⟨by omega, Rel.refl l bad, h.keep hx1 (fun f => f) (fun _ f => f.elim), he.ext hx1, fun _ => h0, hx1.wide _⟩ ?_
  rintro ⟨i, l2, b2, f⟩ w2 again ⟨hi, hrel, hr2, hb2, hf2, hc2⟩ hagain
  dsimp only at *
  by_cases hi5 : i < 5
  · have hi' : i = 0 ∨ i = 1 ∨ i = 2 ∨ i = 3 ∨ i = 4 := by omega
    rcases hi' with rfl | rfl | rfl | rfl | rfl
    all_goals
      (repeat ((conv => whnf); (first | with_reducible refine r_tt ?_ | with_reducible refine r_ff ?_ | with_reducible refine r_ntt ?_ | with_reducible refine r_nff ?_ | refine r_need (by omega) ?_ | refine r_i64 (by omega) ?_ | refine r_dect (by omega) ?_ | refine r_decf (by omega) ?_ | refine r_eqt (by omega) ?_ | refine r_eqf (by omega) ?_ | refine r_net (by omega) ?_ | refine r_nef (by omega) ?_ | refine r_u8 (by omega) ?_ | refine r_u64 (by omega) ?_ | refine r_i32 (by omega) ?_ | refine r_u32 (by omega) ?_ | refine r_rem (by omega) ?_ | refine r_quo (by omega) ?_ | refine r_ldb (by assumption) (by rfl) ?_ | refine r_ldbE (by assumption) (by rfl) ?_))); (conv => whnf)
      refine r_get (fun _ _ => by rfl) ?_
      (repeat ((conv => whnf); (first | with_reducible refine r_tt ?_ | with_reducible refine r_ff ?_ | with_reducible refine r_ntt ?_ | with_reducible refine r_nff ?_ | refine r_need (by omega) ?_ | refine r_i64 (by omega) ?_ | refine r_dect (by omega) ?_ | refine r_decf (by omega) ?_ | refine r_eqt (by omega) ?_ | refine r_eqf (by omega) ?_ | refine r_net (by omega) ?_ | refine r_nef (by omega) ?_ | refine r_u8 (by omega) ?_ | refine r_u64 (by omega) ?_ | refine r_i32 (by omega) ?_ | refine r_u32 (by omega) ?_ | refine r_rem (by omega) ?_ | refine r_quo (by omega) ?_ | refine r_ldb (by assumption) (by rfl) ?_ | refine r_ldbE (by assumption) (by rfl) ?_))); (conv => whnf)
      refine r_calI (m_rnumber b) (by kernel_rfl) (rnumber_ok hr2 hb2 (by simp) hne hbs) ?_
      rintro _ w3 ⟨x, l3, b3, hrel3, hx, hr3, hb3, hc3⟩
      have hc := hc2.trans hc3
      (repeat ((conv => whnf); (first | with_reducible refine r_tt ?_ | with_reducible refine r_ff ?_ | with_reducible refine r_ntt ?_ | with_reducible refine r_nff ?_ | refine r_need (by omega) ?_ | refine r_i64 (by omega) ?_ | refine r_dect (by omega) ?_ | refine r_decf (by omega) ?_ | refine r_eqt (by omega) ?_ | refine r_eqf (by omega) ?_ | refine r_net (by omega) ?_ | refine r_nef (by omega) ?_ | refine r_u8 (by omega) ?_ | refine r_u64 (by omega) ?_ | refine r_i32 (by omega) ?_ | refine r_u32 (by omega) ?_ | refine r_rem (by omega) ?_ | refine r_quo (by omega) ?_ | refine r_ldb (by assumption) (by rfl) ?_ | refine r_ldbE (by assumption) (by rfl) ?_))); (conv => whnf)
    · exact hagain (1, l3, b3, fun j => if j = 0 then x else f j) w3 ⟨by dsimp only; omega, hrel.trans hrel3, hr3, hb3, fun j => by dsimp only; split <;> simp [hx, hf2], hc⟩ (by dsimp only; omega)
    · exact hagain (2, l3, b3, fun j => if j = 1 then x else f j) w3 ⟨by dsimp only; omega, hrel.trans hrel3, hr3, hb3, fun j => by dsimp only; split <;> simp [hx, hf2], hc⟩ (by dsimp only; omega)
    · exact hagain (3, l3, b3, fun j => if j = 2 then x else f j) w3 ⟨by dsimp only; omega, hrel.trans hrel3, hr3, hb3, fun j => by dsimp only; split <;> simp [hx, hf2], hc⟩ (by dsimp only; omega)
    · exact hagain (4, l3, b3, fun j => if j = 3 then x else f j) w3 ⟨by dsimp only; omega, hrel.trans hrel3, hr3, hb3, fun j => by dsimp only; split <;> simp [hx, hf2], hc⟩ (by dsimp only; omega)
    · exact hagain (5, l3, b3, fun j => if j = 4 then x else f j) w3 ⟨by dsimp only; omega, hrel.trans hrel3, hr3, hb3, fun j => by dsimp only; split <;> simp [hx, hf2], hc⟩ (by dsimp only; omega)
  · have hi5 : i = 5 := by omega
    subst hi5
    have hgood : ∀ {bs D l' b'}, Rel bs l bad D l' b' → b' = false → l'.length ≤ 65536 := fun hr hb => by
      have := hr.len
      have := hl (hr.good hb).1
      omega
    (repeat ((conv => whnf); (first | with_reducible refine r_tt ?_ | with_reducible refine r_ff ?_ | with_reducible refine r_ntt ?_ | with_reducible refine r_nff ?_ | refine r_need (by omega) ?_ | refine r_i64 (by omega) ?_ | refine r_dect (by omega) ?_ | refine r_decf (by omega) ?_ | refine r_eqt (by omega) ?_ | refine r_eqf (by omega) ?_ | refine r_net (by omega) ?_ | refine r_nef (by omega) ?_ | refine r_u8 (by omega) ?_ | refine r_u64 (by omega) ?_ | refine r_i32 (by omega) ?_ | refine r_u32 (by omega) ?_ | refine r_rem (by omega) ?_ | refine r_quo (by omega) ?_ | refine r_ldb (by assumption) (by rfl) ?_ | refine r_ldbE (by assumption) (by rfl) ?_))); (conv => whnf)
    refine r_drawE fun w3 hx3 _ => ?_
    (repeat ((conv => whnf); (first | with_reducible refine r_tt ?_ | with_reducible refine r_ff ?_ | with_reducible refine r_ntt ?_ | with_reducible refine r_nff ?_ | refine r_need (by omega) ?_ | refine r_i64 (by omega) ?_ | refine r_dect (by omega) ?_ | refine r_decf (by omega) ?_ | refine r_eqt (by omega) ?_ | refine r_eqf (by omega) ?_ | refine r_net (by omega) ?_ | refine r_nef (by omega) ?_ | refine r_u8 (by omega) ?_ | refine r_u64 (by omega) ?_ | refine r_i32 (by omega) ?_ | refine r_u32 (by omega) ?_ | refine r_rem (by omega) ?_ | refine r_quo (by omega) ?_ | refine r_ldb (by assumption) (by rfl) ?_ | refine r_ldbE (by assumption) (by rfl) ?_))); (conv => whnf)
    refine r_nilno (n_rlist b) ?_
    (repeat ((conv => whnf); (first | with_reducible refine r_tt ?_ | with_reducible refine r_ff ?_ | with_reducible refine r_ntt ?_ | with_reducible refine r_nff ?_ | refine r_need (by omega) ?_ | refine r_i64 (by omega) ?_ | refine r_dect (by omega) ?_ | refine r_decf (by omega) ?_ | refine r_eqt (by omega) ?_ | refine r_eqf (by omega) ?_ | refine r_net (by omega) ?_ | refine r_nef (by omega) ?_ | refine r_u8 (by omega) ?_ | refine r_u64 (by omega) ?_ | refine r_i32 (by omega) ?_ | refine r_u32 (by omega) ?_ | refine r_rem (by omega) ?_ | refine r_quo (by omega) ?_ | refine r_ldb (by assumption) (by rfl) ?_ | refine r_ldbE (by assumption) (by rfl) ?_))); (conv => whnf)
    refine r_calI (m_rlist b) (by kernel_rfl) (rlist_ok (no := 0 + 3) (hr2.keep hx3 (fun f => f) (fun _ f => f.elim)) (hb2.ext hx3) (by rfl) hne hbs (hgood hrel)) ?_
    rintro _ w4 ⟨xs, l4, b4, v4, hrel4, hxs, hr4, hb4, hown4, hc4⟩
    have hc4' := (hc2.ext hx3).trans hc4
    have hrelB := hrel.trans hrel4
    obtain ⟨a4, c4, rfl, hv4, _, hge4⟩ := View.of_own hown4
    (repeat ((conv => whnf); (first | with_reducible refine r_tt ?_ | with_reducible refine r_ff ?_ | with_reducible refine r_ntt ?_ | with_reducible refine r_nff ?_ | refine r_need (by omega) ?_ | refine r_i64 (by omega) ?_ | refine r_dect (by omega) ?_ | refine r_decf (by omega) ?_ | refine r_eqt (by omega) ?_ | refine r_eqf (by omega) ?_ | refine r_net (by omega) ?_ | refine r_nef (by omega) ?_ | refine r_u8 (by omega) ?_ | refine r_u64 (by omega) ?_ | refine r_i32 (by omega) ?_ | refine r_u32 (by omega) ?_ | refine r_rem (by omega) ?_ | refine r_quo (by omega) ?_ | refine r_ldb (by assumption) (by rfl) ?_ | refine r_ldbE (by assumption) (by rfl) ?_))); (conv => whnf)
    refine r_drawE fun w5 hx5 _ => ?_
    (repeat ((conv => whnf); (first | with_reducible refine r_tt ?_ | with_reducible refine r_ff ?_ | with_reducible refine r_ntt ?_ | with_reducible refine r_nff ?_ | refine r_need (by omega) ?_ | refine r_i64 (by omega) ?_ | refine r_dect (by omega) ?_ | refine r_decf (by omega) ?_ | refine r_eqt (by omega) ?_ | refine r_eqf (by omega) ?_ | refine r_net (by omega) ?_ | refine r_nef (by omega) ?_ | refine r_u8 (by omega) ?_ | refine r_u64 (by omega) ?_ | refine r_i32 (by omega) ?_ | refine r_u32 (by omega) ?_ | refine r_rem (by omega) ?_ | refine r_quo (by omega) ?_ | refine r_ldb (by assumption) (by rfl) ?_ | refine r_ldbE (by assumption) (by rfl) ?_))); (conv => whnf)
    refine r_nilno (n_rlist b) ?_
    (repeat ((conv => whnf); (first | with_reducible refine r_tt ?_ | with_reducible refine r_ff ?_ | with_reducible refine r_ntt ?_ | with_reducible refine r_nff ?_ | refine r_need (by omega) ?_ | refine r_i64 (by omega) ?_ | refine r_dect (by omega) ?_ | refine r_decf (by omega) ?_ | refine r_eqt (by omega) ?_ | refine r_eqf (by omega) ?_ | refine r_net (by omega) ?_ | refine r_nef (by omega) ?_ | refine r_u8 (by omega) ?_ | refine r_u64 (by omega) ?_ | refine r_i32 (by omega) ?_ | refine r_u32 (by omega) ?_ | refine r_rem (by omega) ?_ | refine r_quo (by omega) ?_ | refine r_ldb (by assumption) (by rfl) ?_ | refine r_ldbE (by assumption) (by rfl) ?_))); (conv => whnf)
    refine r_calI (m_rlist b) (by kernel_rfl) (rlist_ok (no := 0 + 4) (hr4.keep hx5 (fun f => f) (fun _ f => f.elim)) (hb4.ext hx5) (by rfl) hne hbs (hgood hrelB)) ?_
    rintro _ w6 ⟨ys, l6, b6, v6, hrel6, hys, hr6, hb6, hown6, hc6⟩
    obtain ⟨a6, c6, rfl, hv6, _, hge6⟩ := View.of_own hown6
    (repeat ((conv => whnf); (first | with_reducible refine r_tt ?_ | with_reducible refine r_ff ?_ | with_reducible refine r_ntt ?_ | with_reducible refine r_nff ?_ | refine r_need (by omega) ?_ | refine r_i64 (by omega) ?_ | refine r_dect (by omega) ?_ | refine r_decf (by omega) ?_ | refine r_eqt (by omega) ?_ | refine r_eqf (by omega) ?_ | refine r_net (by omega) ?_ | refine r_nef (by omega) ?_ | refine r_u8 (by omega) ?_ | refine r_u64 (by omega) ?_ | refine r_i32 (by omega) ?_ | refine r_u32 (by omega) ?_ | refine r_rem (by omega) ?_ | refine r_quo (by omega) ?_ | refine r_ldb (by assumption) (by rfl) ?_ | refine r_ldbE (by assumption) (by rfl) ?_))); (conv => whnf)
    refine ⟨⟨f 0, f 1, f 2, xs, ys, f 3, f 4⟩, l6, b6, _, hrelB.trans hrel6, hr6, hb6, ⟨_, _, _, _, _, _, rfl, (hv4.ext hx5).keepN hc6 (fun hp hk => ?_), hv6, ⟨hf2 0, hf2 1, hf2 2, hxs, hys, hf2 3, hf2 4⟩⟩, fun a len cap hm hp => ?_, (hc4'.ext hx5).trans hc6⟩
    rotate_left
    · have h1 := hc2.size
      have h2 := hx3.size
      have h3 := hc4.size
      have h4 := hx5.size
      simp at hm
      rcases hm with ⟨rfl, rfl, rfl⟩ | ⟨rfl, rfl, rfl⟩
      · have hpl := hv4.plain (by simpa [ivs] using hp)
        unfold plainA at hpl
        have := hge4 _ hpl
        simp only at this
        omega
      · have hpl := hv6.plain (by simpa [ivs] using hp)
        unfold plainA at hpl
        have := hge6 _ hpl
        simp only at this
        omega
    have hlt := hv4.lt hp
    have hpl := hv4.plain hp
    unfold plainA at hpl
    have := hge4 _ hpl
    have h1 := hc2.size
    have h2 := hx3.size
    simp only at this
    rcases hk with hk | hk <;> omega

theorem rdone_ok {w : World} {base b : Nat} {l : List UInt8} {bad : Bool} (h : Rdr w base b l bad) :
    Cal Try.prog 31 ⟨[.pointer (some ⟨b, 0, none⟩)]⟩ w fun v w' => w' = w ∧ v = .bool (!bad && decide (l = [])) := by
  obtain ⟨a, len, cap, h1, h2, h3⟩ := h
  have hlen : l.length = len := by have := h2.length; simpa [bvs] using this
  refine go31 (by rfl) ?_
  cases bad
  · (repeat ((conv => whnf); (first | with_reducible refine r_tt ?_ | with_reducible refine r_ff ?_ | with_reducible refine r_ntt ?_ | with_reducible refine r_nff ?_ | refine r_need (by omega) ?_ | refine r_i64 (by omega) ?_ | refine r_dect (by omega) ?_ | refine r_decf (by omega) ?_ | refine r_eqt (by omega) ?_ | refine r_eqf (by omega) ?_ | refine r_net (by omega) ?_ | refine r_nef (by omega) ?_ | refine r_u8 (by omega) ?_ | refine r_u64 (by omega) ?_ | refine r_i32 (by omega) ?_ | refine r_u32 (by omega) ?_ | refine r_rem (by omega) ?_ | refine r_quo (by omega) ?_ | refine r_ldb (by assumption) (by rfl) ?_ | refine r_ldbE (by assumption) (by rfl) ?_))); (conv => whnf)
    refine ⟨rfl, ?_⟩
    congr 1
    cases l with
    | nil => simp at hlen; subst hlen; rfl
    | cons x r => subst hlen; simp; omega
  · (repeat ((conv => whnf); (first | with_reducible refine r_tt ?_ | with_reducible refine r_ff ?_ | with_reducible refine r_ntt ?_ | with_reducible refine r_nff ?_ | refine r_need (by omega) ?_ | refine r_i64 (by omega) ?_ | refine r_dect (by omega) ?_ | refine r_decf (by omega) ?_ | refine r_eqt (by omega) ?_ | refine r_eqf (by omega) ?_ | refine r_net (by omega) ?_ | refine r_nef (by omega) ?_ | refine r_u8 (by omega) ?_ | refine r_u64 (by omega) ?_ | refine r_i32 (by omega) ?_ | refine r_u32 (by omega) ?_ | refine r_rem (by omega) ?_ | refine r_quo (by omega) ?_ | refine r_ldb (by assumption) (by rfl) ?_ | refine r_ldbE (by assumption) (by rfl) ?_))); (conv => whnf)
    exact ⟨rfl, rfl⟩

/-- What is handed out: the event, if the bytes are one's. -/
def GetRes (w' : World) (l : List UInt8) (v : Value) : Prop :=
  ∃ e ok cs, v = .tuple ⟨[.agg ⟨cs⟩, .bool ok]⟩ ∧ IsEv w' e cs ∧ (ok = true → l.length ≤ 65536 ∧ decW evShape l = some e.items) ∧ (ok = false → e = Ev.zero ∧ (65536 < l.length ∨ decW evShape l = none))

theorem decW_of {bs : List Bool} {l : List UInt8} {D : List It} {l' : List UInt8} {bad bad' : Bool} (h : Rel bs l bad D l' bad') (hb : bad = decide (65536 < l.length)) :
    (bad' = false ∧ l' = [] → l.length ≤ 65536 ∧ decW bs l = some D) ∧ (¬ (bad' = false ∧ l' = []) → 65536 < l.length ∨ decW bs l = none) := by
  refine ⟨fun ⟨h1, h2⟩ => ?_, fun hn => ?_⟩
  · obtain ⟨h3, h4⟩ := h.good h1
    subst h2
    rw [hb] at h3
    exact ⟨by simpa using h3, by simp [decW, h4]⟩
  · cases hb' : bad' with
    | true =>
      rcases h.no hb' with h1 | h1
      · rw [hb] at h1
        exact .inl (by simpa using h1)
      · exact .inr (by simp [decW, h1])
    | false =>
      obtain ⟨h3, h4⟩ := h.good hb'
      right
      unfold decW
      rw [h4]
      cases l' with
      | nil => exact absurd ⟨hb', rfl⟩ hn
      | cons x r => rfl

theorem GetEvent_ok {w : World} {a : Option Addr} {len cap : Nat} {l : List UInt8} (hv : View w a len cap 1 (bvs l)) :
    Cal Try.prog 17 ⟨[.slice a len cap]⟩ w fun v w' => Ext w w' ∧ GetRes w' l v := by
  have hlen : l.length = len := by have := hv.length; simpa [bvs] using this
  have hle := hv.le
  have hmax := hv.max
  unfold maxLen at hmax
  refine go17 (by rfl) ?_
  (repeat ((conv => whnf); (first | with_reducible refine r_tt ?_ | with_reducible refine r_ff ?_ | with_reducible refine r_ntt ?_ | with_reducible refine r_nff ?_ | refine r_need (by omega) ?_ | refine r_i64 (by omega) ?_ | refine r_dect (by omega) ?_ | refine r_decf (by omega) ?_ | refine r_eqt (by omega) ?_ | refine r_eqf (by omega) ?_ | refine r_net (by omega) ?_ | refine r_nef (by omega) ?_ | refine r_u8 (by omega) ?_ | refine r_u64 (by omega) ?_ | refine r_i32 (by omega) ?_ | refine r_u32 (by omega) ?_ | refine r_rem (by omega) ?_ | refine r_quo (by omega) ?_ | refine r_ldb (by assumption) (by rfl) ?_ | refine r_ldbE (by assumption) (by rfl) ?_))); (conv => whnf)
  refine r_new fun n w1 hx1 hn1 hs1 hblk1 => ?_
  (repeat ((conv => whnf); (first | with_reducible refine r_tt ?_ | with_reducible refine r_ff ?_ | with_reducible refine r_ntt ?_ | with_reducible refine r_nff ?_ | refine r_need (by omega) ?_ | refine r_i64 (by omega) ?_ | refine r_dect (by omega) ?_ | refine r_decf (by omega) ?_ | refine r_eqt (by omega) ?_ | refine r_eqf (by omega) ?_ | refine r_net (by omega) ?_ | refine r_nef (by omega) ?_ | refine r_u8 (by omega) ?_ | refine r_u64 (by omega) ?_ | refine r_i32 (by omega) ?_ | refine r_u32 (by omega) ?_ | refine r_rem (by omega) ?_ | refine r_quo (by omega) ?_ | refine r_ldb (by assumption) (by rfl) ?_ | refine r_ldbE (by assumption) (by rfl) ?_))); (conv => whnf)
  refine r_new fun be w2 hx2 hbe hs2 hblk2 => ?_
  (repeat ((conv => whnf); (first | with_reducible refine r_tt ?_ | with_reducible refine r_ff ?_ | with_reducible refine r_ntt ?_ | with_reducible refine r_nff ?_ | refine r_need (by omega) ?_ | refine r_i64 (by omega) ?_ | refine r_dect (by omega) ?_ | refine r_decf (by omega) ?_ | refine r_eqt (by omega) ?_ | refine r_eqf (by omega) ?_ | refine r_net (by omega) ?_ | refine r_nef (by omega) ?_ | refine r_u8 (by omega) ?_ | refine r_u64 (by omega) ?_ | refine r_i32 (by omega) ?_ | refine r_u32 (by omega) ?_ | refine r_rem (by omega) ?_ | refine r_quo (by omega) ?_ | refine r_ldb (by assumption) (by rfl) ?_ | refine r_ldbE (by assumption) (by rfl) ?_))); (conv => whnf)
  refine r_new fun b w3 hx3 hb hs3 hblk3 => ?_
  have hblk3 : Blk w3 b 77 [.slice a len cap, .bool (decide ((len : Int) > 65536))] := hblk3
  have hx := (hx1.trans hx2).trans hx3
  have hl1 := hblk1.lt
  have hl2 := hblk2.lt
  have hbad : decide ((len : Int) > 65536) = decide (65536 < l.length) := by
    apply decide_eq_decide.2
    omega
  rw [hbad] at hblk3
  (repeat ((conv => whnf); (first | with_reducible refine r_tt ?_ | with_reducible refine r_ff ?_ | with_reducible refine r_ntt ?_ | with_reducible refine r_nff ?_ | refine r_need (by omega) ?_ | refine r_i64 (by omega) ?_ | refine r_dect (by omega) ?_ | refine r_decf (by omega) ?_ | refine r_eqt (by omega) ?_ | refine r_eqf (by omega) ?_ | refine r_net (by omega) ?_ | refine r_nef (by omega) ?_ | refine r_u8 (by omega) ?_ | refine r_u64 (by omega) ?_ | refine r_i32 (by omega) ?_ | refine r_u32 (by omega) ?_ | refine r_rem (by omega) ?_ | refine r_quo (by omega) ?_ | refine r_ldb (by assumption) (by rfl) ?_ | refine r_ldbE (by assumption) (by rfl) ?_))); (conv => whnf)
  refine r_cal (revent_ok (base := w.heap.size) (b := b) (be := be) (l := l) (bad := decide (65536 < l.length)) ⟨a, len, cap, hblk3, hv.ext hx, fun hp => ?_⟩ (hblk2.ext hx3) (by omega) (by omega) (fun hd => by simpa using hd)) ?_
  · exact hv.lt (by simpa [bvs] using hp)
  rintro _ w4 ⟨e, l', bad', cs, hrel, hr4, hb4, hev, hnew, hc4⟩
  obtain ⟨hgood, hno⟩ := decW_of hrel rfl
  have hx4 : Ext w w4 := Chg.step hx hc4 fun k hk hlt => by omega
  have hn4 := ((hblk1.ext hx2).ext hx3).keep hc4 (by omega)
  (repeat ((conv => whnf); (first | with_reducible refine r_tt ?_ | with_reducible refine r_ff ?_ | with_reducible refine r_ntt ?_ | with_reducible refine r_nff ?_ | refine r_need (by omega) ?_ | refine r_i64 (by omega) ?_ | refine r_dect (by omega) ?_ | refine r_decf (by omega) ?_ | refine r_eqt (by omega) ?_ | refine r_eqf (by omega) ?_ | refine r_net (by omega) ?_ | refine r_nef (by omega) ?_ | refine r_u8 (by omega) ?_ | refine r_u64 (by omega) ?_ | refine r_i32 (by omega) ?_ | refine r_u32 (by omega) ?_ | refine r_rem (by omega) ?_ | refine r_quo (by omega) ?_ | refine r_ldb (by assumption) (by rfl) ?_ | refine r_ldbE (by assumption) (by rfl) ?_))); (conv => whnf)
  refine r_cal (rdone_ok hr4) ?_
  rintro v w5 ⟨rfl, rfl⟩
  by_cases hd : bad' = false ∧ l' = []
  · have ed : (!bad' && decide (l' = [])) = true := by simp [hd.1, hd.2]
    rw [ed]
    have hev0 := hev
    obtain ⟨ta, tl, tc, tka, tkl, tkc, rfl, hev2⟩ := hev
    (repeat ((conv => whnf); (first | with_reducible refine r_tt ?_ | with_reducible refine r_ff ?_ | with_reducible refine r_ntt ?_ | with_reducible refine r_nff ?_ | refine r_need (by omega) ?_ | refine r_i64 (by omega) ?_ | refine r_dect (by omega) ?_ | refine r_decf (by omega) ?_ | refine r_eqt (by omega) ?_ | refine r_eqf (by omega) ?_ | refine r_net (by omega) ?_ | refine r_nef (by omega) ?_ | refine r_u8 (by omega) ?_ | refine r_u64 (by omega) ?_ | refine r_i32 (by omega) ?_ | refine r_u32 (by omega) ?_ | refine r_rem (by omega) ?_ | refine r_quo (by omega) ?_ | refine r_ldb (by assumption) (by rfl) ?_ | refine r_ldbE (by assumption) (by rfl) ?_))); (conv => whnf)
    refine r_ldnb (vs := evCells e ta tl tc tka tkl tkc) hb4 rfl rfl ?_
    (repeat ((conv => whnf); (first | with_reducible refine r_tt ?_ | with_reducible refine r_ff ?_ | with_reducible refine r_ntt ?_ | with_reducible refine r_nff ?_ | refine r_need (by omega) ?_ | refine r_i64 (by omega) ?_ | refine r_dect (by omega) ?_ | refine r_decf (by omega) ?_ | refine r_eqt (by omega) ?_ | refine r_eqf (by omega) ?_ | refine r_net (by omega) ?_ | refine r_nef (by omega) ?_ | refine r_u8 (by omega) ?_ | refine r_u64 (by omega) ?_ | refine r_i32 (by omega) ?_ | refine r_u32 (by omega) ?_ | refine r_rem (by omega) ?_ | refine r_quo (by omega) ?_ | refine r_ldb (by assumption) (by rfl) ?_ | refine r_ldbE (by assumption) (by rfl) ?_))); (conv => whnf)
    refine r_stn hn4 (by simp [evCells]) (by intro v hv; simp [evCells] at hv; rcases hv with rfl | rfl | rfl | rfl | rfl | rfl | rfl <;> rfl) fun w6 hc6 hs6 hb6 => ?_
    have hb6 : Blk w6 n 36 (evCells e ta tl tc tka tkl tkc) := hb6
    (repeat ((conv => whnf); (first | with_reducible refine r_tt ?_ | with_reducible refine r_ff ?_ | with_reducible refine r_ntt ?_ | with_reducible refine r_nff ?_ | refine r_need (by omega) ?_ | refine r_i64 (by omega) ?_ | refine r_dect (by omega) ?_ | refine r_decf (by omega) ?_ | refine r_eqt (by omega) ?_ | refine r_eqf (by omega) ?_ | refine r_net (by omega) ?_ | refine r_nef (by omega) ?_ | refine r_u8 (by omega) ?_ | refine r_u64 (by omega) ?_ | refine r_i32 (by omega) ?_ | refine r_u32 (by omega) ?_ | refine r_rem (by omega) ?_ | refine r_quo (by omega) ?_ | refine r_ldb (by assumption) (by rfl) ?_ | refine r_ldbE (by assumption) (by rfl) ?_))); (conv => whnf)
    refine r_ldnb (vs := evCells e ta tl tc tka tkl tkc) hb6 rfl rfl ?_
    (repeat ((conv => whnf); (first | with_reducible refine r_tt ?_ | with_reducible refine r_ff ?_ | with_reducible refine r_ntt ?_ | with_reducible refine r_nff ?_ | refine r_need (by omega) ?_ | refine r_i64 (by omega) ?_ | refine r_dect (by omega) ?_ | refine r_decf (by omega) ?_ | refine r_eqt (by omega) ?_ | refine r_eqf (by omega) ?_ | refine r_net (by omega) ?_ | refine r_nef (by omega) ?_ | refine r_u8 (by omega) ?_ | refine r_u64 (by omega) ?_ | refine r_i32 (by omega) ?_ | refine r_u32 (by omega) ?_ | refine r_rem (by omega) ?_ | refine r_quo (by omega) ?_ | refine r_ldb (by assumption) (by rfl) ?_ | refine r_ldbE (by assumption) (by rfl) ?_))); (conv => whnf)
    exact ⟨Chg.step hx4 hc6 (fun k hk hlt => by omega), e, true, _, rfl, hev0.keep hc6 hnew (fun k hk => by omega), fun _ => hgood hd, fun h => by cases h⟩
  · have ed : (!bad' && decide (l' = [])) = false := by
      cases hq : (!bad' && decide (l' = [])) with
      | false => rfl
      | true => simp at hq; exact absurd hq hd
    rw [ed]
    (repeat ((conv => whnf); (first | with_reducible refine r_tt ?_ | with_reducible refine r_ff ?_ | with_reducible refine r_ntt ?_ | with_reducible refine r_nff ?_ | refine r_need (by omega) ?_ | refine r_i64 (by omega) ?_ | refine r_dect (by omega) ?_ | refine r_decf (by omega) ?_ | refine r_eqt (by omega) ?_ | refine r_eqf (by omega) ?_ | refine r_net (by omega) ?_ | refine r_nef (by omega) ?_ | refine r_u8 (by omega) ?_ | refine r_u64 (by omega) ?_ | refine r_i32 (by omega) ?_ | refine r_u32 (by omega) ?_ | refine r_rem (by omega) ?_ | refine r_quo (by omega) ?_ | refine r_ldb (by assumption) (by rfl) ?_ | refine r_ldbE (by assumption) (by rfl) ?_))); (conv => whnf)
    refine r_stn hn4 (by simp) (by intro v hv; simp at hv; rcases hv with rfl | rfl | rfl | rfl | rfl | rfl | rfl <;> rfl) fun w6 hc6 hs6 hb6 => ?_
    (repeat ((conv => whnf); (first | with_reducible refine r_tt ?_ | with_reducible refine r_ff ?_ | with_reducible refine r_ntt ?_ | with_reducible refine r_nff ?_ | refine r_need (by omega) ?_ | refine r_i64 (by omega) ?_ | refine r_dect (by omega) ?_ | refine r_decf (by omega) ?_ | refine r_eqt (by omega) ?_ | refine r_eqf (by omega) ?_ | refine r_net (by omega) ?_ | refine r_nef (by omega) ?_ | refine r_u8 (by omega) ?_ | refine r_u64 (by omega) ?_ | refine r_i32 (by omega) ?_ | refine r_u32 (by omega) ?_ | refine r_rem (by omega) ?_ | refine r_quo (by omega) ?_ | refine r_ldb (by assumption) (by rfl) ?_ | refine r_ldbE (by assumption) (by rfl) ?_))); (conv => whnf)
    refine r_ldnb hb6 rfl rfl ?_
    (repeat ((conv => whnf); (first | with_reducible refine r_tt ?_ | with_reducible refine r_ff ?_ | with_reducible refine r_ntt ?_ | with_reducible refine r_nff ?_ | refine r_need (by omega) ?_ | refine r_i64 (by omega) ?_ | refine r_dect (by omega) ?_ | refine r_decf (by omega) ?_ | refine r_eqt (by omega) ?_ | refine r_eqf (by omega) ?_ | refine r_net (by omega) ?_ | refine r_nef (by omega) ?_ | refine r_u8 (by omega) ?_ | refine r_u64 (by omega) ?_ | refine r_i32 (by omega) ?_ | refine r_u32 (by omega) ?_ | refine r_rem (by omega) ?_ | refine r_quo (by omega) ?_ | refine r_ldb (by assumption) (by rfl) ?_ | refine r_ldbE (by assumption) (by rfl) ?_))); (conv => whnf)
    exact ⟨Chg.step hx4 hc6 (fun k hk hlt => by omega), Ev.zero, false, _, rfl, IsEv.zero w6, (fun h => by cases h), fun _ => ⟨rfl, hno hd⟩⟩
end Fb.Try
