/-
  Walks: the reader.
-/
import Derived.Test.YtalkcjehehljcaaCf
namespace Fb.Codec
open Go Fb
/-- From 'these bytes, and right so far' to 'those things, those bytes are left, and right still'. -/
structure Rel (bs : List Bool) (l : List UInt8) (bad : Bool) (D : List It) (l' : List UInt8) (bad' : Bool) : Prop where
  good : bad' = false → bad = false ∧ dec bs l = some (D, l')
  no : bad' = true → bad = true ∨ dec bs l = none
  len : l'.length ≤ l.length
theorem Rel.refl (l : List UInt8) (bad : Bool) : Rel [] l bad [] l bad := ⟨fun h => ⟨h, rfl⟩, fun h => .inl h, Nat.le_refl _⟩
theorem dec_append : ∀ (bs cs : List Bool) (l : List UInt8), dec (bs ++ cs) l = match dec bs l with
    | none => none
    | some (D, r) => (dec cs r).map fun p => (D ++ p.1, p.2)
  | [], cs, l => by
    simp only [List.nil_append, dec]
    cases dec cs l <;> rfl
  | b :: bs, cs, l => by
    simp only [List.cons_append, dec]
    cases getIt b l with
    | none => rfl
    | some p =>
      obtain ⟨i, r⟩ := p
      simp only [dec_append bs cs r]
      cases dec bs r with
      | none => rfl
      | some q =>
        obtain ⟨D, r'⟩ := q
        simp only [Option.map_some]
        cases dec cs r' <;> rfl
theorem Rel.trans {bs cs : List Bool} {l l1 l2 : List UInt8} {b0 b1 b2 : Bool} {D E : List It} (h : Rel bs l b0 D l1 b1) (k : Rel cs l1 b1 E l2 b2) : Rel (bs ++ cs) l b0 (D ++ E) l2 b2 := by
  refine ⟨fun hb => ?_, fun hb => ?_, Nat.le_trans k.len h.len⟩
  · obtain ⟨k1, k2⟩ := k.good hb
    obtain ⟨h1, h2⟩ := h.good k1
    refine ⟨h1, ?_⟩
    rw [dec_append, h2]
    simp [k2]
  · cases hb1 : b1 with
    | true =>
      rcases h.no hb1 with h1 | h1
      · exact .inl h1
      · exact .inr (by rw [dec_append, h1])
    | false =>
      obtain ⟨h1, h2⟩ := h.good hb1
      rcases k.no hb with k1 | k1
      · rw [hb1] at k1; cases k1
      · exact .inr (by rw [dec_append, h2]; simp [k1])

theorem dec_one (b : Bool) (l : List UInt8) : dec [b] l = (getIt b l).map fun p => ([p.1], p.2) := by
  simp only [dec]
  cases getIt b l with
  | none => rfl
  | some p => rfl
theorem Rel.num_some {l : List UInt8} {bad : Bool} {x : Int} {k : Nat} (h : get l = some (x, k)) : Rel [false] l bad [.n x] (l.drop k) bad :=
  ⟨fun hb => ⟨hb, by rw [dec_one]; simp [getIt, h]⟩, fun hb => .inl hb, by simp⟩
theorem Rel.num_none {l : List UInt8} {bad : Bool} (h : get l = none) : Rel [false] l bad [.n 0] l true :=
  ⟨(fun hb => by cases hb), fun _ => .inr (by rw [dec_one]; simp [getIt, h]), Nat.le_refl _⟩

theorem getNs_more : ∀ (n j : Nat) (l : List UInt8) (xs : List Int) (r : List UInt8), getNs n l = some (xs, r) → getNs (n + j) l = (getNs j r).map fun p => (xs ++ p.1, p.2)
  | 0, j, l, xs, r, h => by
    simp only [getNs, Option.some.injEq, Prod.mk.injEq] at h
    obtain ⟨rfl, rfl⟩ := h
    simp
  | n + 1, j, l, xs, r, h => by
    rw [show n + 1 + j = (n + j) + 1 by omega]
    simp only [getNs] at h ⊢
    cases hg : get l with
    | none => rw [hg] at h; cases h
    | some p =>
      obtain ⟨x, k⟩ := p
      rw [hg] at h
      simp only [Option.map_eq_some_iff] at h ⊢
      obtain ⟨⟨ys, r'⟩, hy, he⟩ := h
      simp only [Prod.mk.injEq] at he
      obtain ⟨rfl, rfl⟩ := he
      simp only [getNs_more n j _ _ _ hy]
      cases getNs j r' <;> rfl
/-- The list under way: so many numbers 'm' are to come, these have. -/
structure Lst (l : List UInt8) (bad : Bool) (m : Int) (acc : List Int) (l1 : List UInt8) (b1 : Bool) : Prop where
  good : b1 = false → bad = false ∧ ∃ k, get l = some (m, k) ∧ 0 ≤ m ∧ m ≤ ((l.drop k).length : Int) ∧ getNs acc.length (l.drop k) = some (acc, l1) ∧ (acc.length : Int) ≤ m
  no : b1 = true → bad = true ∨ getIt true l = none
  len : l1.length ≤ l.length
  ok : ∀ x ∈ acc, inI64 x
theorem Lst.snoc {l l1 : List UInt8} {bad : Bool} {m : Int} {acc : List Int} (h : Lst l bad m acc l1 false) (hm : (acc.length : Int) < m) {x : Int} {l2 : List UInt8} {b2 : Bool} (k : Rel [false] l1 false [.n x] l2 b2) (hx : inI64 x) : Lst l bad m (acc ++ [x]) l2 b2 := by
  obtain ⟨hb, k0, h1, h2, h3, h4, h5⟩ := h.good rfl
  refine ⟨fun he => ?_, fun he => ?_, Nat.le_trans k.len h.len, fun y hy => ?_⟩
  · obtain ⟨_, k2⟩ := k.good he
    rw [dec_one] at k2
    simp only [getIt, Option.map_eq_some_iff] at k2
    obtain ⟨⟨i, r⟩, k2, k3⟩ := k2
    simp only [Prod.mk.injEq, List.cons.injEq, and_true] at k3
    obtain ⟨rfl, rfl⟩ := k3
    refine ⟨hb, k0, h1, h2, h3, ?_, by simp; omega⟩
    rw [List.length_append, List.length_singleton, getNs_more _ 1 _ _ _ h4]
    simp only [getNs]
    cases hg : get l1 with
    | none => rw [hg] at k2; cases k2
    | some p =>
      obtain ⟨y, j⟩ := p
      rw [hg] at k2
      simp at k2
      obtain ⟨rfl, rfl⟩ := k2
      rfl
  · right
    rcases k.no he with k1 | k1
    · cases k1
    · rw [dec_one] at k1
      simp only [getIt, Option.map_eq_none_iff] at k1
      have hg : get l1 = none := by
        cases hg : get l1 with
        | none => rfl
        | some p => rw [hg] at k1; cases k1
      simp only [getIt, h1, if_true]
      rw [if_neg (by omega)]
      obtain ⟨j, hj⟩ : ∃ j, m.toNat = acc.length + (j + 1) := ⟨m.toNat - acc.length - 1, by omega⟩
      rw [hj, getNs_more _ (j + 1) _ _ _ h4]
      simp [getNs, hg]
  · rcases List.mem_append.1 hy with hy | hy
    · exact h.ok y hy
    · simp at hy; subst hy; exact hx
theorem Lst.done {l l1 : List UInt8} {bad b1 : Bool} {m : Int} {acc : List Int} (h : Lst l bad m acc l1 b1) (hm : b1 = false → m ≤ acc.length) : Rel [true] l bad [.l acc] l1 b1 := by
  refine ⟨fun hb => ?_, fun hb => ?_, h.len⟩
  · obtain ⟨h0, k, h1, h2, h3, h4, h5⟩ := h.good hb
    have := hm hb
    refine ⟨h0, ?_⟩
    rw [dec_one]
    simp only [getIt, h1, if_true]
    rw [if_neg (by omega), show m.toNat = acc.length by omega, h4]
    rfl
  · rcases h.no hb with h1 | h1
    · exact .inl h1
    · exact .inr (by rw [dec_one, h1]; rfl)
/-- The start: the count has been read. -/
theorem Lst.start {l l1 : List UInt8} {bad b1 : Bool} {m : Int} (h : Rel [false] l bad [.n m] l1 b1) : ∀ b2, b2 = (b1 || decide (m < 0 ∨ (l1.length : Int) < m)) → Lst l bad m [] l1 b2 := by
  rintro b2 rfl
  have key : b1 = false → bad = false ∧ ∃ k, get l = some (m, k) ∧ l1 = l.drop k := fun hb => by
    obtain ⟨h1, h2⟩ := h.good hb
    rw [dec_one] at h2
    simp only [getIt, Option.map_eq_some_iff] at h2
    obtain ⟨⟨i, r⟩, h2, h3⟩ := h2
    simp only [Prod.mk.injEq, List.cons.injEq, and_true] at h3
    obtain ⟨rfl, rfl⟩ := h3
    cases hg : get l with
    | none => rw [hg] at h2; cases h2
    | some p =>
      obtain ⟨y, j⟩ := p
      rw [hg] at h2
      simp at h2
      obtain ⟨rfl, rfl⟩ := h2
      exact ⟨h1, j, rfl, rfl⟩
  refine ⟨fun hb => ?_, fun hb => ?_, h.len, by simp⟩
  · simp only [Bool.or_eq_false_iff, decide_eq_false_iff_not] at hb
    obtain ⟨h1, k, h2, h3⟩ := key hb.1
    subst h3
    exact ⟨h1, k, h2, by omega, by omega, rfl, by simp; omega⟩
  · cases hb1 : b1 with
    | true =>
      rcases h.no hb1 with h1 | h1
      · exact .inl h1
      · right
        rw [dec_one] at h1
        simp only [getIt, Option.map_eq_none_iff] at h1
        have hg : get l = none := by
          cases hg : get l with
          | none => rfl
          | some p => rw [hg] at h1; cases h1
        simp [getIt, hg]
    | false =>
      right
      obtain ⟨h1, k, h2, h3⟩ := key hb1
      rw [hb1] at hb
      simp only [Bool.false_or, decide_eq_true_eq] at hb
      simp only [getIt, h2, if_true]
      rw [if_pos (by rw [← h3]; exact hb)]
end Fb.Codec

namespace Fb.Try
open Go Go.Proofs Fb Fb.Codec

/-- The reader, and what it has still to read. -/
def Rdr (w : World) (base b : Nat) (l : List UInt8) (bad : Bool) : Prop :=
  ∃ a len cap, Blk w b 77 [.slice a len cap, .bool bad] ∧ View w a len cap 1 (bvs l) ∧ (0 < l.length → blk a < base)
theorem Rdr.keep {S : Nat → Prop} {w w' : World} {base b : Nat} {l : List UInt8} {bad : Bool} (h : Rdr w base b l bad) (k : Chg S w w') (hb : ¬ S b) (hS : ∀ k, S k → base ≤ k) : Rdr w' base b l bad := by
  obtain ⟨a, len, cap, h1, h2, h3⟩ := h
  exact ⟨a, len, cap, h1.keep k hb, h2.keepN k fun hp hs => by have := h3 (by simpa [bvs] using hp); have := hS _ hs; omega, h3⟩

theorem view_tail {w : World} {a : Option Addr} {len cap : Nat} {l : List UInt8} (h : View w a len cap 1 (bvs l)) (m : Nat) (hm : m ≤ len) :
    View w (slcA a cap m 1) (len - m) (cap - m) 1 (bvs (l.drop m)) ∧ (0 < (l.drop m).length → blk (slcA a cap m 1) = blk a) := by
  have hlen : l.length = len := by have := h.length; simpa [bvs] using this
  have h1 := h.sub m len hm (Nat.le_refl _)
  have e : ((bvs l).drop (m * 1)).take ((len - m) * 1) = bvs (l.drop m) := by
    rw [List.take_of_length_le (by rw [List.length_drop, bvs_length]; omega)]
    simp [bvs, List.map_drop]
  rw [e] at h1
  refine ⟨h1, fun hp => ?_⟩
  rw [List.length_drop] at hp
  have hle := h.le
  unfold slcA
  rw [if_neg (by omega)]
  have hpl := h.plain (by rw [bvs_length]; omega)
  unfold plainA at hpl
  rw [hpl]
  simp [blk, Addr.add_plain]
theorem rnumber_ok {w : World} {base b nb no e : Nat} {cs : List Value} {l : List UInt8} {bad : Bool} (h : Rdr w base b l bad) (hn : Blk w nb e cs) (hno : no < cs.length) (hne : nb ≠ b) (hb : base ≤ b ∧ base ≤ nb) :
    Cal Try.prog 61 ⟨[.pointer (some ⟨b, 0, none⟩), .pointer (some ⟨nb, no, none⟩)]⟩ w fun _ w' => ∃ x l' bad', Rel [false] l bad [.n x] l' bad' ∧ inI64 x ∧ Rdr w' base b l' bad' ∧ Blk w' nb e (cs.set no (.int .i64 x)) ∧
      Chg (fun k => k = b ∨ k = nb) w w' := by
  obtain ⟨a, len, cap, h1, h2, h3⟩ := h
  have hlen : l.length = len := by have := h2.length; simpa [bvs] using this
  have hle := h2.le
  have hmax := h2.max
  unfold maxLen at hmax
  refine go61 (by rfl) ?_
  (repeat ((conv => whnf); (first | with_reducible refine r_tt ?_ | with_reducible refine r_ff ?_ | with_reducible refine r_ntt ?_ | with_reducible refine r_nff ?_ | refine r_need (by omega) ?_ | refine r_i64 (by omega) ?_ | refine r_dect (by omega) ?_ | refine r_decf (by omega) ?_ | refine r_eqt (by omega) ?_ | refine r_eqf (by omega) ?_ | refine r_net (by omega) ?_ | refine r_nef (by omega) ?_ | refine r_u8 (by omega) ?_ | refine r_u64 (by omega) ?_ | refine r_i32 (by omega) ?_ | refine r_u32 (by omega) ?_ | refine r_rem (by omega) ?_ | refine r_quo (by omega) ?_ | refine r_ldb (by assumption) (by rfl) ?_ | refine r_ldbE (by assumption) (by rfl) ?_))); (conv => whnf)
  refine r_cal (GetNumber_ok a len cap l w h2) ?_
  rintro v w1 ⟨rfl, rfl⟩
  have e2 : ∃ (y : Int) (m : Nat) (ok : Bool), gotNumber l = .tuple ⟨[.int .i64 y, .int .i64 (m : Int), .bool ok]⟩ ∧ m ≤ l.length ∧ Rel [false] l bad [.n y] (l.drop m) (bad || !ok) ∧ inI64 y := by
    unfold gotNumber
    cases hg : get l with
    | none => exact ⟨0, 0, false, rfl, by omega, by simpa using Rel.num_none hg, by unfold inI64; omega⟩
    | some p =>
      obtain ⟨x, k⟩ := p
      obtain ⟨_, h5, h6⟩ := get_some hg
      exact ⟨x, k, true, rfl, h5, by simpa using Rel.num_some hg, h6⟩
  obtain ⟨y, m, ok, e2, hm, hrel, hy⟩ := e2
  rw [e2]
  cases bad
  all_goals
    (repeat ((conv => whnf); (first | with_reducible refine r_tt ?_ | with_reducible refine r_ff ?_ | with_reducible refine r_ntt ?_ | with_reducible refine r_nff ?_ | refine r_need (by omega) ?_ | refine r_i64 (by omega) ?_ | refine r_dect (by omega) ?_ | refine r_decf (by omega) ?_ | refine r_eqt (by omega) ?_ | refine r_eqf (by omega) ?_ | refine r_net (by omega) ?_ | refine r_nef (by omega) ?_ | refine r_u8 (by omega) ?_ | refine r_u64 (by omega) ?_ | refine r_i32 (by omega) ?_ | refine r_u32 (by omega) ?_ | refine r_rem (by omega) ?_ | refine r_quo (by omega) ?_ | refine r_ldb (by assumption) (by rfl) ?_ | refine r_ldbE (by assumption) (by rfl) ?_))); (conv => whnf)
    refine r_st h1 (by simp) (by rfl) fun w2 hc2 hs2 hblk2 => ?_
    have hn2 := hn.keep hc2 hne
    have hv2 := h2.keepN hc2 (fun hp e => by have := h3 (by simpa [bvs] using hp); omega)
    (repeat ((conv => whnf); (first | with_reducible refine r_tt ?_ | with_reducible refine r_ff ?_ | with_reducible refine r_ntt ?_ | with_reducible refine r_nff ?_ | refine r_need (by omega) ?_ | refine r_i64 (by omega) ?_ | refine r_dect (by omega) ?_ | refine r_decf (by omega) ?_ | refine r_eqt (by omega) ?_ | refine r_eqf (by omega) ?_ | refine r_net (by omega) ?_ | refine r_nef (by omega) ?_ | refine r_u8 (by omega) ?_ | refine r_u64 (by omega) ?_ | refine r_i32 (by omega) ?_ | refine r_u32 (by omega) ?_ | refine r_rem (by omega) ?_ | refine r_quo (by omega) ?_ | refine r_ldb (by assumption) (by rfl) ?_ | refine r_ldbE (by assumption) (by rfl) ?_))); (conv => whnf)
    refine r_drawE fun w3 hx3 _ => ?_
    (repeat ((conv => whnf); (first | with_reducible refine r_tt ?_ | with_reducible refine r_ff ?_ | with_reducible refine r_ntt ?_ | with_reducible refine r_nff ?_ | refine r_need (by omega) ?_ | refine r_i64 (by omega) ?_ | refine r_dect (by omega) ?_ | refine r_decf (by omega) ?_ | refine r_eqt (by omega) ?_ | refine r_eqf (by omega) ?_ | refine r_net (by omega) ?_ | refine r_nef (by omega) ?_ | refine r_u8 (by omega) ?_ | refine r_u64 (by omega) ?_ | refine r_i32 (by omega) ?_ | refine r_u32 (by omega) ?_ | refine r_rem (by omega) ?_ | refine r_quo (by omega) ?_ | refine r_ldb (by assumption) (by rfl) ?_ | refine r_ldbE (by assumption) (by rfl) ?_))); (conv => whnf)
    refine r_st (hn2.ext hx3) (by simpa using hno) (by rfl) fun w4 hc4 hs4 hblk4 => ?_
    (repeat ((conv => whnf); (first | with_reducible refine r_tt ?_ | with_reducible refine r_ff ?_ | with_reducible refine r_ntt ?_ | with_reducible refine r_nff ?_ | refine r_need (by omega) ?_ | refine r_i64 (by omega) ?_ | refine r_dect (by omega) ?_ | refine r_decf (by omega) ?_ | refine r_eqt (by omega) ?_ | refine r_eqf (by omega) ?_ | refine r_net (by omega) ?_ | refine r_nef (by omega) ?_ | refine r_u8 (by omega) ?_ | refine r_u64 (by omega) ?_ | refine r_i32 (by omega) ?_ | refine r_u32 (by omega) ?_ | refine r_rem (by omega) ?_ | refine r_quo (by omega) ?_ | refine r_ldb (by assumption) (by rfl) ?_ | refine r_ldbE (by assumption) (by rfl) ?_))); (conv => whnf)
    refine r_st ((hblk2.ext hx3).keep hc4 (Ne.symm hne)) (by simp) (by rfl) fun w5 hc5 hs5 hblk5 => ?_
    (repeat ((conv => whnf); (first | with_reducible refine r_tt ?_ | with_reducible refine r_ff ?_ | with_reducible refine r_ntt ?_ | with_reducible refine r_nff ?_ | refine r_need (by omega) ?_ | refine r_i64 (by omega) ?_ | refine r_dect (by omega) ?_ | refine r_decf (by omega) ?_ | refine r_eqt (by omega) ?_ | refine r_eqf (by omega) ?_ | refine r_net (by omega) ?_ | refine r_nef (by omega) ?_ | refine r_u8 (by omega) ?_ | refine r_u64 (by omega) ?_ | refine r_i32 (by omega) ?_ | refine r_u32 (by omega) ?_ | refine r_rem (by omega) ?_ | refine r_quo (by omega) ?_ | refine r_ldb (by assumption) (by rfl) ?_ | refine r_ldbE (by assumption) (by rfl) ?_))); (conv => whnf)
    have hvt := view_tail h2 m (by omega)
    have hch : Chg (fun k => k = b ∨ k = nb) w1 w5 := Chg.step (Chg.step ((Chg.mono hc2 fun _ _ h => .inl h).ext hx3) hc4 fun k hk _ => .inr hk) hc5 fun k hk _ => .inl hk
    refine ⟨y, l.drop m, _, hrel, hy, ⟨_, _, _, hblk5, ?_, ?_⟩, hblk4.keep hc5 hne, hch⟩
    · exact hvt.1.keepN hch fun hp hk => by
        have hp' : 0 < (l.drop m).length := by simpa [bvs] using hp
        have e := hvt.2 hp'
        rw [List.length_drop] at hp'
        have := h3 (by omega)
        rw [← e] at this
        rcases hk with hk | hk <;> omega
    · intro hp
      have e := hvt.2 hp
      rw [List.length_drop] at hp
      have := h3 (by omega)
      rw [← e] at this
      exact this

theorem el_ints : Elem Try.prog 34 3 1 8 := Elem.of (by kernel_rfl)
def ivs (xs : List Int) : List Value := xs.map (.int .i64)

theorem set_same {cs : List Value} {i : Nat} {v : Value} (h : cs[i]? = some v) : cs.set i v = cs := by
  apply List.ext_getElem?
  intro j
  rw [List.getElem?_set]
  split
  · rename_i e
    subst e
    have := (List.getElem?_eq_some_iff.1 h).1
    rw [if_pos this, h]
  · rfl
theorem rlist_ok {w : World} {base b nb no e : Nat} {cs : List Value} {l : List UInt8} {bad : Bool} (h : Rdr w base b l bad) (hn : Blk w nb e cs) (hno : cs[no]? = some (.slice none 0 0)) (hne : nb ≠ b) (hb : base ≤ b ∧ base ≤ nb) (hl : bad = false → l.length ≤ 65536) :
    Cal Try.prog 60 ⟨[.pointer (some ⟨b, 0, none⟩), .pointer (some ⟨nb, no, none⟩)]⟩ w fun _ w' => ∃ xs l' bad' v, Rel [true] l bad [.l xs] l' bad' ∧ (∀ x ∈ xs, inI64 x) ∧ Rdr w' base b l' bad' ∧
      Blk w' nb e (cs.set no v) ∧ w'.ownsRow w.heap.size 3 1 v xs.length (ivs xs) ∧ Chg (fun k => k = b ∨ k = nb) w w' := by
  have hbl : b < w.heap.size := by obtain ⟨_, _, _, h1, _⟩ := h; exact h1.lt
  have hnl := hn.lt
  refine go60 (by rfl) ?_
  (repeat ((conv => whnf); (first | with_reducible refine r_tt ?_ | with_reducible refine r_ff ?_ | with_reducible refine r_ntt ?_ | with_reducible refine r_nff ?_ | refine r_need (by omega) ?_ | refine r_i64 (by omega) ?_ | refine r_dect (by omega) ?_ | refine r_decf (by omega) ?_ | refine r_eqt (by omega) ?_ | refine r_eqf (by omega) ?_ | refine r_net (by omega) ?_ | refine r_nef (by omega) ?_ | refine r_u8 (by omega) ?_ | refine r_u64 (by omega) ?_ | refine r_i32 (by omega) ?_ | refine r_u32 (by omega) ?_ | refine r_rem (by omega) ?_ | refine r_quo (by omega) ?_ | refine r_ldb (by assumption) (by rfl) ?_ | refine r_ldbE (by assumption) (by rfl) ?_))); (conv => whnf)
  refine r_new fun n w1 hx1 hn1 hs1 hblk1 => ?_
  (repeat ((conv => whnf); (first | with_reducible refine r_tt ?_ | with_reducible refine r_ff ?_ | with_reducible refine r_ntt ?_ | with_reducible refine r_nff ?_ | refine r_need (by omega) ?_ | refine r_i64 (by omega) ?_ | refine r_dect (by omega) ?_ | refine r_decf (by omega) ?_ | refine r_eqt (by omega) ?_ | refine r_eqf (by omega) ?_ | refine r_net (by omega) ?_ | refine r_nef (by omega) ?_ | refine r_u8 (by omega) ?_ | refine r_u64 (by omega) ?_ | refine r_i32 (by omega) ?_ | refine r_u32 (by omega) ?_ | refine r_rem (by omega) ?_ | refine r_quo (by omega) ?_ | refine r_ldb (by assumption) (by rfl) ?_ | refine r_ldbE (by assumption) (by rfl) ?_))); (conv => whnf)
  have hr1 : Rdr w1 base b l bad := h.keep hx1 (fun f => f) (fun _ f => f.elim)
  refine r_cal (rnumber_ok (no := 0) hr1 hblk1 (by simp) (by omega) (by omega)) ?_
  rintro _ w2 ⟨m, l1, b1, hrel, hmin, hr2, hblk2, hc2⟩
  have hblk2 : Blk w2 n 3 [.int .i64 m] := hblk2
  obtain ⟨ra, rl, rc, hrb, hrv, hrlt⟩ := hr2
  have hrlen : l1.length = rl := by have := hrv.length; simpa [bvs] using this
  (repeat ((conv => whnf); (first | with_reducible refine r_tt ?_ | with_reducible refine r_ff ?_ | with_reducible refine r_ntt ?_ | with_reducible refine r_nff ?_ | refine r_need (by omega) ?_ | refine r_i64 (by omega) ?_ | refine r_dect (by omega) ?_ | refine r_decf (by omega) ?_ | refine r_eqt (by omega) ?_ | refine r_eqf (by omega) ?_ | refine r_net (by omega) ?_ | refine r_nef (by omega) ?_ | refine r_u8 (by omega) ?_ | refine r_u64 (by omega) ?_ | refine r_i32 (by omega) ?_ | refine r_u32 (by omega) ?_ | refine r_rem (by omega) ?_ | refine r_quo (by omega) ?_ | refine r_ldb (by assumption) (by rfl) ?_ | refine r_ldbE (by assumption) (by rfl) ?_))); (conv => whnf)
  refine r_drawE fun w3 hx3 _ => ?_
  (repeat ((conv => whnf); (first | with_reducible refine r_tt ?_ | with_reducible refine r_ff ?_ | with_reducible refine r_ntt ?_ | with_reducible refine r_nff ?_ | refine r_need (by omega) ?_ | refine r_i64 (by omega) ?_ | refine r_dect (by omega) ?_ | refine r_decf (by omega) ?_ | refine r_eqt (by omega) ?_ | refine r_eqf (by omega) ?_ | refine r_net (by omega) ?_ | refine r_nef (by omega) ?_ | refine r_u8 (by omega) ?_ | refine r_u64 (by omega) ?_ | refine r_i32 (by omega) ?_ | refine r_u32 (by omega) ?_ | refine r_rem (by omega) ?_ | refine r_quo (by omega) ?_ | refine r_ldb (by assumption) (by rfl) ?_ | refine r_ldbE (by assumption) (by rfl) ?_))); (conv => whnf)
  have hc3 : Chg (fun k => k = b ∨ k = nb) w w3 := (Chg.step (hx1.wide _) hc2 (fun k hk hlt => hk.elim .inl fun e => by omega)).ext hx3
  unfold inI64 at hmin
  have hn3 : Blk w3 nb e cs := (hn.keep hx1 (fun f => f)).keep hc2 (by omega) |>.ext hx3
  have hrb3 := hrb.ext hx3
  have hblk3 := hblk2.ext hx3
  have hrv3 := hrv.ext hx3
  have hrlt' : 0 < l1.length → blk ra < base := hrlt
  have hmax : rl ≤ 9223372036854775807 := by have h1 := hrv.le; have h2 := hrv.max; unfold maxLen at h2; omega
  have hsz3 : n < w3.heap.size := hblk3.lt
  have hsz1 : w1.heap.size = n + 1 := by have := hblk1.lt; omega
  have hcase : m < 0 ∨ (0 ≤ m ∧ (rl : Int) < m) ∨ (0 ≤ m ∧ m ≤ rl) := by omega
  rcases hcase with hm | hm | hm
  focus
    have hL := Lst.start hrel true (by simp [hm])
    (repeat ((conv => whnf); (first | with_reducible refine r_tt ?_ | with_reducible refine r_ff ?_ | with_reducible refine r_ntt ?_ | with_reducible refine r_nff ?_ | refine r_need (by omega) ?_ | refine r_i64 (by omega) ?_ | refine r_dect (by omega) ?_ | refine r_decf (by omega) ?_ | refine r_eqt (by omega) ?_ | refine r_eqf (by omega) ?_ | refine r_net (by omega) ?_ | refine r_nef (by omega) ?_ | refine r_u8 (by omega) ?_ | refine r_u64 (by omega) ?_ | refine r_i32 (by omega) ?_ | refine r_u32 (by omega) ?_ | refine r_rem (by omega) ?_ | refine r_quo (by omega) ?_ | refine r_ldb (by assumption) (by rfl) ?_ | refine r_ldbE (by assumption) (by rfl) ?_))); (conv => whnf)
    refine r_st hrb3 (by simp) (by rfl) fun w4 hc4 hs4 hB => ?_
    have hB : Blk w4 b 77 [.slice ra rl rc, .bool true] := hB
    have hN := hblk3.keep hc4 (by omega)
    have hV := hrv3.keepN hc4 (fun hp e => by have := hrlt' (by simpa [bvs] using hp); omega)
    have hE := hn3.keep hc4 (by omega)
    have hC : Chg (fun k => k = b ∨ k = nb) w w4 := Chg.step hc3 hc4 fun k hk _ => .inl hk
    have hS : w1.heap.size ≤ w4.heap.size := by omega
  rotate_left
  focus
    have hL := Lst.start hrel true (by simp; right; right; omega)
    (repeat ((conv => whnf); (first | with_reducible refine r_tt ?_ | with_reducible refine r_ff ?_ | with_reducible refine r_ntt ?_ | with_reducible refine r_nff ?_ | refine r_need (by omega) ?_ | refine r_i64 (by omega) ?_ | refine r_dect (by omega) ?_ | refine r_decf (by omega) ?_ | refine r_eqt (by omega) ?_ | refine r_eqf (by omega) ?_ | refine r_net (by omega) ?_ | refine r_nef (by omega) ?_ | refine r_u8 (by omega) ?_ | refine r_u64 (by omega) ?_ | refine r_i32 (by omega) ?_ | refine r_u32 (by omega) ?_ | refine r_rem (by omega) ?_ | refine r_quo (by omega) ?_ | refine r_ldb (by assumption) (by rfl) ?_ | refine r_ldbE (by assumption) (by rfl) ?_))); (conv => whnf)
    refine r_st hrb3 (by simp) (by rfl) fun w4 hc4 hs4 hB => ?_
    have hB : Blk w4 b 77 [.slice ra rl rc, .bool true] := hB
    have hN := hblk3.keep hc4 (by omega)
    have hV := hrv3.keepN hc4 (fun hp e => by have := hrlt' (by simpa [bvs] using hp); omega)
    have hE := hn3.keep hc4 (by omega)
    have hC : Chg (fun k => k = b ∨ k = nb) w w4 := Chg.step hc3 hc4 fun k hk _ => .inl hk
    have hS : w1.heap.size ≤ w4.heap.size := by omega
  rotate_left
  focus
    have hL := Lst.start hrel b1 (by rw [show decide (m < 0 ∨ (l1.length : Int) < m) = false from by simp; omega]; simp)
    have hB := hrb3
    have hN := hblk3
    have hV := hrv3
    have hE := hn3
    have hC := hc3
    have hS : w1.heap.size ≤ w3.heap.size := by omega
    (repeat ((conv => whnf); (first | with_reducible refine r_tt ?_ | with_reducible refine r_ff ?_ | with_reducible refine r_ntt ?_ | with_reducible refine r_nff ?_ | refine r_need (by omega) ?_ | refine r_i64 (by omega) ?_ | refine r_dect (by omega) ?_ | refine r_decf (by omega) ?_ | refine r_eqt (by omega) ?_ | refine r_eqf (by omega) ?_ | refine r_net (by omega) ?_ | refine r_nef (by omega) ?_ | refine r_u8 (by omega) ?_ | refine r_u64 (by omega) ?_ | refine r_i32 (by omega) ?_ | refine r_u32 (by omega) ?_ | refine r_rem (by omega) ?_ | refine r_quo (by omega) ?_ | refine r_ldb (by assumption) (by rfl) ?_ | refine r_ldbE (by assumption) (by rfl) ?_))); (conv => whnf)
  all_goals
    clear hrb3 hblk3 hrv3 hn3 hblk2 hrb hrv hblk1
    (repeat ((conv => whnf); (first | with_reducible refine r_tt ?_ | with_reducible refine r_ff ?_ | with_reducible refine r_ntt ?_ | with_reducible refine r_nff ?_ | refine r_need (by omega) ?_ | refine r_i64 (by omega) ?_ | refine r_dect (by omega) ?_ | refine r_decf (by omega) ?_ | refine r_eqt (by omega) ?_ | refine r_eqf (by omega) ?_ | refine r_net (by omega) ?_ | refine r_nef (by omega) ?_ | refine r_u8 (by omega) ?_ | refine r_u64 (by omega) ?_ | refine r_i32 (by omega) ?_ | refine r_u32 (by omega) ?_ | refine r_rem (by omega) ?_ | refine r_quo (by omega) ?_ | refine r_ldb (by assumption) (by rfl) ?_ | refine r_ldbE (by assumption) (by rfl) ?_))); (conv => whnf)
    refine r_loop (σ := List Int × List UInt8 × Bool × Value) (fun s => [.int .i64 (s.1.length : Int)])
      (fun s w' => Lst l bad m s.1 s.2.1 s.2.2.1 ∧ Rdr w' base b s.2.1 s.2.2.1 ∧ Blk w' n 3 [.int .i64 m] ∧ Blk w' nb e (cs.set no s.2.2.2) ∧ w'.ownsRow w1.heap.size 3 1 s.2.2.2 s.1.length (ivs s.1) ∧ Chg (fun k => k = b ∨ k = nb) w w' ∧ w1.heap.size ≤ w'.heap.size)
      (fun s _ => m.toNat - s.1.length) ([], l1, _, .slice none 0 0) rfl ⟨hL, ⟨_, _, _, hB, hV, hrlt'⟩, hN, by dsimp only; rw [set_same hno]; exact hE, World.ownsRow_nil _ _ _ _, hC, hS⟩ ?_
    clear hL hB hN hV hE hC hS
    rintro ⟨acc, l2, b2, v⟩ w5 again ⟨hL, hR, hN, hE, hO, hC, hS⟩ hagain
    dsimp only at *
    have hfin : Rel [true] l bad [.l acc] l2 b2 → ∃ xs l' bad' v', Rel [true] l bad [.l xs] l' bad' ∧ (∀ x ∈ xs, inI64 x) ∧ Rdr w5 base b l' bad' ∧
      Blk w5 nb e (cs.set no v') ∧ w5.ownsRow w.heap.size 3 1 v' xs.length (ivs xs) ∧ Chg (fun k => k = b ∨ k = nb) w w5 := fun hrl =>
      ⟨acc, l2, b2, v, hrl, hL.ok, hR, hE, own_mono hO (by omega), hC⟩
    obtain ⟨ra2, rl2, rc2, hrb2, hrv2, hrlt2⟩ := hR
    by_cases him : (acc.length : Int) < m
    · have haccs : (acc.length : Int) ≤ 65536 ∨ b2 = true := by
        cases b2 with
        | true => exact .inr rfl
        | false =>
          obtain ⟨hb0, k0, _, _, h3, _, h5⟩ := hL.good rfl
          have := hl hb0
          rw [List.length_drop] at h3
          left
          omega
      cases b2 with
      | true =>
        (repeat ((conv => whnf); (first | with_reducible refine r_tt ?_ | with_reducible refine r_ff ?_ | with_reducible refine r_ntt ?_ | with_reducible refine r_nff ?_ | refine r_need (by omega) ?_ | refine r_i64 (by omega) ?_ | refine r_dect (by omega) ?_ | refine r_decf (by omega) ?_ | refine r_eqt (by omega) ?_ | refine r_eqf (by omega) ?_ | refine r_net (by omega) ?_ | refine r_nef (by omega) ?_ | refine r_u8 (by omega) ?_ | refine r_u64 (by omega) ?_ | refine r_i32 (by omega) ?_ | refine r_u32 (by omega) ?_ | refine r_rem (by omega) ?_ | refine r_quo (by omega) ?_ | refine r_ldb (by assumption) (by rfl) ?_ | refine r_ldbE (by assumption) (by rfl) ?_))); (conv => whnf)
        exact hfin (hL.done (fun e => by cases e))
      | false =>
        (repeat ((conv => whnf); (first | with_reducible refine r_tt ?_ | with_reducible refine r_ff ?_ | with_reducible refine r_ntt ?_ | with_reducible refine r_nff ?_ | refine r_need (by omega) ?_ | refine r_i64 (by omega) ?_ | refine r_dect (by omega) ?_ | refine r_decf (by omega) ?_ | refine r_eqt (by omega) ?_ | refine r_eqf (by omega) ?_ | refine r_net (by omega) ?_ | refine r_nef (by omega) ?_ | refine r_u8 (by omega) ?_ | refine r_u64 (by omega) ?_ | refine r_i32 (by omega) ?_ | refine r_u32 (by omega) ?_ | refine r_rem (by omega) ?_ | refine r_quo (by omega) ?_ | refine r_ldb (by assumption) (by rfl) ?_ | refine r_ldbE (by assumption) (by rfl) ?_))); (conv => whnf)
        have haccs := haccs.resolve_right (by simp)
        refine r_new fun x w6 hx6 hn6 hs6 hblk6 => ?_
        have hR : Rdr w5 base b l2 false := ⟨ra2, rl2, rc2, hrb2, hrv2, hrlt2⟩
        (repeat ((conv => whnf); (first | with_reducible refine r_tt ?_ | with_reducible refine r_ff ?_ | with_reducible refine r_ntt ?_ | with_reducible refine r_nff ?_ | refine r_need (by omega) ?_ | refine r_i64 (by omega) ?_ | refine r_dect (by omega) ?_ | refine r_decf (by omega) ?_ | refine r_eqt (by omega) ?_ | refine r_eqf (by omega) ?_ | refine r_net (by omega) ?_ | refine r_nef (by omega) ?_ | refine r_u8 (by omega) ?_ | refine r_u64 (by omega) ?_ | refine r_i32 (by omega) ?_ | refine r_u32 (by omega) ?_ | refine r_rem (by omega) ?_ | refine r_quo (by omega) ?_ | refine r_ldb (by assumption) (by rfl) ?_ | refine r_ldbE (by assumption) (by rfl) ?_))); (conv => whnf)
        refine r_cal (rnumber_ok (no := 0) (hR.keep hx6 (fun f => f) (fun _ f => f.elim)) hblk6 (by simp) (by omega) (by omega)) ?_
        rintro _ w7 ⟨z, l3, b3, hrel3, hz, hR7, hblk7, hc7⟩
        have hblk7 : Blk w7 x 3 [.int .i64 z] := hblk7
        have hL7 := hL.snoc him hrel3 hz
        have hN7 := (hN.ext hx6).keep hc7 (by omega)
        have hE7 := (hE.ext hx6).keep hc7 (by omega)
        have hOb : ∀ g, v.ownBlock = some g → w1.heap.size ≤ g ∧ g < w5.heap.size := fun g hg => hO.lt g hg
        have hO7 := own_keep (own_ext hO hx6) hc7 (fun g hg hk => by have := hOb g hg; omega)
        have hC7 : Chg (fun k => k = b ∨ k = nb) w w7 := Chg.step (hC.ext hx6) hc7 fun k hk hlt => hk.elim .inl fun e => by have := hC.size; omega
        (repeat ((conv => whnf); (first | with_reducible refine r_tt ?_ | with_reducible refine r_ff ?_ | with_reducible refine r_ntt ?_ | with_reducible refine r_nff ?_ | refine r_need (by omega) ?_ | refine r_i64 (by omega) ?_ | refine r_dect (by omega) ?_ | refine r_decf (by omega) ?_ | refine r_eqt (by omega) ?_ | refine r_eqf (by omega) ?_ | refine r_net (by omega) ?_ | refine r_nef (by omega) ?_ | refine r_u8 (by omega) ?_ | refine r_u64 (by omega) ?_ | refine r_i32 (by omega) ?_ | refine r_u32 (by omega) ?_ | refine r_rem (by omega) ?_ | refine r_quo (by omega) ?_ | refine r_ldb (by assumption) (by rfl) ?_ | refine r_ldbE (by assumption) (by rfl) ?_))); (conv => whnf)
        refine r_drawS (fun k => v.ownBlock = some k) fun w8 hx8 _ => ?_
        (repeat ((conv => whnf); (first | with_reducible refine r_tt ?_ | with_reducible refine r_ff ?_ | with_reducible refine r_ntt ?_ | with_reducible refine r_nff ?_ | refine r_need (by omega) ?_ | refine r_i64 (by omega) ?_ | refine r_dect (by omega) ?_ | refine r_decf (by omega) ?_ | refine r_eqt (by omega) ?_ | refine r_eqf (by omega) ?_ | refine r_net (by omega) ?_ | refine r_nef (by omega) ?_ | refine r_u8 (by omega) ?_ | refine r_u64 (by omega) ?_ | refine r_i32 (by omega) ?_ | refine r_u32 (by omega) ?_ | refine r_rem (by omega) ?_ | refine r_quo (by omega) ?_ | refine r_ldb (by assumption) (by rfl) ?_ | refine r_ldbE (by assumption) (by rfl) ?_))); (conv => whnf)
        refine r_ld (fun w' hw' => Chg.cell hw' ((hE7.cell no).trans (by rw [List.getElem?_set_self (by have := (List.getElem?_eq_some_iff.1 hno).1; exact this)])) (fun hg => by have := hOb _ hg; omega)) ?_
        (repeat ((conv => whnf); (first | with_reducible refine r_tt ?_ | with_reducible refine r_ff ?_ | with_reducible refine r_ntt ?_ | with_reducible refine r_nff ?_ | refine r_need (by omega) ?_ | refine r_i64 (by omega) ?_ | refine r_dect (by omega) ?_ | refine r_decf (by omega) ?_ | refine r_eqt (by omega) ?_ | refine r_eqf (by omega) ?_ | refine r_net (by omega) ?_ | refine r_nef (by omega) ?_ | refine r_u8 (by omega) ?_ | refine r_u64 (by omega) ?_ | refine r_i32 (by omega) ?_ | refine r_u32 (by omega) ?_ | refine r_rem (by omega) ?_ | refine r_quo (by omega) ?_ | refine r_ldb (by assumption) (by rfl) ?_ | refine r_ldbE (by assumption) (by rfl) ?_))); (conv => whnf)
        refine r_ld (fun w' hw' => Chg.cell hw' ((hblk7.cell 0).trans rfl) (fun hg => by have := hOb _ hg; omega)) ?_
        (repeat ((conv => whnf); (first | with_reducible refine r_tt ?_ | with_reducible refine r_ff ?_ | with_reducible refine r_ntt ?_ | with_reducible refine r_nff ?_ | refine r_need (by omega) ?_ | refine r_i64 (by omega) ?_ | refine r_dect (by omega) ?_ | refine r_decf (by omega) ?_ | refine r_eqt (by omega) ?_ | refine r_eqf (by omega) ?_ | refine r_net (by omega) ?_ | refine r_nef (by omega) ?_ | refine r_u8 (by omega) ?_ | refine r_u64 (by omega) ?_ | refine r_i32 (by omega) ?_ | refine r_u32 (by omega) ?_ | refine r_rem (by omega) ?_ | refine r_quo (by omega) ?_ | refine r_ldb (by assumption) (by rfl) ?_ | refine r_ldbE (by assumption) (by rfl) ?_))); (conv => whnf)
        refine r_new fun y w9 hx9 hn9 hs9 hblk9 => ?_
        have hblk9 : Blk w9 y 3 [.int .i64 z] := hblk9
        (repeat ((conv => whnf); (first | with_reducible refine r_tt ?_ | with_reducible refine r_ff ?_ | with_reducible refine r_ntt ?_ | with_reducible refine r_nff ?_ | refine r_need (by omega) ?_ | refine r_i64 (by omega) ?_ | refine r_dect (by omega) ?_ | refine r_decf (by omega) ?_ | refine r_eqt (by omega) ?_ | refine r_eqf (by omega) ?_ | refine r_net (by omega) ?_ | refine r_nef (by omega) ?_ | refine r_u8 (by omega) ?_ | refine r_u64 (by omega) ?_ | refine r_i32 (by omega) ?_ | refine r_u32 (by omega) ?_ | refine r_rem (by omega) ?_ | refine r_quo (by omega) ?_ | refine r_ldb (by assumption) (by rfl) ?_ | refine r_ldbE (by assumption) (by rfl) ?_))); (conv => whnf)
        refine r_held ((hx8.trans hx9).wide _) ?_
        (repeat ((conv => whnf); (first | with_reducible refine r_tt ?_ | with_reducible refine r_ff ?_ | with_reducible refine r_ntt ?_ | with_reducible refine r_nff ?_ | refine r_need (by omega) ?_ | refine r_i64 (by omega) ?_ | refine r_dect (by omega) ?_ | refine r_decf (by omega) ?_ | refine r_eqt (by omega) ?_ | refine r_eqf (by omega) ?_ | refine r_net (by omega) ?_ | refine r_nef (by omega) ?_ | refine r_u8 (by omega) ?_ | refine r_u64 (by omega) ?_ | refine r_i32 (by omega) ?_ | refine r_u32 (by omega) ?_ | refine r_rem (by omega) ?_ | refine r_quo (by omega) ?_ | refine r_ldb (by assumption) (by rfl) ?_ | refine r_ldbE (by assumption) (by rfl) ?_))); (conv => whnf)
        have hO9 := own_ext hO7 (hx8.trans hx9)
        refine r_app el_ints hO9 (View.of_blk (n := 1) hblk9 (by simp) (by simp [maxLen])) (by simp [Value.oneCell']) (by omega) (by have := hx6.size; have := hc7.size; have := hx8.size; have := hx9.size; omega) fun v' w10 hO10 hc10 _ => ?_
        (repeat ((conv => whnf); (first | with_reducible refine r_tt ?_ | with_reducible refine r_ff ?_ | with_reducible refine r_ntt ?_ | with_reducible refine r_nff ?_ | refine r_need (by omega) ?_ | refine r_i64 (by omega) ?_ | refine r_dect (by omega) ?_ | refine r_decf (by omega) ?_ | refine r_eqt (by omega) ?_ | refine r_eqf (by omega) ?_ | refine r_net (by omega) ?_ | refine r_nef (by omega) ?_ | refine r_u8 (by omega) ?_ | refine r_u64 (by omega) ?_ | refine r_i32 (by omega) ?_ | refine r_u32 (by omega) ?_ | refine r_rem (by omega) ?_ | refine r_quo (by omega) ?_ | refine r_ldb (by assumption) (by rfl) ?_ | refine r_ldbE (by assumption) (by rfl) ?_))); (conv => whnf)
        refine r_held (((hx8.trans hx9).wide _).trans hc10) ?_
        (repeat ((conv => whnf); (first | with_reducible refine r_tt ?_ | with_reducible refine r_ff ?_ | with_reducible refine r_ntt ?_ | with_reducible refine r_nff ?_ | refine r_need (by omega) ?_ | refine r_i64 (by omega) ?_ | refine r_dect (by omega) ?_ | refine r_decf (by omega) ?_ | refine r_eqt (by omega) ?_ | refine r_eqf (by omega) ?_ | refine r_net (by omega) ?_ | refine r_nef (by omega) ?_ | refine r_u8 (by omega) ?_ | refine r_u64 (by omega) ?_ | refine r_i32 (by omega) ?_ | refine r_u32 (by omega) ?_ | refine r_rem (by omega) ?_ | refine r_quo (by omega) ?_ | refine r_ldb (by assumption) (by rfl) ?_ | refine r_ldbE (by assumption) (by rfl) ?_))); (conv => whnf)
        have hE10 := (hE7.ext (hx8.trans hx9)).keep hc10 (fun hg => by have := hOb _ hg; omega)
        refine r_st hE10 (by rw [List.length_set]; exact (List.getElem?_eq_some_iff.1 hno).1) (oneCell_own hO10) fun w11 hc11 hs11 hE11 => ?_
        rw [List.set_set] at hE11
        have hcx : Chg (fun k => v.ownBlock = some k ∨ k = nb) w7 w11 := Chg.step (Chg.mono (((hx8.trans hx9).wide _).trans hc10) fun _ _ h => .inl h) hc11 fun k hk _ => .inr hk
        have hlen3 := hrel3.len
        (repeat ((conv => whnf); (first | with_reducible refine r_tt ?_ | with_reducible refine r_ff ?_ | with_reducible refine r_ntt ?_ | with_reducible refine r_nff ?_ | refine r_need (by omega) ?_ | refine r_i64 (by omega) ?_ | refine r_dect (by omega) ?_ | refine r_decf (by omega) ?_ | refine r_eqt (by omega) ?_ | refine r_eqf (by omega) ?_ | refine r_net (by omega) ?_ | refine r_nef (by omega) ?_ | refine r_u8 (by omega) ?_ | refine r_u64 (by omega) ?_ | refine r_i32 (by omega) ?_ | refine r_u32 (by omega) ?_ | refine r_rem (by omega) ?_ | refine r_quo (by omega) ?_ | refine r_ldb (by assumption) (by rfl) ?_ | refine r_ldbE (by assumption) (by rfl) ?_))); (conv => whnf)
        rw [show (acc.length : Int) + 1 = ((acc ++ [z]).length : Int) by simp]
        refine hagain (acc ++ [z], l3, b3, v') w11 ⟨hL7, hR7.keep hcx (fun hk => ?_) (fun k hk => ?_), hN7.keep hcx (fun hk => ?_), hE11, ?_, ?_, ?_⟩ (by simp; omega)
        · rcases hk with hk | hk
          · have := hOb _ hk; omega
          · omega
        · rcases hk with hk | hk
          · have := hOb _ hk; omega
          · omega
        · rcases hk with hk | hk
          · have := hOb _ hk; omega
          · omega
        · have := own_keep hO10 hc11 (fun g hg hk => by have := own_ge hO10 hg; omega)
          simpa [ivs] using this
        · exact Chg.step hC7 hcx fun k hk hlt => by
            rcases hk with hk | hk
            · have := hOb _ hk; omega
            · exact .inr hk
        · have := hx6.size; have := hc7.size; have := hcx.size
          omega
    · cases b2
      all_goals
        (repeat ((conv => whnf); (first | with_reducible refine r_tt ?_ | with_reducible refine r_ff ?_ | with_reducible refine r_ntt ?_ | with_reducible refine r_nff ?_ | refine r_need (by omega) ?_ | refine r_i64 (by omega) ?_ | refine r_dect (by omega) ?_ | refine r_decf (by omega) ?_ | refine r_eqt (by omega) ?_ | refine r_eqf (by omega) ?_ | refine r_net (by omega) ?_ | refine r_nef (by omega) ?_ | refine r_u8 (by omega) ?_ | refine r_u64 (by omega) ?_ | refine r_i32 (by omega) ?_ | refine r_u32 (by omega) ?_ | refine r_rem (by omega) ?_ | refine r_quo (by omega) ?_ | refine r_ldb (by assumption) (by rfl) ?_ | refine r_ldbE (by assumption) (by rfl) ?_))); (conv => whnf)
        exact hfin (hL.done (fun _ => by omega))
end Fb.Try
