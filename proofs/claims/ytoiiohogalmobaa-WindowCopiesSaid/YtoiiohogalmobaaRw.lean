/-
  Walks: rings of places.
-/
import Derived.Test.YtoiiohogalmobaaS
import Derived.Test.YtoiiohogalmobaaRp
namespace Fb
open Go Go.Proofs
theorem r_ldnbS' {S : Nat → Prop} {w : World} {b o n : Nat} {e : TypeId} {cs vs : List Value} {K : Value → Prop} (h : Blk w b e cs) (hv : (cs.drop o).take n = vs) (hl : vs.length = n) (hs : ¬ S b) (k : K (.agg ⟨vs⟩)) : LoadN ⟨b, o, none⟩ n (Chg S w) K :=
  r_ldn vs hl (fun w' hw i v hi => by
    rw [Addr.add_plain, (h.keep hw hs).cell]
    rw [← hv, List.getElem?_take] at hi
    split at hi
    · rwa [List.getElem?_drop] at hi
    · cases hi) k
end Fb
namespace Fb.Try.RW
open Go Go.Proofs Fb

/-- A token, and the number behind its last symbol. -/
structure Pl where
  t : Int
  e : Int
def enc (z : Pl) : List Value := [.int .i64 z.t, .int .i64 z.e]
def none' : Pl := ⟨0, 0⟩
def encs (L : List Pl) : List (List Value) := L.map enc
abbrev RG (w : World) (b : Nat) (g : Option Nat) (L : List Pl) (fr room : Nat) : Prop := RingP 126 103 2 w b g (encs L) fr room
abbrev RA (w : World) (b : Nat) (g : Option Nat) (L : List Pl) (fr room : Nat) (r : RC) : Prop := RingAt 126 103 2 w b g (encs L) fr room r
theorem encs_len (L : List Pl) : (encs L).length = L.length := by simp [encs]
theorem enc_ok (z : Pl) : (enc z).length = 2 ∧ ∀ v ∈ enc z, v.oneCell' = true := ⟨rfl, by intro v hv; simp [enc] at hv; rcases hv with rfl | rfl <;> rfl⟩
theorem encs_ok (L : List Pl) : ∀ e ∈ encs L, e.length = 2 ∧ ∀ v ∈ e, v.oneCell' = true := by
  intro e he
  obtain ⟨z, _, rfl⟩ := List.mem_map.1 he
  exact enc_ok z
theorem encs_get {L : List Pl} {i : Nat} {z : Pl} (h : L[i]? = some z) : (encs L)[i]? = some (enc z) := by simp [encs, h]
theorem encs_get' {L : List Pl} {i : Nat} {e : List Value} (h : (encs L)[i]? = some e) : ∃ z, L[i]? = some z ∧ e = enc z := by
  simp only [encs, List.getElem?_map, Option.map_eq_some_iff] at h
  obtain ⟨z, h1, h2⟩ := h
  exact ⟨z, h1, h2.symm⟩
theorem rcBlk {w : World} {b : Nat} {g : Option Nat} {L : List Pl} {fr room : Nat} {r : RC} (h : RA w b g L fr room r) :
    Blk w b 126 [.slice r.a r.len r.cap, .int .i64 (r.head : Int), .int .i64 (L.length : Int), .int .i64 (fr : Int), .int .i64 (room : Int)] := by
  have := h.blk
  rw [encs_len] at this
  exact this
/-- The cells of one place. -/
theorem segR {C R : List Value} {p : Nat} {e : List Value} (h : seg C 2 p = e) (hp : p * 2 + 2 ≤ C.length) : ((C ++ R).drop (p * 2)).take 2 = e := by
  rw [List.drop_append_of_le_length (by omega), List.take_append_of_le_length (by rw [List.length_drop]; omega)]
  exact h
theorem putR {C R : List Value} {p : Nat} {z : Pl} (hp : p * 2 + 2 ≤ C.length) : setL (C ++ R) (p * 2) (enc z) = putSeg C 2 p (enc z) ++ R := by
  rw [setL_put _ _ _ _ (by simpa [enc] using hp)]
  rfl
theorem mk : MakeE Try.prog 120 103 2 16 [.int .i64 0, .int .i64 0] := MakeE.of (by kernel_rfl)
theorem sls : SlSize Try.prog 120 2 := SlSize.of (by kernel_rfl)
theorem el : Elem Try.prog 120 103 2 16 := Elem.of (by kernel_rfl)
theorem New_ok (w : World) (room : Int) (hr : 0 ≤ room ∧ room ≤ 1048576) : Cal Try.prog 62 ⟨[.int .i64 room]⟩ w fun v w' => ∃ b, v = .pointer (some ⟨b, 0, none⟩) ∧ Ext w w' ∧ w.heap.size ≤ b ∧ RG w' b none [] 0 room.toNat := by
  refine go62 (by rfl) ?_
  obtain ⟨m, rfl⟩ : ∃ m : Nat, room = m := ⟨room.toNat, by omega⟩
  (repeat ((conv => whnf); (first | with_reducible refine r_tt ?_ | with_reducible refine r_ff ?_ | with_reducible refine r_ntt ?_ | with_reducible refine r_nff ?_ | refine r_need (by omega) ?_ | refine r_i64 (by omega) ?_ | refine r_dect (by omega) ?_ | refine r_decf (by omega) ?_ | refine r_eqt (by omega) ?_ | refine r_eqf (by omega) ?_ | refine r_net (by omega) ?_ | refine r_nef (by omega) ?_ | refine r_u8 (by omega) ?_ | refine r_u64 (by omega) ?_ | refine r_i32 (by omega) ?_ | refine r_u32 (by omega) ?_ | refine r_rem (by omega) ?_ | refine r_quo (by omega) ?_ | refine r_ldb (by assumption) (by rfl) ?_ | refine r_ldbE (by assumption) (by rfl) ?_))); (conv => whnf)
  refine r_new fun b w1 hx1 hb1 hs1 hblk1 => ?_
  (repeat ((conv => whnf); (first | with_reducible refine r_tt ?_ | with_reducible refine r_ff ?_ | with_reducible refine r_ntt ?_ | with_reducible refine r_nff ?_ | refine r_need (by omega) ?_ | refine r_i64 (by omega) ?_ | refine r_dect (by omega) ?_ | refine r_decf (by omega) ?_ | refine r_eqt (by omega) ?_ | refine r_eqf (by omega) ?_ | refine r_net (by omega) ?_ | refine r_nef (by omega) ?_ | refine r_u8 (by omega) ?_ | refine r_u64 (by omega) ?_ | refine r_i32 (by omega) ?_ | refine r_u32 (by omega) ?_ | refine r_rem (by omega) ?_ | refine r_quo (by omega) ?_ | refine r_ldb (by assumption) (by rfl) ?_ | refine r_ldbE (by assumption) (by rfl) ?_))); (conv => whnf)
  refine ⟨b, rfl, hx1, hb1, ⟨none, 0, 0, 0, [], []⟩, hblk1, rfl, Nat.le_refl _, Nat.zero_le _, by simp only [Int.toNat_natCast]; omega, fun h => absurd h (by simp), fun _ => rfl, by simp [encs], by simp [encs], by simp, rfl, rfl, rfl⟩
theorem New_no (w : World) (room : Int) (hr : ¬ (0 ≤ room ∧ room ≤ 1048576)) : Cal Try.prog 62 ⟨[.int .i64 room]⟩ w fun v w' => w' = w ∧ v = .pointer none := by
  refine go62 (by rfl) ?_
  by_cases h0 : room < 0
  · (repeat ((conv => whnf); (first | with_reducible refine r_tt ?_ | with_reducible refine r_ff ?_ | with_reducible refine r_ntt ?_ | with_reducible refine r_nff ?_ | refine r_need (by omega) ?_ | refine r_i64 (by omega) ?_ | refine r_dect (by omega) ?_ | refine r_decf (by omega) ?_ | refine r_eqt (by omega) ?_ | refine r_eqf (by omega) ?_ | refine r_net (by omega) ?_ | refine r_nef (by omega) ?_ | refine r_u8 (by omega) ?_ | refine r_u64 (by omega) ?_ | refine r_i32 (by omega) ?_ | refine r_u32 (by omega) ?_ | refine r_rem (by omega) ?_ | refine r_quo (by omega) ?_ | refine r_ldb (by assumption) (by rfl) ?_ | refine r_ldbE (by assumption) (by rfl) ?_))); (conv => whnf)
    exact ⟨rfl, rfl⟩
  · (repeat ((conv => whnf); (first | with_reducible refine r_tt ?_ | with_reducible refine r_ff ?_ | with_reducible refine r_ntt ?_ | with_reducible refine r_nff ?_ | refine r_need (by omega) ?_ | refine r_i64 (by omega) ?_ | refine r_dect (by omega) ?_ | refine r_decf (by omega) ?_ | refine r_eqt (by omega) ?_ | refine r_eqf (by omega) ?_ | refine r_net (by omega) ?_ | refine r_nef (by omega) ?_ | refine r_u8 (by omega) ?_ | refine r_u64 (by omega) ?_ | refine r_i32 (by omega) ?_ | refine r_u32 (by omega) ?_ | refine r_rem (by omega) ?_ | refine r_quo (by omega) ?_ | refine r_ldb (by assumption) (by rfl) ?_ | refine r_ldbE (by assumption) (by rfl) ?_))); (conv => whnf)
    exact ⟨rfl, rfl⟩
theorem Len_ok {w : World} {b : Nat} {g : Option Nat} {L : List Pl} {fr room : Nat} (h : RG w b g L fr room) : Cal Try.prog 72 ⟨[.pointer (some ⟨b, 0, none⟩)]⟩ w fun v w' => w' = w ∧ v = .int .i64 (L.length : Int) := by
  obtain ⟨r, h⟩ := h
  have hblk := rcBlk h
  refine go72 (by rfl) ?_
  (repeat ((conv => whnf); (first | with_reducible refine r_tt ?_ | with_reducible refine r_ff ?_ | with_reducible refine r_ntt ?_ | with_reducible refine r_nff ?_ | refine r_need (by omega) ?_ | refine r_i64 (by omega) ?_ | refine r_dect (by omega) ?_ | refine r_decf (by omega) ?_ | refine r_eqt (by omega) ?_ | refine r_eqf (by omega) ?_ | refine r_net (by omega) ?_ | refine r_nef (by omega) ?_ | refine r_u8 (by omega) ?_ | refine r_u64 (by omega) ?_ | refine r_i32 (by omega) ?_ | refine r_u32 (by omega) ?_ | refine r_rem (by omega) ?_ | refine r_quo (by omega) ?_ | refine r_ldb (by assumption) (by rfl) ?_ | refine r_ldbE (by assumption) (by rfl) ?_))); (conv => whnf)
  exact ⟨rfl, rfl⟩
theorem Len_nil (w : World) : Cal Try.prog 72 ⟨[.pointer none]⟩ w fun v w' => w' = w ∧ v = .int .i64 0 := by
  refine go72 (by rfl) ?_
  (repeat ((conv => whnf); (first | with_reducible refine r_tt ?_ | with_reducible refine r_ff ?_ | with_reducible refine r_ntt ?_ | with_reducible refine r_nff ?_ | refine r_need (by omega) ?_ | refine r_i64 (by omega) ?_ | refine r_dect (by omega) ?_ | refine r_decf (by omega) ?_ | refine r_eqt (by omega) ?_ | refine r_eqf (by omega) ?_ | refine r_net (by omega) ?_ | refine r_nef (by omega) ?_ | refine r_u8 (by omega) ?_ | refine r_u64 (by omega) ?_ | refine r_i32 (by omega) ?_ | refine r_u32 (by omega) ?_ | refine r_rem (by omega) ?_ | refine r_quo (by omega) ?_ | refine r_ldb (by assumption) (by rfl) ?_ | refine r_ldbE (by assumption) (by rfl) ?_))); (conv => whnf)
  exact ⟨rfl, rfl⟩
theorem place_raw {w : World} {b : Nat} {a : Option Addr} {len cap head : Nat} {n fr room : Int} (hblk : Blk w b 126 [.slice a len cap, .int .i64 (head : Int), .int .i64 n, .int .i64 fr, .int .i64 room]) (i : Nat) (hi : i ≤ 2000000) (hpos : 0 < len) (hhead : head < len) (hlen : len ≤ 1048576) :
    Cal Try.prog 91 ⟨[.pointer (some ⟨b, 0, none⟩), .int .i64 (i : Int)]⟩ w fun v w' => Ext w w' ∧ w'.heap = w.heap ∧ v = .int .i64 (((head + i) % len : Nat) : Int) := by
  refine go91 (by rfl) ?_
  (repeat ((conv => whnf); (first | with_reducible refine r_tt ?_ | with_reducible refine r_ff ?_ | with_reducible refine r_ntt ?_ | with_reducible refine r_nff ?_ | refine r_need (by omega) ?_ | refine r_i64 (by omega) ?_ | refine r_dect (by omega) ?_ | refine r_decf (by omega) ?_ | refine r_eqt (by omega) ?_ | refine r_eqf (by omega) ?_ | refine r_net (by omega) ?_ | refine r_nef (by omega) ?_ | refine r_u8 (by omega) ?_ | refine r_u64 (by omega) ?_ | refine r_i32 (by omega) ?_ | refine r_u32 (by omega) ?_ | refine r_rem (by omega) ?_ | refine r_quo (by omega) ?_ | refine r_ldb (by assumption) (by rfl) ?_ | refine r_ldbE (by assumption) (by rfl) ?_))); (conv => whnf)
  refine r_drawE fun w1 hx1 hh1 => ?_
  (repeat ((conv => whnf); (first | with_reducible refine r_tt ?_ | with_reducible refine r_ff ?_ | with_reducible refine r_ntt ?_ | with_reducible refine r_nff ?_ | refine r_need (by omega) ?_ | refine r_i64 (by omega) ?_ | refine r_dect (by omega) ?_ | refine r_decf (by omega) ?_ | refine r_eqt (by omega) ?_ | refine r_eqf (by omega) ?_ | refine r_net (by omega) ?_ | refine r_nef (by omega) ?_ | refine r_u8 (by omega) ?_ | refine r_u64 (by omega) ?_ | refine r_i32 (by omega) ?_ | refine r_u32 (by omega) ?_ | refine r_rem (by omega) ?_ | refine r_quo (by omega) ?_ | refine r_ldb (by assumption) (by rfl) ?_ | refine r_ldbE (by assumption) (by rfl) ?_))); (conv => whnf)
  refine ⟨hx1, hh1, ?_⟩
  congr 1
theorem place_ok {w : World} {b : Nat} {g : Option Nat} {L : List Pl} {fr room : Nat} {r : RC} (h : RA w b g L fr room r) (i : Nat) (hi : i ≤ 2000000) (hpos : 0 < r.len) :
    Cal Try.prog 91 ⟨[.pointer (some ⟨b, 0, none⟩), .int .i64 (i : Int)]⟩ w fun v w' => Ext w w' ∧ w'.heap = w.heap ∧ v = .int .i64 (((r.head + i) % r.len : Nat) : Int) :=
  place_raw (rcBlk h) i hi hpos (h.head hpos) (by have := h.fits; have := h.most; omega)
theorem grow_ok {w : World} {b : Nat} {g : Option Nat} {L : List Pl} {fr room : Nat} {r : RC} (h : RA w b g L fr room r) (hfull : L.length = r.len) (hroom : L.length < room) :
    Cal Try.prog 92 ⟨[.pointer (some ⟨b, 0, none⟩)]⟩ w fun _ w' => ∃ x r', RA w' b (some x) L fr room r' ∧ L.length < r'.len ∧ w.heap.size ≤ x ∧ Chg (fun k => k = b) w w' := by
  have hblk := rcBlk h
  have hbl := hblk.lt
  have h2 := h.fits
  have h3 := h.most
  have hm : ∃ m : Nat, min (room : Int) (max 8 (2 * (r.len : Int))) = m ∧ r.len < m ∧ m ≤ room := ⟨min room (max 8 (2 * r.len)), by omega, by omega, by omega⟩
  obtain ⟨m, hm, hlm, hmr⟩ := hm
  refine go92 (by rfl) ?_
  (repeat ((conv => whnf); (first | with_reducible refine r_tt ?_ | with_reducible refine r_ff ?_ | with_reducible refine r_ntt ?_ | with_reducible refine r_nff ?_ | refine r_need (by omega) ?_ | refine r_i64 (by omega) ?_ | refine r_dect (by omega) ?_ | refine r_decf (by omega) ?_ | refine r_eqt (by omega) ?_ | refine r_eqf (by omega) ?_ | refine r_net (by omega) ?_ | refine r_nef (by omega) ?_ | refine r_u8 (by omega) ?_ | refine r_u64 (by omega) ?_ | refine r_i32 (by omega) ?_ | refine r_u32 (by omega) ?_ | refine r_rem (by omega) ?_ | refine r_quo (by omega) ?_ | refine r_ldb (by assumption) (by rfl) ?_ | refine r_ldbE (by assumption) (by rfl) ?_))); (conv => whnf)
  refine r_drawE fun w1 hx1 hh1 => ?_
  (repeat ((conv => whnf); (first | with_reducible refine r_tt ?_ | with_reducible refine r_ff ?_ | with_reducible refine r_ntt ?_ | with_reducible refine r_nff ?_ | refine r_need (by omega) ?_ | refine r_i64 (by omega) ?_ | refine r_dect (by omega) ?_ | refine r_decf (by omega) ?_ | refine r_eqt (by omega) ?_ | refine r_eqf (by omega) ?_ | refine r_net (by omega) ?_ | refine r_nef (by omega) ?_ | refine r_u8 (by omega) ?_ | refine r_u64 (by omega) ?_ | refine r_i32 (by omega) ?_ | refine r_u32 (by omega) ?_ | refine r_rem (by omega) ?_ | refine r_quo (by omega) ?_ | refine r_ldb (by assumption) (by rfl) ?_ | refine r_ldbE (by assumption) (by rfl) ?_))); (conv => whnf)
  simp only [cond_true, cond_false, hm]
  refine r_make mk (by omega) fun x w2 hx2 hb2 hs2 hblk2 => ?_
  simp only [Int.toNat_natCast] at hblk2 ⊢
  have hx02 := hx1.trans hx2
  have hxw : w.heap.size ≤ x := by have := hx1.size; omega
  (repeat ((conv => whnf); (first | with_reducible refine r_tt ?_ | with_reducible refine r_ff ?_ | with_reducible refine r_ntt ?_ | with_reducible refine r_nff ?_ | refine r_need (by omega) ?_ | refine r_i64 (by omega) ?_ | refine r_dect (by omega) ?_ | refine r_decf (by omega) ?_ | refine r_eqt (by omega) ?_ | refine r_eqf (by omega) ?_ | refine r_net (by omega) ?_ | refine r_nef (by omega) ?_ | refine r_u8 (by omega) ?_ | refine r_u64 (by omega) ?_ | refine r_i32 (by omega) ?_ | refine r_u32 (by omega) ?_ | refine r_rem (by omega) ?_ | refine r_quo (by omega) ?_ | refine r_ldb (by assumption) (by rfl) ?_ | refine r_ldbE (by assumption) (by rfl) ?_))); (conv => whnf)
  refine r_held hx02 ?_
  (repeat ((conv => whnf); (first | with_reducible refine r_tt ?_ | with_reducible refine r_ff ?_ | with_reducible refine r_ntt ?_ | with_reducible refine r_nff ?_ | refine r_need (by omega) ?_ | refine r_i64 (by omega) ?_ | refine r_dect (by omega) ?_ | refine r_decf (by omega) ?_ | refine r_eqt (by omega) ?_ | refine r_eqf (by omega) ?_ | refine r_net (by omega) ?_ | refine r_nef (by omega) ?_ | refine r_u8 (by omega) ?_ | refine r_u64 (by omega) ?_ | refine r_i32 (by omega) ?_ | refine r_u32 (by omega) ?_ | refine r_rem (by omega) ?_ | refine r_quo (by omega) ?_ | refine r_ldb (by assumption) (by rfl) ?_ | refine r_ldbE (by assumption) (by rfl) ?_))); (conv => whnf)
  have hb2' := hblk.ext hx02
  have hxb : ¬ b = x := by omega
  refine r_drawS (fun k => k = x) fun w3 hx3 hh3 => ?_
  have hx03 := hx02.trans hx3
  have hvw := h.view.ext hx03
  have hhead : r.head ≤ r.len := by
    rcases Nat.eq_zero_or_pos r.len with h0 | h0
    · have := h.zero h0; omega
    · have := h.head h0; omega
  have hvs := hvw.sub r.head r.len hhead (Nat.le_refl _)
  have hle1 := hvw.le
  have hmin : Nat.min (r.len - r.head) m = r.len - r.head := Nat.min_eq_left (by omega)
  have hcl := h.len
  (repeat ((conv => whnf); (first | refine r_ldbS hb2' (by rfl) hxb ?_ | with_reducible refine r_tt ?_ | with_reducible refine r_ff ?_ | with_reducible refine r_ntt ?_ | with_reducible refine r_nff ?_ | refine r_need (by omega) ?_ | refine r_i64 (by omega) ?_ | refine r_dect (by omega) ?_ | refine r_decf (by omega) ?_ | refine r_eqt (by omega) ?_ | refine r_eqf (by omega) ?_ | refine r_net (by omega) ?_ | refine r_nef (by omega) ?_ | refine r_u8 (by omega) ?_ | refine r_u64 (by omega) ?_ | refine r_i32 (by omega) ?_ | refine r_u32 (by omega) ?_ | refine r_rem (by omega) ?_ | refine r_quo (by omega) ?_ | refine r_ldb (by assumption) (by rfl) ?_ | refine r_ldbE (by assumption) (by rfl) ?_))); (conv => whnf)
  rw [Int.toNat_natCast]
  refine r_copy (size := 2) (t := 103) sls (hblk2.ext hx3) hvs (by rw [flat_rep_len, hmin]; simp only [List.length_cons, List.length_nil]; omega) (fun v hv => h.one v (List.mem_of_mem_drop (List.mem_of_mem_take hv))) (by omega) fun w4 hc4 hs4 hblk4 => ?_
  rw [hmin] at hblk4 ⊢
  simp only [Nat.zero_add, List.take_zero, List.nil_append] at hblk4
  have hc34 : Chg (fun k => k = x) w2 w4 := Chg.trans (hx3.wide _) hc4
  (repeat ((conv => whnf); (first | with_reducible refine r_tt ?_ | with_reducible refine r_ff ?_ | with_reducible refine r_ntt ?_ | with_reducible refine r_nff ?_ | refine r_need (by omega) ?_ | refine r_i64 (by omega) ?_ | refine r_dect (by omega) ?_ | refine r_decf (by omega) ?_ | refine r_eqt (by omega) ?_ | refine r_eqf (by omega) ?_ | refine r_net (by omega) ?_ | refine r_nef (by omega) ?_ | refine r_u8 (by omega) ?_ | refine r_u64 (by omega) ?_ | refine r_i32 (by omega) ?_ | refine r_u32 (by omega) ?_ | refine r_rem (by omega) ?_ | refine r_quo (by omega) ?_ | refine r_ldb (by assumption) (by rfl) ?_ | refine r_ldbE (by assumption) (by rfl) ?_))); (conv => whnf)
  refine r_held hc34 ?_
  (repeat ((conv => whnf); (first | with_reducible refine r_tt ?_ | with_reducible refine r_ff ?_ | with_reducible refine r_ntt ?_ | with_reducible refine r_nff ?_ | refine r_need (by omega) ?_ | refine r_i64 (by omega) ?_ | refine r_dect (by omega) ?_ | refine r_decf (by omega) ?_ | refine r_eqt (by omega) ?_ | refine r_eqf (by omega) ?_ | refine r_net (by omega) ?_ | refine r_nef (by omega) ?_ | refine r_u8 (by omega) ?_ | refine r_u64 (by omega) ?_ | refine r_i32 (by omega) ?_ | refine r_u32 (by omega) ?_ | refine r_rem (by omega) ?_ | refine r_quo (by omega) ?_ | refine r_ldb (by assumption) (by rfl) ?_ | refine r_ldbE (by assumption) (by rfl) ?_))); (conv => whnf)
  have hb4 := hb2'.keep hc34 hxb
  refine r_drawS (fun k => k = x) fun w5 hx5 hh5 => ?_
  (repeat ((conv => whnf); (first | refine r_ldbS hb4 (by rfl) hxb ?_ | with_reducible refine r_tt ?_ | with_reducible refine r_ff ?_ | with_reducible refine r_ntt ?_ | with_reducible refine r_nff ?_ | refine r_need (by omega) ?_ | refine r_i64 (by omega) ?_ | refine r_dect (by omega) ?_ | refine r_decf (by omega) ?_ | refine r_eqt (by omega) ?_ | refine r_eqf (by omega) ?_ | refine r_net (by omega) ?_ | refine r_nef (by omega) ?_ | refine r_u8 (by omega) ?_ | refine r_u64 (by omega) ?_ | refine r_i32 (by omega) ?_ | refine r_u32 (by omega) ?_ | refine r_rem (by omega) ?_ | refine r_quo (by omega) ?_ | refine r_ldb (by assumption) (by rfl) ?_ | refine r_ldbE (by assumption) (by rfl) ?_))); (conv => whnf)
  rw [show slcA (some ⟨x, 0, none⟩) m ((r.len - r.head : Nat) : Int).toNat 2 = some ⟨x, (r.len - r.head) * 2, none⟩ by
    unfold slcA
    rw [Int.toNat_natCast, if_neg (by omega), Option.map_some, Addr.add_plain, Nat.zero_add]]
  have hx04 : Chg (fun k => k = x) w w4 := Chg.step (hx02.wide _) hc34 fun k hk _ => hk
  have hvt : View w5 r.a r.head r.cap 2 (r.C.take (r.head * 2)) := by
    have h5 : Chg (fun k => k = x) w w5 := hx04.ext hx5
    have hvv := h.view.keepN h5 fun hp e => by have := h.view.lt hp; omega
    refine ⟨by rw [List.length_take, hcl]; omega, by omega, hvv.max, fun hp => hvv.plain (by rw [List.length_take] at hp; omega), fun i u hu => hvv.cell i u ?_⟩
    rw [List.getElem?_take] at hu
    split at hu
    · exact hu
    · cases hu
  rw [Int.toNat_natCast, Int.toNat_natCast]
  have hmin2 : Nat.min r.head (m - (r.len - r.head)) = r.head := Nat.min_eq_left (by omega)
  have hfl : ∀ j, ((List.replicate m [Value.int .i64 0, Value.int .i64 0]).flatten.drop j).length = m * 2 - j := fun j => by rw [List.length_drop, flat_rep_len]; rfl
  have hcur : List.take ((r.len - r.head) * 2) (List.take ((r.len - r.head) * 2) (List.drop (r.head * 2) r.C)) ++ List.drop ((r.len - r.head) * 2) (List.replicate m [Value.int .i64 0, Value.int .i64 0]).flatten = r.C.drop (r.head * 2) ++ (List.replicate m [Value.int .i64 0, Value.int .i64 0]).flatten.drop ((r.len - r.head) * 2) := by
    rw [List.take_take, Nat.min_self, List.take_of_length_le (l := List.drop (r.head * 2) r.C) (by rw [List.length_drop]; omega)]
  rw [hcur] at hblk4
  have hdl : (r.C.drop (r.head * 2)).length = (r.len - r.head) * 2 := by rw [List.length_drop]; omega
  refine r_copy (size := 2) (t := 103) sls (hblk4.ext hx5) hvt (by rw [hmin2, List.length_append, hdl, hfl]; omega) (fun v hv => h.one v (List.mem_of_mem_take hv)) (by omega) fun w6 hc6 hs6 hblk6 => ?_
  rw [hmin2] at hblk6
  have hc46 : Chg (fun k => k = x) w4 w6 := Chg.trans (hx5.wide _) hc6
  (repeat ((conv => whnf); (first | with_reducible refine r_tt ?_ | with_reducible refine r_ff ?_ | with_reducible refine r_ntt ?_ | with_reducible refine r_nff ?_ | refine r_need (by omega) ?_ | refine r_i64 (by omega) ?_ | refine r_dect (by omega) ?_ | refine r_decf (by omega) ?_ | refine r_eqt (by omega) ?_ | refine r_eqf (by omega) ?_ | refine r_net (by omega) ?_ | refine r_nef (by omega) ?_ | refine r_u8 (by omega) ?_ | refine r_u64 (by omega) ?_ | refine r_i32 (by omega) ?_ | refine r_u32 (by omega) ?_ | refine r_rem (by omega) ?_ | refine r_quo (by omega) ?_ | refine r_ldb (by assumption) (by rfl) ?_ | refine r_ldbE (by assumption) (by rfl) ?_))); (conv => whnf)
  refine r_held hc46 ?_
  (repeat ((conv => whnf); (first | with_reducible refine r_tt ?_ | with_reducible refine r_ff ?_ | with_reducible refine r_ntt ?_ | with_reducible refine r_nff ?_ | refine r_need (by omega) ?_ | refine r_i64 (by omega) ?_ | refine r_dect (by omega) ?_ | refine r_decf (by omega) ?_ | refine r_eqt (by omega) ?_ | refine r_eqf (by omega) ?_ | refine r_net (by omega) ?_ | refine r_nef (by omega) ?_ | refine r_u8 (by omega) ?_ | refine r_u64 (by omega) ?_ | refine r_i32 (by omega) ?_ | refine r_u32 (by omega) ?_ | refine r_rem (by omega) ?_ | refine r_quo (by omega) ?_ | refine r_ldb (by assumption) (by rfl) ?_ | refine r_ldbE (by assumption) (by rfl) ?_))); (conv => whnf)
  have hb6 := hb4.keep hc46 hxb
  refine r_st hb6 (by simp) (by rfl) fun w7 hc7 hs7 hb7 => ?_
  (repeat ((conv => whnf); (first | with_reducible refine r_tt ?_ | with_reducible refine r_ff ?_ | with_reducible refine r_ntt ?_ | with_reducible refine r_nff ?_ | refine r_need (by omega) ?_ | refine r_i64 (by omega) ?_ | refine r_dect (by omega) ?_ | refine r_decf (by omega) ?_ | refine r_eqt (by omega) ?_ | refine r_eqf (by omega) ?_ | refine r_net (by omega) ?_ | refine r_nef (by omega) ?_ | refine r_u8 (by omega) ?_ | refine r_u64 (by omega) ?_ | refine r_i32 (by omega) ?_ | refine r_u32 (by omega) ?_ | refine r_rem (by omega) ?_ | refine r_quo (by omega) ?_ | refine r_ldb (by assumption) (by rfl) ?_ | refine r_ldbE (by assumption) (by rfl) ?_))); (conv => whnf)
  refine r_st hb7 (by simp) (by rfl) fun w8 hc8 hs8 hb8 => ?_
  have hc68 : Chg (fun k => k = b) w6 w8 := Chg.trans hc7 hc8
  have hblk8 := hblk6.keep hc68 (fun e => hxb e.symm)
  have hfin : (List.take ((r.len - r.head) * 2) (List.drop (r.head * 2) r.C ++ List.drop ((r.len - r.head) * 2) (List.replicate m [Value.int .i64 0, Value.int .i64 0]).flatten) ++ List.take (r.head * 2) (List.take (r.head * 2) r.C) ++ List.drop ((r.len - r.head) * 2 + r.head * 2) (List.drop (r.head * 2) r.C ++ List.drop ((r.len - r.head) * 2) (List.replicate m [Value.int .i64 0, Value.int .i64 0]).flatten))
      = r.C.drop (r.head * 2) ++ r.C.take (r.head * 2) ++ (List.replicate m [Value.int .i64 0, Value.int .i64 0]).flatten.drop (r.len * 2) := by
    rw [List.take_append_of_le_length (by omega), List.take_of_length_le (l := List.drop (r.head * 2) r.C) (by omega), List.take_take, Nat.min_self]
    congr 1
    rw [List.drop_append, hdl, List.drop_of_length_le (by omega), List.nil_append, List.drop_drop]
    congr 1
    omega
  (repeat ((conv => whnf); (first | with_reducible refine r_tt ?_ | with_reducible refine r_ff ?_ | with_reducible refine r_ntt ?_ | with_reducible refine r_nff ?_ | refine r_need (by omega) ?_ | refine r_i64 (by omega) ?_ | refine r_dect (by omega) ?_ | refine r_decf (by omega) ?_ | refine r_eqt (by omega) ?_ | refine r_eqf (by omega) ?_ | refine r_net (by omega) ?_ | refine r_nef (by omega) ?_ | refine r_u8 (by omega) ?_ | refine r_u64 (by omega) ?_ | refine r_i32 (by omega) ?_ | refine r_u32 (by omega) ?_ | refine r_rem (by omega) ?_ | refine r_quo (by omega) ?_ | refine r_ldb (by assumption) (by rfl) ?_ | refine r_ldbE (by assumption) (by rfl) ?_))); (conv => whnf)
  rw [hfin] at hblk8
  refine ⟨x, ⟨some ⟨x, 0, none⟩, m, m, 0, r.C.drop (r.head * 2) ++ r.C.take (r.head * 2) ++ (List.replicate m [Value.int .i64 0, Value.int .i64 0]).flatten.drop (r.len * 2), []⟩, ⟨?_, ?_, ?_, hmr, h.most, fun _ => by dsimp only; omega, fun _ => rfl, fun i e hi => ?_, h.elem, fun v hv => ?_, rfl, Nat.le_refl _, by dsimp only; unfold maxLen; omega, by simpa using hblk8, fun e => hxb e.symm, by dsimp only; omega⟩, by dsimp only; omega, hxw, ?_⟩
  · rw [encs_len]; exact hb8
  · simp only [List.length_append, List.length_drop, List.length_take, hcl, flat_rep_len]
    simp
    omega
  · rw [encs_len]; dsimp only; omega
  · have hil : i < r.len := by have := (List.getElem?_eq_some_iff.1 hi).1; rw [encs_len] at this; omega
    dsimp only
    rw [Nat.zero_add, Nat.mod_eq_of_lt (by omega)]
    exact grow_seg h _ (by rw [encs_len]; exact hfull) m (by omega) (by rw [hfl]; omega) i e hi
  · simp only [List.mem_append] at hv
    rcases hv with (hv | hv) | hv
    · exact h.one v (List.mem_of_mem_drop hv)
    · exact h.one v (List.mem_of_mem_take hv)
    · have := List.mem_of_mem_drop hv
      rw [List.mem_flatten] at this
      obtain ⟨l, hl, hv⟩ := this
      rw [List.mem_replicate] at hl
      rw [hl.2] at hv
      simp at hv
      subst hv
      rfl
  · exact Chg.step (Chg.step (Chg.step (hx02.wide _) hc34 (fun k hk hlt => by omega)) hc46 (fun k hk hlt => by omega)) hc68 fun k hk _ => hk


end Fb.Try.RW
