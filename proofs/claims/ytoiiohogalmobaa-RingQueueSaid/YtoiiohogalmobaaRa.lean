/-
  Walks: rings of numbers.
-/
import Derived.Test.YtoiiohogalmobaaS
import Derived.Test.YtoiiohogalmobaaRp
namespace Fb.Try.RI
open Go Go.Proofs Fb

def enc (z : Int) : List Value := [.int .i32 z]
def encs (L : List Int) : List (List Value) := L.map enc
abbrev RG (w : World) (b : Nat) (g : Option Nat) (L : List Int) (fr room : Nat) : Prop := RingP 89 21 1 w b g (encs L) fr room
abbrev RA (w : World) (b : Nat) (g : Option Nat) (L : List Int) (fr room : Nat) (r : RC) : Prop := RingAt 89 21 1 w b g (encs L) fr room r
theorem encs_len (L : List Int) : (encs L).length = L.length := by simp [encs]
theorem enc_ok (z : Int) : (enc z).length = 1 ∧ ∀ v ∈ enc z, v.oneCell' = true := ⟨rfl, by intro v hv; simp [enc] at hv; subst hv; rfl⟩
theorem encs_ok (L : List Int) : ∀ e ∈ encs L, e.length = 1 ∧ ∀ v ∈ e, v.oneCell' = true := by
  intro e he
  obtain ⟨z, _, rfl⟩ := List.mem_map.1 he
  exact enc_ok z
theorem encs_get {L : List Int} {i : Nat} {z : Int} (h : L[i]? = some z) : (encs L)[i]? = some (enc z) := by simp [encs, h]
theorem encs_get' {L : List Int} {i : Nat} {e : List Value} (h : (encs L)[i]? = some e) : ∃ z, L[i]? = some z ∧ e = enc z := by
  simp only [encs, List.getElem?_map, Option.map_eq_some_iff] at h
  obtain ⟨z, h1, h2⟩ := h
  exact ⟨z, h1, h2.symm⟩
theorem rcBlk {w : World} {b : Nat} {g : Option Nat} {L : List Int} {fr room : Nat} {r : RC} (h : RA w b g L fr room r) :
    Blk w b 89 [.slice r.a r.len r.cap, .int .i64 (r.head : Int), .int .i64 (L.length : Int), .int .i64 (fr : Int), .int .i64 (room : Int)] := by
  have := h.blk
  rw [encs_len] at this
  exact this
theorem seg1 {C : List Value} {p : Nat} {z : Int} (h : seg C 1 p = enc z) : C[p]? = some (.int .i32 z) := by
  have := seg_getElem? C 1 p 0 (by omega)
  rw [h] at this
  simpa [enc] using this.symm

theorem mk : MakeE Try.prog 35 21 1 4 [.int .i32 0] := MakeE.of (by kernel_rfl)
theorem sls : SlSize Try.prog 35 1 := SlSize.of (by kernel_rfl)
theorem el : Elem Try.prog 35 21 1 4 := Elem.of (by kernel_rfl)
theorem New_ok (w : World) (room : Int) (hr : 0 ≤ room ∧ room ≤ 1048576) : Cal Try.prog 19 ⟨[.int .i64 room]⟩ w fun v w' => ∃ b, v = .pointer (some ⟨b, 0, none⟩) ∧ Ext w w' ∧ w.heap.size ≤ b ∧ RG w' b none [] 0 room.toNat := by
  refine go19 (by rfl) ?_
  obtain ⟨m, rfl⟩ : ∃ m : Nat, room = m := ⟨room.toNat, by omega⟩
  (repeat ((conv => whnf); (first | with_reducible refine r_tt ?_ | with_reducible refine r_ff ?_ | with_reducible refine r_ntt ?_ | with_reducible refine r_nff ?_ | refine r_need (by omega) ?_ | refine r_i64 (by omega) ?_ | refine r_dect (by omega) ?_ | refine r_decf (by omega) ?_ | refine r_eqt (by omega) ?_ | refine r_eqf (by omega) ?_ | refine r_net (by omega) ?_ | refine r_nef (by omega) ?_ | refine r_u8 (by omega) ?_ | refine r_u64 (by omega) ?_ | refine r_i32 (by omega) ?_ | refine r_u32 (by omega) ?_ | refine r_rem (by omega) ?_ | refine r_quo (by omega) ?_ | refine r_ldb (by assumption) (by rfl) ?_ | refine r_ldbE (by assumption) (by rfl) ?_))); (conv => whnf)
  refine r_new fun b w1 hx1 hb1 hs1 hblk1 => ?_
  (repeat ((conv => whnf); (first | with_reducible refine r_tt ?_ | with_reducible refine r_ff ?_ | with_reducible refine r_ntt ?_ | with_reducible refine r_nff ?_ | refine r_need (by omega) ?_ | refine r_i64 (by omega) ?_ | refine r_dect (by omega) ?_ | refine r_decf (by omega) ?_ | refine r_eqt (by omega) ?_ | refine r_eqf (by omega) ?_ | refine r_net (by omega) ?_ | refine r_nef (by omega) ?_ | refine r_u8 (by omega) ?_ | refine r_u64 (by omega) ?_ | refine r_i32 (by omega) ?_ | refine r_u32 (by omega) ?_ | refine r_rem (by omega) ?_ | refine r_quo (by omega) ?_ | refine r_ldb (by assumption) (by rfl) ?_ | refine r_ldbE (by assumption) (by rfl) ?_))); (conv => whnf)
  refine ⟨b, rfl, hx1, hb1, ⟨none, 0, 0, 0, [], []⟩, hblk1, rfl, Nat.le_refl _, Nat.zero_le _, by simp only [Int.toNat_natCast]; omega, fun h => absurd h (by simp), fun _ => rfl, by simp [encs], by simp [encs], by simp, rfl, rfl, rfl⟩
theorem New_no (w : World) (room : Int) (hr : ¬ (0 ≤ room ∧ room ≤ 1048576)) : Cal Try.prog 19 ⟨[.int .i64 room]⟩ w fun v w' => w' = w ∧ v = .pointer none := by
  refine go19 (by rfl) ?_
  by_cases h0 : room < 0
  · (repeat ((conv => whnf); (first | with_reducible refine r_tt ?_ | with_reducible refine r_ff ?_ | with_reducible refine r_ntt ?_ | with_reducible refine r_nff ?_ | refine r_need (by omega) ?_ | refine r_i64 (by omega) ?_ | refine r_dect (by omega) ?_ | refine r_decf (by omega) ?_ | refine r_eqt (by omega) ?_ | refine r_eqf (by omega) ?_ | refine r_net (by omega) ?_ | refine r_nef (by omega) ?_ | refine r_u8 (by omega) ?_ | refine r_u64 (by omega) ?_ | refine r_i32 (by omega) ?_ | refine r_u32 (by omega) ?_ | refine r_rem (by omega) ?_ | refine r_quo (by omega) ?_ | refine r_ldb (by assumption) (by rfl) ?_ | refine r_ldbE (by assumption) (by rfl) ?_))); (conv => whnf)
    exact ⟨rfl, rfl⟩
  · (repeat ((conv => whnf); (first | with_reducible refine r_tt ?_ | with_reducible refine r_ff ?_ | with_reducible refine r_ntt ?_ | with_reducible refine r_nff ?_ | refine r_need (by omega) ?_ | refine r_i64 (by omega) ?_ | refine r_dect (by omega) ?_ | refine r_decf (by omega) ?_ | refine r_eqt (by omega) ?_ | refine r_eqf (by omega) ?_ | refine r_net (by omega) ?_ | refine r_nef (by omega) ?_ | refine r_u8 (by omega) ?_ | refine r_u64 (by omega) ?_ | refine r_i32 (by omega) ?_ | refine r_u32 (by omega) ?_ | refine r_rem (by omega) ?_ | refine r_quo (by omega) ?_ | refine r_ldb (by assumption) (by rfl) ?_ | refine r_ldbE (by assumption) (by rfl) ?_))); (conv => whnf)
    exact ⟨rfl, rfl⟩
theorem Len_ok {w : World} {b : Nat} {g : Option Nat} {L : List Int} {fr room : Nat} (h : RG w b g L fr room) : Cal Try.prog 24 ⟨[.pointer (some ⟨b, 0, none⟩)]⟩ w fun v w' => w' = w ∧ v = .int .i64 (L.length : Int) := by
  obtain ⟨r, h⟩ := h
  have hblk := rcBlk h
  refine go24 (by rfl) ?_
  (repeat ((conv => whnf); (first | with_reducible refine r_tt ?_ | with_reducible refine r_ff ?_ | with_reducible refine r_ntt ?_ | with_reducible refine r_nff ?_ | refine r_need (by omega) ?_ | refine r_i64 (by omega) ?_ | refine r_dect (by omega) ?_ | refine r_decf (by omega) ?_ | refine r_eqt (by omega) ?_ | refine r_eqf (by omega) ?_ | refine r_net (by omega) ?_ | refine r_nef (by omega) ?_ | refine r_u8 (by omega) ?_ | refine r_u64 (by omega) ?_ | refine r_i32 (by omega) ?_ | refine r_u32 (by omega) ?_ | refine r_rem (by omega) ?_ | refine r_quo (by omega) ?_ | refine r_ldb (by assumption) (by rfl) ?_ | refine r_ldbE (by assumption) (by rfl) ?_))); (conv => whnf)
  exact ⟨rfl, rfl⟩
theorem Len_nil (w : World) : Cal Try.prog 24 ⟨[.pointer none]⟩ w fun v w' => w' = w ∧ v = .int .i64 0 := by
  refine go24 (by rfl) ?_
  (repeat ((conv => whnf); (first | with_reducible refine r_tt ?_ | with_reducible refine r_ff ?_ | with_reducible refine r_ntt ?_ | with_reducible refine r_nff ?_ | refine r_need (by omega) ?_ | refine r_i64 (by omega) ?_ | refine r_dect (by omega) ?_ | refine r_decf (by omega) ?_ | refine r_eqt (by omega) ?_ | refine r_eqf (by omega) ?_ | refine r_net (by omega) ?_ | refine r_nef (by omega) ?_ | refine r_u8 (by omega) ?_ | refine r_u64 (by omega) ?_ | refine r_i32 (by omega) ?_ | refine r_u32 (by omega) ?_ | refine r_rem (by omega) ?_ | refine r_quo (by omega) ?_ | refine r_ldb (by assumption) (by rfl) ?_ | refine r_ldbE (by assumption) (by rfl) ?_))); (conv => whnf)
  exact ⟨rfl, rfl⟩
theorem place_raw {w : World} {b : Nat} {a : Option Addr} {len cap head : Nat} {n fr room : Int} (hblk : Blk w b 89 [.slice a len cap, .int .i64 (head : Int), .int .i64 n, .int .i64 fr, .int .i64 room]) (i : Nat) (hi : i ≤ 2000000) (hpos : 0 < len) (hhead : head < len) (hlen : len ≤ 1048576) :
    Cal Try.prog 58 ⟨[.pointer (some ⟨b, 0, none⟩), .int .i64 (i : Int)]⟩ w fun v w' => Ext w w' ∧ w'.heap = w.heap ∧ v = .int .i64 (((head + i) % len : Nat) : Int) := by
  refine go58 (by rfl) ?_
  (repeat ((conv => whnf); (first | with_reducible refine r_tt ?_ | with_reducible refine r_ff ?_ | with_reducible refine r_ntt ?_ | with_reducible refine r_nff ?_ | refine r_need (by omega) ?_ | refine r_i64 (by omega) ?_ | refine r_dect (by omega) ?_ | refine r_decf (by omega) ?_ | refine r_eqt (by omega) ?_ | refine r_eqf (by omega) ?_ | refine r_net (by omega) ?_ | refine r_nef (by omega) ?_ | refine r_u8 (by omega) ?_ | refine r_u64 (by omega) ?_ | refine r_i32 (by omega) ?_ | refine r_u32 (by omega) ?_ | refine r_rem (by omega) ?_ | refine r_quo (by omega) ?_ | refine r_ldb (by assumption) (by rfl) ?_ | refine r_ldbE (by assumption) (by rfl) ?_))); (conv => whnf)
  refine r_drawE fun w1 hx1 hh1 => ?_
  (repeat ((conv => whnf); (first | with_reducible refine r_tt ?_ | with_reducible refine r_ff ?_ | with_reducible refine r_ntt ?_ | with_reducible refine r_nff ?_ | refine r_need (by omega) ?_ | refine r_i64 (by omega) ?_ | refine r_dect (by omega) ?_ | refine r_decf (by omega) ?_ | refine r_eqt (by omega) ?_ | refine r_eqf (by omega) ?_ | refine r_net (by omega) ?_ | refine r_nef (by omega) ?_ | refine r_u8 (by omega) ?_ | refine r_u64 (by omega) ?_ | refine r_i32 (by omega) ?_ | refine r_u32 (by omega) ?_ | refine r_rem (by omega) ?_ | refine r_quo (by omega) ?_ | refine r_ldb (by assumption) (by rfl) ?_ | refine r_ldbE (by assumption) (by rfl) ?_))); (conv => whnf)
  refine ⟨hx1, hh1, ?_⟩
  congr 1
theorem place_ok {w : World} {b : Nat} {g : Option Nat} {L : List Int} {fr room : Nat} {r : RC} (h : RA w b g L fr room r) (i : Nat) (hi : i ≤ 2000000) (hpos : 0 < r.len) :
    Cal Try.prog 58 ⟨[.pointer (some ⟨b, 0, none⟩), .int .i64 (i : Int)]⟩ w fun v w' => Ext w w' ∧ w'.heap = w.heap ∧ v = .int .i64 (((r.head + i) % r.len : Nat) : Int) :=
  place_raw (rcBlk h) i hi hpos (h.head hpos) (by have := h.fits; have := h.most; omega)
theorem grow_ok {w : World} {b : Nat} {g : Option Nat} {L : List Int} {fr room : Nat} {r : RC} (h : RA w b g L fr room r) (hfull : L.length = r.len) (hroom : L.length < room) :
    Cal Try.prog 61 ⟨[.pointer (some ⟨b, 0, none⟩)]⟩ w fun _ w' => ∃ x r', RA w' b (some x) L fr room r' ∧ L.length < r'.len ∧ w.heap.size ≤ x ∧ Chg (fun k => k = b) w w' := by
  have hblk := rcBlk h
  have hbl := hblk.lt
  have h2 := h.fits
  have h3 := h.most
  have hm : ∃ m : Nat, min (room : Int) (max 8 (2 * (r.len : Int))) = m ∧ r.len < m ∧ m ≤ room := ⟨min room (max 8 (2 * r.len)), by omega, by omega, by omega⟩
  obtain ⟨m, hm, hlm, hmr⟩ := hm
  refine go61 (by rfl) ?_
  (repeat ((conv => whnf); (first | with_reducible refine r_tt ?_ | with_reducible refine r_ff ?_ | with_reducible refine r_ntt ?_ | with_reducible refine r_nff ?_ | refine r_need (by omega) ?_ | refine r_i64 (by omega) ?_ | refine r_dect (by omega) ?_ | refine r_decf (by omega) ?_ | refine r_eqt (by omega) ?_ | refine r_eqf (by omega) ?_ | refine r_net (by omega) ?_ | refine r_nef (by omega) ?_ | refine r_u8 (by omega) ?_ | refine r_u64 (by omega) ?_ | refine r_i32 (by omega) ?_ | refine r_u32 (by omega) ?_ | refine r_rem (by omega) ?_ | refine r_quo (by omega) ?_ | refine r_ldb (by assumption) (by rfl) ?_ | refine r_ldbE (by assumption) (by rfl) ?_))); (conv => whnf)
  refine r_drawE fun w1 hx1 hh1 => ?_
  (repeat ((conv => whnf); (first | with_reducible refine r_tt ?_ | with_reducible refine r_ff ?_ | with_reducible refine r_ntt ?_ | with_reducible refine r_nff ?_ | refine r_need (by omega) ?_ | refine r_i64 (by omega) ?_ | refine r_dect (by omega) ?_ | refine r_decf (by omega) ?_ | refine r_eqt (by omega) ?_ | refine r_eqf (by omega) ?_ | refine r_net (by omega) ?_ | refine r_nef (by omega) ?_ | refine r_u8 (by omega) ?_ | refine r_u64 (by omega) ?_ | refine r_i32 (by omega) ?_ | refine r_u32 (by omega) ?_ | refine r_rem (by omega) ?_ | refine r_quo (by omega) ?_ | refine r_ldb (by assumption) (by rfl) ?_ | refine r_ldbE (by assumption) (by rfl) ?_))); (conv => whnf)
  simp only [cond_true, cond_false, hm]
  refine r_make mk (by omega) fun x w2 hx2 hb2 hs2 hblk2 => ?_
  simp only [Int.toNat_natCast] at hblk2 ⊢
  have hx02 := hx1.trans hx2
  have hxw : w.heap.size ≤ x := by have := hx1.size; omega
  (repeat ((conv => whnf); (first | with_reducible refine r_tt ?_ | with_reducible refine r_ff ?_ | with_reducible refine r_ntt ?_ | with_reducible refine r_nff ?_ | refine r_need (by omega) ?_ | refine r_i64 (by omega) ?_ | refine r_dect (by omega) ?_ | refine r_decf (by omega) ?_ | refine r_eqt (by omega) ?_ | refine r_eqf (by omega) ?_ | refine r_net (by omega) ?_ | refine r_nef (by omega) ?_ | refine r_u8 (by omega) ?_ | refine r_u64 (by omega) ?_ | refine r_i32 (by omega) ?_ | refine r_u32 (by omega) ?_ | refine r_rem (by omega) ?_ | refine r_quo (by omega) ?_ | refine r_ldb (by assumption) (by rfl) ?_ | refine r_ldbE (by assumption) (by rfl) ?_))); (conv => whnf)
  refine r_held hx02 ?_
  (repeat ((conv => whnf); (first | with_reducible refine r_tt ?_ | with_reducible refine r_ff ?_ | with_reducible refine r_ntt ?_ | with_reducible refine r_nff ?_ | refine r_need (by omega) ?_ | refine r_i64 (by omega) ?_ | refine r_dect (by omega) ?_ | refine r_decf (by omega) ?_ | refine r_eqt (by omega) ?_ | refine r_eqf (by omega) ?_ | refine r_net (by omega) ?_ | refine r_nef (by omega) ?_ | refine r_u8 (by omega) ?_ | refine r_u64 (by omega) ?_ | refine r_i32 (by omega) ?_ | refine r_u32 (by omega) ?_ | refine r_rem (by omega) ?_ | refine r_quo (by omega) ?_ | refine r_ldb (by assumption) (by rfl) ?_ | refine r_ldbE (by assumption) (by rfl) ?_))); (conv => whnf)
  have hb2' := hblk.ext hx02
  have hxb : ¬ b = x := by omega
  refine r_drawS (fun k => k = x) fun w3 hx3 hh3 => ?_
  have hx03 := hx02.trans hx3
  have hvw := h.view.ext hx03
  have hhead : r.head ≤ r.len := by
    rcases Nat.eq_zero_or_pos r.len with h0 | h0
    · have := h.zero h0; omega
    · have := h.head h0; omega
  have hvs := hvw.sub r.head r.len hhead (Nat.le_refl _)
  have hle1 := hvw.le
  have hmin : Nat.min (r.len - r.head) m = r.len - r.head := Nat.min_eq_left (by omega)
  have hcl := h.len
  (repeat ((conv => whnf); (first | refine r_ldbS hb2' (by rfl) hxb ?_ | with_reducible refine r_tt ?_ | with_reducible refine r_ff ?_ | with_reducible refine r_ntt ?_ | with_reducible refine r_nff ?_ | refine r_need (by omega) ?_ | refine r_i64 (by omega) ?_ | refine r_dect (by omega) ?_ | refine r_decf (by omega) ?_ | refine r_eqt (by omega) ?_ | refine r_eqf (by omega) ?_ | refine r_net (by omega) ?_ | refine r_nef (by omega) ?_ | refine r_u8 (by omega) ?_ | refine r_u64 (by omega) ?_ | refine r_i32 (by omega) ?_ | refine r_u32 (by omega) ?_ | refine r_rem (by omega) ?_ | refine r_quo (by omega) ?_ | refine r_ldb (by assumption) (by rfl) ?_ | refine r_ldbE (by assumption) (by rfl) ?_))); (conv => whnf)
  rw [Int.toNat_natCast]
  refine r_copy (size := 1) (t := 21) sls (hblk2.ext hx3) hvs (by rw [flat_rep_len, hmin]; simp; omega) (fun v hv => h.one v (List.mem_of_mem_drop (List.mem_of_mem_take hv))) (by omega) fun w4 hc4 hs4 hblk4 => ?_
  rw [hmin] at hblk4 ⊢
  simp only [Nat.mul_one, Nat.zero_add, List.take_zero, List.nil_append] at hblk4
  have hc34 : Chg (fun k => k = x) w2 w4 := Chg.trans (hx3.wide _) hc4
  (repeat ((conv => whnf); (first | with_reducible refine r_tt ?_ | with_reducible refine r_ff ?_ | with_reducible refine r_ntt ?_ | with_reducible refine r_nff ?_ | refine r_need (by omega) ?_ | refine r_i64 (by omega) ?_ | refine r_dect (by omega) ?_ | refine r_decf (by omega) ?_ | refine r_eqt (by omega) ?_ | refine r_eqf (by omega) ?_ | refine r_net (by omega) ?_ | refine r_nef (by omega) ?_ | refine r_u8 (by omega) ?_ | refine r_u64 (by omega) ?_ | refine r_i32 (by omega) ?_ | refine r_u32 (by omega) ?_ | refine r_rem (by omega) ?_ | refine r_quo (by omega) ?_ | refine r_ldb (by assumption) (by rfl) ?_ | refine r_ldbE (by assumption) (by rfl) ?_))); (conv => whnf)
  refine r_held hc34 ?_
  (repeat ((conv => whnf); (first | with_reducible refine r_tt ?_ | with_reducible refine r_ff ?_ | with_reducible refine r_ntt ?_ | with_reducible refine r_nff ?_ | refine r_need (by omega) ?_ | refine r_i64 (by omega) ?_ | refine r_dect (by omega) ?_ | refine r_decf (by omega) ?_ | refine r_eqt (by omega) ?_ | refine r_eqf (by omega) ?_ | refine r_net (by omega) ?_ | refine r_nef (by omega) ?_ | refine r_u8 (by omega) ?_ | refine r_u64 (by omega) ?_ | refine r_i32 (by omega) ?_ | refine r_u32 (by omega) ?_ | refine r_rem (by omega) ?_ | refine r_quo (by omega) ?_ | refine r_ldb (by assumption) (by rfl) ?_ | refine r_ldbE (by assumption) (by rfl) ?_))); (conv => whnf)
  have hb4 := hb2'.keep hc34 hxb
  refine r_drawS (fun k => k = x) fun w5 hx5 hh5 => ?_
  (repeat ((conv => whnf); (first | refine r_ldbS hb4 (by rfl) hxb ?_ | with_reducible refine r_tt ?_ | with_reducible refine r_ff ?_ | with_reducible refine r_ntt ?_ | with_reducible refine r_nff ?_ | refine r_need (by omega) ?_ | refine r_i64 (by omega) ?_ | refine r_dect (by omega) ?_ | refine r_decf (by omega) ?_ | refine r_eqt (by omega) ?_ | refine r_eqf (by omega) ?_ | refine r_net (by omega) ?_ | refine r_nef (by omega) ?_ | refine r_u8 (by omega) ?_ | refine r_u64 (by omega) ?_ | refine r_i32 (by omega) ?_ | refine r_u32 (by omega) ?_ | refine r_rem (by omega) ?_ | refine r_quo (by omega) ?_ | refine r_ldb (by assumption) (by rfl) ?_ | refine r_ldbE (by assumption) (by rfl) ?_))); (conv => whnf)
  rw [show slcA (some ⟨x, 0, none⟩) m ((r.len - r.head : Nat) : Int).toNat 1 = some ⟨x, r.len - r.head, none⟩ by
    unfold slcA
    rw [Int.toNat_natCast, if_neg (by omega), Nat.mul_one, Option.map_some, Addr.add_plain, Nat.zero_add]]
  have hx04 : Chg (fun k => k = x) w w4 := Chg.step (hx02.wide _) hc34 fun k hk _ => hk
  have hvt : View w5 r.a r.head r.cap 1 (r.C.take r.head) := by
    have h5 : Chg (fun k => k = x) w w5 := hx04.ext hx5
    have hvv := h.view.keepN h5 fun hp e => by have := h.view.lt hp; omega
    refine ⟨by rw [List.length_take, hcl]; omega, by omega, hvv.max, fun hp => hvv.plain (by rw [List.length_take] at hp; omega), fun i u hu => hvv.cell i u ?_⟩
    rw [List.getElem?_take] at hu
    split at hu
    · exact hu
    · cases hu
  rw [Int.toNat_natCast, Int.toNat_natCast]
  have hmin2 : Nat.min r.head (m - (r.len - r.head)) = r.head := Nat.min_eq_left (by omega)
  have hfl : ∀ j, ((List.replicate m [Value.int .i32 0]).flatten.drop j).length = m - j := fun j => by rw [List.length_drop, flat_rep_len]; simp
  have hcur : List.take (r.len - r.head) (List.take (r.len - r.head) (List.drop r.head r.C)) ++ List.drop (r.len - r.head) (List.replicate m [Value.int .i32 0]).flatten = r.C.drop r.head ++ (List.replicate m [Value.int .i32 0]).flatten.drop (r.len - r.head) := by
    rw [List.take_take, Nat.min_self, List.take_of_length_le (l := List.drop r.head r.C) (by rw [List.length_drop]; omega)]
  rw [hcur] at hblk4
  have hdl : (r.C.drop r.head).length = r.len - r.head := by rw [List.length_drop]; omega
  refine r_copy (size := 1) (t := 21) sls (hblk4.ext hx5) hvt (by rw [hmin2, List.length_append, hdl, hfl]; omega) (fun v hv => h.one v (List.mem_of_mem_take hv)) (by omega) fun w6 hc6 hs6 hblk6 => ?_
  rw [hmin2] at hblk6
  simp only [Nat.mul_one] at hblk6
  have hc46 : Chg (fun k => k = x) w4 w6 := Chg.trans (hx5.wide _) hc6
  (repeat ((conv => whnf); (first | with_reducible refine r_tt ?_ | with_reducible refine r_ff ?_ | with_reducible refine r_ntt ?_ | with_reducible refine r_nff ?_ | refine r_need (by omega) ?_ | refine r_i64 (by omega) ?_ | refine r_dect (by omega) ?_ | refine r_decf (by omega) ?_ | refine r_eqt (by omega) ?_ | refine r_eqf (by omega) ?_ | refine r_net (by omega) ?_ | refine r_nef (by omega) ?_ | refine r_u8 (by omega) ?_ | refine r_u64 (by omega) ?_ | refine r_i32 (by omega) ?_ | refine r_u32 (by omega) ?_ | refine r_rem (by omega) ?_ | refine r_quo (by omega) ?_ | refine r_ldb (by assumption) (by rfl) ?_ | refine r_ldbE (by assumption) (by rfl) ?_))); (conv => whnf)
  refine r_held hc46 ?_
  (repeat ((conv => whnf); (first | with_reducible refine r_tt ?_ | with_reducible refine r_ff ?_ | with_reducible refine r_ntt ?_ | with_reducible refine r_nff ?_ | refine r_need (by omega) ?_ | refine r_i64 (by omega) ?_ | refine r_dect (by omega) ?_ | refine r_decf (by omega) ?_ | refine r_eqt (by omega) ?_ | refine r_eqf (by omega) ?_ | refine r_net (by omega) ?_ | refine r_nef (by omega) ?_ | refine r_u8 (by omega) ?_ | refine r_u64 (by omega) ?_ | refine r_i32 (by omega) ?_ | refine r_u32 (by omega) ?_ | refine r_rem (by omega) ?_ | refine r_quo (by omega) ?_ | refine r_ldb (by assumption) (by rfl) ?_ | refine r_ldbE (by assumption) (by rfl) ?_))); (conv => whnf)
  have hb6 := hb4.keep hc46 hxb
  refine r_st hb6 (by simp) (by rfl) fun w7 hc7 hs7 hb7 => ?_
  (repeat ((conv => whnf); (first | with_reducible refine r_tt ?_ | with_reducible refine r_ff ?_ | with_reducible refine r_ntt ?_ | with_reducible refine r_nff ?_ | refine r_need (by omega) ?_ | refine r_i64 (by omega) ?_ | refine r_dect (by omega) ?_ | refine r_decf (by omega) ?_ | refine r_eqt (by omega) ?_ | refine r_eqf (by omega) ?_ | refine r_net (by omega) ?_ | refine r_nef (by omega) ?_ | refine r_u8 (by omega) ?_ | refine r_u64 (by omega) ?_ | refine r_i32 (by omega) ?_ | refine r_u32 (by omega) ?_ | refine r_rem (by omega) ?_ | refine r_quo (by omega) ?_ | refine r_ldb (by assumption) (by rfl) ?_ | refine r_ldbE (by assumption) (by rfl) ?_))); (conv => whnf)
  refine r_st hb7 (by simp) (by rfl) fun w8 hc8 hs8 hb8 => ?_
  have hc68 : Chg (fun k => k = b) w6 w8 := Chg.trans hc7 hc8
  have hblk8 := hblk6.keep hc68 (fun e => hxb e.symm)
  have hfin : (List.take (r.len - r.head) (List.drop r.head r.C ++ List.drop (r.len - r.head) (List.replicate m [Value.int .i32 0]).flatten) ++ List.take r.head (List.take r.head r.C) ++ List.drop (r.len - r.head + r.head) (List.drop r.head r.C ++ List.drop (r.len - r.head) (List.replicate m [Value.int .i32 0]).flatten))
      = r.C.drop (r.head * 1) ++ r.C.take (r.head * 1) ++ (List.replicate m [Value.int .i32 0]).flatten.drop r.len := by
    rw [List.take_append_of_le_length (by omega), List.take_of_length_le (l := List.drop r.head r.C) (by omega), Nat.mul_one, List.take_take, Nat.min_self]
    congr 1
    rw [List.drop_append, hdl, List.drop_of_length_le (by omega), List.nil_append, List.drop_drop]
    congr 1
    omega
  (repeat ((conv => whnf); (first | with_reducible refine r_tt ?_ | with_reducible refine r_ff ?_ | with_reducible refine r_ntt ?_ | with_reducible refine r_nff ?_ | refine r_need (by omega) ?_ | refine r_i64 (by omega) ?_ | refine r_dect (by omega) ?_ | refine r_decf (by omega) ?_ | refine r_eqt (by omega) ?_ | refine r_eqf (by omega) ?_ | refine r_net (by omega) ?_ | refine r_nef (by omega) ?_ | refine r_u8 (by omega) ?_ | refine r_u64 (by omega) ?_ | refine r_i32 (by omega) ?_ | refine r_u32 (by omega) ?_ | refine r_rem (by omega) ?_ | refine r_quo (by omega) ?_ | refine r_ldb (by assumption) (by rfl) ?_ | refine r_ldbE (by assumption) (by rfl) ?_))); (conv => whnf)
  rw [hfin] at hblk8
  refine ⟨x, ⟨some ⟨x, 0, none⟩, m, m, 0, r.C.drop (r.head * 1) ++ r.C.take (r.head * 1) ++ (List.replicate m [Value.int .i32 0]).flatten.drop r.len, []⟩, ⟨?_, ?_, ?_, hmr, h.most, fun _ => by dsimp only; omega, fun _ => rfl, fun i e hi => ?_, h.elem, fun v hv => ?_, rfl, Nat.le_refl _, by dsimp only; unfold maxLen; omega, by simpa using hblk8, fun e => hxb e.symm, by dsimp only; omega⟩, by dsimp only; omega, hxw, ?_⟩
  · rw [encs_len]; exact hb8
  · simp only [List.length_append, List.length_drop, List.length_take, hcl, flat_rep_len]
    simp
    omega
  · rw [encs_len]; dsimp only; omega
  · have hil : i < r.len := by have := (List.getElem?_eq_some_iff.1 hi).1; rw [encs_len] at this; omega
    dsimp only
    rw [Nat.zero_add, Nat.mod_eq_of_lt (by omega)]
    exact grow_seg h _ (by rw [encs_len]; exact hfull) m (by omega) (by rw [hfl]; omega) i e hi
  · simp only [List.mem_append] at hv
    rcases hv with (hv | hv) | hv
    · exact h.one v (List.mem_of_mem_drop hv)
    · exact h.one v (List.mem_of_mem_take hv)
    · have := List.mem_of_mem_drop hv
      simp at this
      obtain ⟨_, rfl⟩ := this
      rfl
  · exact Chg.step (Chg.step (Chg.step (hx02.wide _) hc34 (fun k hk hlt => by omega)) hc46 (fun k hk hlt => by omega)) hc68 fun k hk _ => hk

/-- What becomes of a ring's array: it is as it was, or new. -/
def Arr (w : World) (g g' : Option Nat) : Prop := g' = g ∨ ∃ x, g' = some x ∧ w.heap.size ≤ x

theorem Push_ok {w : World} {b : Nat} {g : Option Nat} {L : List Int} {fr room : Nat} (h : RG w b g L fr room) (z : Int) :
    Cal Try.prog 30 ⟨[.pointer (some ⟨b, 0, none⟩), .int .i32 z]⟩ w fun v w' => ∃ g', v = .bool (decide (L.length < room)) ∧ RG w' b g' (if L.length < room then L ++ [z] else L) fr room ∧ Arr w g g' ∧ Chg (fun k => k = b ∨ g = some k) w w' := by
  obtain ⟨r, h⟩ := h
  have hblk := rcBlk h
  have hle := h.le
  rw [encs_len] at hle
  have hfit := h.fits
  have hmost := h.most
  refine go30 (by rfl) ?_
  by_cases hroom : L.length < room
  rotate_left
  · (repeat ((conv => whnf); (first | with_reducible refine r_tt ?_ | with_reducible refine r_ff ?_ | with_reducible refine r_ntt ?_ | with_reducible refine r_nff ?_ | refine r_need (by omega) ?_ | refine r_i64 (by omega) ?_ | refine r_dect (by omega) ?_ | refine r_decf (by omega) ?_ | refine r_eqt (by omega) ?_ | refine r_eqf (by omega) ?_ | refine r_net (by omega) ?_ | refine r_nef (by omega) ?_ | refine r_u8 (by omega) ?_ | refine r_u64 (by omega) ?_ | refine r_i32 (by omega) ?_ | refine r_u32 (by omega) ?_ | refine r_rem (by omega) ?_ | refine r_quo (by omega) ?_ | refine r_ldb (by assumption) (by rfl) ?_ | refine r_ldbE (by assumption) (by rfl) ?_))); (conv => whnf)
    refine r_drawE fun w1 hx1 hh1 => ?_
    (repeat ((conv => whnf); (first | with_reducible refine r_tt ?_ | with_reducible refine r_ff ?_ | with_reducible refine r_ntt ?_ | with_reducible refine r_nff ?_ | refine r_need (by omega) ?_ | refine r_i64 (by omega) ?_ | refine r_dect (by omega) ?_ | refine r_decf (by omega) ?_ | refine r_eqt (by omega) ?_ | refine r_eqf (by omega) ?_ | refine r_net (by omega) ?_ | refine r_nef (by omega) ?_ | refine r_u8 (by omega) ?_ | refine r_u64 (by omega) ?_ | refine r_i32 (by omega) ?_ | refine r_u32 (by omega) ?_ | refine r_rem (by omega) ?_ | refine r_quo (by omega) ?_ | refine r_ldb (by assumption) (by rfl) ?_ | refine r_ldbE (by assumption) (by rfl) ?_))); (conv => whnf)
    rw [if_neg hroom, decide_eq_false hroom]
    exact ⟨g, rfl, ⟨r, h.ext hx1⟩, .inl rfl, hx1.wide _⟩
  (repeat ((conv => whnf); (first | with_reducible refine r_tt ?_ | with_reducible refine r_ff ?_ | with_reducible refine r_ntt ?_ | with_reducible refine r_nff ?_ | refine r_need (by omega) ?_ | refine r_i64 (by omega) ?_ | refine r_dect (by omega) ?_ | refine r_decf (by omega) ?_ | refine r_eqt (by omega) ?_ | refine r_eqf (by omega) ?_ | refine r_net (by omega) ?_ | refine r_nef (by omega) ?_ | refine r_u8 (by omega) ?_ | refine r_u64 (by omega) ?_ | refine r_i32 (by omega) ?_ | refine r_u32 (by omega) ?_ | refine r_rem (by omega) ?_ | refine r_quo (by omega) ?_ | refine r_ldb (by assumption) (by rfl) ?_ | refine r_ldbE (by assumption) (by rfl) ?_))); (conv => whnf)
  refine r_drawE fun w1 hx1 hh1 => ?_
  (repeat ((conv => whnf); (first | with_reducible refine r_tt ?_ | with_reducible refine r_ff ?_ | with_reducible refine r_ntt ?_ | with_reducible refine r_nff ?_ | refine r_need (by omega) ?_ | refine r_i64 (by omega) ?_ | refine r_dect (by omega) ?_ | refine r_decf (by omega) ?_ | refine r_eqt (by omega) ?_ | refine r_eqf (by omega) ?_ | refine r_net (by omega) ?_ | refine r_nef (by omega) ?_ | refine r_u8 (by omega) ?_ | refine r_u64 (by omega) ?_ | refine r_i32 (by omega) ?_ | refine r_u32 (by omega) ?_ | refine r_rem (by omega) ?_ | refine r_quo (by omega) ?_ | refine r_ldb (by assumption) (by rfl) ?_ | refine r_ldbE (by assumption) (by rfl) ?_))); (conv => whnf)
  have hA := h.ext hx1
  have hblk1 := hblk.ext hx1
  refine r_drawE fun w2 hx2 hh2 => ?_
  have hblk2 := hblk1.ext hx2
  have hA2 := hA.ext hx2
  have hbl := h.blk.lt
  by_cases hfull : L.length = r.len
  focus
    (repeat ((conv => whnf); (first | with_reducible refine r_tt ?_ | with_reducible refine r_ff ?_ | with_reducible refine r_ntt ?_ | with_reducible refine r_nff ?_ | refine r_need (by omega) ?_ | refine r_i64 (by omega) ?_ | refine r_dect (by omega) ?_ | refine r_decf (by omega) ?_ | refine r_eqt (by omega) ?_ | refine r_eqf (by omega) ?_ | refine r_net (by omega) ?_ | refine r_nef (by omega) ?_ | refine r_u8 (by omega) ?_ | refine r_u64 (by omega) ?_ | refine r_i32 (by omega) ?_ | refine r_u32 (by omega) ?_ | refine r_rem (by omega) ?_ | refine r_quo (by omega) ?_ | refine r_ldb (by assumption) (by rfl) ?_ | refine r_ldbE (by assumption) (by rfl) ?_))); (conv => whnf)
    refine r_cal (grow_ok hA2 hfull hroom) ?_
    rintro _ w3 ⟨x, r3, hA3, hlt3, hxn, hc3⟩
    have hc03 : Chg (fun k => k = b ∨ g = some k) w w3 := Chg.step ((hx1.trans hx2).wide _) hc3 fun k hk _ => .inl hk
    have hgx : g = some x ∨ w.heap.size ≤ x := .inr (by have := hx1.size; have := hx2.size; omega)
  rotate_left
  focus
    obtain ⟨x, hg, _⟩ := hA2.pos (by omega)
    have hA3 : ∃ r3, RA w2 b (some x) L fr room r3 ∧ L.length < r3.len := ⟨r, by rw [← hg]; exact hA2, by omega⟩
    obtain ⟨r3, hA3, hlt3⟩ := hA3
    have hc03 : Chg (fun k => k = b ∨ g = some k) w w2 := (hx1.trans hx2).wide _
    have hgx : g = some x ∨ w.heap.size ≤ x := .inl hg
    (repeat ((conv => whnf); (first | with_reducible refine r_tt ?_ | with_reducible refine r_ff ?_ | with_reducible refine r_ntt ?_ | with_reducible refine r_nff ?_ | refine r_need (by omega) ?_ | refine r_i64 (by omega) ?_ | refine r_dect (by omega) ?_ | refine r_decf (by omega) ?_ | refine r_eqt (by omega) ?_ | refine r_eqf (by omega) ?_ | refine r_net (by omega) ?_ | refine r_nef (by omega) ?_ | refine r_u8 (by omega) ?_ | refine r_u64 (by omega) ?_ | refine r_i32 (by omega) ?_ | refine r_u32 (by omega) ?_ | refine r_rem (by omega) ?_ | refine r_quo (by omega) ?_ | refine r_ldb (by assumption) (by rfl) ?_ | refine r_ldbE (by assumption) (by rfl) ?_))); (conv => whnf)
  all_goals
    clear hblk2 hblk1 hA2 hA hx1 hx2 hblk hfull hfit hle h
    have hblk3 := rcBlk hA3
    have hfit3 := hA3.fits
    obtain ⟨x', hx', ha, hB, hxb⟩ := hA3.pos (by omega)
    cases hx'
    have hpos : 0 < r3.len := by omega
    have hmod := Nat.mod_lt (r3.head + L.length) hpos
    have hlen := hA3.len
    rw [ha] at hblk3
    (repeat ((conv => whnf); (first | with_reducible refine r_tt ?_ | with_reducible refine r_ff ?_ | with_reducible refine r_ntt ?_ | with_reducible refine r_nff ?_ | refine r_need (by omega) ?_ | refine r_i64 (by omega) ?_ | refine r_dect (by omega) ?_ | refine r_decf (by omega) ?_ | refine r_eqt (by omega) ?_ | refine r_eqf (by omega) ?_ | refine r_net (by omega) ?_ | refine r_nef (by omega) ?_ | refine r_u8 (by omega) ?_ | refine r_u64 (by omega) ?_ | refine r_i32 (by omega) ?_ | refine r_u32 (by omega) ?_ | refine r_rem (by omega) ?_ | refine r_quo (by omega) ?_ | refine r_ldb (by assumption) (by rfl) ?_ | refine r_ldbE (by assumption) (by rfl) ?_))); (conv => whnf)
    refine r_drawE fun w4 hx4 hh4 => ?_
    (repeat ((conv => whnf); (first | with_reducible refine r_tt ?_ | with_reducible refine r_ff ?_ | with_reducible refine r_ntt ?_ | with_reducible refine r_nff ?_ | refine r_need (by omega) ?_ | refine r_i64 (by omega) ?_ | refine r_dect (by omega) ?_ | refine r_decf (by omega) ?_ | refine r_eqt (by omega) ?_ | refine r_eqf (by omega) ?_ | refine r_net (by omega) ?_ | refine r_nef (by omega) ?_ | refine r_u8 (by omega) ?_ | refine r_u64 (by omega) ?_ | refine r_i32 (by omega) ?_ | refine r_u32 (by omega) ?_ | refine r_rem (by omega) ?_ | refine r_quo (by omega) ?_ | refine r_ldb (by assumption) (by rfl) ?_ | refine r_ldbE (by assumption) (by rfl) ?_))); (conv => whnf)
    refine r_cal (place_ok (hA3.ext hx4) L.length (by omega) hpos) ?_
    rintro _ w5 ⟨hx5, hh5, rfl⟩
    have hx45 := hx4.trans hx5
    (repeat ((conv => whnf); (first | with_reducible refine r_tt ?_ | with_reducible refine r_ff ?_ | with_reducible refine r_ntt ?_ | with_reducible refine r_nff ?_ | refine r_need (by omega) ?_ | refine r_i64 (by omega) ?_ | refine r_dect (by omega) ?_ | refine r_decf (by omega) ?_ | refine r_eqt (by omega) ?_ | refine r_eqf (by omega) ?_ | refine r_net (by omega) ?_ | refine r_nef (by omega) ?_ | refine r_u8 (by omega) ?_ | refine r_u64 (by omega) ?_ | refine r_i32 (by omega) ?_ | refine r_u32 (by omega) ?_ | refine r_rem (by omega) ?_ | refine r_quo (by omega) ?_ | refine r_ldb (by assumption) (by rfl) ?_ | refine r_ldbE (by assumption) (by rfl) ?_))); (conv => whnf)
    refine r_held hx45 ?_
    (repeat ((conv => whnf); (first | with_reducible refine r_tt ?_ | with_reducible refine r_ff ?_ | with_reducible refine r_ntt ?_ | with_reducible refine r_nff ?_ | refine r_need (by omega) ?_ | refine r_i64 (by omega) ?_ | refine r_dect (by omega) ?_ | refine r_decf (by omega) ?_ | refine r_eqt (by omega) ?_ | refine r_eqf (by omega) ?_ | refine r_net (by omega) ?_ | refine r_nef (by omega) ?_ | refine r_u8 (by omega) ?_ | refine r_u64 (by omega) ?_ | refine r_i32 (by omega) ?_ | refine r_u32 (by omega) ?_ | refine r_rem (by omega) ?_ | refine r_quo (by omega) ?_ | refine r_ldb (by assumption) (by rfl) ?_ | refine r_ldbE (by assumption) (by rfl) ?_))); (conv => whnf)
    refine r_need rfl ?_
    (repeat ((conv => whnf); (first | with_reducible refine r_tt ?_ | with_reducible refine r_ff ?_ | with_reducible refine r_ntt ?_ | with_reducible refine r_nff ?_ | refine r_need (by omega) ?_ | refine r_i64 (by omega) ?_ | refine r_dect (by omega) ?_ | refine r_decf (by omega) ?_ | refine r_eqt (by omega) ?_ | refine r_eqf (by omega) ?_ | refine r_net (by omega) ?_ | refine r_nef (by omega) ?_ | refine r_u8 (by omega) ?_ | refine r_u64 (by omega) ?_ | refine r_i32 (by omega) ?_ | refine r_u32 (by omega) ?_ | refine r_rem (by omega) ?_ | refine r_quo (by omega) ?_ | refine r_ldb (by assumption) (by rfl) ?_ | refine r_ldbE (by assumption) (by rfl) ?_))); (conv => whnf)
    have hset : (r3.C ++ r3.R).set (((r3.head + L.length) % r3.len) * 1) (.int .i32 z) = putSeg r3.C 1 ((r3.head + L.length) % r3.len) (enc z) ++ r3.R := by
      generalize (r3.head + L.length) % r3.len = p at hmod
      rw [Nat.mul_one]
      exact set_put (by omega)
    have hsl : ((r3.head + L.length) % r3.len) * 1 < (r3.C ++ r3.R).length := by
      generalize (r3.head + L.length) % r3.len = p at hmod
      rw [List.length_append]
      omega
    rw [adr0]
    refine r_st (hB.ext hx45) hsl (by rfl) fun w6 hc6 hs6 hB6 => ?_
    rw [hset] at hB6
    have hblk6 := (hblk3.ext hx45).keep hc6 (fun e => hxb e.symm)
    (repeat ((conv => whnf); (first | with_reducible refine r_tt ?_ | with_reducible refine r_ff ?_ | with_reducible refine r_ntt ?_ | with_reducible refine r_nff ?_ | refine r_need (by omega) ?_ | refine r_i64 (by omega) ?_ | refine r_dect (by omega) ?_ | refine r_decf (by omega) ?_ | refine r_eqt (by omega) ?_ | refine r_eqf (by omega) ?_ | refine r_net (by omega) ?_ | refine r_nef (by omega) ?_ | refine r_u8 (by omega) ?_ | refine r_u64 (by omega) ?_ | refine r_i32 (by omega) ?_ | refine r_u32 (by omega) ?_ | refine r_rem (by omega) ?_ | refine r_quo (by omega) ?_ | refine r_ldb (by assumption) (by rfl) ?_ | refine r_ldbE (by assumption) (by rfl) ?_))); (conv => whnf)
    refine r_st hblk6 (by simp) (by rfl) fun w7 hc7 hs7 hblk7 => ?_
    (repeat ((conv => whnf); (first | with_reducible refine r_tt ?_ | with_reducible refine r_ff ?_ | with_reducible refine r_ntt ?_ | with_reducible refine r_nff ?_ | refine r_need (by omega) ?_ | refine r_i64 (by omega) ?_ | refine r_dect (by omega) ?_ | refine r_decf (by omega) ?_ | refine r_eqt (by omega) ?_ | refine r_eqf (by omega) ?_ | refine r_net (by omega) ?_ | refine r_nef (by omega) ?_ | refine r_u8 (by omega) ?_ | refine r_u64 (by omega) ?_ | refine r_i32 (by omega) ?_ | refine r_u32 (by omega) ?_ | refine r_rem (by omega) ?_ | refine r_quo (by omega) ?_ | refine r_ldb (by assumption) (by rfl) ?_ | refine r_ldbE (by assumption) (by rfl) ?_))); (conv => whnf)
    rw [if_pos hroom, decide_eq_true hroom]
    have hblk7' : Blk w7 b 89 (r3.cells (L.length + 1) fr room) := by
      unfold RC.cells
      rw [ha]
      exact hblk7
    refine ⟨some x, rfl, ⟨_, hA3.put rfl L.length hlt3 (enc z) (enc_ok z) hblk7' (by rw [encs_len]; simp) (hB6.keep hc7 hxb) (by rw [encs_len]; simp; omega) ?_⟩, hgx.elim (fun e => .inl e.symm) (fun e => .inr ⟨x, rfl, e⟩), ?_⟩
    · intro j y hj
      obtain ⟨q, hq, rfl⟩ := encs_get' hj
      rw [List.getElem?_append] at hq
      split at hq
      · exact .inr ⟨by omega, encs_get hq⟩
      · rename_i hjl
        have : j < (L ++ [z]).length := by have := (List.getElem?_eq_some_iff.1 hj).1; rwa [encs_len] at this
        simp at this
        have hj' : j = L.length := by omega
        subst hj'
        simp at hq
        exact .inl ⟨rfl, by rw [hq]⟩
    · exact Chg.step (Chg.step (hc03.ext hx45) hc6 fun k hk hlt => by subst hk; exact hgx.elim .inr fun e => by omega) hc7 fun k hk _ => .inl hk

theorem take_ok {w : World} {b : Nat} {x : Nat} {L : List Int} {fr room : Nat} {r : RC} (h : RA w b (some x) L fr room r) (i : Nat) (hi : i < r.len) (z : Int) (hz : seg r.C 1 ((r.head + i) % r.len) = enc z) :
    Cal Try.prog 60 ⟨[.pointer (some ⟨b, 0, none⟩), .int .i64 (i : Int)]⟩ w fun v w' => v = .int .i32 z ∧ Chg (fun k => k = x) w w' ∧ Blk w' x 21 (putSeg r.C 1 ((r.head + i) % r.len) (enc 0) ++ r.R) := by
  have hblk := rcBlk h
  have hpos : 0 < r.len := by omega
  obtain ⟨x', hx', ha, hB, hxb⟩ := h.pos hpos
  cases hx'
  have hfit := h.fits
  have hmost := h.most
  have hlen := h.len
  have hmod := Nat.mod_lt (r.head + i) hpos
  rw [ha] at hblk
  refine go60 (by rfl) ?_
  (repeat ((conv => whnf); (first | with_reducible refine r_tt ?_ | with_reducible refine r_ff ?_ | with_reducible refine r_ntt ?_ | with_reducible refine r_nff ?_ | refine r_need (by omega) ?_ | refine r_i64 (by omega) ?_ | refine r_dect (by omega) ?_ | refine r_decf (by omega) ?_ | refine r_eqt (by omega) ?_ | refine r_eqf (by omega) ?_ | refine r_net (by omega) ?_ | refine r_nef (by omega) ?_ | refine r_u8 (by omega) ?_ | refine r_u64 (by omega) ?_ | refine r_i32 (by omega) ?_ | refine r_u32 (by omega) ?_ | refine r_rem (by omega) ?_ | refine r_quo (by omega) ?_ | refine r_ldb (by assumption) (by rfl) ?_ | refine r_ldbE (by assumption) (by rfl) ?_))); (conv => whnf)
  refine r_cal (place_ok h i (by omega) hpos) ?_
  rintro _ w1 ⟨hx1, hh1, rfl⟩
  have hblk1 := hblk.ext hx1
  have hB1 := hB.ext hx1
  have hc := seg1 hz
  generalize (r.head + i) % r.len = p at *
  (repeat ((conv => whnf); (first | with_reducible refine r_tt ?_ | with_reducible refine r_ff ?_ | with_reducible refine r_ntt ?_ | with_reducible refine r_nff ?_ | refine r_need (by omega) ?_ | refine r_i64 (by omega) ?_ | refine r_dect (by omega) ?_ | refine r_decf (by omega) ?_ | refine r_eqt (by omega) ?_ | refine r_eqf (by omega) ?_ | refine r_net (by omega) ?_ | refine r_nef (by omega) ?_ | refine r_u8 (by omega) ?_ | refine r_u64 (by omega) ?_ | refine r_i32 (by omega) ?_ | refine r_u32 (by omega) ?_ | refine r_rem (by omega) ?_ | refine r_quo (by omega) ?_ | refine r_ldb (by assumption) (by rfl) ?_ | refine r_ldbE (by assumption) (by rfl) ?_))); (conv => whnf)
  refine r_need rfl ?_
  (repeat ((conv => whnf); (first | with_reducible refine r_tt ?_ | with_reducible refine r_ff ?_ | with_reducible refine r_ntt ?_ | with_reducible refine r_nff ?_ | refine r_need (by omega) ?_ | refine r_i64 (by omega) ?_ | refine r_dect (by omega) ?_ | refine r_decf (by omega) ?_ | refine r_eqt (by omega) ?_ | refine r_eqf (by omega) ?_ | refine r_net (by omega) ?_ | refine r_nef (by omega) ?_ | refine r_u8 (by omega) ?_ | refine r_u64 (by omega) ?_ | refine r_i32 (by omega) ?_ | refine r_u32 (by omega) ?_ | refine r_rem (by omega) ?_ | refine r_quo (by omega) ?_ | refine r_ldb (by assumption) (by rfl) ?_ | refine r_ldbE (by assumption) (by rfl) ?_))); (conv => whnf)
  rw [adr0]
  refine r_ldb hB1 (by rw [Nat.mul_one, List.getElem?_append_left (by omega)]; exact hc) ?_
  (repeat ((conv => whnf); (first | with_reducible refine r_tt ?_ | with_reducible refine r_ff ?_ | with_reducible refine r_ntt ?_ | with_reducible refine r_nff ?_ | refine r_need (by omega) ?_ | refine r_i64 (by omega) ?_ | refine r_dect (by omega) ?_ | refine r_decf (by omega) ?_ | refine r_eqt (by omega) ?_ | refine r_eqf (by omega) ?_ | refine r_net (by omega) ?_ | refine r_nef (by omega) ?_ | refine r_u8 (by omega) ?_ | refine r_u64 (by omega) ?_ | refine r_i32 (by omega) ?_ | refine r_u32 (by omega) ?_ | refine r_rem (by omega) ?_ | refine r_quo (by omega) ?_ | refine r_ldb (by assumption) (by rfl) ?_ | refine r_ldbE (by assumption) (by rfl) ?_))); (conv => whnf)
  refine r_need rfl ?_
  (repeat ((conv => whnf); (first | with_reducible refine r_tt ?_ | with_reducible refine r_ff ?_ | with_reducible refine r_ntt ?_ | with_reducible refine r_nff ?_ | refine r_need (by omega) ?_ | refine r_i64 (by omega) ?_ | refine r_dect (by omega) ?_ | refine r_decf (by omega) ?_ | refine r_eqt (by omega) ?_ | refine r_eqf (by omega) ?_ | refine r_net (by omega) ?_ | refine r_nef (by omega) ?_ | refine r_u8 (by omega) ?_ | refine r_u64 (by omega) ?_ | refine r_i32 (by omega) ?_ | refine r_u32 (by omega) ?_ | refine r_rem (by omega) ?_ | refine r_quo (by omega) ?_ | refine r_ldb (by assumption) (by rfl) ?_ | refine r_ldbE (by assumption) (by rfl) ?_))); (conv => whnf)
  rw [adr0]
  refine r_st hB1 (by rw [List.length_append]; omega) (by rfl) fun w2 hc2 hs2 hB2 => ?_
  rw [Nat.mul_one, set_put (by omega)] at hB2
  (repeat ((conv => whnf); (first | with_reducible refine r_tt ?_ | with_reducible refine r_ff ?_ | with_reducible refine r_ntt ?_ | with_reducible refine r_nff ?_ | refine r_need (by omega) ?_ | refine r_i64 (by omega) ?_ | refine r_dect (by omega) ?_ | refine r_decf (by omega) ?_ | refine r_eqt (by omega) ?_ | refine r_eqf (by omega) ?_ | refine r_net (by omega) ?_ | refine r_nef (by omega) ?_ | refine r_u8 (by omega) ?_ | refine r_u64 (by omega) ?_ | refine r_i32 (by omega) ?_ | refine r_u32 (by omega) ?_ | refine r_rem (by omega) ?_ | refine r_quo (by omega) ?_ | refine r_ldb (by assumption) (by rfl) ?_ | refine r_ldbE (by assumption) (by rfl) ?_))); (conv => whnf)
  exact ⟨rfl, Chg.trans (hx1.wide _) hc2, hB2⟩

theorem Pop_no {w : World} {b : Nat} {g : Option Nat} {fr room : Nat} (h : RG w b g [] fr room) : Cal Try.prog 27 ⟨[.pointer (some ⟨b, 0, none⟩)]⟩ w fun v w' => w' = w ∧ v = .tuple ⟨[.int .i32 0, .bool false]⟩ := by
  refine go27 (by rfl) ?_
  (repeat ((conv => whnf); (first | with_reducible refine r_tt ?_ | with_reducible refine r_ff ?_ | with_reducible refine r_ntt ?_ | with_reducible refine r_nff ?_ | refine r_need (by omega) ?_ | refine r_i64 (by omega) ?_ | refine r_dect (by omega) ?_ | refine r_decf (by omega) ?_ | refine r_eqt (by omega) ?_ | refine r_eqf (by omega) ?_ | refine r_net (by omega) ?_ | refine r_nef (by omega) ?_ | refine r_u8 (by omega) ?_ | refine r_u64 (by omega) ?_ | refine r_i32 (by omega) ?_ | refine r_u32 (by omega) ?_ | refine r_rem (by omega) ?_ | refine r_quo (by omega) ?_ | refine r_ldb (by assumption) (by rfl) ?_ | refine r_ldbE (by assumption) (by rfl) ?_))); (conv => whnf)
  refine r_cal (Len_ok h) ?_
  rintro _ w1 ⟨rfl, rfl⟩
  (repeat ((conv => whnf); (first | refine r_eqt (by simp) ?_ | with_reducible refine r_tt ?_ | with_reducible refine r_ff ?_ | with_reducible refine r_ntt ?_ | with_reducible refine r_nff ?_ | refine r_need (by omega) ?_ | refine r_i64 (by omega) ?_ | refine r_dect (by omega) ?_ | refine r_decf (by omega) ?_ | refine r_eqt (by omega) ?_ | refine r_eqf (by omega) ?_ | refine r_net (by omega) ?_ | refine r_nef (by omega) ?_ | refine r_u8 (by omega) ?_ | refine r_u64 (by omega) ?_ | refine r_i32 (by omega) ?_ | refine r_u32 (by omega) ?_ | refine r_rem (by omega) ?_ | refine r_quo (by omega) ?_ | refine r_ldb (by assumption) (by rfl) ?_ | refine r_ldbE (by assumption) (by rfl) ?_))); (conv => whnf)
  exact ⟨rfl, rfl⟩
theorem Pop_ok {w : World} {b : Nat} {g : Option Nat} {L : List Int} {z : Int} {fr room : Nat} (h : RG w b g (L ++ [z]) fr room) : Cal Try.prog 27 ⟨[.pointer (some ⟨b, 0, none⟩)]⟩ w fun v w' => v = .tuple ⟨[.int .i32 z, .bool true]⟩ ∧ RG w' b g L fr room ∧ Chg (fun k => k = b ∨ g = some k) w w' := by
  have h0 := h
  obtain ⟨r, h⟩ := h
  have hblk := rcBlk h
  rw [List.length_append, List.length_singleton] at hblk
  have hle := h.le
  rw [encs_len, List.length_append, List.length_singleton] at hle
  obtain ⟨x, rfl, ha, hB, hxb⟩ := h.pos (by omega)
  have hfit := h.fits
  have hmost := h.most
  refine go27 (by rfl) ?_
  (repeat ((conv => whnf); (first | with_reducible refine r_tt ?_ | with_reducible refine r_ff ?_ | with_reducible refine r_ntt ?_ | with_reducible refine r_nff ?_ | refine r_need (by omega) ?_ | refine r_i64 (by omega) ?_ | refine r_dect (by omega) ?_ | refine r_decf (by omega) ?_ | refine r_eqt (by omega) ?_ | refine r_eqf (by omega) ?_ | refine r_net (by omega) ?_ | refine r_nef (by omega) ?_ | refine r_u8 (by omega) ?_ | refine r_u64 (by omega) ?_ | refine r_i32 (by omega) ?_ | refine r_u32 (by omega) ?_ | refine r_rem (by omega) ?_ | refine r_quo (by omega) ?_ | refine r_ldb (by assumption) (by rfl) ?_ | refine r_ldbE (by assumption) (by rfl) ?_))); (conv => whnf)
  refine r_cal (Len_ok h0) ?_
  rintro _ w1 ⟨rfl, rfl⟩
  have e1 : ((L ++ [z]).length : Int) = (L.length : Int) + 1 := by simp
  rw [e1]
  (repeat ((conv => whnf); (first | with_reducible refine r_tt ?_ | with_reducible refine r_ff ?_ | with_reducible refine r_ntt ?_ | with_reducible refine r_nff ?_ | refine r_need (by omega) ?_ | refine r_i64 (by omega) ?_ | refine r_dect (by omega) ?_ | refine r_decf (by omega) ?_ | refine r_eqt (by omega) ?_ | refine r_eqf (by omega) ?_ | refine r_net (by omega) ?_ | refine r_nef (by omega) ?_ | refine r_u8 (by omega) ?_ | refine r_u64 (by omega) ?_ | refine r_i32 (by omega) ?_ | refine r_u32 (by omega) ?_ | refine r_rem (by omega) ?_ | refine r_quo (by omega) ?_ | refine r_ldb (by assumption) (by rfl) ?_ | refine r_ldbE (by assumption) (by rfl) ?_))); (conv => whnf)
  refine r_st hblk (by simp) (by rfl) fun w2 hc2 hs2 hblk2 => ?_
  have e2 : (((L.length + 1 : Nat) : Int) - 1) = (L.length : Int) := by omega
  rw [e2] at hblk2
  have hblk2 : Blk w2 b 89 [.slice r.a r.len r.cap, .int .i64 (r.head : Int), .int .i64 (L.length : Int), .int .i64 (fr : Int), .int .i64 (room : Int)] := hblk2
  have hB2 := hB.keep hc2 hxb
  have hz : seg r.C 1 ((r.head + L.length) % r.len) = enc z := h.at' L.length _ (encs_get (by simp))
  have h2 : RA w2 b (some x) L fr room r := by
    refine ⟨by rw [encs_len]; exact hblk2, h.len, by rw [encs_len]; omega, h.fits, h.most, h.head, h.zero, fun j e hj => h.at' j e ?_, encs_ok L, h.one, ?_⟩
    · obtain ⟨q, hq, rfl⟩ := encs_get' hj
      exact encs_get (by rw [List.getElem?_append_left (List.getElem?_eq_some_iff.1 hq).1]; exact hq)
    · have := h.arr
      exact ⟨this.1, this.2.1, this.2.2.1, hB2, this.2.2.2.2.1, this.2.2.2.2.2⟩
  (repeat ((conv => whnf); (first | with_reducible refine r_tt ?_ | with_reducible refine r_ff ?_ | with_reducible refine r_ntt ?_ | with_reducible refine r_nff ?_ | refine r_need (by omega) ?_ | refine r_i64 (by omega) ?_ | refine r_dect (by omega) ?_ | refine r_decf (by omega) ?_ | refine r_eqt (by omega) ?_ | refine r_eqf (by omega) ?_ | refine r_net (by omega) ?_ | refine r_nef (by omega) ?_ | refine r_u8 (by omega) ?_ | refine r_u64 (by omega) ?_ | refine r_i32 (by omega) ?_ | refine r_u32 (by omega) ?_ | refine r_rem (by omega) ?_ | refine r_quo (by omega) ?_ | refine r_ldb (by assumption) (by rfl) ?_ | refine r_ldbE (by assumption) (by rfl) ?_))); (conv => whnf)
  refine r_cal (take_ok h2 L.length (by omega) z hz) ?_
  rintro _ w3 ⟨rfl, hc3, hB3⟩
  (repeat ((conv => whnf); (first | with_reducible refine r_tt ?_ | with_reducible refine r_ff ?_ | with_reducible refine r_ntt ?_ | with_reducible refine r_nff ?_ | refine r_need (by omega) ?_ | refine r_i64 (by omega) ?_ | refine r_dect (by omega) ?_ | refine r_decf (by omega) ?_ | refine r_eqt (by omega) ?_ | refine r_eqf (by omega) ?_ | refine r_net (by omega) ?_ | refine r_nef (by omega) ?_ | refine r_u8 (by omega) ?_ | refine r_u64 (by omega) ?_ | refine r_i32 (by omega) ?_ | refine r_u32 (by omega) ?_ | refine r_rem (by omega) ?_ | refine r_quo (by omega) ?_ | refine r_ldb (by assumption) (by rfl) ?_ | refine r_ldbE (by assumption) (by rfl) ?_))); (conv => whnf)
  refine ⟨rfl, ⟨_, h2.put rfl L.length (by omega) (enc 0) (enc_ok 0) (by have := h2.blk; rw [encs_len] at this; exact this.keep hc3 (fun e => hxb e.symm)) (encs_len L) hB3 (by rw [encs_len]; omega) fun j y hj => .inr ⟨by have := (List.getElem?_eq_some_iff.1 hj).1; rw [encs_len] at this; omega, hj⟩⟩, ?_⟩
  exact Chg.step (Chg.mono hc2 fun _ _ h => .inl h) hc3 fun k hk _ => .inr (by rw [hk])

theorem Shift_no {w : World} {b : Nat} {g : Option Nat} {fr room : Nat} (h : RG w b g [] fr room) : Cal Try.prog 28 ⟨[.pointer (some ⟨b, 0, none⟩)]⟩ w fun v w' => w' = w ∧ v = .tuple ⟨[.int .i32 0, .bool false]⟩ := by
  refine go28 (by rfl) ?_
  (repeat ((conv => whnf); (first | with_reducible refine r_tt ?_ | with_reducible refine r_ff ?_ | with_reducible refine r_ntt ?_ | with_reducible refine r_nff ?_ | refine r_need (by omega) ?_ | refine r_i64 (by omega) ?_ | refine r_dect (by omega) ?_ | refine r_decf (by omega) ?_ | refine r_eqt (by omega) ?_ | refine r_eqf (by omega) ?_ | refine r_net (by omega) ?_ | refine r_nef (by omega) ?_ | refine r_u8 (by omega) ?_ | refine r_u64 (by omega) ?_ | refine r_i32 (by omega) ?_ | refine r_u32 (by omega) ?_ | refine r_rem (by omega) ?_ | refine r_quo (by omega) ?_ | refine r_ldb (by assumption) (by rfl) ?_ | refine r_ldbE (by assumption) (by rfl) ?_))); (conv => whnf)
  refine r_cal (Len_ok h) ?_
  rintro _ w1 ⟨rfl, rfl⟩
  (repeat ((conv => whnf); (first | refine r_eqt (by simp) ?_ | with_reducible refine r_tt ?_ | with_reducible refine r_ff ?_ | with_reducible refine r_ntt ?_ | with_reducible refine r_nff ?_ | refine r_need (by omega) ?_ | refine r_i64 (by omega) ?_ | refine r_dect (by omega) ?_ | refine r_decf (by omega) ?_ | refine r_eqt (by omega) ?_ | refine r_eqf (by omega) ?_ | refine r_net (by omega) ?_ | refine r_nef (by omega) ?_ | refine r_u8 (by omega) ?_ | refine r_u64 (by omega) ?_ | refine r_i32 (by omega) ?_ | refine r_u32 (by omega) ?_ | refine r_rem (by omega) ?_ | refine r_quo (by omega) ?_ | refine r_ldb (by assumption) (by rfl) ?_ | refine r_ldbE (by assumption) (by rfl) ?_))); (conv => whnf)
  exact ⟨rfl, rfl⟩
theorem Shift_ok {w : World} {b : Nat} {g : Option Nat} {L : List Int} {z : Int} {fr room : Nat} (h : RG w b g (z :: L) fr room) (hfr : fr ≤ 4611686018427387904) : Cal Try.prog 28 ⟨[.pointer (some ⟨b, 0, none⟩)]⟩ w fun v w' => v = .tuple ⟨[.int .i32 z, .bool true]⟩ ∧ RG w' b g L (fr + 1) room ∧ Chg (fun k => k = b ∨ g = some k) w w' := by
  have h0 := h
  obtain ⟨r, h⟩ := h
  have hblk := rcBlk h
  rw [List.length_cons] at hblk
  have hle := h.le
  rw [encs_len, List.length_cons] at hle
  have hpos : 0 < r.len := by omega
  obtain ⟨x, rfl, ha, hB, hxb⟩ := h.pos hpos
  have hfit := h.fits
  have hmost := h.most
  have hhead := h.head hpos
  refine go28 (by rfl) ?_
  (repeat ((conv => whnf); (first | with_reducible refine r_tt ?_ | with_reducible refine r_ff ?_ | with_reducible refine r_ntt ?_ | with_reducible refine r_nff ?_ | refine r_need (by omega) ?_ | refine r_i64 (by omega) ?_ | refine r_dect (by omega) ?_ | refine r_decf (by omega) ?_ | refine r_eqt (by omega) ?_ | refine r_eqf (by omega) ?_ | refine r_net (by omega) ?_ | refine r_nef (by omega) ?_ | refine r_u8 (by omega) ?_ | refine r_u64 (by omega) ?_ | refine r_i32 (by omega) ?_ | refine r_u32 (by omega) ?_ | refine r_rem (by omega) ?_ | refine r_quo (by omega) ?_ | refine r_ldb (by assumption) (by rfl) ?_ | refine r_ldbE (by assumption) (by rfl) ?_))); (conv => whnf)
  refine r_cal (Len_ok h0) ?_
  rintro _ w1 ⟨rfl, rfl⟩
  rw [List.length_cons]
  have hz : seg r.C 1 ((r.head + 0) % r.len) = enc z := h.at' 0 _ (encs_get (by simp))
  (repeat ((conv => whnf); (first | with_reducible refine r_tt ?_ | with_reducible refine r_ff ?_ | with_reducible refine r_ntt ?_ | with_reducible refine r_nff ?_ | refine r_need (by omega) ?_ | refine r_i64 (by omega) ?_ | refine r_dect (by omega) ?_ | refine r_decf (by omega) ?_ | refine r_eqt (by omega) ?_ | refine r_eqf (by omega) ?_ | refine r_net (by omega) ?_ | refine r_nef (by omega) ?_ | refine r_u8 (by omega) ?_ | refine r_u64 (by omega) ?_ | refine r_i32 (by omega) ?_ | refine r_u32 (by omega) ?_ | refine r_rem (by omega) ?_ | refine r_quo (by omega) ?_ | refine r_ldb (by assumption) (by rfl) ?_ | refine r_ldbE (by assumption) (by rfl) ?_))); (conv => whnf)
  refine r_cal (take_ok h 0 hpos z hz) ?_
  rintro _ w2 ⟨rfl, hc2, hB2⟩
  have hblk2 := hblk.keep hc2 (fun e => hxb e.symm)
  (repeat ((conv => whnf); (first | with_reducible refine r_tt ?_ | with_reducible refine r_ff ?_ | with_reducible refine r_ntt ?_ | with_reducible refine r_nff ?_ | refine r_need (by omega) ?_ | refine r_i64 (by omega) ?_ | refine r_dect (by omega) ?_ | refine r_decf (by omega) ?_ | refine r_eqt (by omega) ?_ | refine r_eqf (by omega) ?_ | refine r_net (by omega) ?_ | refine r_nef (by omega) ?_ | refine r_u8 (by omega) ?_ | refine r_u64 (by omega) ?_ | refine r_i32 (by omega) ?_ | refine r_u32 (by omega) ?_ | refine r_rem (by omega) ?_ | refine r_quo (by omega) ?_ | refine r_ldb (by assumption) (by rfl) ?_ | refine r_ldbE (by assumption) (by rfl) ?_))); (conv => whnf)
  refine r_cal (place_raw hblk2 1 (by omega) hpos hhead (by omega)) ?_
  rintro _ w3 ⟨hx3, hh3, rfl⟩
  have hblk3 := hblk2.ext hx3
  (repeat ((conv => whnf); (first | with_reducible refine r_tt ?_ | with_reducible refine r_ff ?_ | with_reducible refine r_ntt ?_ | with_reducible refine r_nff ?_ | refine r_need (by omega) ?_ | refine r_i64 (by omega) ?_ | refine r_dect (by omega) ?_ | refine r_decf (by omega) ?_ | refine r_eqt (by omega) ?_ | refine r_eqf (by omega) ?_ | refine r_net (by omega) ?_ | refine r_nef (by omega) ?_ | refine r_u8 (by omega) ?_ | refine r_u64 (by omega) ?_ | refine r_i32 (by omega) ?_ | refine r_u32 (by omega) ?_ | refine r_rem (by omega) ?_ | refine r_quo (by omega) ?_ | refine r_ldb (by assumption) (by rfl) ?_ | refine r_ldbE (by assumption) (by rfl) ?_))); (conv => whnf)
  refine r_st hblk3 (by simp) (by rfl) fun w4 hc4 hs4 hblk4 => ?_
  (repeat ((conv => whnf); (first | with_reducible refine r_tt ?_ | with_reducible refine r_ff ?_ | with_reducible refine r_ntt ?_ | with_reducible refine r_nff ?_ | refine r_need (by omega) ?_ | refine r_i64 (by omega) ?_ | refine r_dect (by omega) ?_ | refine r_decf (by omega) ?_ | refine r_eqt (by omega) ?_ | refine r_eqf (by omega) ?_ | refine r_net (by omega) ?_ | refine r_nef (by omega) ?_ | refine r_u8 (by omega) ?_ | refine r_u64 (by omega) ?_ | refine r_i32 (by omega) ?_ | refine r_u32 (by omega) ?_ | refine r_rem (by omega) ?_ | refine r_quo (by omega) ?_ | refine r_ldb (by assumption) (by rfl) ?_ | refine r_ldbE (by assumption) (by rfl) ?_))); (conv => whnf)
  refine r_st hblk4 (by simp) (by rfl) fun w5 hc5 hs5 hblk5 => ?_
  (repeat ((conv => whnf); (first | with_reducible refine r_tt ?_ | with_reducible refine r_ff ?_ | with_reducible refine r_ntt ?_ | with_reducible refine r_nff ?_ | refine r_need (by omega) ?_ | refine r_i64 (by omega) ?_ | refine r_dect (by omega) ?_ | refine r_decf (by omega) ?_ | refine r_eqt (by omega) ?_ | refine r_eqf (by omega) ?_ | refine r_net (by omega) ?_ | refine r_nef (by omega) ?_ | refine r_u8 (by omega) ?_ | refine r_u64 (by omega) ?_ | refine r_i32 (by omega) ?_ | refine r_u32 (by omega) ?_ | refine r_rem (by omega) ?_ | refine r_quo (by omega) ?_ | refine r_ldb (by assumption) (by rfl) ?_ | refine r_ldbE (by assumption) (by rfl) ?_))); (conv => whnf)
  refine r_st hblk5 (by simp) (by rfl) fun w6 hc6 hs6 hblk6 => ?_
  have e2 : (((L.length + 1 : Nat) : Int) - 1) = (L.length : Int) := by omega
  have e3 : (fr : Int) + 1 = ((fr + 1 : Nat) : Int) := by omega
  rw [e2, e3] at hblk6
  have hc36 : Chg (fun k => k = b) w3 w6 := Chg.trans (Chg.trans hc4 hc5) hc6
  have hB6 := (hB2.ext hx3).keep hc36 hxb
  have hmod1 := Nat.mod_lt (r.head + 1) hpos
  (repeat ((conv => whnf); (first | with_reducible refine r_tt ?_ | with_reducible refine r_ff ?_ | with_reducible refine r_ntt ?_ | with_reducible refine r_nff ?_ | refine r_need (by omega) ?_ | refine r_i64 (by omega) ?_ | refine r_dect (by omega) ?_ | refine r_decf (by omega) ?_ | refine r_eqt (by omega) ?_ | refine r_eqf (by omega) ?_ | refine r_net (by omega) ?_ | refine r_nef (by omega) ?_ | refine r_u8 (by omega) ?_ | refine r_u64 (by omega) ?_ | refine r_i32 (by omega) ?_ | refine r_u32 (by omega) ?_ | refine r_rem (by omega) ?_ | refine r_quo (by omega) ?_ | refine r_ldb (by assumption) (by rfl) ?_ | refine r_ldbE (by assumption) (by rfl) ?_))); (conv => whnf)
  refine ⟨rfl, ⟨{ r with head := (r.head + 1) % r.len, C := putSeg r.C 1 ((r.head + 0) % r.len) (enc 0) }, ?_, putSeg_length h.len (Nat.mod_lt _ hpos) rfl, by rw [encs_len]; dsimp only; omega, hfit, hmost, fun _ => hmod1, fun h0 => by dsimp only at h0; omega, fun j e hj => ?_, encs_ok L, fun v hv => ?_, ?_⟩, ?_⟩
  · rw [encs_len]; exact hblk6
  · obtain ⟨q, hq, rfl⟩ := encs_get' hj
    have hjl := (List.getElem?_eq_some_iff.1 hq).1
    have hat := h.at' (j + 1) _ (encs_get (L := z :: L) (by simpa using hq))
    dsimp only
    have e4 : ((r.head + 1) % r.len + j) % r.len = (r.head + (j + 1)) % r.len := by
      rw [Nat.mod_add_mod]
      congr 1
      omega
    rw [e4, seg_put_ne h.len (Nat.mod_lt _ hpos) (Nat.mod_lt _ hpos) rfl, hat]
    rw [Nat.mod_eq_of_lt (show r.head + 0 < r.len by omega)]
    by_cases hlt : r.head + (j + 1) < r.len
    · rw [Nat.mod_eq_of_lt hlt]; omega
    · rw [Nat.mod_eq_sub_mod (by omega), Nat.mod_eq_of_lt (by omega)]; omega
  · simp only [putSeg, List.mem_append] at hv
    rcases hv with (hv | hv) | hv
    · exact h.one v (List.mem_of_mem_take hv)
    · exact (enc_ok 0).2 v hv
    · exact h.one v (List.mem_of_mem_drop hv)
  · have := h.arr
    exact ⟨this.1, this.2.1, this.2.2.1, hB6, this.2.2.2.2.1, this.2.2.2.2.2⟩
  · exact Chg.step ((Chg.mono hc2 fun k _ hk => .inr (by rw [hk])).ext hx3) hc36 fun k hk _ => .inl hk

/-- The thing of a number. -/
def atV (L : List Int) (fr : Nat) (n : Int) : Option Int := if (fr : Int) ≤ n then L[(n - fr).toNat]? else none
def atR : Option Int → Value
  | some z => .tuple ⟨[.int .i32 z, .bool true]⟩
  | none => .tuple ⟨[.int .i32 0, .bool false]⟩
theorem At_ok {w : World} {b : Nat} {g : Option Nat} {L : List Int} {fr room : Nat} (h : RG w b g L fr room) (n : Int) (hn : -9223372036854775808 ≤ n ∧ n ≤ 9223372036854775807) (hfr : fr ≤ 4611686018427387904) :
    Cal Try.prog 29 ⟨[.pointer (some ⟨b, 0, none⟩), .int .i64 n]⟩ w fun v w' => Ext w w' ∧ v = atR (atV L fr n) := by
  obtain ⟨r, h⟩ := h
  have hblk := rcBlk h
  have hle := h.le
  rw [encs_len] at hle
  have hfit := h.fits
  have hmost := h.most
  refine go29 (by rfl) ?_
  by_cases h1 : (fr : Int) ≤ n
  · by_cases h2 : n - fr < L.length
    · obtain ⟨i, hi⟩ : ∃ i : Nat, n - fr = i := ⟨(n - fr).toNat, by omega⟩
      have hil : i < L.length := by omega
      have hpos : 0 < r.len := by omega
      obtain ⟨x, rfl, ha, hB, hxb⟩ := h.pos hpos
      have hz := h.at' i (enc L[i]) (encs_get (by simp))
      have hmod := Nat.mod_lt (r.head + i) hpos
      have hlen := h.len
      have hres : atV L fr n = some L[i] := by
        unfold atV
        rw [if_pos h1, hi]
        simp
      rw [hres]
      (repeat ((conv => whnf); (first | with_reducible refine r_tt ?_ | with_reducible refine r_ff ?_ | with_reducible refine r_ntt ?_ | with_reducible refine r_nff ?_ | refine r_need (by omega) ?_ | refine r_i64 (by omega) ?_ | refine r_dect (by omega) ?_ | refine r_decf (by omega) ?_ | refine r_eqt (by omega) ?_ | refine r_eqf (by omega) ?_ | refine r_net (by omega) ?_ | refine r_nef (by omega) ?_ | refine r_u8 (by omega) ?_ | refine r_u64 (by omega) ?_ | refine r_i32 (by omega) ?_ | refine r_u32 (by omega) ?_ | refine r_rem (by omega) ?_ | refine r_quo (by omega) ?_ | refine r_ldb (by assumption) (by rfl) ?_ | refine r_ldbE (by assumption) (by rfl) ?_))); (conv => whnf)
      refine r_drawE fun w1 hx1 hh1 => ?_
      (repeat ((conv => whnf); (first | with_reducible refine r_tt ?_ | with_reducible refine r_ff ?_ | with_reducible refine r_ntt ?_ | with_reducible refine r_nff ?_ | refine r_need (by omega) ?_ | refine r_i64 (by omega) ?_ | refine r_dect (by omega) ?_ | refine r_decf (by omega) ?_ | refine r_eqt (by omega) ?_ | refine r_eqf (by omega) ?_ | refine r_net (by omega) ?_ | refine r_nef (by omega) ?_ | refine r_u8 (by omega) ?_ | refine r_u64 (by omega) ?_ | refine r_i32 (by omega) ?_ | refine r_u32 (by omega) ?_ | refine r_rem (by omega) ?_ | refine r_quo (by omega) ?_ | refine r_ldb (by assumption) (by rfl) ?_ | refine r_ldbE (by assumption) (by rfl) ?_))); (conv => whnf)
      have hblk1 := hblk.ext hx1
      rw [ha] at hblk1
      refine r_drawE fun w2 hx2 hh2 => ?_
      (repeat ((conv => whnf); (first | with_reducible refine r_tt ?_ | with_reducible refine r_ff ?_ | with_reducible refine r_ntt ?_ | with_reducible refine r_nff ?_ | refine r_need (by omega) ?_ | refine r_i64 (by omega) ?_ | refine r_dect (by omega) ?_ | refine r_decf (by omega) ?_ | refine r_eqt (by omega) ?_ | refine r_eqf (by omega) ?_ | refine r_net (by omega) ?_ | refine r_nef (by omega) ?_ | refine r_u8 (by omega) ?_ | refine r_u64 (by omega) ?_ | refine r_i32 (by omega) ?_ | refine r_u32 (by omega) ?_ | refine r_rem (by omega) ?_ | refine r_quo (by omega) ?_ | refine r_ldb (by assumption) (by rfl) ?_ | refine r_ldbE (by assumption) (by rfl) ?_))); (conv => whnf)
      rw [hi]
      refine r_cal (place_ok ((h.ext hx1).ext hx2) i (by omega) hpos) ?_
      rintro _ w3 ⟨hx3, hh3, rfl⟩
      (repeat ((conv => whnf); (first | with_reducible refine r_tt ?_ | with_reducible refine r_ff ?_ | with_reducible refine r_ntt ?_ | with_reducible refine r_nff ?_ | refine r_need (by omega) ?_ | refine r_i64 (by omega) ?_ | refine r_dect (by omega) ?_ | refine r_decf (by omega) ?_ | refine r_eqt (by omega) ?_ | refine r_eqf (by omega) ?_ | refine r_net (by omega) ?_ | refine r_nef (by omega) ?_ | refine r_u8 (by omega) ?_ | refine r_u64 (by omega) ?_ | refine r_i32 (by omega) ?_ | refine r_u32 (by omega) ?_ | refine r_rem (by omega) ?_ | refine r_quo (by omega) ?_ | refine r_ldb (by assumption) (by rfl) ?_ | refine r_ldbE (by assumption) (by rfl) ?_))); (conv => whnf)
      refine r_held (hx2.trans hx3) ?_
      have hc := seg1 hz
      generalize (r.head + i) % r.len = p at hmod hc
      (repeat ((conv => whnf); (first | with_reducible refine r_tt ?_ | with_reducible refine r_ff ?_ | with_reducible refine r_ntt ?_ | with_reducible refine r_nff ?_ | refine r_need (by omega) ?_ | refine r_i64 (by omega) ?_ | refine r_dect (by omega) ?_ | refine r_decf (by omega) ?_ | refine r_eqt (by omega) ?_ | refine r_eqf (by omega) ?_ | refine r_net (by omega) ?_ | refine r_nef (by omega) ?_ | refine r_u8 (by omega) ?_ | refine r_u64 (by omega) ?_ | refine r_i32 (by omega) ?_ | refine r_u32 (by omega) ?_ | refine r_rem (by omega) ?_ | refine r_quo (by omega) ?_ | refine r_ldb (by assumption) (by rfl) ?_ | refine r_ldbE (by assumption) (by rfl) ?_))); (conv => whnf)
      refine r_need rfl ?_
      (repeat ((conv => whnf); (first | with_reducible refine r_tt ?_ | with_reducible refine r_ff ?_ | with_reducible refine r_ntt ?_ | with_reducible refine r_nff ?_ | refine r_need (by omega) ?_ | refine r_i64 (by omega) ?_ | refine r_dect (by omega) ?_ | refine r_decf (by omega) ?_ | refine r_eqt (by omega) ?_ | refine r_eqf (by omega) ?_ | refine r_net (by omega) ?_ | refine r_nef (by omega) ?_ | refine r_u8 (by omega) ?_ | refine r_u64 (by omega) ?_ | refine r_i32 (by omega) ?_ | refine r_u32 (by omega) ?_ | refine r_rem (by omega) ?_ | refine r_quo (by omega) ?_ | refine r_ldb (by assumption) (by rfl) ?_ | refine r_ldbE (by assumption) (by rfl) ?_))); (conv => whnf)
      rw [adr0]
      refine r_ldbE (hB.ext hx1) (by rw [Nat.mul_one, List.getElem?_append_left (by omega)]; exact hc) ?_
      (repeat ((conv => whnf); (first | with_reducible refine r_tt ?_ | with_reducible refine r_ff ?_ | with_reducible refine r_ntt ?_ | with_reducible refine r_nff ?_ | refine r_need (by omega) ?_ | refine r_i64 (by omega) ?_ | refine r_dect (by omega) ?_ | refine r_decf (by omega) ?_ | refine r_eqt (by omega) ?_ | refine r_eqf (by omega) ?_ | refine r_net (by omega) ?_ | refine r_nef (by omega) ?_ | refine r_u8 (by omega) ?_ | refine r_u64 (by omega) ?_ | refine r_i32 (by omega) ?_ | refine r_u32 (by omega) ?_ | refine r_rem (by omega) ?_ | refine r_quo (by omega) ?_ | refine r_ldb (by assumption) (by rfl) ?_ | refine r_ldbE (by assumption) (by rfl) ?_))); (conv => whnf)
      exact ⟨(hx1.trans hx2).trans hx3, rfl⟩
    · have hres : atV L fr n = none := by
        unfold atV
        rw [if_pos h1]
        exact List.getElem?_eq_none (by omega)
      rw [hres]
      (repeat ((conv => whnf); (first | with_reducible refine r_tt ?_ | with_reducible refine r_ff ?_ | with_reducible refine r_ntt ?_ | with_reducible refine r_nff ?_ | refine r_need (by omega) ?_ | refine r_i64 (by omega) ?_ | refine r_dect (by omega) ?_ | refine r_decf (by omega) ?_ | refine r_eqt (by omega) ?_ | refine r_eqf (by omega) ?_ | refine r_net (by omega) ?_ | refine r_nef (by omega) ?_ | refine r_u8 (by omega) ?_ | refine r_u64 (by omega) ?_ | refine r_i32 (by omega) ?_ | refine r_u32 (by omega) ?_ | refine r_rem (by omega) ?_ | refine r_quo (by omega) ?_ | refine r_ldb (by assumption) (by rfl) ?_ | refine r_ldbE (by assumption) (by rfl) ?_))); (conv => whnf)
      refine r_drawE fun w1 hx1 hh1 => ?_
      (repeat ((conv => whnf); (first | with_reducible refine r_tt ?_ | with_reducible refine r_ff ?_ | with_reducible refine r_ntt ?_ | with_reducible refine r_nff ?_ | refine r_need (by omega) ?_ | refine r_i64 (by omega) ?_ | refine r_dect (by omega) ?_ | refine r_decf (by omega) ?_ | refine r_eqt (by omega) ?_ | refine r_eqf (by omega) ?_ | refine r_net (by omega) ?_ | refine r_nef (by omega) ?_ | refine r_u8 (by omega) ?_ | refine r_u64 (by omega) ?_ | refine r_i32 (by omega) ?_ | refine r_u32 (by omega) ?_ | refine r_rem (by omega) ?_ | refine r_quo (by omega) ?_ | refine r_ldb (by assumption) (by rfl) ?_ | refine r_ldbE (by assumption) (by rfl) ?_))); (conv => whnf)
      exact ⟨hx1, rfl⟩
  · have hres : atV L fr n = none := by
      unfold atV
      rw [if_neg h1]
    rw [hres]
    (repeat ((conv => whnf); (first | with_reducible refine r_tt ?_ | with_reducible refine r_ff ?_ | with_reducible refine r_ntt ?_ | with_reducible refine r_nff ?_ | refine r_need (by omega) ?_ | refine r_i64 (by omega) ?_ | refine r_dect (by omega) ?_ | refine r_decf (by omega) ?_ | refine r_eqt (by omega) ?_ | refine r_eqf (by omega) ?_ | refine r_net (by omega) ?_ | refine r_nef (by omega) ?_ | refine r_u8 (by omega) ?_ | refine r_u64 (by omega) ?_ | refine r_i32 (by omega) ?_ | refine r_u32 (by omega) ?_ | refine r_rem (by omega) ?_ | refine r_quo (by omega) ?_ | refine r_ldb (by assumption) (by rfl) ?_ | refine r_ldbE (by assumption) (by rfl) ?_))); (conv => whnf)
    refine r_drawE fun w1 hx1 hh1 => ?_
    (repeat ((conv => whnf); (first | with_reducible refine r_tt ?_ | with_reducible refine r_ff ?_ | with_reducible refine r_ntt ?_ | with_reducible refine r_nff ?_ | refine r_need (by omega) ?_ | refine r_i64 (by omega) ?_ | refine r_dect (by omega) ?_ | refine r_decf (by omega) ?_ | refine r_eqt (by omega) ?_ | refine r_eqf (by omega) ?_ | refine r_net (by omega) ?_ | refine r_nef (by omega) ?_ | refine r_u8 (by omega) ?_ | refine r_u64 (by omega) ?_ | refine r_i32 (by omega) ?_ | refine r_u32 (by omega) ?_ | refine r_rem (by omega) ?_ | refine r_quo (by omega) ?_ | refine r_ldb (by assumption) (by rfl) ?_ | refine r_ldbE (by assumption) (by rfl) ?_))); (conv => whnf)
    exact ⟨hx1, rfl⟩

theorem Cut_no {w : World} {b : Nat} {g : Option Nat} {L : List Int} {fr room : Nat} (h : RG w b g L fr room) (n : Int) (hn : -9223372036854775808 ≤ n ∧ n ≤ 9223372036854775807) (hfr : fr ≤ 4611686018427387904) (hno : ¬ ((fr : Int) ≤ n ∧ n - fr ≤ L.length)) :
    Cal Try.prog 31 ⟨[.pointer (some ⟨b, 0, none⟩), .int .i64 n]⟩ w fun v w' => Ext w w' ∧ v = .bool false := by
  obtain ⟨r, h⟩ := h
  have hblk := rcBlk h
  refine go31 (by rfl) ?_
  by_cases h1 : (fr : Int) ≤ n
  all_goals
    (repeat ((conv => whnf); (first | with_reducible refine r_tt ?_ | with_reducible refine r_ff ?_ | with_reducible refine r_ntt ?_ | with_reducible refine r_nff ?_ | refine r_need (by omega) ?_ | refine r_i64 (by omega) ?_ | refine r_dect (by omega) ?_ | refine r_decf (by omega) ?_ | refine r_eqt (by omega) ?_ | refine r_eqf (by omega) ?_ | refine r_net (by omega) ?_ | refine r_nef (by omega) ?_ | refine r_u8 (by omega) ?_ | refine r_u64 (by omega) ?_ | refine r_i32 (by omega) ?_ | refine r_u32 (by omega) ?_ | refine r_rem (by omega) ?_ | refine r_quo (by omega) ?_ | refine r_ldb (by assumption) (by rfl) ?_ | refine r_ldbE (by assumption) (by rfl) ?_))); (conv => whnf)
    refine r_drawE fun w1 hx1 hh1 => ?_
    (repeat ((conv => whnf); (first | with_reducible refine r_tt ?_ | with_reducible refine r_ff ?_ | with_reducible refine r_ntt ?_ | with_reducible refine r_nff ?_ | refine r_need (by omega) ?_ | refine r_i64 (by omega) ?_ | refine r_dect (by omega) ?_ | refine r_decf (by omega) ?_ | refine r_eqt (by omega) ?_ | refine r_eqf (by omega) ?_ | refine r_net (by omega) ?_ | refine r_nef (by omega) ?_ | refine r_u8 (by omega) ?_ | refine r_u64 (by omega) ?_ | refine r_i32 (by omega) ?_ | refine r_u32 (by omega) ?_ | refine r_rem (by omega) ?_ | refine r_quo (by omega) ?_ | refine r_ldb (by assumption) (by rfl) ?_ | refine r_ldbE (by assumption) (by rfl) ?_))); (conv => whnf)
    exact ⟨hx1, rfl⟩
theorem Cut_ok {w : World} {b : Nat} {g : Option Nat} {L : List Int} {fr room : Nat} (h : RG w b g L fr room) (n : Int) (hn : -9223372036854775808 ≤ n ∧ n ≤ 9223372036854775807) (hfr : fr ≤ 4611686018427387904) (hyes : (fr : Int) ≤ n ∧ n - fr ≤ L.length) :
    Cal Try.prog 31 ⟨[.pointer (some ⟨b, 0, none⟩), .int .i64 n]⟩ w fun v w' => v = .bool true ∧ RG w' b g (L.take (n - fr).toNat) fr room ∧ Chg (fun k => k = b ∨ g = some k) w w' := by
  have h0 := h
  obtain ⟨r, h⟩ := h
  have hblk := rcBlk h
  have hll := h0.len_le
  rw [encs_len] at hll
  refine go31 (by rfl) ?_
  (repeat ((conv => whnf); (first | with_reducible refine r_tt ?_ | with_reducible refine r_ff ?_ | with_reducible refine r_ntt ?_ | with_reducible refine r_nff ?_ | refine r_need (by omega) ?_ | refine r_i64 (by omega) ?_ | refine r_dect (by omega) ?_ | refine r_decf (by omega) ?_ | refine r_eqt (by omega) ?_ | refine r_eqf (by omega) ?_ | refine r_net (by omega) ?_ | refine r_nef (by omega) ?_ | refine r_u8 (by omega) ?_ | refine r_u64 (by omega) ?_ | refine r_i32 (by omega) ?_ | refine r_u32 (by omega) ?_ | refine r_rem (by omega) ?_ | refine r_quo (by omega) ?_ | refine r_ldb (by assumption) (by rfl) ?_ | refine r_ldbE (by assumption) (by rfl) ?_))); (conv => whnf)
  refine r_drawE fun w1 hx1 hh1 => ?_
  (repeat ((conv => whnf); (first | with_reducible refine r_tt ?_ | with_reducible refine r_ff ?_ | with_reducible refine r_ntt ?_ | with_reducible refine r_nff ?_ | refine r_need (by omega) ?_ | refine r_i64 (by omega) ?_ | refine r_dect (by omega) ?_ | refine r_decf (by omega) ?_ | refine r_eqt (by omega) ?_ | refine r_eqf (by omega) ?_ | refine r_net (by omega) ?_ | refine r_nef (by omega) ?_ | refine r_u8 (by omega) ?_ | refine r_u64 (by omega) ?_ | refine r_i32 (by omega) ?_ | refine r_u32 (by omega) ?_ | refine r_rem (by omega) ?_ | refine r_quo (by omega) ?_ | refine r_ldb (by assumption) (by rfl) ?_ | refine r_ldbE (by assumption) (by rfl) ?_))); (conv => whnf)
  refine r_loop (σ := Nat) (fun _ => []) (fun s w' => s ≤ L.length ∧ n - fr ≤ s ∧ RG w' b g (L.take s) fr room ∧ Chg (fun k => k = b ∨ g = some k) w w') (fun s _ => s) L.length rfl ⟨Nat.le_refl _, hyes.2, by rw [List.take_length]; exact h0.ext hx1, hx1.wide _⟩ ?_
  rintro s w2 again ⟨hs, hns, hR, hc⟩ hagain
  have hR0 := hR
  obtain ⟨r2, hR⟩ := hR
  have hblk2 := rcBlk hR
  have hsl : (L.take s).length = s := by rw [List.length_take]; omega
  rw [hsl] at hblk2
  have hb := hR0.lt.1
  (repeat ((conv => whnf); (first | with_reducible refine r_tt ?_ | with_reducible refine r_ff ?_ | with_reducible refine r_ntt ?_ | with_reducible refine r_nff ?_ | refine r_need (by omega) ?_ | refine r_i64 (by omega) ?_ | refine r_dect (by omega) ?_ | refine r_decf (by omega) ?_ | refine r_eqt (by omega) ?_ | refine r_eqf (by omega) ?_ | refine r_net (by omega) ?_ | refine r_nef (by omega) ?_ | refine r_u8 (by omega) ?_ | refine r_u64 (by omega) ?_ | refine r_i32 (by omega) ?_ | refine r_u32 (by omega) ?_ | refine r_rem (by omega) ?_ | refine r_quo (by omega) ?_ | refine r_ldb (by assumption) (by rfl) ?_ | refine r_ldbE (by assumption) (by rfl) ?_))); (conv => whnf)
  refine r_drawE fun w3 hx3 hh3 => ?_
  by_cases hgt : (s : Int) > n - fr
  · (repeat ((conv => whnf); (first | with_reducible refine r_tt ?_ | with_reducible refine r_ff ?_ | with_reducible refine r_ntt ?_ | with_reducible refine r_nff ?_ | refine r_need (by omega) ?_ | refine r_i64 (by omega) ?_ | refine r_dect (by omega) ?_ | refine r_decf (by omega) ?_ | refine r_eqt (by omega) ?_ | refine r_eqf (by omega) ?_ | refine r_net (by omega) ?_ | refine r_nef (by omega) ?_ | refine r_u8 (by omega) ?_ | refine r_u64 (by omega) ?_ | refine r_i32 (by omega) ?_ | refine r_u32 (by omega) ?_ | refine r_rem (by omega) ?_ | refine r_quo (by omega) ?_ | refine r_ldb (by assumption) (by rfl) ?_ | refine r_ldbE (by assumption) (by rfl) ?_))); (conv => whnf)
    obtain ⟨m, rfl⟩ : ∃ m, s = m + 1 := ⟨s - 1, by omega⟩
    have htk : L.take (m + 1) = L.take m ++ [L[m]] := List.take_succ_eq_append_getElem (by omega)
    rw [htk] at hR0
    refine r_cal (Pop_ok (hR0.ext hx3)) ?_
    rintro _ w4 ⟨rfl, hR4, hc4⟩
    (repeat ((conv => whnf); (first | with_reducible refine r_tt ?_ | with_reducible refine r_ff ?_ | with_reducible refine r_ntt ?_ | with_reducible refine r_nff ?_ | refine r_need (by omega) ?_ | refine r_i64 (by omega) ?_ | refine r_dect (by omega) ?_ | refine r_decf (by omega) ?_ | refine r_eqt (by omega) ?_ | refine r_eqf (by omega) ?_ | refine r_net (by omega) ?_ | refine r_nef (by omega) ?_ | refine r_u8 (by omega) ?_ | refine r_u64 (by omega) ?_ | refine r_i32 (by omega) ?_ | refine r_u32 (by omega) ?_ | refine r_rem (by omega) ?_ | refine r_quo (by omega) ?_ | refine r_ldb (by assumption) (by rfl) ?_ | refine r_ldbE (by assumption) (by rfl) ?_))); (conv => whnf)
    exact hagain m w4 ⟨by omega, by omega, hR4, (hc.ext hx3).trans hc4⟩ (by omega)
  · (repeat ((conv => whnf); (first | with_reducible refine r_tt ?_ | with_reducible refine r_ff ?_ | with_reducible refine r_ntt ?_ | with_reducible refine r_nff ?_ | refine r_need (by omega) ?_ | refine r_i64 (by omega) ?_ | refine r_dect (by omega) ?_ | refine r_decf (by omega) ?_ | refine r_eqt (by omega) ?_ | refine r_eqf (by omega) ?_ | refine r_net (by omega) ?_ | refine r_nef (by omega) ?_ | refine r_u8 (by omega) ?_ | refine r_u64 (by omega) ?_ | refine r_i32 (by omega) ?_ | refine r_u32 (by omega) ?_ | refine r_rem (by omega) ?_ | refine r_quo (by omega) ?_ | refine r_ldb (by assumption) (by rfl) ?_ | refine r_ldbE (by assumption) (by rfl) ?_))); (conv => whnf)
    refine ⟨rfl, ?_, hc.ext hx3⟩
    rw [show (n - fr).toNat = s by omega]
    exact hR0.ext hx3

def vals (L : List Int) : List Value := L.map (.int .i32)
theorem All_nil (w : World) : Cal Try.prog 21 ⟨[.pointer none]⟩ w fun v w' => w' = w ∧ v = .slice none 0 0 := by
  refine go21 (by rfl) ?_
  (repeat ((conv => whnf); (first | with_reducible refine r_tt ?_ | with_reducible refine r_ff ?_ | with_reducible refine r_ntt ?_ | with_reducible refine r_nff ?_ | refine r_need (by omega) ?_ | refine r_i64 (by omega) ?_ | refine r_dect (by omega) ?_ | refine r_decf (by omega) ?_ | refine r_eqt (by omega) ?_ | refine r_eqf (by omega) ?_ | refine r_net (by omega) ?_ | refine r_nef (by omega) ?_ | refine r_u8 (by omega) ?_ | refine r_u64 (by omega) ?_ | refine r_i32 (by omega) ?_ | refine r_u32 (by omega) ?_ | refine r_rem (by omega) ?_ | refine r_quo (by omega) ?_ | refine r_ldb (by assumption) (by rfl) ?_ | refine r_ldbE (by assumption) (by rfl) ?_))); (conv => whnf)
  refine r_cal (Len_nil w) ?_
  rintro _ w1 ⟨rfl, rfl⟩
  (repeat ((conv => whnf); (first | with_reducible refine r_tt ?_ | with_reducible refine r_ff ?_ | with_reducible refine r_ntt ?_ | with_reducible refine r_nff ?_ | refine r_need (by omega) ?_ | refine r_i64 (by omega) ?_ | refine r_dect (by omega) ?_ | refine r_decf (by omega) ?_ | refine r_eqt (by omega) ?_ | refine r_eqf (by omega) ?_ | refine r_net (by omega) ?_ | refine r_nef (by omega) ?_ | refine r_u8 (by omega) ?_ | refine r_u64 (by omega) ?_ | refine r_i32 (by omega) ?_ | refine r_u32 (by omega) ?_ | refine r_rem (by omega) ?_ | refine r_quo (by omega) ?_ | refine r_ldb (by assumption) (by rfl) ?_ | refine r_ldbE (by assumption) (by rfl) ?_))); (conv => whnf)
  refine r_loop (σ := Unit) (fun _ => [.slice none 0 0, .int .i64 0]) (fun _ w' => w' = w1) (fun _ _ => 0) () rfl rfl ?_
  rintro _ w2 again rfl _
  (repeat ((conv => whnf); (first | with_reducible refine r_tt ?_ | with_reducible refine r_ff ?_ | with_reducible refine r_ntt ?_ | with_reducible refine r_nff ?_ | refine r_need (by omega) ?_ | refine r_i64 (by omega) ?_ | refine r_dect (by omega) ?_ | refine r_decf (by omega) ?_ | refine r_eqt (by omega) ?_ | refine r_eqf (by omega) ?_ | refine r_net (by omega) ?_ | refine r_nef (by omega) ?_ | refine r_u8 (by omega) ?_ | refine r_u64 (by omega) ?_ | refine r_i32 (by omega) ?_ | refine r_u32 (by omega) ?_ | refine r_rem (by omega) ?_ | refine r_quo (by omega) ?_ | refine r_ldb (by assumption) (by rfl) ?_ | refine r_ldbE (by assumption) (by rfl) ?_))); (conv => whnf)
  exact ⟨rfl, rfl⟩
theorem All_ok {w : World} {b : Nat} {g : Option Nat} {L : List Int} {fr room : Nat} (h : RG w b g L fr room) :
    Cal Try.prog 21 ⟨[.pointer (some ⟨b, 0, none⟩)]⟩ w fun v w' => Ext w w' ∧ w'.ownsRow w.heap.size 21 1 v L.length (vals L) := by
  have h0 := h
  obtain ⟨r, h⟩ := h
  have hblk := rcBlk h
  have hle := h.le
  rw [encs_len] at hle
  have hfit := h.fits
  have hmost := h.most
  have hlen := h.len
  refine go21 (by rfl) ?_
  (repeat ((conv => whnf); (first | with_reducible refine r_tt ?_ | with_reducible refine r_ff ?_ | with_reducible refine r_ntt ?_ | with_reducible refine r_nff ?_ | refine r_need (by omega) ?_ | refine r_i64 (by omega) ?_ | refine r_dect (by omega) ?_ | refine r_decf (by omega) ?_ | refine r_eqt (by omega) ?_ | refine r_eqf (by omega) ?_ | refine r_net (by omega) ?_ | refine r_nef (by omega) ?_ | refine r_u8 (by omega) ?_ | refine r_u64 (by omega) ?_ | refine r_i32 (by omega) ?_ | refine r_u32 (by omega) ?_ | refine r_rem (by omega) ?_ | refine r_quo (by omega) ?_ | refine r_ldb (by assumption) (by rfl) ?_ | refine r_ldbE (by assumption) (by rfl) ?_))); (conv => whnf)
  refine r_cal (Len_ok h0) ?_
  rintro _ w1 ⟨rfl, rfl⟩
  (repeat ((conv => whnf); (first | with_reducible refine r_tt ?_ | with_reducible refine r_ff ?_ | with_reducible refine r_ntt ?_ | with_reducible refine r_nff ?_ | refine r_need (by omega) ?_ | refine r_i64 (by omega) ?_ | refine r_dect (by omega) ?_ | refine r_decf (by omega) ?_ | refine r_eqt (by omega) ?_ | refine r_eqf (by omega) ?_ | refine r_net (by omega) ?_ | refine r_nef (by omega) ?_ | refine r_u8 (by omega) ?_ | refine r_u64 (by omega) ?_ | refine r_i32 (by omega) ?_ | refine r_u32 (by omega) ?_ | refine r_rem (by omega) ?_ | refine r_quo (by omega) ?_ | refine r_ldb (by assumption) (by rfl) ?_ | refine r_ldbE (by assumption) (by rfl) ?_))); (conv => whnf)
  refine r_loop (σ := Nat × Value) (fun s => [s.2, .int .i64 (s.1 : Int)]) (fun s w' => s.1 ≤ L.length ∧ Ext w1 w' ∧ w'.ownsRow w1.heap.size 21 1 s.2 s.1 (vals (L.take s.1))) (fun s _ => L.length - s.1) (0, .slice none 0 0) rfl ⟨Nat.zero_le _, Ext.refl _, World.ownsRow_nil _ _ _ _⟩ ?_
  rintro ⟨i, v⟩ w2 again ⟨hi, hx2, hown⟩ hagain
  dsimp only at *
  by_cases hil : i < L.length
  · have hpos : 0 < r.len := by omega
    obtain ⟨x, rfl, ha, hB, hxb⟩ := h.pos hpos
    have hz := h.at' i (enc L[i]) (encs_get (by simp))
    have hmod := Nat.mod_lt (r.head + i) hpos
    have hblk2 := hblk.ext hx2
    rw [ha] at hblk2
    have hlt := h0.lt
    have hnb : ¬ v.ownBlock = some b := fun e => by have := own_ge hown e; omega
    have hnx : ¬ v.ownBlock = some x := fun e => by have := own_ge hown e; have := hlt.2 x rfl; omega
    (repeat ((conv => whnf); (first | with_reducible refine r_tt ?_ | with_reducible refine r_ff ?_ | with_reducible refine r_ntt ?_ | with_reducible refine r_nff ?_ | refine r_need (by omega) ?_ | refine r_i64 (by omega) ?_ | refine r_dect (by omega) ?_ | refine r_decf (by omega) ?_ | refine r_eqt (by omega) ?_ | refine r_eqf (by omega) ?_ | refine r_net (by omega) ?_ | refine r_nef (by omega) ?_ | refine r_u8 (by omega) ?_ | refine r_u64 (by omega) ?_ | refine r_i32 (by omega) ?_ | refine r_u32 (by omega) ?_ | refine r_rem (by omega) ?_ | refine r_quo (by omega) ?_ | refine r_ldb (by assumption) (by rfl) ?_ | refine r_ldbE (by assumption) (by rfl) ?_))); (conv => whnf)
    refine r_drawS (fun k => v.ownBlock = some k) fun w3 hx3 hh3 => ?_
    (repeat ((conv => whnf); (first | refine r_ldbS hblk2 (by rfl) hnb ?_ | with_reducible refine r_tt ?_ | with_reducible refine r_ff ?_ | with_reducible refine r_ntt ?_ | with_reducible refine r_nff ?_ | refine r_need (by omega) ?_ | refine r_i64 (by omega) ?_ | refine r_dect (by omega) ?_ | refine r_decf (by omega) ?_ | refine r_eqt (by omega) ?_ | refine r_eqf (by omega) ?_ | refine r_net (by omega) ?_ | refine r_nef (by omega) ?_ | refine r_u8 (by omega) ?_ | refine r_u64 (by omega) ?_ | refine r_i32 (by omega) ?_ | refine r_u32 (by omega) ?_ | refine r_rem (by omega) ?_ | refine r_quo (by omega) ?_ | refine r_ldb (by assumption) (by rfl) ?_ | refine r_ldbE (by assumption) (by rfl) ?_))); (conv => whnf)
    refine r_cal (place_ok ((h.ext hx2).ext hx3) i (by omega) hpos) ?_
    rintro _ w4 ⟨hx4, hh4, rfl⟩
    (repeat ((conv => whnf); (first | with_reducible refine r_tt ?_ | with_reducible refine r_ff ?_ | with_reducible refine r_ntt ?_ | with_reducible refine r_nff ?_ | refine r_need (by omega) ?_ | refine r_i64 (by omega) ?_ | refine r_dect (by omega) ?_ | refine r_decf (by omega) ?_ | refine r_eqt (by omega) ?_ | refine r_eqf (by omega) ?_ | refine r_net (by omega) ?_ | refine r_nef (by omega) ?_ | refine r_u8 (by omega) ?_ | refine r_u64 (by omega) ?_ | refine r_i32 (by omega) ?_ | refine r_u32 (by omega) ?_ | refine r_rem (by omega) ?_ | refine r_quo (by omega) ?_ | refine r_ldb (by assumption) (by rfl) ?_ | refine r_ldbE (by assumption) (by rfl) ?_))); (conv => whnf)
    refine r_held ((hx3.trans hx4).wide _) ?_
    have hc := seg1 hz
    generalize (r.head + i) % r.len = p at hmod hc
    (repeat ((conv => whnf); (first | with_reducible refine r_tt ?_ | with_reducible refine r_ff ?_ | with_reducible refine r_ntt ?_ | with_reducible refine r_nff ?_ | refine r_need (by omega) ?_ | refine r_i64 (by omega) ?_ | refine r_dect (by omega) ?_ | refine r_decf (by omega) ?_ | refine r_eqt (by omega) ?_ | refine r_eqf (by omega) ?_ | refine r_net (by omega) ?_ | refine r_nef (by omega) ?_ | refine r_u8 (by omega) ?_ | refine r_u64 (by omega) ?_ | refine r_i32 (by omega) ?_ | refine r_u32 (by omega) ?_ | refine r_rem (by omega) ?_ | refine r_quo (by omega) ?_ | refine r_ldb (by assumption) (by rfl) ?_ | refine r_ldbE (by assumption) (by rfl) ?_))); (conv => whnf)
    refine r_need rfl ?_
    (repeat ((conv => whnf); (first | with_reducible refine r_tt ?_ | with_reducible refine r_ff ?_ | with_reducible refine r_ntt ?_ | with_reducible refine r_nff ?_ | refine r_need (by omega) ?_ | refine r_i64 (by omega) ?_ | refine r_dect (by omega) ?_ | refine r_decf (by omega) ?_ | refine r_eqt (by omega) ?_ | refine r_eqf (by omega) ?_ | refine r_net (by omega) ?_ | refine r_nef (by omega) ?_ | refine r_u8 (by omega) ?_ | refine r_u64 (by omega) ?_ | refine r_i32 (by omega) ?_ | refine r_u32 (by omega) ?_ | refine r_rem (by omega) ?_ | refine r_quo (by omega) ?_ | refine r_ldb (by assumption) (by rfl) ?_ | refine r_ldbE (by assumption) (by rfl) ?_))); (conv => whnf)
    rw [adr0]
    refine r_ldbS (hB.ext hx2) (by rw [Nat.mul_one, List.getElem?_append_left (by omega)]; exact hc) hnx ?_
    (repeat ((conv => whnf); (first | with_reducible refine r_tt ?_ | with_reducible refine r_ff ?_ | with_reducible refine r_ntt ?_ | with_reducible refine r_nff ?_ | refine r_need (by omega) ?_ | refine r_i64 (by omega) ?_ | refine r_dect (by omega) ?_ | refine r_decf (by omega) ?_ | refine r_eqt (by omega) ?_ | refine r_eqf (by omega) ?_ | refine r_net (by omega) ?_ | refine r_nef (by omega) ?_ | refine r_u8 (by omega) ?_ | refine r_u64 (by omega) ?_ | refine r_i32 (by omega) ?_ | refine r_u32 (by omega) ?_ | refine r_rem (by omega) ?_ | refine r_quo (by omega) ?_ | refine r_ldb (by assumption) (by rfl) ?_ | refine r_ldbE (by assumption) (by rfl) ?_))); (conv => whnf)
    refine r_new fun y w5 hx5 hb5 hs5 hblk5 => ?_
    have hblk5 : Blk w5 y 21 [.int .i32 L[i]] := hblk5
    have hx25 := (hx3.trans hx4).trans hx5
    (repeat ((conv => whnf); (first | with_reducible refine r_tt ?_ | with_reducible refine r_ff ?_ | with_reducible refine r_ntt ?_ | with_reducible refine r_nff ?_ | refine r_need (by omega) ?_ | refine r_i64 (by omega) ?_ | refine r_dect (by omega) ?_ | refine r_decf (by omega) ?_ | refine r_eqt (by omega) ?_ | refine r_eqf (by omega) ?_ | refine r_net (by omega) ?_ | refine r_nef (by omega) ?_ | refine r_u8 (by omega) ?_ | refine r_u64 (by omega) ?_ | refine r_i32 (by omega) ?_ | refine r_u32 (by omega) ?_ | refine r_rem (by omega) ?_ | refine r_quo (by omega) ?_ | refine r_ldb (by assumption) (by rfl) ?_ | refine r_ldbE (by assumption) (by rfl) ?_))); (conv => whnf)
    refine r_held (hx25.wide _) ?_
    (repeat ((conv => whnf); (first | with_reducible refine r_tt ?_ | with_reducible refine r_ff ?_ | with_reducible refine r_ntt ?_ | with_reducible refine r_nff ?_ | refine r_need (by omega) ?_ | refine r_i64 (by omega) ?_ | refine r_dect (by omega) ?_ | refine r_decf (by omega) ?_ | refine r_eqt (by omega) ?_ | refine r_eqf (by omega) ?_ | refine r_net (by omega) ?_ | refine r_nef (by omega) ?_ | refine r_u8 (by omega) ?_ | refine r_u64 (by omega) ?_ | refine r_i32 (by omega) ?_ | refine r_u32 (by omega) ?_ | refine r_rem (by omega) ?_ | refine r_quo (by omega) ?_ | refine r_ldb (by assumption) (by rfl) ?_ | refine r_ldbE (by assumption) (by rfl) ?_))); (conv => whnf)
    refine r_app el (own_ext hown hx25) (View.of_blk (n := 1) hblk5 (by simp) (by simp [maxLen])) (by simp [Value.oneCell']) (by omega) (by have := hx2.size; have := hx25.size; omega) fun v' w6 hown6 hc6 _ => ?_
    (repeat ((conv => whnf); (first | with_reducible refine r_tt ?_ | with_reducible refine r_ff ?_ | with_reducible refine r_ntt ?_ | with_reducible refine r_nff ?_ | refine r_need (by omega) ?_ | refine r_i64 (by omega) ?_ | refine r_dect (by omega) ?_ | refine r_decf (by omega) ?_ | refine r_eqt (by omega) ?_ | refine r_eqf (by omega) ?_ | refine r_net (by omega) ?_ | refine r_nef (by omega) ?_ | refine r_u8 (by omega) ?_ | refine r_u64 (by omega) ?_ | refine r_i32 (by omega) ?_ | refine r_u32 (by omega) ?_ | refine r_rem (by omega) ?_ | refine r_quo (by omega) ?_ | refine r_ldb (by assumption) (by rfl) ?_ | refine r_ldbE (by assumption) (by rfl) ?_))); (conv => whnf)
    refine r_held ((hx25.wide _).trans hc6) ?_
    (repeat ((conv => whnf); (first | with_reducible refine r_tt ?_ | with_reducible refine r_ff ?_ | with_reducible refine r_ntt ?_ | with_reducible refine r_nff ?_ | refine r_need (by omega) ?_ | refine r_i64 (by omega) ?_ | refine r_dect (by omega) ?_ | refine r_decf (by omega) ?_ | refine r_eqt (by omega) ?_ | refine r_eqf (by omega) ?_ | refine r_net (by omega) ?_ | refine r_nef (by omega) ?_ | refine r_u8 (by omega) ?_ | refine r_u64 (by omega) ?_ | refine r_i32 (by omega) ?_ | refine r_u32 (by omega) ?_ | refine r_rem (by omega) ?_ | refine r_quo (by omega) ?_ | refine r_ldb (by assumption) (by rfl) ?_ | refine r_ldbE (by assumption) (by rfl) ?_))); (conv => whnf)
    refine hagain (i + 1, v') w6 ⟨by dsimp only; omega, Chg.own (hx2.trans hx25) hc6 (own_ext hown hx25), ?_⟩ (by dsimp only; omega)
    have e : vals (L.take (i + 1)) = vals (L.take i) ++ [.int .i32 L[i]] := by
      rw [List.take_succ_eq_append_getElem hil]
      simp only [vals, List.map_append, List.map_cons, List.map_nil]
    dsimp only
    rw [e]
    exact hown6
  · have : i = L.length := by omega
    subst this
    rw [List.take_length] at hown
    (repeat ((conv => whnf); (first | with_reducible refine r_tt ?_ | with_reducible refine r_ff ?_ | with_reducible refine r_ntt ?_ | with_reducible refine r_nff ?_ | refine r_need (by omega) ?_ | refine r_i64 (by omega) ?_ | refine r_dect (by omega) ?_ | refine r_decf (by omega) ?_ | refine r_eqt (by omega) ?_ | refine r_eqf (by omega) ?_ | refine r_net (by omega) ?_ | refine r_nef (by omega) ?_ | refine r_u8 (by omega) ?_ | refine r_u64 (by omega) ?_ | refine r_i32 (by omega) ?_ | refine r_u32 (by omega) ?_ | refine r_rem (by omega) ?_ | refine r_quo (by omega) ?_ | refine r_ldb (by assumption) (by rfl) ?_ | refine r_ldbE (by assumption) (by rfl) ?_))); (conv => whnf)
    exact ⟨hx2, hown⟩

theorem Clone_nil (w : World) : Cal Try.prog 59 ⟨[.slice none 0 0]⟩ w fun v w' => w' = w ∧ v = .slice none 0 0 := by
  refine go59 (by rfl) ?_
  (repeat ((conv => whnf); (first | with_reducible refine r_tt ?_ | with_reducible refine r_ff ?_ | with_reducible refine r_ntt ?_ | with_reducible refine r_nff ?_ | refine r_need (by omega) ?_ | refine r_i64 (by omega) ?_ | refine r_dect (by omega) ?_ | refine r_decf (by omega) ?_ | refine r_eqt (by omega) ?_ | refine r_eqf (by omega) ?_ | refine r_net (by omega) ?_ | refine r_nef (by omega) ?_ | refine r_u8 (by omega) ?_ | refine r_u64 (by omega) ?_ | refine r_i32 (by omega) ?_ | refine r_u32 (by omega) ?_ | refine r_rem (by omega) ?_ | refine r_quo (by omega) ?_ | refine r_ldb (by assumption) (by rfl) ?_ | refine r_ldbE (by assumption) (by rfl) ?_))); (conv => whnf)
  exact ⟨rfl, rfl⟩
theorem Clone_ok {w : World} {a : Addr} {len cap : Nat} {C : List Value} (hv : View w (some a) len cap 1 C) (hone : ∀ v ∈ C, v.oneCell' = true) (hl : len ≤ 100000000) :
    Cal Try.prog 59 ⟨[.slice (some a) len cap]⟩ w fun v w' => Ext w w' ∧ w'.ownsRow w.heap.size 21 1 v len C ∧ v ≠ .slice none 0 0 := by
  refine go59 (by rfl) ?_
  (repeat ((conv => whnf); (first | with_reducible refine r_tt ?_ | with_reducible refine r_ff ?_ | with_reducible refine r_ntt ?_ | with_reducible refine r_nff ?_ | refine r_need (by omega) ?_ | refine r_i64 (by omega) ?_ | refine r_dect (by omega) ?_ | refine r_decf (by omega) ?_ | refine r_eqt (by omega) ?_ | refine r_eqf (by omega) ?_ | refine r_net (by omega) ?_ | refine r_nef (by omega) ?_ | refine r_u8 (by omega) ?_ | refine r_u64 (by omega) ?_ | refine r_i32 (by omega) ?_ | refine r_u32 (by omega) ?_ | refine r_rem (by omega) ?_ | refine r_quo (by omega) ?_ | refine r_ldb (by assumption) (by rfl) ?_ | refine r_ldbE (by assumption) (by rfl) ?_))); (conv => whnf)
  refine r_new fun x w1 hx1 hb1 hs1 hblk1 => ?_
  have he : w1.ownsRow w.heap.size 21 1 (.slice (some ⟨x, 0, none⟩) 0 0) 0 [] := ⟨rfl, .inr ⟨x, 0, #[], rfl, hb1, hblk1, Nat.le_refl _, by simp [maxLen], rfl, rfl⟩⟩
  (repeat ((conv => whnf); (first | with_reducible refine r_tt ?_ | with_reducible refine r_ff ?_ | with_reducible refine r_ntt ?_ | with_reducible refine r_nff ?_ | refine r_need (by omega) ?_ | refine r_i64 (by omega) ?_ | refine r_dect (by omega) ?_ | refine r_decf (by omega) ?_ | refine r_eqt (by omega) ?_ | refine r_eqf (by omega) ?_ | refine r_net (by omega) ?_ | refine r_nef (by omega) ?_ | refine r_u8 (by omega) ?_ | refine r_u64 (by omega) ?_ | refine r_i32 (by omega) ?_ | refine r_u32 (by omega) ?_ | refine r_rem (by omega) ?_ | refine r_quo (by omega) ?_ | refine r_ldb (by assumption) (by rfl) ?_ | refine r_ldbE (by assumption) (by rfl) ?_))); (conv => whnf)
  refine r_app el he (hv.ext hx1) hone (by omega) hx1.size fun v w2 hown2 hc2 hnil => ?_
  (repeat ((conv => whnf); (first | with_reducible refine r_tt ?_ | with_reducible refine r_ff ?_ | with_reducible refine r_ntt ?_ | with_reducible refine r_nff ?_ | refine r_need (by omega) ?_ | refine r_i64 (by omega) ?_ | refine r_dect (by omega) ?_ | refine r_decf (by omega) ?_ | refine r_eqt (by omega) ?_ | refine r_eqf (by omega) ?_ | refine r_net (by omega) ?_ | refine r_nef (by omega) ?_ | refine r_u8 (by omega) ?_ | refine r_u64 (by omega) ?_ | refine r_i32 (by omega) ?_ | refine r_u32 (by omega) ?_ | refine r_rem (by omega) ?_ | refine r_quo (by omega) ?_ | refine r_ldb (by assumption) (by rfl) ?_ | refine r_ldbE (by assumption) (by rfl) ?_))); (conv => whnf)
  refine ⟨Chg.own hx1 hc2 he, by simpa using hown2, fun e => ?_⟩
  have := (hnil.1 e).1
  cases this

theorem Copy_nil (w : World) : Cal Try.prog 26 ⟨[.pointer none]⟩ w fun v w' => w' = w ∧ v = .pointer none := by
  refine go26 (by rfl) ?_
  (repeat ((conv => whnf); (first | with_reducible refine r_tt ?_ | with_reducible refine r_ff ?_ | with_reducible refine r_ntt ?_ | with_reducible refine r_nff ?_ | refine r_need (by omega) ?_ | refine r_i64 (by omega) ?_ | refine r_dect (by omega) ?_ | refine r_decf (by omega) ?_ | refine r_eqt (by omega) ?_ | refine r_eqf (by omega) ?_ | refine r_net (by omega) ?_ | refine r_nef (by omega) ?_ | refine r_u8 (by omega) ?_ | refine r_u64 (by omega) ?_ | refine r_i32 (by omega) ?_ | refine r_u32 (by omega) ?_ | refine r_rem (by omega) ?_ | refine r_quo (by omega) ?_ | refine r_ldb (by assumption) (by rfl) ?_ | refine r_ldbE (by assumption) (by rfl) ?_))); (conv => whnf)
  exact ⟨rfl, rfl⟩
theorem Copy_ok {w : World} {b : Nat} {g : Option Nat} {L : List Int} {fr room : Nat} (h : RG w b g L fr room) :
    Cal Try.prog 26 ⟨[.pointer (some ⟨b, 0, none⟩)]⟩ w fun v w' => ∃ b' g', v = .pointer (some ⟨b', 0, none⟩) ∧ Ext w w' ∧ w.heap.size ≤ b' ∧ (∀ x, g' = some x → w.heap.size ≤ x) ∧ RG w' b' g' L fr room := by
  obtain ⟨r, h⟩ := h
  have hblk := rcBlk h
  have hlt := h.blk.lt
  have hfit := h.fits
  have hmost := h.most
  refine go26 (by rfl) ?_
  (repeat ((conv => whnf); (first | with_reducible refine r_tt ?_ | with_reducible refine r_ff ?_ | with_reducible refine r_ntt ?_ | with_reducible refine r_nff ?_ | refine r_need (by omega) ?_ | refine r_i64 (by omega) ?_ | refine r_dect (by omega) ?_ | refine r_decf (by omega) ?_ | refine r_eqt (by omega) ?_ | refine r_eqf (by omega) ?_ | refine r_net (by omega) ?_ | refine r_nef (by omega) ?_ | refine r_u8 (by omega) ?_ | refine r_u64 (by omega) ?_ | refine r_i32 (by omega) ?_ | refine r_u32 (by omega) ?_ | refine r_rem (by omega) ?_ | refine r_quo (by omega) ?_ | refine r_ldb (by assumption) (by rfl) ?_ | refine r_ldbE (by assumption) (by rfl) ?_))); (conv => whnf)
  refine r_ldnb (vs := [.slice r.a r.len r.cap, .int .i64 (r.head : Int), .int .i64 (L.length : Int), .int .i64 (fr : Int), .int .i64 (room : Int)]) hblk rfl rfl ?_
  (repeat ((conv => whnf); (first | with_reducible refine r_tt ?_ | with_reducible refine r_ff ?_ | with_reducible refine r_ntt ?_ | with_reducible refine r_nff ?_ | refine r_need (by omega) ?_ | refine r_i64 (by omega) ?_ | refine r_dect (by omega) ?_ | refine r_decf (by omega) ?_ | refine r_eqt (by omega) ?_ | refine r_eqf (by omega) ?_ | refine r_net (by omega) ?_ | refine r_nef (by omega) ?_ | refine r_u8 (by omega) ?_ | refine r_u64 (by omega) ?_ | refine r_i32 (by omega) ?_ | refine r_u32 (by omega) ?_ | refine r_rem (by omega) ?_ | refine r_quo (by omega) ?_ | refine r_ldb (by assumption) (by rfl) ?_ | refine r_ldbE (by assumption) (by rfl) ?_))); (conv => whnf)
  refine r_new fun b1 w1 hx1 hb1 hs1 hblk1 => ?_
  (repeat ((conv => whnf); (first | with_reducible refine r_tt ?_ | with_reducible refine r_ff ?_ | with_reducible refine r_ntt ?_ | with_reducible refine r_nff ?_ | refine r_need (by omega) ?_ | refine r_i64 (by omega) ?_ | refine r_dect (by omega) ?_ | refine r_decf (by omega) ?_ | refine r_eqt (by omega) ?_ | refine r_eqf (by omega) ?_ | refine r_net (by omega) ?_ | refine r_nef (by omega) ?_ | refine r_u8 (by omega) ?_ | refine r_u64 (by omega) ?_ | refine r_i32 (by omega) ?_ | refine r_u32 (by omega) ?_ | refine r_rem (by omega) ?_ | refine r_quo (by omega) ?_ | refine r_ldb (by assumption) (by rfl) ?_ | refine r_ldbE (by assumption) (by rfl) ?_))); (conv => whnf)
  refine r_stn hblk1 (by simp) (by intro v hv; simp at hv; rcases hv with rfl | rfl | rfl | rfl | rfl <;> rfl) fun w2 hc2 hs2 hblk2 => ?_
  have hblk2 : Blk w2 b1 89 [.slice r.a r.len r.cap, .int .i64 (r.head : Int), .int .i64 (L.length : Int), .int .i64 (fr : Int), .int .i64 (room : Int)] := hblk2
  have hx2 : Ext w w2 := Chg.step hx1 hc2 fun k hk hlt => by omega
  have hb2 := hblk.ext hx2
  have h2 := h.ext hx2
  cases g with
  | none =>
    obtain ⟨e1, e2, e3⟩ := h.arr
    rw [e1, e2, e3] at hb2
    (repeat ((conv => whnf); (first | with_reducible refine r_tt ?_ | with_reducible refine r_ff ?_ | with_reducible refine r_ntt ?_ | with_reducible refine r_nff ?_ | refine r_need (by omega) ?_ | refine r_i64 (by omega) ?_ | refine r_dect (by omega) ?_ | refine r_decf (by omega) ?_ | refine r_eqt (by omega) ?_ | refine r_eqf (by omega) ?_ | refine r_net (by omega) ?_ | refine r_nef (by omega) ?_ | refine r_u8 (by omega) ?_ | refine r_u64 (by omega) ?_ | refine r_i32 (by omega) ?_ | refine r_u32 (by omega) ?_ | refine r_rem (by omega) ?_ | refine r_quo (by omega) ?_ | refine r_ldb (by assumption) (by rfl) ?_ | refine r_ldbE (by assumption) (by rfl) ?_))); (conv => whnf)
    refine r_cal (Clone_nil w2) ?_
    rintro _ w3 ⟨rfl, rfl⟩
    (repeat ((conv => whnf); (first | with_reducible refine r_tt ?_ | with_reducible refine r_ff ?_ | with_reducible refine r_ntt ?_ | with_reducible refine r_nff ?_ | refine r_need (by omega) ?_ | refine r_i64 (by omega) ?_ | refine r_dect (by omega) ?_ | refine r_decf (by omega) ?_ | refine r_eqt (by omega) ?_ | refine r_eqf (by omega) ?_ | refine r_net (by omega) ?_ | refine r_nef (by omega) ?_ | refine r_u8 (by omega) ?_ | refine r_u64 (by omega) ?_ | refine r_i32 (by omega) ?_ | refine r_u32 (by omega) ?_ | refine r_rem (by omega) ?_ | refine r_quo (by omega) ?_ | refine r_ldb (by assumption) (by rfl) ?_ | refine r_ldbE (by assumption) (by rfl) ?_))); (conv => whnf)
    refine r_st hblk2 (by simp) (by rfl) fun w4 hc4 hs4 hblk4 => ?_
    (repeat ((conv => whnf); (first | with_reducible refine r_tt ?_ | with_reducible refine r_ff ?_ | with_reducible refine r_ntt ?_ | with_reducible refine r_nff ?_ | refine r_need (by omega) ?_ | refine r_i64 (by omega) ?_ | refine r_dect (by omega) ?_ | refine r_decf (by omega) ?_ | refine r_eqt (by omega) ?_ | refine r_eqf (by omega) ?_ | refine r_net (by omega) ?_ | refine r_nef (by omega) ?_ | refine r_u8 (by omega) ?_ | refine r_u64 (by omega) ?_ | refine r_i32 (by omega) ?_ | refine r_u32 (by omega) ?_ | refine r_rem (by omega) ?_ | refine r_quo (by omega) ?_ | refine r_ldb (by assumption) (by rfl) ?_ | refine r_ldbE (by assumption) (by rfl) ?_))); (conv => whnf)
    have hL : L.length = 0 := by have := h.le; rw [encs_len, e2] at this; omega
    refine ⟨b1, none, rfl, Chg.step hx2 hc4 (fun k hk hlt => by omega), hb1, (fun x hx => by cases hx), ⟨none, 0, 0, r.head, [], []⟩, ?_, rfl, by rw [encs_len]; dsimp only; omega, Nat.zero_le _, hmost, (fun h0 => by dsimp only at h0; omega), fun _ => h.zero e2, fun i e hi => ?_, encs_ok L, by simp, rfl, rfl, rfl⟩
    · rw [encs_len]; exact hblk4
    · have := (List.getElem?_eq_some_iff.1 hi).1; rw [encs_len] at this; omega
  | some x =>
    obtain ⟨e1, e2, e3, hB, hxb, hp⟩ := h2.arr
    have hvw := h2.view
    rw [e1] at hb2 hvw
    (repeat ((conv => whnf); (first | with_reducible refine r_tt ?_ | with_reducible refine r_ff ?_ | with_reducible refine r_ntt ?_ | with_reducible refine r_nff ?_ | refine r_need (by omega) ?_ | refine r_i64 (by omega) ?_ | refine r_dect (by omega) ?_ | refine r_decf (by omega) ?_ | refine r_eqt (by omega) ?_ | refine r_eqf (by omega) ?_ | refine r_net (by omega) ?_ | refine r_nef (by omega) ?_ | refine r_u8 (by omega) ?_ | refine r_u64 (by omega) ?_ | refine r_i32 (by omega) ?_ | refine r_u32 (by omega) ?_ | refine r_rem (by omega) ?_ | refine r_quo (by omega) ?_ | refine r_ldb (by assumption) (by rfl) ?_ | refine r_ldbE (by assumption) (by rfl) ?_))); (conv => whnf)
    refine r_cal (Clone_ok hvw h.one (by omega)) ?_
    rintro v w3 ⟨hx3, hown3, hnn⟩
    (repeat ((conv => whnf); (first | with_reducible refine r_tt ?_ | with_reducible refine r_ff ?_ | with_reducible refine r_ntt ?_ | with_reducible refine r_nff ?_ | refine r_need (by omega) ?_ | refine r_i64 (by omega) ?_ | refine r_dect (by omega) ?_ | refine r_decf (by omega) ?_ | refine r_eqt (by omega) ?_ | refine r_eqf (by omega) ?_ | refine r_net (by omega) ?_ | refine r_nef (by omega) ?_ | refine r_u8 (by omega) ?_ | refine r_u64 (by omega) ?_ | refine r_i32 (by omega) ?_ | refine r_u32 (by omega) ?_ | refine r_rem (by omega) ?_ | refine r_quo (by omega) ?_ | refine r_ldb (by assumption) (by rfl) ?_ | refine r_ldbE (by assumption) (by rfl) ?_))); (conv => whnf)
    refine r_st (hblk2.ext hx3) (by simp) (oneCell_own hown3) fun w4 hc4 hs4 hblk4 => ?_
    have hlb := hblk2.lt
    have hown4 := own_keep hown3 hc4 (fun k hk e => by have := own_ge hown3 hk; omega)
    obtain ⟨_, hor⟩ := hown4
    rcases hor with ⟨rfl, _⟩ | ⟨y, cap', cur, rfl, hby, hcur, hn, hc, hsz, htk⟩
    · exact absurd rfl hnn
    · rw [Nat.mul_one] at htk
      have hbl2 := hx2.size
      have hlen := h.len
      have hcl : cur.toList.take r.len = r.C := by simpa using htk
      have hcl2 : r.len ≤ cur.toList.length := by
        have := congrArg List.length hcl
        rw [List.length_take] at this
        omega
      (repeat ((conv => whnf); (first | with_reducible refine r_tt ?_ | with_reducible refine r_ff ?_ | with_reducible refine r_ntt ?_ | with_reducible refine r_nff ?_ | refine r_need (by omega) ?_ | refine r_i64 (by omega) ?_ | refine r_dect (by omega) ?_ | refine r_decf (by omega) ?_ | refine r_eqt (by omega) ?_ | refine r_eqf (by omega) ?_ | refine r_net (by omega) ?_ | refine r_nef (by omega) ?_ | refine r_u8 (by omega) ?_ | refine r_u64 (by omega) ?_ | refine r_i32 (by omega) ?_ | refine r_u32 (by omega) ?_ | refine r_rem (by omega) ?_ | refine r_quo (by omega) ?_ | refine r_ldb (by assumption) (by rfl) ?_ | refine r_ldbE (by assumption) (by rfl) ?_))); (conv => whnf)
      refine ⟨b1, some y, rfl, Chg.step (hx2.trans hx3) hc4 (fun k hk hlt => by omega), hb1, (fun x' hx' => by cases hx'; omega), ⟨some ⟨y, 0, none⟩, r.len, cap', r.head, r.C, cur.toList.drop r.len⟩, ?_, hlen, h.le, hfit, hmost, h.head, h.zero, h.at', h.elem, h.one, rfl, hn, hc, ?_, ?_, hp⟩
      · rw [encs_len]; exact hblk4
      · unfold Blk
        dsimp only
        rw [← hcl, List.take_append_drop]
        exact hcur
      · have : b1 < w2.heap.size := hlb
        omega
theorem Room_ok {w : World} {b : Nat} {g : Option Nat} {L : List Int} {fr room : Nat} (h : RG w b g L fr room) : Cal Try.prog 23 ⟨[.pointer (some ⟨b, 0, none⟩)]⟩ w fun v w' => w' = w ∧ v = .int .i64 (room : Int) := by
  obtain ⟨r, h⟩ := h
  have hblk := rcBlk h
  refine go23 (by rfl) ?_
  (repeat ((conv => whnf); (first | with_reducible refine r_tt ?_ | with_reducible refine r_ff ?_ | with_reducible refine r_ntt ?_ | with_reducible refine r_nff ?_ | refine r_need (by omega) ?_ | refine r_i64 (by omega) ?_ | refine r_dect (by omega) ?_ | refine r_decf (by omega) ?_ | refine r_eqt (by omega) ?_ | refine r_eqf (by omega) ?_ | refine r_net (by omega) ?_ | refine r_nef (by omega) ?_ | refine r_u8 (by omega) ?_ | refine r_u64 (by omega) ?_ | refine r_i32 (by omega) ?_ | refine r_u32 (by omega) ?_ | refine r_rem (by omega) ?_ | refine r_quo (by omega) ?_ | refine r_ldb (by assumption) (by rfl) ?_ | refine r_ldbE (by assumption) (by rfl) ?_))); (conv => whnf)
  exact ⟨rfl, rfl⟩
theorem From_ok {w : World} {b : Nat} {g : Option Nat} {L : List Int} {fr room : Nat} (h : RG w b g L fr room) : Cal Try.prog 25 ⟨[.pointer (some ⟨b, 0, none⟩)]⟩ w fun v w' => w' = w ∧ v = .int .i64 (fr : Int) := by
  obtain ⟨r, h⟩ := h
  have hblk := rcBlk h
  refine go25 (by rfl) ?_
  (repeat ((conv => whnf); (first | with_reducible refine r_tt ?_ | with_reducible refine r_ff ?_ | with_reducible refine r_ntt ?_ | with_reducible refine r_nff ?_ | refine r_need (by omega) ?_ | refine r_i64 (by omega) ?_ | refine r_dect (by omega) ?_ | refine r_decf (by omega) ?_ | refine r_eqt (by omega) ?_ | refine r_eqf (by omega) ?_ | refine r_net (by omega) ?_ | refine r_nef (by omega) ?_ | refine r_u8 (by omega) ?_ | refine r_u64 (by omega) ?_ | refine r_i32 (by omega) ?_ | refine r_u32 (by omega) ?_ | refine r_rem (by omega) ?_ | refine r_quo (by omega) ?_ | refine r_ldb (by assumption) (by rfl) ?_ | refine r_ldbE (by assumption) (by rfl) ?_))); (conv => whnf)
  exact ⟨rfl, rfl⟩
end Fb.Try.RI
