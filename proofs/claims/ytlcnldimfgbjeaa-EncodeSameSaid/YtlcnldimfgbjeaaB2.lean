/-
  Texts of ours in one file.
-/
import Derived.Test.YtlcnldimfgbjeaaB1
import Derived.Laws.AppendOwn
import Derived.Laws.AppendOwnNone
import Derived.Below
import Derived.IntWalk
import Derived.ProofKit
import Derived.OpenShut
import Derived.WideKeyArgs
import Derived.Laws.StructEq
import Derived.Laws.MakeOwn
import Derived.Laws.CopyRow
/-
  Rules for walking with the calculus: one for each thing that is asked.
-/
namespace Fb
open Go Go.RowKit

/-! ### How worlds change -/
/-- What was there is as it was, but for the blocks of 'S'. -/
structure Chg (S : Nat → Prop) (w w' : World) : Prop where
  os : w'.os = w.os
  tape : w'.tape = w.tape
  output : w'.output = w.output
  size : w.heap.size ≤ w'.heap.size
  block : ∀ k, k < w.heap.size → ¬ S k → w'.heap[k]? = w.heap[k]?

abbrev Ext := Chg (fun _ => False)

theorem Chg.refl (S : Nat → Prop) (w : World) : Chg S w w := ⟨rfl, rfl, rfl, Nat.le_refl _, fun _ _ _ => rfl⟩
theorem Ext.refl (w : World) : Ext w w := Chg.refl _ w
theorem Chg.mono {S T : Nat → Prop} {w w' : World} (h : Chg S w w') (hst : ∀ k, k < w.heap.size → S k → T k) : Chg T w w' :=
  ⟨h.os, h.tape, h.output, h.size, fun k hk ht => h.block k hk fun hs => ht (hst k hk hs)⟩
/-- One step more, that touches what is new, or of 'S'. -/
theorem Chg.step {S T : Nat → Prop} {w0 w w' : World} (h : Chg S w0 w) (k : Chg T w w') (hT : ∀ b, T b → b < w0.heap.size → S b) : Chg S w0 w' :=
  ⟨k.os.trans h.os, k.tape.trans h.tape, k.output.trans h.output, Nat.le_trans h.size k.size,
    fun b hb hs => (k.block b (Nat.lt_of_lt_of_le hb h.size) fun ht => hs (hT b ht hb)).trans (h.block b hb hs)⟩
theorem Chg.ext {S : Nat → Prop} {w0 w w' : World} (h : Chg S w0 w) (k : Ext w w') : Chg S w0 w' := Chg.step h k fun _ hf _ => hf.elim
theorem Ext.trans {w0 w w' : World} (h : Ext w0 w) (k : Ext w w') : Ext w0 w' := h.ext k
/-- A step that touches one block, a new one. -/
theorem Chg.new {S : Nat → Prop} {w0 w w' : World} {b : Nat} (h : Chg S w0 w) (k : Chg (· = b) w w') (hb : w0.heap.size ≤ b) : Chg S w0 w' :=
  Chg.step h k fun c hc hlt => by subst hc; omega
/-- Two steps that touch the same blocks. -/
theorem Chg.trans {S : Nat → Prop} {w0 w w' : World} (h : Chg S w0 w) (k : Chg S w w') : Chg S w0 w' := Chg.step h k fun _ hs _ => hs
theorem Ext.drew (w : World) : Ext w w.drew := ⟨rfl, rfl, rfl, Nat.le_refl _, fun _ _ _ => rfl⟩
theorem Ext.below {w w' : World} (h : Ext w w') : Below w.heap.size w w' := ⟨h.os, h.tape, h.output, h.size, fun k hk => h.block k hk fun hf => hf⟩
theorem Ext.alloc (w : World) (o : Obj) : Ext w (w.alloc o) := ⟨rfl, rfl, rfl, by simp, fun k hk _ => Below.heap_alloc w o k hk⟩

theorem Chg.wide {w w' : World} (h : Ext w w') (S : Nat → Prop) : Chg S w w' := Chg.mono h fun _ _ h => h.elim
/-- A block of cells that nothing is frozen in. -/
def Blk (w : World) (b : Nat) (e : TypeId) (cs : List Value) : Prop := w.heap[b]? = some (.cells ⟨cs⟩ e (0, 0))

theorem Blk.lt {w : World} {b : Nat} {e : TypeId} {cs : List Value} (h : Blk w b e cs) : b < w.heap.size := (Array.getElem?_eq_some_iff.1 h).1
theorem Blk.keep {S : Nat → Prop} {w w' : World} {b : Nat} {e : TypeId} {cs : List Value} (h : Blk w b e cs) (k : Chg S w w') (hs : ¬ S b) : Blk w' b e cs :=
  (k.block b h.lt hs).trans h
theorem Blk.ext {w w' : World} {b : Nat} {e : TypeId} {cs : List Value} (h : Blk w b e cs) (k : Ext w w') : Blk w' b e cs := h.keep k fun hf => hf
theorem Blk.cell {w : World} {b : Nat} {e : TypeId} {cs : List Value} (h : Blk w b e cs) (i : Nat) : w.cell? ⟨b, i, none⟩ = cs[i]? := by
  unfold Blk at h
  simp [World.cell?, h]
theorem Blk.frozen {w : World} {b : Nat} {e : TypeId} {cs : List Value} (h : Blk w b e cs) (i : Nat) : w.frozen? ⟨b, i, none⟩ = false := by
  unfold Blk at h
  simp [World.frozen?, h]

theorem Chg.set {w : World} {b : Nat} {e : TypeId} {cs : List Value} (h : Blk w b e cs) (i : Nat) (v : Value) :
    Chg (· = b) w (w.setCell ⟨b, i, none⟩ v) ∧ (w.setCell ⟨b, i, none⟩ v).heap.size = w.heap.size ∧ Blk (w.setCell ⟨b, i, none⟩ v) b e (cs.set i v) := by
  refine ⟨⟨rfl, rfl, rfl, by simp [World.setCell], fun k _ hk => ?_⟩, by simp [World.setCell], ?_⟩
  · simp only [World.setCell, Array.getElem?_modify]
    rw [if_neg (by omega)]
  · unfold Blk at *
    simp [World.setCell, Array.getElem?_modify, h]

/-! ### Slices that are read -/
/-- A slice's cells. -/
structure View (w : World) (a : Option Addr) (len cap size : Nat) (L : List Value) : Prop where
  length : L.length = len * size
  le : len ≤ cap
  max : cap ≤ maxLen
  plain : 0 < L.length → plainA a
  cell : ∀ i u, L[i]? = some u → w.cell? ⟨blk a, ofs a + i, none⟩ = some u

theorem View.lt {w : World} {a : Option Addr} {len cap size : Nat} {L : List Value} (h : View w a len cap size L) (hl : 0 < L.length) : blk a < w.heap.size := by
  have := h.cell 0 L[0] (by simp [hl])
  exact World.block_lt_of_cell? w _ this
theorem View.keep {S : Nat → Prop} {w w' : World} {a : Option Addr} {len cap size : Nat} {L : List Value} (h : View w a len cap size L) (k : Chg S w w') (hs : ¬ S (blk a)) : View w' a len cap size L :=
  ⟨h.length, h.le, h.max, h.plain, fun i u hu => by
    have hc := h.cell i u hu
    have hb := World.block_lt_of_cell? w _ hc
    have he := k.block (blk a) hb hs
    simp only [World.cell?, he] at hc ⊢
    exact hc⟩
theorem View.ext {w w' : World} {a : Option Addr} {len cap size : Nat} {L : List Value} (h : View w a len cap size L) (k : Ext w w') : View w' a len cap size L := h.keep k fun hf => hf
theorem View.nil (w : World) (size : Nat) : View w none 0 0 size [] := ⟨by simp, by omega, by simp [maxLen], by simp, by simp⟩

theorem View.int {w : World} {a : Option Addr} {len cap : Nat} {xs : List Int} (h : View w a len cap 1 (xs.map (.int .i64))) : xs.length = len := by
  have := h.length
  simpa using this

/-- What the call itself made, as a slice to read. -/
theorem View.of_own {w : World} {base : Nat} {e : TypeId} {size : Nat} {v : Value} {n : Nat} {xs : List Value} (h : w.ownsRow base e size v n xs) :
    ∃ a cap, v = .slice a n cap ∧ View w a n cap size xs ∧ (a = none → n = 0) ∧ (∀ ad, a = some ad → base ≤ ad.block) := by
  obtain ⟨h1, h2⟩ := h
  rcases h2 with ⟨rfl, rfl⟩ | ⟨g, cap, cur, rfl, hb, hg, hn, hc, hs, ht⟩
  · have hx : xs = [] := by simpa using h1
    subst hx
    exact ⟨none, 0, rfl, View.nil w size, fun _ => rfl, fun _ h => by cases h⟩
  · refine ⟨_, cap, rfl, ⟨h1, hn, hc, fun _ => rfl, fun i u hu => ?_⟩, (fun h => by cases h), (fun ad h => by cases h; exact hb)⟩
    rw [← ht, List.getElem?_take] at hu
    split at hu
    · simp only [blk, ofs, Nat.zero_add, World.cell?, hg]
      simpa using hu
    · cases hu

/-- A whole block, as a slice. -/
theorem View.of_blk {w : World} {b n size : Nat} {e : TypeId} {cs : List Value} (h : Blk w b e cs) (hl : cs.length = n * size) (hm : n ≤ maxLen) : View w (some ⟨b, 0, none⟩) n n size cs :=
  ⟨hl, Nat.le_refl _, hm, fun _ => rfl, fun i u hu => by simp only [blk, ofs, Nat.zero_add]; rw [h.cell]; exact hu⟩

/-- What the call made stays where something else is touched. -/
theorem own_keep {S : Nat → Prop} {w w' : World} {base : Nat} {e : TypeId} {size : Nat} {v : Value} {n : Nat} {xs : List Value} (h : w.ownsRow base e size v n xs) (k : Chg S w w') (hs : ∀ b, v.ownBlock = some b → ¬ S b) : w'.ownsRow base e size v n xs := by
  refine ⟨h.1, ?_⟩
  rcases h.2 with hn | ⟨g, cap, cur, rfl, hb, hgg, rest⟩
  · exact .inl hn
  · exact .inr ⟨g, cap, cur, rfl, hb, (k.block g (Array.getElem?_eq_some_iff.1 hgg).1 (hs g rfl)).trans hgg, rest⟩
theorem own_ext {w w' : World} {base : Nat} {e : TypeId} {size : Nat} {v : Value} {n : Nat} {xs : List Value} (h : w.ownsRow base e size v n xs) (k : Ext w w') : w'.ownsRow base e size v n xs := own_keep h k fun _ _ hf => hf
/-- A step on what the call made, seen from where the call began. -/
theorem Chg.own {S : Nat → Prop} {w0 w w' : World} {e : TypeId} {size : Nat} {v : Value} {n : Nat} {xs : List Value} (h : Chg S w0 w) (k : Chg (fun b => v.ownBlock = some b) w w') (ho : w.ownsRow w0.heap.size e size v n xs) : Chg S w0 w' :=
  h.step k fun b hb hlt => absurd (ho.lt b hb).1 (by omega)

/-- A part of a slice. -/
theorem View.sub {w : World} {a : Option Addr} {len cap size : Nat} {L : List Value} (h : View w a len cap size L) (l k : Nat) (hlk : l ≤ k) (hk : k ≤ len) : View w (slcA a cap l size) (k - l) (cap - l) size ((L.drop (l * size)).take ((k - l) * size)) := by
  have hlen : ((L.drop (l * size)).take ((k - l) * size)).length = (k - l) * size := by
    rw [List.length_take, List.length_drop, h.length, ← Nat.sub_mul]
    exact Nat.min_eq_left (Nat.mul_le_mul_right _ (by omega))
  have hle := h.le
  refine ⟨hlen, by omega, by have := h.max; omega, fun hpos => ?_, fun i u hu => ?_⟩
  · rw [hlen] at hpos
    have hne : cap ≠ l := fun e => by
      have : k - l = 0 := by omega
      rw [this] at hpos; omega
    have hp := h.plain (by rw [h.length]; exact Nat.lt_of_lt_of_le hpos (Nat.mul_le_mul_right _ (by omega)))
    unfold slcA
    rw [if_neg hne]
    unfold plainA at *
    generalize blk a = x at hp
    generalize ofs a = y at hp
    subst hp
    simp [blk, ofs, Addr.add_plain]
  · have hi : i < (k - l) * size := by
      rw [← hlen]
      exact (List.getElem?_eq_some_iff.1 hu).1
    have hne : cap ≠ l := fun e => by
      have : k - l = 0 := by omega
      rw [this] at hi; omega
    have hp := h.plain (by rw [h.length]; exact Nat.lt_of_lt_of_le (Nat.zero_lt_of_lt hi) (Nat.mul_le_mul_right _ (by omega)))
    have hu' : L[l * size + i]? = some u := by
      rw [List.getElem?_take_of_lt hi, List.getElem?_drop] at hu
      exact hu
    have hc := h.cell _ u hu'
    unfold slcA
    rw [if_neg hne]
    unfold plainA at hp
    rw [hp]
    rw [← Nat.add_assoc] at hc
    generalize blk a = x at hp hc
    generalize ofs a = y at hp hc
    subst hp
    simp only [Option.map_some, Addr.add_plain, blk, ofs]
    exact hc

theorem own_ne {w : World} {base e e' size b : Nat} {v : Value} {n : Nat} {xs cs : List Value} (h : w.ownsRow base e size v n xs) (hb : Blk w b e' cs) (he : e ≠ e') : v.ownBlock ≠ some b := by
  intro ho
  rcases h.2 with ⟨rfl, _⟩ | ⟨g, cap, cur, rfl, _, hg, _⟩
  · cases ho
  · cases ho
    unfold Blk at hb
    rw [hb] at hg
    cases hg
    exact he rfl
theorem Chg.cell {S : Nat → Prop} {w w' : World} {b o : Nat} {v : Value} (h : Chg S w w') (hc : w.cell? ⟨b, o, none⟩ = some v) (hs : ¬ S b) : w'.cell? ⟨b, o, none⟩ = some v := by
  have hb := World.block_lt_of_cell? w _ hc
  have he := h.block b hb hs
  simp only [World.cell?, he] at hc ⊢
  exact hc
theorem own_ge {w : World} {base e size k : Nat} {v : Value} {n : Nat} {xs : List Value} (h : w.ownsRow base e size v n xs) (ho : v.ownBlock = some k) : base ≤ k := (h.lt k ho).1
theorem oneCell_own {w : World} {base e size : Nat} {v : Value} {n : Nat} {xs : List Value} (h : w.ownsRow base e size v n xs) : v.oneCell' = true := by
  rcases h.2 with ⟨rfl, _⟩ | ⟨g, cap, cur, rfl, _⟩ <;> rfl
theorem View.keepN {S : Nat → Prop} {w w' : World} {a : Option Addr} {len cap size : Nat} {L : List Value} (h : View w a len cap size L) (k : Chg S w w') (hs : 0 < L.length → ¬ S (blk a)) : View w' a len cap size L :=
  ⟨h.length, h.le, h.max, h.plain, fun i u hu => Chg.cell k (h.cell i u hu) (hs (Nat.lt_of_le_of_lt (Nat.zero_le _) (List.getElem?_eq_some_iff.1 hu).1))⟩
theorem own_mono {w : World} {base base' e size : Nat} {v : Value} {n : Nat} {xs : List Value} (h : w.ownsRow base e size v n xs) (hb : base' ≤ base) : w.ownsRow base' e size v n xs := by
  refine ⟨h.1, ?_⟩
  rcases h.2 with hn | ⟨g, cap, cur, hv, hbg, rest⟩
  · exact .inl hn
  · exact .inr ⟨g, cap, cur, hv, Nat.le_trans hb hbg, rest⟩

/-! ### Rules -/
section
variable {P : Program} {w : World}

theorem r_need {p X : Prop} (h : p) (k : X) : Need p X := by rw [Need_eq]; exact ⟨h, k⟩
theorem r_held {p X : Prop} (h : p) (k : X) : Held p X := by rw [Held_eq]; exact ⟨h, k⟩
theorem r_both {X Y : Prop} (h : X) (k : Y) : Both X Y := by rw [Both_eq]; exact ⟨h, k⟩
theorem r_draw {B : (World → Prop) → World → Prop} (C : World → Prop) (h : C w.drew) (k : B C w.drew) : Draw w B := by rw [Draw_eq]; exact ⟨C, h, k⟩
/-- The class of all worlds in which what is here is as it is. -/
theorem r_drawE {B : (World → Prop) → World → Prop} (k : ∀ w', Ext w w' → w'.heap = w.heap → B (Ext w) w') : Draw w B := r_draw (Ext w) (Ext.drew w) (k _ (Ext.drew w) rfl)

theorem r_keepwrap {k : IntKind} {e : Int} {K : Int → Prop} (h : K (k.wrap e)) : Wrap k e K := by rw [Wrap_eq]; exact h
theorem r_wrapeq {k : IntKind} {e r : Int} {K : Int → Prop} (hr : k.wrap e = r) (h : K r) : Wrap k e K := by rw [Wrap_eq]; rw [hr]; exact h
theorem r_i64 {e : Int} {K : Int → Prop} (h : -9223372036854775808 ≤ e ∧ e ≤ 9223372036854775807) (k : K e) : Wrap .i64 e K := r_wrapeq (IntWalk.i64_in e h) k
theorem r_i32 {e : Int} {K : Int → Prop} (h : -2147483648 ≤ e ∧ e ≤ 2147483647) (k : K e) : Wrap .i32 e K := r_wrapeq (IntWalk.i32_in e h) k
theorem r_u8 {e : Int} {K : Int → Prop} (h : 0 ≤ e ∧ e ≤ 255) (k : K e) : Wrap .u8 e K := r_wrapeq (IntWalk.u8_in e h) k
theorem r_u16 {e : Int} {K : Int → Prop} (h : 0 ≤ e ∧ e ≤ 65535) (k : K e) : Wrap .u16 e K := r_wrapeq (IntWalk.u16_in e h) k
theorem r_u32 {e : Int} {K : Int → Prop} (h : 0 ≤ e ∧ e ≤ 4294967295) (k : K e) : Wrap .u32 e K := r_wrapeq (IntWalk.u32_in e h) k
theorem r_u64 {e : Int} {K : Int → Prop} (h : 0 ≤ e ∧ e ≤ 18446744073709551615) (k : K e) : Wrap .u64 e K := r_wrapeq (IntWalk.u64_in e h) k

theorem r_bits {op : BinOp} {k : IntKind} {x y r : Int} {K : Int → Prop} (h : bitsOf op k x y = r) (hk : K r) : Bits op k x y K := by rw [Bits_eq]; rw [h]; exact hk
theorem r_quo {x y : Int} {K : Int → Prop} (h : 0 ≤ x) (k : K (x / y)) : Quo x y K := by rw [Quo_eq]; rw [Int.tdiv_eq_ediv_of_nonneg h]; exact k
theorem r_rem {x y : Int} {K : Int → Prop} (h : 0 ≤ x) (k : K (x % y)) : Rem x y K := by rw [Rem_eq]; rw [Int.tmod_eq_emod_of_nonneg h]; exact k
theorem r_shl {k : IntKind} {x y : Int} {K : Int → Prop} (n : Nat) (hn : min y.toNat k.bits = n) (h : K (x * 2 ^ n)) : Shl k x y K := by rw [Shl_eq]; rw [hn]; exact h
theorem r_shr {k : IntKind} {x y : Int} {K : Int → Prop} (n : Nat) (hn : min y.toNat k.bits = n) (h : K (x / 2 ^ n)) : Shr k x y K := by
  rw [Shr_eq]; rw [hn, Int.fdiv_eq_ediv_of_nonneg]
  · exact h
  · exact Int.le_of_lt (Int.pow_pos (by decide))

theorem r_cond {b : Bool} {X Y : Prop} (h : b = true → X) (k : b = false → Y) : Cond b X Y := by rw [Cond_eq]; exact ⟨h, k⟩
theorem r_true {b : Bool} {X Y : Prop} (h : b = true) (k : X) : Cond b X Y := by rw [Cond_eq]; subst h; exact ⟨fun _ => k, (fun h => by cases h)⟩
theorem r_false {b : Bool} {X Y : Prop} (h : b = false) (k : Y) : Cond b X Y := by rw [Cond_eq]; subst h; exact ⟨(fun h => by cases h), fun _ => k⟩
theorem r_tt {X Y : Prop} (k : X) : Cond true X Y := r_true rfl k
theorem r_ff {X Y : Prop} (k : Y) : Cond false X Y := r_false rfl k
theorem r_ntt {X Y : Prop} (k : Y) : Cond (!true) X Y := r_false rfl k
theorem r_nff {X Y : Prop} (k : X) : Cond (!false) X Y := r_true rfl k
theorem r_dec {p : Prop} [Decidable p] {X Y : Prop} (h : p → X) (k : ¬ p → Y) : Cond (decide p) X Y := r_cond (fun e => h (of_decide_eq_true e)) (fun e => k (of_decide_eq_false e))
theorem r_dect {p : Prop} [Decidable p] {X Y : Prop} (h : p) (k : X) : Cond (decide p) X Y := r_true (decide_eq_true h) k
theorem r_decf {p : Prop} [Decidable p] {X Y : Prop} (h : ¬ p) (k : Y) : Cond (decide p) X Y := r_false (decide_eq_false h) k
theorem r_eq {x y : Int} {X Y : Prop} (h : x = y → X) (k : x ≠ y → Y) : Cond (x == y) X Y := r_cond (fun e => h (eq_of_beq e)) (fun e => k (ne_of_beq_false e))
theorem r_eqt {x y : Int} {X Y : Prop} (h : x = y) (k : X) : Cond (x == y) X Y := r_true (beq_iff_eq.2 h) k
theorem r_eqf {x y : Int} {X Y : Prop} (h : x ≠ y) (k : Y) : Cond (x == y) X Y := r_false (beq_eq_false_iff_ne.2 h) k
theorem r_ne {x y : Int} {X Y : Prop} (h : x ≠ y → X) (k : x = y → Y) : Cond (x != y) X Y := r_cond (fun e => h (by simpa using e)) (fun e => k (by simpa using e))
theorem r_net {x y : Int} {X Y : Prop} (h : x ≠ y) (k : X) : Cond (x != y) X Y := r_true (by simpa using h) k
theorem r_nef {x y : Int} {X Y : Prop} (h : x = y) (k : Y) : Cond (x != y) X Y := r_false (by simpa using h) k
theorem r_not {b : Bool} {X Y : Prop} (h : Cond b Y X) : Cond (!b) X Y := by
  rw [Cond_eq] at *
  cases b
  · exact ⟨fun _ => h.2 rfl, (fun e => by cases e)⟩
  · exact ⟨(fun e => by cases e), fun _ => h.1 rfl⟩

theorem r_ld {C : World → Prop} {a : Addr} {v : Value} {K : Value → Prop} (h : ∀ w, C w → w.cell? a = some v) (k : K v) : Load a C K := by rw [Load_eq]; exact ⟨v, h, k⟩
theorem r_ldw {a : Addr} {v : Value} {K : Value → Prop} (h : w.cell? a = some v) (k : K v) : Load a (fun w' => w' = w) K := r_ld (fun _ e => by rw [e]; exact h) k
/-- A cell of a block. -/
theorem r_ldb {b i : Nat} {e : TypeId} {cs : List Value} {v : Value} {K : Value → Prop} (h : Blk w b e cs) (hi : cs[i]? = some v) (k : K v) : Load ⟨b, i, none⟩ (fun w' => w' = w) K :=
  r_ldw ((h.cell i).trans hi) k
theorem r_ldbE {b i : Nat} {e : TypeId} {cs : List Value} {v : Value} {K : Value → Prop} (h : Blk w b e cs) (hi : cs[i]? = some v) (k : K v) : Load ⟨b, i, none⟩ (Ext w) K :=
  r_ld (fun _ he => ((h.ext he).cell i).trans hi) k
theorem r_ldbS {S : Nat → Prop} {b i : Nat} {e : TypeId} {cs : List Value} {v : Value} {K : Value → Prop} (h : Blk w b e cs) (hi : cs[i]? = some v) (hs : ¬ S b) (k : K v) : Load ⟨b, i, none⟩ (Chg S w) K :=
  r_ld (fun _ he => ((h.keep he hs).cell i).trans hi) k
theorem r_drawS {B : (World → Prop) → World → Prop} (S : Nat → Prop) (k : ∀ w', Ext w w' → w'.heap = w.heap → B (Chg S w) w') : Draw w B :=
  r_draw (Chg S w) (Chg.mono (Ext.drew w) fun _ _ h => h.elim) (k _ (Ext.drew w) rfl)
/-! The rules by short names, that find their sides themselves. -/
theorem jA {X Y : Prop} (k : X) : Cond true X Y := r_tt k
theorem jB {X Y : Prop} (k : Y) : Cond false X Y := r_ff k
theorem jC {X Y : Prop} (k : Y) : Cond (!true) X Y := r_ntt k
theorem jD {X Y : Prop} (k : X) : Cond (!false) X Y := r_nff k
theorem jE {p X : Prop} (k : X) (h : p := by omega) : Need p X := r_need h k
theorem jF {e : Int} {K : Int → Prop} (k : K e) (h : -9223372036854775808 ≤ e ∧ e ≤ 9223372036854775807 := by omega) : Wrap .i64 e K := r_i64 h k
theorem jG {p : Prop} [Decidable p] {X Y : Prop} (k : X) (h : p := by omega) : Cond (decide p) X Y := r_dect h k
theorem jH {p : Prop} [Decidable p] {X Y : Prop} (k : Y) (h : ¬ p := by omega) : Cond (decide p) X Y := r_decf h k
theorem jI {x y : Int} {X Y : Prop} (k : X) (h : x = y := by omega) : Cond (x == y) X Y := r_eqt h k
theorem jJ {x y : Int} {X Y : Prop} (k : Y) (h : x ≠ y := by omega) : Cond (x == y) X Y := r_eqf h k
theorem jK {x y : Int} {X Y : Prop} (k : X) (h : x ≠ y := by omega) : Cond (x != y) X Y := r_net h k
theorem jL {x y : Int} {X Y : Prop} (k : Y) (h : x = y := by omega) : Cond (x != y) X Y := r_nef h k
theorem jM {e : Int} {K : Int → Prop} (k : K e) (h : 0 ≤ e ∧ e ≤ 255 := by omega) : Wrap .u8 e K := r_u8 h k
theorem jN {e : Int} {K : Int → Prop} (k : K e) (h : 0 ≤ e ∧ e ≤ 18446744073709551615 := by omega) : Wrap .u64 e K := r_u64 h k
theorem jO {e : Int} {K : Int → Prop} (k : K e) (h : -2147483648 ≤ e ∧ e ≤ 2147483647 := by omega) : Wrap .i32 e K := r_i32 h k
theorem jP {e : Int} {K : Int → Prop} (k : K e) (h : 0 ≤ e ∧ e ≤ 4294967295 := by omega) : Wrap .u32 e K := r_u32 h k
theorem jQ {x y : Int} {K : Int → Prop} (k : K (x % y)) (h : 0 ≤ x := by omega) : Rem x y K := r_rem h k
theorem jR {x y : Int} {K : Int → Prop} (k : K (x / y)) (h : 0 ≤ x := by omega) : Quo x y K := r_quo h k
theorem jS {b i : Nat} {e : TypeId} {cs : List Value} {v : Value} {K : Value → Prop} (h : Blk w b e cs := by assumption) (hi : cs[i]? = some v := by rfl) (k : K v) : Load ⟨b, i, none⟩ (fun w' => w' = w) K := r_ldb h hi k
theorem jT {b i : Nat} {e : TypeId} {cs : List Value} {v : Value} {K : Value → Prop} (h : Blk w b e cs := by assumption) (hi : cs[i]? = some v := by rfl) (k : K v) : Load ⟨b, i, none⟩ (Ext w) K := r_ldbE h hi k
/-- A cell of a slice. -/
theorem r_ldv {a : Option Addr} {len cap size : Nat} {L : List Value} {j : Nat} {v : Value} {K : Value → Prop} (h : View w a len cap size L) (hj : L[j]? = some v) (k : K v) : Load ⟨blk a, ofs a + j, none⟩ (fun w' => w' = w) K :=
  r_ldw (h.cell j v hj) k
theorem r_ldvE {a : Option Addr} {len cap size : Nat} {L : List Value} {j : Nat} {v : Value} {K : Value → Prop} (h : View w a len cap size L) (hj : L[j]? = some v) (k : K v) : Load ⟨blk a, ofs a + j, none⟩ (Ext w) K :=
  r_ld (fun _ he => (h.ext he).cell j v hj) k
theorem r_ldn {C : World → Prop} {a : Addr} {n : Nat} {K : Value → Prop} (vs : List Value) (hl : vs.length = n) (h : ∀ w, C w → ∀ i v, vs[i]? = some v → w.cell? (a.add i) = some v) (k : K (.agg ⟨vs⟩)) : LoadN a n C K := by
  rw [LoadN_eq]; exact ⟨vs, hl, h, k⟩
/-- Cells of a block. -/
theorem r_ldnb {b o n : Nat} {e : TypeId} {cs vs : List Value} {K : Value → Prop} (h : Blk w b e cs) (hv : (cs.drop o).take n = vs) (hl : vs.length = n) (k : K (.agg ⟨vs⟩)) : LoadN ⟨b, o, none⟩ n (fun w' => w' = w) K :=
  r_ldn vs hl (fun w' hw i v hi => by
    subst hw
    rw [Addr.add_plain, h.cell]
    rw [← hv, List.getElem?_take] at hi
    split at hi
    · rwa [List.getElem?_drop] at hi
    · cases hi) k
theorem r_ldnbE {b o n : Nat} {e : TypeId} {cs vs : List Value} {K : Value → Prop} (h : Blk w b e cs) (hv : (cs.drop o).take n = vs) (hl : vs.length = n) (k : K (.agg ⟨vs⟩)) : LoadN ⟨b, o, none⟩ n (Ext w) K :=
  r_ldn vs hl (fun w' hw i v hi => by
    rw [Addr.add_plain, (h.ext hw).cell]
    rw [← hv, List.getElem?_take] at hi
    split at hi
    · rwa [List.getElem?_drop] at hi
    · cases hi) k
/-- Cells of a slice. -/
theorem r_ldnv {a : Option Addr} {len cap size j n : Nat} {L vs : List Value} {K : Value → Prop} (h : View w a len cap size L) (hv : (L.drop j).take n = vs) (hl : vs.length = n) (k : K (.agg ⟨vs⟩)) : LoadN ⟨blk a, ofs a + j, none⟩ n (fun w' => w' = w) K :=
  r_ldn vs hl (fun w' hw i v hi => by
    subst hw
    rw [Addr.add_plain, Nat.add_assoc]
    refine h.cell _ v ?_
    rw [← hv, List.getElem?_take] at hi
    split at hi
    · rwa [List.getElem?_drop] at hi
    · cases hi) k
theorem r_ldnvE {a : Option Addr} {len cap size j n : Nat} {L vs : List Value} {K : Value → Prop} (h : View w a len cap size L) (hv : (L.drop j).take n = vs) (hl : vs.length = n) (k : K (.agg ⟨vs⟩)) : LoadN ⟨blk a, ofs a + j, none⟩ n (Ext w) K :=
  r_ldn vs hl (fun w' hw i v hi => by
    rw [Addr.add_plain, Nat.add_assoc]
    refine (h.ext hw).cell _ v ?_
    rw [← hv, List.getElem?_take] at hi
    split at hi
    · rwa [List.getElem?_drop] at hi
    · cases hi) k

theorem r_get {α : Type} {s : Sem α} {C : World → Prop} {K : α → Prop} {v : α} (h : ∀ w, C w → s.run P w = .ok v w) (k : K v) : Get P s C K := by rw [Get_eq]; exact ⟨v, h, k⟩
theorem r_run {α : Type} {s : Sem α} {K : α → World → Prop} {v : α} {w' : World} (h : s.run P w = .ok v w') (k : K v w') : Run P s w K := by rw [Run_eq]; exact ⟨v, w', h, k⟩

theorem r_new {cells : List Value} {elem : TypeId} {K : Nat → World → Prop} (k : ∀ b w', Ext w w' → w.heap.size ≤ b → w'.heap.size = w.heap.size + 1 → Blk w' b elem cells → K b w') : New cells elem w K := by
  rw [New_eq]
  exact k _ _ (Ext.alloc w _) (Nat.le_refl _) (by simp) (heap_alloc_new w _)

theorem r_st {b i : Nat} {e : TypeId} {cs : List Value} {v : Value} {K : World → Prop} (h : Blk w b e cs) (hi : i < cs.length) (hv : v.oneCell' = true)
    (k : ∀ w', Chg (· = b) w w' → w'.heap.size = w.heap.size → Blk w' b e (cs.set i v) → K w') : Store ⟨b, i, none⟩ v w K := by
  rw [Store_eq]
  obtain ⟨h1, h2, h3⟩ := Chg.set h i v
  exact ⟨by rw [h.cell]; simp [hi], h.frozen i, hv, k _ h1 h2 h3⟩

theorem storeFrom_of {b o : Nat} {e : TypeId} {K : World → Prop} : ∀ (vs : List Value) (i : Nat) (w : World) (cs : List Value), Blk w b e cs → o + i + vs.length ≤ cs.length → (∀ v ∈ vs, v.oneCell' = true) →
    (∀ w', Chg (· = b) w w' → w'.heap.size = w.heap.size → Blk w' b e (setL cs (o + i) vs) → K w') → StoreFrom ⟨b, o, none⟩ vs i w K
  | [], i, w, cs, h, _, _, k => k w (Chg.refl _ w) rfl (by cases cs <;> simpa [setL] using h)
  | v :: vs, i, w, cs, h, hl, hv, k => by
    obtain ⟨h1, h2, h3⟩ := Chg.set h (o + i) v
    simp only [List.length_cons] at hl
    refine ⟨by rw [Addr.add_plain, h.cell, List.getElem?_eq_getElem (show o + i < cs.length by omega)]; rfl, by rw [Addr.add_plain]; exact h.frozen _, hv v (by simp), ?_⟩
    rw [Addr.add_plain]
    refine storeFrom_of vs (i + 1) _ _ h3 (by rw [List.length_set]; omega) (fun u hu => hv u (by simp [hu])) fun w' c1 c2 c3 => k w' (h1.trans c1) (c2.trans h2) ?_
    have e : setL (cs.set (o + i) v) (o + (i + 1)) vs = setL cs (o + i) (v :: vs) := by
      have : ∀ (cs : List Value) (j : Nat), setL (cs.set j v) (j + 1) vs = setL cs j (v :: vs) := by
        intro cs
        induction cs with
        | nil => intro j; cases vs <;> simp [setL]
        | cons c cs ih =>
          intro j
          cases j with
          | zero => cases vs <;> simp [setL]
          | succ j =>
            have h1 := ih j
            cases vs with
            | nil => simp [setL] at h1 ⊢; exact h1
            | cons u vs => simp [setL] at h1 ⊢; exact h1
      have := this cs (o + i)
      rwa [show o + i + 1 = o + (i + 1) by omega] at this
    rw [e] at c3
    exact c3
theorem r_stn {b o : Nat} {e : TypeId} {cs vs : List Value} {K : World → Prop} (h : Blk w b e cs) (hl : o + vs.length ≤ cs.length) (hv : ∀ v ∈ vs, v.oneCell' = true)
    (k : ∀ w', Chg (· = b) w w' → w'.heap.size = w.heap.size → Blk w' b e (setL cs o vs) → K w') : StoreN ⟨b, o, none⟩ vs w K := by
  rw [StoreN_eq]
  exact storeFrom_of vs 0 w cs h (by simpa using hl) hv k

theorem r_cal {f : FuncId} {args : Array Value} {R K : Value → World → Prop} (h : Cal P f args w R) (k : ∀ v w', R v w' → K v w') : Cal P f args w K := by
  rw [Cal_eq] at *
  exact h.mono fun e w' ⟨v, he, hv⟩ => ⟨v, he, k v w' hv⟩
theorem r_calV {f : FuncId} {args : Array Value} {R K : Value → World → Prop} (hc : callable P f = true) (h : Cal P f args w R) (k : ∀ v w', R v w' → K v w') : FnV P f args w K := by
  rw [FnV_eq]
  exact ⟨hc, r_cal h k⟩
theorem r_calI {t : TypeId} {v r : Value} {name : String} {f : FuncId} {args : List Value} {R K : Value → World → Prop} (hm : ∀ w, (method (P.types.size + Made.depth) t v name).run P w = .ok (f, r) w) (hc : callable P f = true)
    (h : Cal P f ⟨r :: args⟩ w R) (k : ∀ v w', R v w' → K v w') : FnI P t v name args w K := by
  rw [FnI_eq]
  exact ⟨f, r, hm, hc, r_cal h k⟩
theorem r_nilno {t : TypeId} {v : Value} {name : String} {X : Prop} (h : ∀ w, (nilAhead (P.types.size + Made.depth) t v name).run P w = .ok (some false) w) (k : X) : NilNo P t v name X := by
  rw [NilNo_eq]; exact ⟨h, k⟩
theorem r_byte {s : ByteArray} {i : Int} {K : Int → Prop} (b : UInt8) (h0 : 0 ≤ i) (h : s[i.toNat]? = some b) (k : K b.toNat) : ByteAt s i K := by rw [ByteAt_eq]; exact ⟨b, h0, h, k⟩

/-- A LOOP. The state 's' is what the loop's slots hold ('enc'). -/
theorem r_loop {σ : Type} {vs : List Value} {B : List Value → World → (List Value → World → Prop) → Prop} (enc : σ → List Value) (I : σ → World → Prop) (μ : σ → World → Nat) (s0 : σ) (h0 : vs = enc s0) (hI : I s0 w)
    (hB : ∀ s w (again : List Value → World → Prop), I s w → (∀ s' w', I s' w' → μ s' w' < μ s w → again (enc s') w') → B (enc s) w again) : LoopP vs w B := by
  rw [LoopP_eq]
  -- the least measure of the states that look so
  have ex : ∀ vs w, (∃ s, vs = enc s ∧ I s w) → ∃ n, (∃ s, vs = enc s ∧ I s w ∧ μ s w = n) ∧ ∀ s, vs = enc s → I s w → n ≤ μ s w := by
    intro vs w ⟨s, hs, hi⟩
    have key : ∀ n, (∃ s, vs = enc s ∧ I s w ∧ μ s w ≤ n) → ∃ m, (∃ s, vs = enc s ∧ I s w ∧ μ s w = m) ∧ ∀ s, vs = enc s → I s w → m ≤ μ s w := by
      intro n
      induction n with
      | zero => rintro ⟨s, h1, h2, h3⟩; exact ⟨0, ⟨s, h1, h2, by omega⟩, fun _ _ _ => Nat.zero_le _⟩
      | succ n ih =>
        rintro ⟨s, h1, h2, h3⟩
        by_cases hn : ∃ s, vs = enc s ∧ I s w ∧ μ s w ≤ n
        · exact ih hn
        · refine ⟨n + 1, ⟨s, h1, h2, ?_⟩, fun s' h1' h2' => ?_⟩
          · rcases Nat.lt_or_ge n (μ s w) with h | h
            · omega
            · exact absurd ⟨s, h1, h2, h⟩ hn
          · rcases Nat.lt_or_ge n (μ s' w) with h | h
            · omega
            · exact absurd ⟨s', h1', h2', h⟩ hn
    exact key (μ s w) ⟨s, hs, hi, Nat.le_refl _⟩
  let m : List Value → World → Nat := fun vs w => @dite _ (∃ s, vs = enc s ∧ I s w) (Classical.propDecidable _) (fun h => Classical.choose (ex vs w h)) (fun _ => 0)
  have hm : ∀ vs w (h : ∃ s, vs = enc s ∧ I s w), (∃ s, vs = enc s ∧ I s w ∧ μ s w = m vs w) ∧ ∀ s, vs = enc s → I s w → m vs w ≤ μ s w := by
    intro vs w h
    have e : m vs w = Classical.choose (ex vs w h) := by simp only [m, dif_pos h]
    rw [e]
    exact Classical.choose_spec (ex vs w h)
  refine ⟨fun vs w => ∃ s, vs = enc s ∧ I s w, m, ⟨s0, h0, hI⟩, fun vs w h => ?_⟩
  obtain ⟨⟨s, hs, hi, he⟩, _⟩ := hm vs w h
  rw [hs]
  refine hB s w _ hi fun s' w' hi' hlt => ⟨⟨s', rfl, hi'⟩, ?_⟩
  have h' := (hm (enc s') w' ⟨s', rfl, hi'⟩).2 s' rfl hi'
  rw [← hs, ← he]
  omega

/-! ### append -/
/-- A slice type, its element's type, how many cells and bytes that takes. -/
def Elem (P : Program) (t e size bytes : Nat) : Prop :=
  P.underlying t = some (.slice e) ∧ ∃ i z, P.info? e = some i ∧ i.zero = some z ∧ i.size = size ∧ i.bytes = bytes ∧ z.cells.size = size ∧ 0 < size
def elemB (P : Program) (t e size bytes : Nat) : Bool :=
  match P.underlying t, P.info? e with
  | some (.slice e'), some i => match i.zero with
    | some z => Nat.beq e e' && Nat.beq i.size size && Nat.beq i.bytes bytes && Nat.beq z.cells.size size && Nat.blt 0 size
    | none => false
  | _, _ => false
theorem Elem.of {t e size bytes : Nat} (h : elemB P t e size bytes = true) : Elem P t e size bytes := by
  unfold elemB at h
  split at h
  · rename_i e' i h1 h2
    split at h
    · rename_i z hz
      simp only [Bool.and_eq_true] at h
      obtain ⟨⟨⟨⟨a, b⟩, c⟩, d⟩, f⟩ := h
      have a := Nat.eq_of_beq_eq_true a
      subst a
      exact ⟨h1, i, z, h2, hz, Nat.eq_of_beq_eq_true b, Nat.eq_of_beq_eq_true c, Nat.eq_of_beq_eq_true d, by simpa using f⟩
    · cases h
  · cases h

theorem chg_grown {w' : World} {v : Value} (h : w.grownBy w' v.ownBlock) : Chg (fun b => v.ownBlock = some b) w w' :=
  ⟨h.os, h.tape, h.output, h.size, fun k hk hs => h.block k hk fun e => hs e.symm⟩

/-- append to what the call itself made. -/
theorem r_app {t ty e size bytes base : Nat} {v : Value} {n : Nat} {xs : List Value} {a : Option Addr} {m c : Nat} {news : List Value} {K : Value → World → Prop} (he : Elem P t e size bytes) (hown : w.ownsRow base e size v n xs) (hv : View w a m c size news)
    (h1 : ∀ u ∈ news, u.oneCell' = true) (hb : (n + m) * bytes ≤ 140737488355328 ∧ n + m ≤ 4611686018427387904) (hbase : base ≤ w.heap.size)
    (k : ∀ v' w', w'.ownsRow base e size v' (n + m) (xs ++ news) → Chg (fun b => v.ownBlock = some b) w w' → (v' = .slice none 0 0 ↔ v = .slice none 0 0 ∧ m = 0) → K v' w') : Run P (G.sem (.bi .append ⟨[t, t]⟩ ty) [v, .slice a m c]) w K := by
  obtain ⟨ht, i, z, hi, hz, hs, hby, hzs, hsz⟩ := he
  have hmax : n + m ≤ maxLen := by simp only [maxLen]; omega
  rcases Nat.eq_zero_or_pos m with rfl | hm
  · -- nothing is appended
    have hnil : news = [] := by simpa using hv.length
    subst hnil
    have hrun : ∀ x : Option Addr, (Builtin.append_ ⟨[t, t]⟩ ty ⟨[v, .slice x 0 c]⟩).run P w = .ok v w := by
      intro x
      rcases hown.2 with ⟨rfl, rfl⟩ | ⟨g, cap, cur, rfl, hbg, hg, hn, hc, hsz', htk⟩
      · cases x <;> simp [Builtin.append_, run_underlying ht, Go.sizeOf, typeInfo, hi, Builtin.lenOf, Builtin.firstCells, loadCells, loadCellsFrom]
      · have hle : n ≤ cap := hn
        cases x <;> simp [Builtin.append_, run_underlying ht, Go.sizeOf, typeInfo, hi, Builtin.lenOf, Builtin.firstCells, loadCells, loadCellsFrom, hle, storeCells]
    refine r_run (hrun a) (k v w (by simpa using hown) ?_ (by simp))
    exact Chg.refl _ w
  · have hpos : 0 < news.length := by rw [hv.length]; exact Nat.mul_pos hm hsz
    have hp := hv.plain hpos
    unfold plainA at hp
    generalize hbk : blk a = b at hp
    generalize hof : ofs a = o at hp
    subst hp
    obtain ⟨v', w', hr, h2, h3, h4⟩ := run_append_own (P := P) w base t ty e i z size bytes ht hi hz hs hby hzs hsz v n xs hown ⟨b, o, none⟩ m c news hv.length
      (fun j u hu => by rw [Addr.add_plain]; exact hv.cell j u hu) h1 hmax hb.1 hbase
    exact r_run hr (k v' w' h2 (chg_grown h3) h4)

end
end Fb

/-
  The frame of a law's proof, for every program: what the arguments' readings say of their cells, and from the walk to the row's post-condition.
-/
namespace Fb
open Go Go.ChangeShapes Go.WideShapes Go.RowKit Go.WideElems

section
variable {H : Type} {enc : TypeId × Value → H} {P : Program} {W W' : World}

theorem Ext.kept (h : Ext W W') (may : MemPlace → Prop) : W.keptBut W' may := by
  refine ⟨h.os, h.output, fun i hi => ?_⟩
  have e := h.block i hi (fun f => f)
  rw [e]
  cases ho : W.heap[i]? with
  | none => trivial
  | some o =>
    cases o with
    | cells c t fr => exact ⟨rfl, rfl, rfl, fun _ _ => rfl⟩
    | map es clock => exact .inr ⟨rfl, rfl⟩
    | _ => rfl

theorem trodAll_ext (hl : laidOutB P = true) (hx : Ext W W') : ∀ (ts : List TypeId) (vs : List Value) (ds : List (DataW H)) (ps : List MemPlace), (ts.all fun t => P.readableRec t && decide (t < P.types.size)) = true →
    DataW.TrodAll enc P W 0 (fun _ => true) true ts vs ds ps → (∀ p ∈ ps, p.block < W.heap.size) → DataW.TrodAll enc P W' 0 (fun b => decide (b < W.heap.size)) true ts vs ds ps
  | [], _, _, _, _, h, _ => by
    obtain ⟨rfl, rfl, rfl⟩ := trodAll_nil h
    rfl
  | t :: ts, _, _, _, ht, h, hp => by
    obtain ⟨v, vs, d, ds, p, q, rfl, rfl, rfl, h1, h2⟩ := trodAll_cons h
    simp only [List.all_cons, Bool.and_eq_true, decide_eq_true_eq] at ht
    refine ⟨p, q, Trod_stays hl ht.1.1 ht.1.2 h1 (fun x hx' => hx.below.same (hp x (by simp [hx']))) (fun x hx' => by simpa using hp x (by simp [hx'])), ?_, rfl⟩
    exact trodAll_ext hl hx ts vs ds q (by simpa using ht.2) h2 fun x hx' => hp x (by simp [hx'])

/-- FROM THE WALK TO THE ROW: the law returns true, and what was there is as it was. -/
theorem law_calls {f : FuncId} {fn : Func} {s : ChangeSpec} {apart fresh handsOn : Bool} {args : Array Value} {ds gs : List (DataW H)} {before : List MemPlace} {tb : TypeId} (hl : laidOutB P = true)
    (hpar : (fn.params.toList.all fun t => P.readableRec t && decide (t < P.types.size)) = true) (hres : fn.resultTypes = #[tb]) (htb : P.underlying tb = some .bool) (hv : s.vars = [])
    (hs : s.fn H (ds ++ gs) = { results := [.lit (.bool true)], args := ds }) (hW : DataW.Whole enc P fn.params.toList s.vars apart W args.toList ds gs before)
    (h : Cal P f args W fun v w' => v = .bool true ∧ Ext W w') : Calls P f args W fun e W' => ∃ v, e = .returned v ∧ s.post enc P fn apart fresh handsOn false W args v W' := by
  rw [Cal_eq] at h
  refine h.mono fun e W' he => ?_
  obtain ⟨v, rfl, rfl, hx⟩ := he
  have hW0 := hW
  obtain ⟨p, q, hA, hV, rfl, _, _⟩ := hW
  rw [hv] at hV
  obtain ⟨rfl, rfl⟩ := trodVars_none hV
  refine ⟨_, rfl, ds, [], p ++ [], [], p, [], hW0, ?_, ?_, ?_, hx.kept _, fun hf => by cases hf⟩
  · rw [hs, hres]
    exact trodAll_mk1 (shut_bool htb true)
  · rw [hs]
    exact trodAll_ext hl hx _ _ _ _ hpar hA fun x hx' => hW0.lt x (by simpa using hx')
  · rw [hv, hs]
    rfl

/-! ### What is read, leaf by leaf -/
inductive Leaf where
  | int (k : IntKind)
  | str
  | bool
  | sl (t : TypeId)

def leafsF (P : Program) (r : TypeId → Option (List Leaf)) : List Field → Nat → Option (List Leaf)
  | [], _ => some []
  | f :: fs, off => if f.offset = off then (r f.type).bind fun l => if l.length = P.cellsOf f.type then (leafsF P r fs (off + l.length)).map (l ++ ·) else none else none
def leafs (P : Program) : Nat → TypeId → Option (List Leaf)
  | 0, _ => none
  | n + 1, t => match P.underlying t with
    | some (.int k) => some [.int k]
    | some .string => some [.str]
    | some .bool => some [.bool]
    | some (.slice _) => some [.sl t]
    | some (.struct fs) => (leafsF P (leafs P n) fs.toList 0).bind fun ls => if ls.length = P.cellsOf t then some ls else none
    | _ => none

/-- What a reading of one cell is. -/
def LeafOk (enc : TypeId × Value → H) (P : Program) (W : World) : Leaf → Value → Prop
  | .int k, v => ∃ n, v = .int k n ∧ (Lit.int k n).wf = true
  | .str, v => ∃ s : ByteArray, v = .string s ∧ s.size ≤ maxLen
  | .bool, v => ∃ b, v = .bool b
  | .sl t, v => ∃ fuel x, DataW.trod enc P W 0 (fun _ => true) true fuel t [v] = some x
def AllOk (enc : TypeId × Value → H) (P : Program) (W : World) : List Leaf → List Value → Prop
  | [], vs => vs = []
  | l :: ls, vs => ∃ u us, vs = u :: us ∧ LeafOk enc P W l u ∧ AllOk enc P W ls us

theorem allOk_append : ∀ {l1 l2 : List Leaf} {c1 c2 : List Value}, AllOk enc P W l1 c1 → AllOk enc P W l2 c2 → AllOk enc P W (l1 ++ l2) (c1 ++ c2)
  | [], _, _, _, h, k => by
    have : _ = [] := h
    subst this
    exact k
  | _ :: _, _, _, _, ⟨u, us, e, h1, h2⟩, k => ⟨u, us ++ _, by rw [e]; rfl, h1, allOk_append h2 k⟩

theorem leafsF_ok {r : TypeId → Option (List Leaf)} {cs : List Value} : ∀ (fl : List Field) (off : Nat) (ls : List Leaf), leafsF P r fl off = some ls →
    (∀ f ∈ fl, ∀ l, r f.type = some l → l.length = P.cellsOf f.type → AllOk enc P W l ((cs.drop f.offset).take (P.cellsOf f.type))) → AllOk enc P W ls ((cs.drop off).take ls.length)
  | [], _, ls, h, _ => by
    simp only [leafsF, Option.some.injEq] at h
    subst h
    simp [AllOk]
  | f :: fs, off, ls, h, hr => by
    simp only [leafsF] at h
    split at h
    · rename_i hoff
      simp only [Option.bind_eq_some_iff] at h
      obtain ⟨l, hl, h⟩ := h
      split at h
      · rename_i hlen
        simp only [Option.map_eq_some_iff] at h
        obtain ⟨lr, hlr, rfl⟩ := h
        have h1 := hr f (by simp) l hl hlen
        have h2 := leafsF_ok fs _ lr hlr fun g hg => hr g (by simp [hg])
        rw [hoff, ← hlen] at h1
        rw [List.length_append, List.take_add, List.drop_drop]
        exact allOk_append h1 h2
      · cases h
    · cases h

theorem leafs_ok : ∀ (m : Nat) (t : TypeId) (ls : List Leaf), leafs P m t = some ls → ∀ (fuel : Nat) (cs : List Value) (x : DataW H × List MemPlace), DataW.trod enc P W 0 (fun _ => true) true fuel t cs = some x → AllOk enc P W ls cs
  | 0, _, _, h, _, _, _, _ => by cases h
  | m + 1, t, ls, h, fuel, cs, x, hx => by
    simp only [leafs] at h
    split at h
    · rename_i k hu
      cases h
      obtain ⟨n, rfl, _, hw⟩ := DataW.trod_int hu hx
      exact ⟨_, _, rfl, ⟨n, rfl, hw⟩, rfl⟩
    · rename_i hu
      cases h
      obtain ⟨s, rfl, _, hw⟩ := DataW.trod_string hu hx
      exact ⟨_, _, rfl, ⟨s, rfl, hw⟩, rfl⟩
    · rename_i hu
      cases h
      obtain ⟨b, rfl, _⟩ := DataW.trod_bool hu hx
      exact ⟨_, _, rfl, ⟨b, rfl⟩, rfl⟩
    · rename_i e hu
      cases h
      rcases DataW.trod_slice hu hx with ⟨rfl, _⟩ | ⟨a, len, cap, _, _, _, _, rfl, _⟩
      · exact ⟨_, _, rfl, ⟨fuel, x, hx⟩, rfl⟩
      · exact ⟨_, _, rfl, ⟨fuel, x, hx⟩, rfl⟩
    · rename_i fs hu
      simp only [Option.bind_eq_some_iff] at h
      obtain ⟨ls', hls, h⟩ := h
      split at h
      · rename_i hlen
        cases h
        obtain ⟨xs, n, rfl, _, hcl, hxl, hf⟩ := DataW.trod_struct hu hx
        have := leafsF_ok (enc := enc) (W := W) (cs := cs) fs.toList 0 ls hls fun f hf' l hl hll => by
          obtain ⟨i, hi⟩ := List.getElem?_of_mem hf'
          have hi' : fs[i]? = some f := by simpa using hi
          have hti := hf i f hi'
          have hlt : i < xs.length := by
            rw [hxl]
            exact (Array.getElem?_eq_some_iff.1 hi').1
          rw [List.getElem?_eq_getElem hlt] at hti
          exact leafs_ok m f.type l hl n _ _ hti
        rw [List.drop_zero, hlen, ← hcl, List.take_length] at this
        exact this
      · cases h
    · cases h

/-- An argument of a struct's type. -/
theorem open_agg {r : Reach} {b0 : Nat} {t : TypeId} {v : Value} {d : DataW H} {ps : List MemPlace} {ls : List Leaf} {fs : Array Field} (m : Nat) (ht : P.underlying t = some (.struct fs)) (hls : leafs P m t = some ls) (hval : Value.okWide P W r b0 t v)
    (hd : DataW.Trod enc P W 0 (fun _ => true) true t v d ps) : ∃ cs : List Value, v = .agg ⟨cs⟩ ∧ AllOk enc P W ls cs := by
  simp only [Value.okWide, ht] at hval
  obtain ⟨⟨cs⟩, rfl, _⟩ := hval
  obtain ⟨fuel, hf⟩ := hd
  exact ⟨cs, rfl, leafs_ok m t ls hls fuel _ _ hf⟩

/-- The cells of all elements, one behind the other. -/
theorem flat_get : ∀ (L : List (List Value)) (size : Nat), (∀ c ∈ L, c.length = size) → ∀ (i : Nat) (u : Value), L.flatten[i]? = some u → ∃ k j c, i = k * size + j ∧ j < size ∧ L[k]? = some c ∧ c[j]? = some u
  | [], _, _, i, u, h => by simp at h
  | c :: L, size, hl, i, u, h => by
    have hc := hl c (by simp)
    by_cases hi : i < size
    · refine ⟨0, i, c, by simp, hi, rfl, ?_⟩
      rwa [List.flatten_cons, List.getElem?_append_left (by omega)] at h
    · rw [List.flatten_cons, List.getElem?_append_right (by omega), hc] at h
      obtain ⟨k, j, c', h1, h2, h3, h4⟩ := flat_get L size (fun x hx => hl x (by simp [hx])) _ _ h
      exact ⟨k + 1, j, c', by rw [Nat.add_mul]; omega, h2, by simpa using h3, h4⟩

theorem cells?_at {a : Addr} {n : Nat} {c : List Value} (h : W.cells? 0 a n = some c) : c.length = n ∧ ∀ j u, c[j]? = some u → W.cell? (a.add j) = some u := by
  unfold World.cells? at h
  rw [if_pos (Nat.zero_le _)] at h
  have hl := mapM_some_length h
  refine ⟨by simpa using hl, fun j u hj => ?_⟩
  have hjl : j < n := by
    have := (List.getElem?_eq_some_iff.1 hj).1
    have hl' : c.length = n := by simpa using hl
    omega
  have := mapM_some_get h j j (by simp [hjl])
  rw [this, hj]

theorem flatten_length (L : List (List Value)) (size : Nat) (h : ∀ c ∈ L, c.length = size) : L.flatten.length = L.length * size := by
  induction L with
  | nil => simp
  | cons c L ih =>
    rw [List.flatten_cons, List.length_append, ih fun x hx => h x (by simp [hx]), h c (by simp), List.length_cons, Nat.add_mul]
    omega

/-- A slice. -/
theorem open_slice {t e : TypeId} {size : Nat} (ht : P.underlying t = some (.slice e)) (hsz : P.cellsOf e = size) (hpos : 0 < size) {fuel : Nat} {v : Value} {x : DataW H × List MemPlace} (h : DataW.trod enc P W 0 (fun _ => true) true fuel t [v] = some x) :
    ∃ (a : Option Addr) (len cap : Nat) (L : List (List Value)), v = .slice a len cap ∧ L.length = len ∧ View W a len cap size L.flatten ∧ ∀ c ∈ L, c.length = size ∧ ∃ n y, DataW.trod enc P W 0 (fun _ => true) true n e c = some y := by
  rcases DataW.trod_slice ht h with ⟨hv, _⟩ | ⟨a, len, cap, elems, rest, n, rfl, hv, _, _, hle, hmax, hel, hcells, _⟩
  · cases hv
    exact ⟨none, 0, 0, [], rfl, rfl, View.nil W size, by simp⟩
  · cases hv
    rw [hsz] at hcells
    have hc : ∀ i, i < len → ∃ c, W.cells? 0 (a.add (i * size)) size = some c ∧ ∃ y, DataW.trod enc P W 0 (fun _ => true) true n e c = some y := fun i hi => by
      have := hcells i hi
      rw [List.getElem?_eq_getElem (by omega)] at this
      simp only [Option.bind_eq_some_iff] at this
      obtain ⟨c, h1, h2⟩ := this
      exact ⟨c, h1, _, h2⟩
    let L := (List.range len).map fun i => (W.cells? 0 (a.add (i * size)) size).getD []
    have hL : ∀ (i : Nat) (c : List Value), L[i]? = some c → W.cells? 0 (a.add (i * size)) size = some c ∧ i < len ∧ ∃ y, DataW.trod enc P W 0 (fun _ => true) true n e c = some y := fun i c hi => by
      have hil : i < len := by have := (List.getElem?_eq_some_iff.1 hi).1; simpa [L] using this
      obtain ⟨c', h1, h2⟩ := hc i hil
      have : c' = c := by
        simp only [L, List.getElem?_map, List.getElem?_range hil, Option.map_some, Option.some.injEq, h1, Option.getD_some] at hi
        exact hi
      subst this
      exact ⟨h1, hil, h2⟩
    have hLl : ∀ c ∈ L, c.length = size := fun c hm => by
      obtain ⟨i, hi⟩ := List.getElem?_of_mem hm
      exact (cells?_at (hL i c hi).1).1
    have hcell : ∀ i u, L.flatten[i]? = some u → W.cell? ⟨a.block, a.off + i, none⟩ = some u ∧ a.spot = none := fun i u hu => by
      obtain ⟨k, j, c, rfl, hj, hk, hju⟩ := flat_get L size hLl i u hu
      obtain ⟨h1, hkl, _⟩ := hL k c hk
      have h2 := (cells?_at h1).2 j u hju
      have hsp : (a.add (k * size)).add j = ⟨a.block, a.off + (k * size + j), none⟩ ∧ a.spot = none ∨ False := by
        left
        have key : ∀ (x : Addr) (u : Value), W.cell? x = some u → x.spot = none := fun x u hx => by
          unfold World.cell? at hx
          split at hx
          · split at hx
            · cases hx
            · rename_i hs; simpa using hs
          · cases hx
        have h0 : a.spot = none := by
          obtain ⟨c0, hc0, _⟩ := hc 0 (by omega)
          obtain ⟨l0, g0⟩ := cells?_at hc0
          have := g0 0 c0[0] (by simp [l0, hpos])
          have := key _ _ this
          simpa [Addr.add] using this
        refine ⟨?_, h0⟩
        obtain ⟨ab, ao, as⟩ := a
        simp only at h0
        subst h0
        rw [Addr.add_plain, Addr.add_plain, Nat.add_assoc]
      rcases hsp with ⟨e1, e2⟩ | f
      · rw [e1] at h2
        exact ⟨h2, e2⟩
      · exact f.elim
    refine ⟨some a, len, cap, L, rfl, by simp [L], ⟨?_, hle, hmax, fun hp => ?_, fun i u hu => (hcell i u hu).1⟩, fun c hm => ⟨hLl c hm, ?_⟩⟩
    · rw [flatten_length L size hLl]
      simp [L]
    · have := hcell 0 L.flatten[0] (by simp)
      obtain ⟨ab, ao, as⟩ := a
      simp only at this
      obtain ⟨_, rfl⟩ := this
      rfl
    · obtain ⟨i, hi⟩ := List.getElem?_of_mem hm
      obtain ⟨_, _, y, hy⟩ := hL i c hi
      exact ⟨n, y, hy⟩

/-- A slice of numbers. -/
theorem open_sl_int {t e : TypeId} {k : IntKind} (ht : P.underlying t = some (.slice e)) (he : P.underlying e = some (.int k)) (hsz : P.cellsOf e = 1) {v : Value} (h : LeafOk enc P W (.sl t) v) :
    ∃ (a : Option Addr) (len cap : Nat) (xs : List Int), v = .slice a len cap ∧ View W a len cap 1 (xs.map (.int k)) ∧ ∀ x ∈ xs, (Lit.int k x).wf = true := by
  obtain ⟨fuel, x, h⟩ := h
  obtain ⟨a, len, cap, L, rfl, hl, hv, hc⟩ := open_slice ht hsz (by omega) h
  have : ∃ xs : List Int, L.flatten = xs.map (.int k) ∧ ∀ x ∈ xs, (Lit.int k x).wf = true := by
    clear hv hl h
    induction L with
    | nil => exact ⟨[], by simp, by simp⟩
    | cons c L ih =>
      obtain ⟨xs, h1, h2⟩ := ih fun c' hc' => hc c' (by simp [hc'])
      obtain ⟨_, n, y, hy⟩ := hc c (by simp)
      obtain ⟨z, rfl, _, hw⟩ := DataW.trod_int he hy
      exact ⟨z :: xs, by simp [h1], by simpa using ⟨hw, h2⟩⟩
  obtain ⟨xs, h1, h2⟩ := this
  exact ⟨a, len, cap, xs, rfl, by rw [← h1]; exact hv, h2⟩

/-- A slice of what is made of leafs. -/
theorem open_sl_leafs {t e : TypeId} {size : Nat} {ls : List Leaf} (m : Nat) (ht : P.underlying t = some (.slice e)) (hls : leafs P m e = some ls) (hsz : P.cellsOf e = size) (hpos : 0 < size) {v : Value} (h : LeafOk enc P W (.sl t) v) :
    ∃ (a : Option Addr) (len cap : Nat) (L : List (List Value)), v = .slice a len cap ∧ L.length = len ∧ View W a len cap size L.flatten ∧ ∀ c ∈ L, c.length = size ∧ AllOk enc P W ls c := by
  obtain ⟨fuel, x, h⟩ := h
  obtain ⟨a, len, cap, L, rfl, hl, hv, hc⟩ := open_slice ht hsz hpos h
  exact ⟨a, len, cap, L, rfl, hl, hv, fun c hm => ⟨(hc c hm).1, by
    obtain ⟨_, n, y, hy⟩ := hc c hm
    exact leafs_ok m e ls hls n c y hy⟩⟩

/-- An argument of a slice's type. -/
theorem open_arg_sl {r : Reach} {b0 : Nat} {t e : TypeId} {v : Value} {d : DataW H} {ps : List MemPlace} (ht : P.underlying t = some (.slice e)) (hval : Value.okWide P W r b0 t v) (hd : DataW.Trod enc P W 0 (fun _ => true) true t v d ps) : LeafOk enc P W (.sl t) v := by
  simp only [Value.okWide, ht] at hval
  obtain ⟨fuel, hf⟩ := hd
  have : v.cells.toList = [v] := by
    cases v <;> first | rfl | (simp [Cell.okWide, Cell.ok, ht] at hval)
  rw [this] at hf
  exact ⟨fuel, _, hf⟩

end
end Fb

/-
  '==' on structs of numbers, for every program.
-/
namespace Fb
open Go

def intFields (P : Program) : List Field → Nat → Bool
  | [], _ => true
  | f :: fs, off => !(f.name == "_") && f.offset == off && (match P.underlying f.type with | some (.int _) => true | _ => false) && intFields P fs (off + 1)
def intsT (P : Program) (t n : Nat) : Bool :=
  (match P.underlying t with | some (.struct fs) => fs.toList.length == n && intFields P fs.toList 0 | _ => false) && !P.stoodInHeld t && !P.eqGuardType P.depth t

section
variable {P : Program}
/-- Cell for cell: numbers of one kind. -/
def IntsAlike : List Value → List Value → Prop
  | [], [] => True
  | .int k _ :: cs, .int j _ :: ds => k = j ∧ IntsAlike cs ds
  | _, _ => False

theorem run_eqFields_ints (d : Nat) (w : World) (xs ys : Array Value) : ∀ (fs : List Field) (off : Nat) (cs ds : List Value), intFields P fs off = true → xs.toList.drop off = cs → ys.toList.drop off = ds → cs.length = fs.length → IntsAlike cs ds →
    ∃ b, (Op.eqFields (d + 1) xs ys fs).run P w = .ok b w ∧ (b = true ↔ cs = ds)
  | [], off, cs, ds, _, _, _, hl, hk => by
    have : cs = [] := by simpa using hl
    subst this
    cases ds with
    | nil => exact ⟨true, rfl, by simp⟩
    | cons v ds => exact hk.elim
  | f :: fs, off, cs, ds, hi, hx, hy, hl, hk => by
    simp only [intFields, Bool.and_eq_true, Bool.not_eq_true', beq_eq_false_iff_ne, beq_iff_eq] at hi
    obtain ⟨⟨⟨h1, h2⟩, h3⟩, h4⟩ := hi
    cases cs with
    | nil => simp at hl
    | cons c cs =>
      cases ds with
      | nil => cases c <;> exact hk.elim
      | cons e ds =>
        cases c with
        | int k a =>
          cases e with
          | int j b =>
            obtain ⟨rfl, hk⟩ := hk
            have hx0 : xs[off]? = some (.int k a) := by
              have := congrArg (·[0]?) hx
              simpa using this
            have hy0 : ys[off]? = some (.int k b) := by
              have := congrArg (·[0]?) hy
              simpa using this
            have hx1 : xs.toList.drop (off + 1) = cs := by
              rw [← List.drop_drop, hx]; rfl
            have hy1 : ys.toList.drop (off + 1) = ds := by
              rw [← List.drop_drop, hy]; rfl
            obtain ⟨r, hr, hiff⟩ := run_eqFields_ints d w xs ys fs (off + 1) cs ds h4 hx1 hy1 (by simpa using hl) hk
            split at h3
            · rename_i k' hu
              have hp : ∀ (zs : Array Value) (z : Int), zs[off]? = some (.int k z) → (part f.type zs f.offset).run P w = .ok (.int k z) w := fun zs z hz => by
                rw [h2]
                simp [part, isAgg, run_underlying hu, hz]
              simp only [Op.eqFields]
              rw [if_pos h1]
              rw [Sem.run_bind, hp xs a hx0, Result.andThen_ok, Sem.run_bind, hp ys b hy0, Result.andThen_ok, Sem.run_bind, run_equalIn_int w d f.type k k' a b hu, Result.andThen_ok]
              by_cases hab : a = b
              · subst hab
                refine ⟨r, ?_, ?_⟩
                · simpa using hr
                · rw [hiff]; simp
              · refine ⟨false, ?_, ?_⟩
                · simp [hab]
                · simp [hab]
            · cases h3
          | _ => exact hk.elim
        | _ => exact hk.elim
theorem run_eqn {n t : Nat} (x y : Operand) {cs ds : List Value} (w : World) (hi : intsT P t n = true) (hl : cs.length = n) (hk : IntsAlike cs ds) :
    (∃ b, (G.sem (.eq .eql t x y) [.agg ⟨cs⟩, .agg ⟨ds⟩]).run P w = .ok (.bool b) w ∧ (b = true ↔ cs = ds)) ∧ (∃ b, (G.sem (.eq .neq t x y) [.agg ⟨cs⟩, .agg ⟨ds⟩]).run P w = .ok (.bool b) w ∧ (b = true ↔ cs ≠ ds)) := by
  unfold intsT at hi
  simp only [Bool.and_eq_true, Bool.not_eq_true'] at hi
  obtain ⟨⟨h1, h2⟩, h3⟩ := hi
  split at h1
  · rename_i fs hu
    simp only [Bool.and_eq_true, beq_iff_eq] at h1
    have hfo : P.fieldsOf t = fs := by unfold Program.fieldsOf; rw [hu]
    obtain ⟨b, hb, hiff⟩ := run_eqFields_ints (P := P) 9998 w ⟨cs⟩ ⟨ds⟩ fs.toList 0 cs ds h1.2 rfl rfl (by omega) hk
    have hq : (Op.equalIn 10000 t (.agg ⟨cs⟩) (.agg ⟨ds⟩)).run P w = .ok b w := by
      rw [run_equalIn_agg w 9999 t _ _ (by rw [hfo]; exact hu) h2, hfo]
      exact hb
    constructor
    · refine ⟨b, ?_, hiff⟩
      change (do eqGuard .eql t x y _ _; binOp .eql t _ _ : Sem Value).run P w = _
      rw [Sem.run_bind, run_eqGuard_agg w .eql t x y _ _ h3, Result.andThen_ok, run_eql_struct, hq, Result.andThen_ok]
    · refine ⟨!b, ?_, by cases b <;> simp at hiff ⊢ <;> exact hiff⟩
      change (do eqGuard .neq t x y _ _; binOp .neq t _ _ : Sem Value).run P w = _
      rw [Sem.run_bind, run_eqGuard_agg w .neq t x y _ _ h3, Result.andThen_ok, run_neq_struct, hq, Result.andThen_ok]
  · cases h1
/-- Structs of numbers are compared. -/
theorem r_eqs {n t : Nat} {x y : Operand} {cs ds : List Value} {C : World → Prop} {K : Value → Prop} (hi : intsT P t n = true) (hl : cs.length = n) (hk : IntsAlike cs ds) (k : ∀ b, (b = true ↔ cs = ds) → K (.bool b)) : Get P (G.sem (.eq .eql t x y) [.agg ⟨cs⟩, .agg ⟨ds⟩]) C K := by
  by_cases h : cs = ds
  · refine r_get (v := .bool true) (fun w _ => ?_) (k true (by simp [h]))
    obtain ⟨⟨b, hb, hiff⟩, _⟩ := run_eqn x y w hi hl hk
    rw [hb, hiff.2 h]
  · refine r_get (v := .bool false) (fun w _ => ?_) (k false (by simp [h]))
    obtain ⟨⟨b, hb, hiff⟩, _⟩ := run_eqn x y w hi hl hk
    cases b with
    | false => exact hb
    | true => exact absurd (hiff.1 rfl) h
theorem r_nes {n t : Nat} {x y : Operand} {cs ds : List Value} {C : World → Prop} {K : Value → Prop} (hi : intsT P t n = true) (hl : cs.length = n) (hk : IntsAlike cs ds) (k : ∀ b, (b = true ↔ cs ≠ ds) → K (.bool b)) : Get P (G.sem (.eq .neq t x y) [.agg ⟨cs⟩, .agg ⟨ds⟩]) C K := by
  by_cases h : cs = ds
  · refine r_get (v := .bool false) (fun w _ => ?_) (k false (by simp [h]))
    obtain ⟨_, b, hb, hiff⟩ := run_eqn x y w hi hl hk
    cases b with
    | false => exact hb
    | true => exact absurd h (hiff.1 rfl)
  · refine r_get (v := .bool true) (fun w _ => ?_) (k true (by simp [h]))
    obtain ⟨_, b, hb, hiff⟩ := run_eqn x y w hi hl hk
    rw [hb, hiff.2 h]
end
end Fb

/-
  Rules for make, for every program.
-/
namespace Fb
open Go

theorem flat_rep (zs : List Value) (size : Nat) (hs : zs.length = size) (hpos : 0 < size) : ∀ (c i : Nat), i < c * size → (List.replicate c zs).flatten[i]? = zs[i % size]?
  | 0, i, h => by omega
  | c + 1, i, h => by
    rw [List.replicate_succ, List.flatten_cons]
    by_cases hi : i < size
    · rw [List.getElem?_append_left (by omega), Nat.mod_eq_of_lt hi]
    · rw [List.getElem?_append_right (by omega), hs, flat_rep zs size hs hpos c (i - size) (by rw [Nat.add_mul] at h; omega)]
      congr 1
      rw [← Nat.mod_eq_sub_mod (by omega)]
theorem flat_rep_len (zs : List Value) : ∀ (c : Nat), (List.replicate c zs).flatten.length = c * zs.length
  | 0 => by simp
  | c + 1 => by rw [List.replicate_succ, List.flatten_cons, List.length_append, flat_rep_len zs c, Nat.add_mul]; omega
theorem made_list (z : Array Value) (size c : Nat) (hs : z.size = size) (hpos : 0 < size) : (madeCells z (c * size)).toList = (List.replicate c z.toList).flatten := by
  apply List.ext_getElem?
  intro i
  by_cases hi : i < c * size
  · rw [flat_rep z.toList size (by simpa using hs) hpos c i hi]
    have hm : i % z.size < z.size := Nat.mod_lt _ (by omega)
    simp [madeCells, ← hs, hm]
    exact ⟨i, by rw [List.getElem?_range (by rw [hs]; exact hi)], getElem!_pos z _ hm⟩
  · rw [List.getElem?_eq_none (by simp [madeCells]; omega), List.getElem?_eq_none (by rw [flat_rep_len]; simp; rw [hs]; omega)]

/-- A slice type, its element's type and that one's zero value. -/
def MakeE (P : Program) (t e size bytes : Nat) (zs : List Value) : Prop :=
  P.underlying t = some (.slice e) ∧ ∃ i z, P.info? e = some i ∧ i.zero = some z ∧ i.size = size ∧ i.bytes = bytes ∧ z.cells = ⟨zs⟩ ∧ zs.length = size ∧ 0 < size
def makeZ (P : Program) (t e size bytes : Nat) : Option (List Value) :=
  match P.underlying t, P.info? e with
  | some (.slice e'), some i => match i.zero with
    | some z => match z.cells with
      | ⟨zs⟩ => bif Nat.beq e e' && Nat.beq i.size size && Nat.beq i.bytes bytes && Nat.beq zs.length size && Nat.blt 0 size then some zs else none
    | none => none
  | _, _ => none
theorem MakeE.of {P : Program} {t e size bytes : Nat} {zs : List Value} (h : makeZ P t e size bytes = some zs) : MakeE P t e size bytes zs := by
  unfold makeZ at h
  split at h
  · rename_i e' i h1 h2
    split at h
    · rename_i z hz
      split at h
      rename_i ys hc
      cases hb : (Nat.beq e e' && Nat.beq i.size size && Nat.beq i.bytes bytes && Nat.beq ys.length size && Nat.blt 0 size) with
      | false => rw [hb] at h; cases h
      | true =>
        rw [hb] at h
        cases h
        simp only [Bool.and_eq_true] at hb
        obtain ⟨⟨⟨⟨a, b⟩, c⟩, d⟩, f⟩ := hb
        have a := Nat.eq_of_beq_eq_true a
        subst a
        exact ⟨h1, i, z, h2, hz, Nat.eq_of_beq_eq_true b, Nat.eq_of_beq_eq_true c, hc, Nat.eq_of_beq_eq_true d, by simpa using f⟩
    · cases h
  · cases h

section
variable {P : Program} {w : World}
theorem r_make {t e size bytes : Nat} {zs : List Value} {kl kc : IntKind} {l c : Int} {K : Value → World → Prop} (hm : MakeE P t e size bytes zs) (h : 0 ≤ l ∧ l ≤ c ∧ c * bytes ≤ 281474976710656 ∧ c ≤ 9223372036854775807)
    (k : ∀ b w', Ext w w' → w.heap.size ≤ b → w'.heap.size = w.heap.size + 1 → Blk w' b e (List.replicate c.toNat zs).flatten → K (.slice (some ⟨b, 0, none⟩) l.toNat c.toNat) w') : Run P (G.sem (.makeSlice t) [.int kl l, .int kc c]) w K := by
  obtain ⟨ht, i, z, hi, hz, hs, hb, hc, hzl, hpos⟩ := hm
  have hr := run_make (P := P) w t e i z ht hi hz kl kc l c h.1 h.2.1 (by rw [hb, Int.mul_comm]; exact h.2.2.1) h.2.2.2
  refine r_run hr (k _ _ (Ext.alloc w _) (Nat.le_refl _) (by simp) ?_)
  have hb := heap_alloc_new w (.cells (madeCells z.cells (c.toNat * i.size)) e)
  unfold Blk
  rw [hb, hs, hc]
  have := made_list ⟨zs⟩ size c.toNat (by simpa using hzl) hpos
  congr 2
  rw [← this]
end
end Fb

/-
  Rules for copy, and cells in segments, for every program.
-/
namespace Fb
open Go

/-! ### Cells in segments -/
def seg (C : List Value) (size p : Nat) : List Value := (C.drop (p * size)).take size
def putSeg (C : List Value) (size p : Nat) (e : List Value) : List Value := C.take (p * size) ++ e ++ C.drop (p * size + size)

theorem putSeg_length {C : List Value} {size p len : Nat} {e : List Value} (hC : C.length = len * size) (hp : p < len) (he : e.length = size) : (putSeg C size p e).length = len * size := by
  have : p * size + size ≤ len * size := by rw [← Nat.succ_mul]; exact Nat.mul_le_mul_right _ hp
  simp only [putSeg, List.length_append, List.length_take, List.length_drop, he, hC]
  omega
theorem seg_put_same {C : List Value} {size p len : Nat} {e : List Value} (hC : C.length = len * size) (hp : p < len) (he : e.length = size) : seg (putSeg C size p e) size p = e := by
  have : p * size + size ≤ len * size := by rw [← Nat.succ_mul]; exact Nat.mul_le_mul_right _ hp
  have hl : (C.take (p * size)).length = p * size := by rw [List.length_take, hC]; omega
  unfold seg putSeg
  rw [List.append_assoc, List.drop_append_of_le_length (by omega), List.drop_of_length_le (by omega), List.nil_append, List.take_append_of_le_length (by omega), List.take_of_length_le (by omega)]
theorem seg_getElem? (C : List Value) (size p i : Nat) (h : i < size) : (seg C size p)[i]? = C[p * size + i]? := by
  unfold seg
  rw [List.getElem?_take_of_lt h, List.getElem?_drop]
theorem seg_length {C : List Value} {size p len : Nat} (hC : C.length = len * size) (hp : p < len) : (seg C size p).length = size := by
  have : p * size + size ≤ len * size := by rw [← Nat.succ_mul]; exact Nat.mul_le_mul_right _ hp
  unfold seg
  rw [List.length_take, List.length_drop, hC]
  omega
theorem seg_ext {C D : List Value} {size p q len m : Nat} (hC : C.length = len * size) (hD : D.length = m * size) (hp : p < len) (hq : q < m) (h : ∀ i, i < size → C[p * size + i]? = D[q * size + i]?) : seg C size p = seg D size q := by
  apply List.ext_getElem?
  intro i
  by_cases hi : i < size
  · rw [seg_getElem? _ _ _ _ hi, seg_getElem? _ _ _ _ hi, h i hi]
  · rw [List.getElem?_eq_none (by rw [seg_length hC hp]; omega), List.getElem?_eq_none (by rw [seg_length hD hq]; omega)]
theorem seg_put_ne {C : List Value} {size p q len : Nat} {e : List Value} (hC : C.length = len * size) (hp : p < len) (hq : q < len) (he : e.length = size) (hne : q ≠ p) : seg (putSeg C size p e) size q = seg C size q := by
  have h1 : p * size + size ≤ len * size := by rw [← Nat.succ_mul]; exact Nat.mul_le_mul_right _ hp
  have hl : (C.take (p * size)).length = p * size := by rw [List.length_take, hC]; omega
  refine seg_ext (putSeg_length hC hp he) hC hq hq fun i hi => ?_
  unfold putSeg
  rcases Nat.lt_or_gt_of_ne hne with h | h
  · have : q * size + size ≤ p * size := by rw [← Nat.succ_mul]; exact Nat.mul_le_mul_right _ h
    rw [List.append_assoc, List.getElem?_append_left (by omega), List.getElem?_take_of_lt (by omega)]
  · have : p * size + size ≤ q * size := by rw [← Nat.succ_mul]; exact Nat.mul_le_mul_right _ h
    rw [List.getElem?_append_right (by rw [List.length_append, hl, he]; omega), List.getElem?_drop, List.length_append, hl, he]
    congr 1
    omega
theorem set_put {C R : List Value} {p : Nat} {v : Value} (hp : p < C.length) : (C ++ R).set p v = putSeg C 1 p [v] ++ R := by
  rw [List.set_append_left _ _ hp]
  unfold putSeg
  rw [Nat.mul_one, List.set_eq_take_append_cons_drop, if_pos hp]
  simp
theorem setL_put : ∀ (C : List Value) (o : Nat) (e R : List Value), o + e.length ≤ C.length → setL (C ++ R) o e = C.take o ++ e ++ C.drop (o + e.length) ++ R
  | C, o, [], R, _ => by
    have : setL (C ++ R) o [] = C ++ R := by cases (C ++ R) <;> rfl
    rw [this]
    simp
  | [], o, v :: e, R, h => by simp at h
  | c :: C, 0, v :: e, R, h => by
    have ih := setL_put C 0 e R (by simpa using h)
    simp only [List.cons_append, setL, ih]
    simp
  | c :: C, o + 1, v :: e, R, h => by
    have ih := setL_put C o (v :: e) R (by simp at h ⊢; omega)
    simp only [List.cons_append, setL]
    rw [ih]
    simp only [List.take_succ_cons, List.cons_append]
    congr 1
    rw [show o + 1 + (v :: e).length = (o + (v :: e).length) + 1 by omega, List.drop_succ_cons]

section
variable {P : Program} {w : World}
/-- A slice type's element has so many cells. -/
def SlSize (P : Program) (t size : Nat) : Prop := ∃ e, P.underlying t = some (.slice e) ∧ (P.info? e).map (·.size) = some size

def slSizeB (P : Program) (t size : Nat) : Bool :=
  match P.underlying t with
  | some (.slice e) => match P.info? e with
    | some i => Nat.beq i.size size
    | none => false
  | _ => false
theorem SlSize.of {P : Program} {t size : Nat} (h : slSizeB P t size = true) : SlSize P t size := by
  unfold slSizeB at h
  split at h
  · rename_i e h1
    split at h
    · rename_i i h2
      exact ⟨e, h1, by rw [h2]; simpa using h⟩
    · cases h
  · cases h

theorem run_copy_cells' (dT sT ty size : Nat) (g o dLen dCap : Nat) (a : Addr) (sLen sCap : Nat) (cur : List Value) (t : TypeId) (cs : List Value) (hs : SlSize P dT size)
    (hg : Blk w g t cur) (hn : cs.length = Nat.min sLen dLen * size)
    (hsrc : ∀ j v, cs[j]? = some v → w.cell? (a.add j) = some v) (hfit : o + cs.length ≤ cur.length) (h1 : ∀ v ∈ cs, v.oneCell' = true) :
    (Builtin.copy_ #[dT, sT] ty #[.slice (some ⟨g, o, none⟩) dLen dCap, .slice (some a) sLen sCap]).run P w =
      .ok (goInt (Nat.min sLen dLen : Nat)) (w.setRow g (cur.take o ++ cs ++ cur.drop (o + cs.length)).toArray) := by
  obtain ⟨elem, hu, hs⟩ := hs
  have hl := run_loadCells_list (P := P) w a cs hsrc
  have hst := run_storeCells_at P g o t cs 0 ⟨cur⟩ w hg (by simpa using hfit) h1
  simp only [Nat.add_zero] at hst
  cases hq : P.info? elem with
  | none => simp [hq] at hs
  | some i =>
    have hi : i.size = size := by simpa [hq] using hs
    simp [Builtin.copy_, run_underlying hu, Builtin.lenOf, Builtin.firstCells, Go.sizeOf, typeInfo, hq, hi, ← hn, hl, hst]

/-- copy into what is known whole. -/
theorem r_copy {dT sT ty size : Nat} {g o dLen dCap : Nat} {a : Option Addr} {sLen sCap : Nat} {cur cs : List Value} {t : TypeId} {K : Value → World → Prop} (hs : SlSize P dT size) (hg : Blk w g t cur) (hv : View w a sLen sCap size cs)
    (hfit : o + Nat.min sLen dLen * size ≤ cur.length) (h1 : ∀ v ∈ cs, v.oneCell' = true) (hsz : 0 < size)
    (k : ∀ w', Chg (· = g) w w' → w'.heap.size = w.heap.size → Blk w' g t (cur.take o ++ cs.take (Nat.min sLen dLen * size) ++ cur.drop (o + Nat.min sLen dLen * size)) → K (.int .i64 (Nat.min sLen dLen : Nat)) w') :
    Run P (G.sem (.bi .copy ⟨[dT, sT]⟩ ty) [.slice (some ⟨g, o, none⟩) dLen dCap, .slice a sLen sCap]) w K := by
  have hlen : (cs.take (Nat.min sLen dLen * size)).length = Nat.min sLen dLen * size := by
    rw [List.length_take, hv.length]
    exact Nat.min_eq_left (Nat.mul_le_mul_right _ (Nat.min_le_left _ _))
  rcases Nat.eq_zero_or_pos (Nat.min sLen dLen) with h0 | hpos
  · -- nothing goes over
    have hk := k w (Chg.refl _ w) rfl (by rw [h0]; simpa using hg)
    rw [h0] at hk
    refine r_run ?_ hk
    obtain ⟨elem, hu, hs⟩ := hs
    change (Builtin.copy_ #[dT, sT] ty #[.slice (some ⟨g, o, none⟩) dLen dCap, .slice a sLen sCap]).run P w = _
    cases hq : P.info? elem with
    | none => simp [hq] at hs
    | some i =>
      have h0' : min sLen dLen = 0 := h0
      cases a <;> simp [Builtin.copy_, run_underlying hu, Builtin.lenOf, Builtin.firstCells, Go.sizeOf, typeInfo, hq, storeCells, loadCells, loadCellsFrom, h0', goInt]
  · have hp := hv.plain (by rw [hv.length]; exact Nat.mul_pos (Nat.lt_of_lt_of_le hpos (Nat.min_le_left _ _)) hsz)
    unfold plainA at hp
    generalize hbk : blk a = b at hp
    generalize hof : ofs a = q at hp
    subst hp
    have hr := run_copy_cells' (w := w) dT sT ty size g o dLen dCap ⟨b, q, none⟩ sLen sCap cur t (cs.take (Nat.min sLen dLen * size)) hs hg hlen (fun j v hj => by
      rw [Addr.add_plain]
      refine hv.cell j v ?_
      rw [List.getElem?_take] at hj
      split at hj
      · exact hj
      · cases hj) (by rw [hlen]; exact hfit) (fun v hv => h1 v (List.mem_of_mem_take hv))
    rw [hlen] at hr
    refine r_run hr (k _ ⟨rfl, rfl, rfl, by simp [World.setRow], fun i hi hne => setRow_other w g i _ hne⟩ (by simp [World.setRow]) ?_)
    have := setRow_heap w g ⟨cur⟩ (cur.take o ++ cs.take (Nat.min sLen dLen * size) ++ cur.drop (o + Nat.min sLen dLen * size)).toArray t _ hg
    unfold Blk
    rw [this]
end
end Fb

/-
  Writing into a row of one's own.
-/
namespace Fb
open Go
theorem own_slice {w : World} {base : Nat} {e : TypeId} {a : Option Addr} {n n' c : Nat} {xs : List Value} (h : w.ownsRow base e 1 (.slice a n' c) n xs) (hn : 0 < n) :
    ∃ g cur, a = some ⟨g, 0, none⟩ ∧ n' = n ∧ base ≤ g ∧ Blk w g e cur ∧ n ≤ c ∧ c ≤ maxLen ∧ cur.length = c ∧ cur.take n = xs := by
  rcases h.2 with ⟨_, h0⟩ | ⟨g, cap, ⟨cur⟩, hv, hb, hg, hc, hm, hs, ht⟩
  · omega
  · cases hv
    exact ⟨g, cur, rfl, rfl, hb, hg, hc, hm, by simpa using hs, by simpa using ht⟩
theorem own_set {w' : World} {base g : Nat} {e : TypeId} {n c : Nat} {cur xs : List Value} (hb : base ≤ g) (hcur : cur.length = c) (hc : n ≤ c) (hm : c ≤ maxLen) (ht : cur.take n = xs) (i : Nat) (v : Value) (h : Blk w' g e (cur.set i v)) :
    w'.ownsRow base e 1 (.slice (some ⟨g, 0, none⟩) n c) n (xs.set i v) := by
  have hx : xs.length = n := by rw [← ht, List.length_take]; omega
  refine ⟨by rw [List.length_set]; omega, .inr ⟨g, c, ⟨cur.set i v⟩, rfl, hb, h, hc, hm, by simp; omega, ?_⟩⟩
  dsimp only
  rw [Nat.mul_one, ← ht]
  rw [List.take_set]
end Fb
