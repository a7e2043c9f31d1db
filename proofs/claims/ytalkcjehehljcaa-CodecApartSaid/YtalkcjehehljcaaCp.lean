/-
  The bvs of numbers, lists, events and replies: plain Lean, no program in sight.
-/
import Derived.Test.YtalkcjehehljcaaVr
import Derived.Laws.Strings
namespace Fb.Codec
open Go Fb

/-- The number from 0 on that stands for one. -/
def zig (n : Int) : Nat := if 0 ≤ n then (2 * n).toNat else (-2 * n - 1).toNat
def unzig (u : Nat) : Int := if u % 2 = 0 then (u / 2 : Nat) else -((u / 2 : Nat) : Int) - 1

def putF : Nat → Nat → List UInt8
  | 0, u => [UInt8.ofNat u]
  | f + 1, u => if u < 128 then [UInt8.ofNat u] else UInt8.ofNat (u % 128 + 128) :: putF f (u / 128)
def put (u : Nat) : List UInt8 := putF 9 u
def num (n : Int) : List UInt8 := put (zig n)

/-- Bytes as values. -/
def bvs (l : List UInt8) : List Value := l.map fun b => .int .u8 (b.toNat : Int)
theorem bvs_length (l : List UInt8) : (bvs l).length = l.length := by simp [bvs]
theorem bvs_append (l k : List UInt8) : bvs (l ++ k) = bvs l ++ bvs k := by simp [bvs]

def inI64 (n : Int) : Prop := -9223372036854775808 ≤ n ∧ n ≤ 9223372036854775807

theorem zig_lt {n : Int} (h : inI64 n) : zig n < 18446744073709551616 := by
  unfold zig inI64 at *
  split <;> omega
theorem unzig_zig (n : Int) : unzig (zig n) = n := by
  unfold zig unzig
  split <;> split <;> omega

theorem u64_wrap (n : Int) : IntKind.u64.wrap n = n % 18446744073709551616 := IntKind.wrap_u64 n

theorem ofInt_toNat (n : Int) : ((BitVec.ofInt 64 n).toNat : Int) = n % 18446744073709551616 := by
  rw [BitVec.toNat_ofInt]
  omega

/-- The code's way to it: 'uint64(n)<<1 ^ uint64(n>>63)'. -/
theorem zig_code {n : Int} (h : inI64 n) : bitsOf .xor .u64 (IntKind.u64.wrap (IntKind.u64.wrap n * 2 ^ 1)) (IntKind.u64.wrap (n / 2 ^ 63)) = (zig n : Int) := by
  unfold inI64 at h
  have hz := zig_lt h
  simp only [u64_wrap]
  unfold bitsOf
  rw [u64_wrap]
  change (((BitVec.ofInt 64 _ ^^^ BitVec.ofInt 64 _ : BitVec 64).toNat : Nat) : Int) % 18446744073709551616 = _
  rcases Int.lt_or_le n 0 with hn | hn
  · have e : n / 2 ^ 63 = -1 := by omega
    rw [e]
    have e2 : BitVec.ofInt 64 ((-1 : Int) % 18446744073709551616) = BitVec.allOnes 64 := by decide
    rw [e2, BitVec.xor_allOnes, BitVec.toNat_not]
    have e3 := ofInt_toNat (n % 18446744073709551616 * 2 ^ 1 % 18446744073709551616)
    unfold zig
    rw [if_neg (by omega)]
    omega
  · have e : n / 2 ^ 63 = 0 := by omega
    rw [e]
    have e2 : BitVec.ofInt 64 ((0 : Int) % 18446744073709551616) = 0#64 := by decide
    rw [e2, BitVec.xor_zero]
    have e3 := ofInt_toNat (n % 18446744073709551616 * 2 ^ 1 % 18446744073709551616)
    unfold zig
    rw [if_pos hn]
    omega

theorem or_more : ∀ x : Nat, x < 256 → bitsOf .or .u8 (x : Int) 128 = ((x % 128 + 128 : Nat) : Int) := by decide +kernel
theorem and_low : ∀ x : Nat, x < 256 → bitsOf .and .u8 (x : Int) 127 = ((x % 128 : Nat) : Int) := by decide +kernel

theorem putF_lt {f u : Nat} (h : u < 128) : putF f u = [UInt8.ofNat u] := by
  cases f <;> simp [putF, h]
theorem putF_ge {f u : Nat} (h : ¬ u < 128) (hf : u < 128 ^ (f + 1)) : ∃ g, f = g + 1 ∧ u / 128 < 128 ^ (g + 1) ∧ putF f u = UInt8.ofNat (u % 128 + 128) :: putF g (u / 128) := by
  cases f with
  | zero => omega
  | succ g => exact ⟨g, rfl, by rw [Nat.pow_succ] at hf; omega, by simp [putF, h]⟩


theorem ofNat64 (n : Nat) (h : n < 18446744073709551616) : (BitVec.ofInt 64 (n : Int)).toNat = n := by
  have := ofInt_toNat (n : Int)
  omega

theorem or_add {u x k : Nat} (hu : u < 2 ^ k) (h : x * 2 ^ k + u < 18446744073709551616) : bitsOf .or .u64 (u : Int) ((x * 2 ^ k : Nat) : Int) = ((u + x * 2 ^ k : Nat) : Int) := by
  unfold bitsOf
  rw [u64_wrap]
  change (((BitVec.ofInt 64 _ ||| BitVec.ofInt 64 _ : BitVec 64).toNat : Nat) : Int) % 18446744073709551616 = _
  rw [BitVec.toNat_or, ofNat64 u (by omega), ofNat64 _ (by omega), Nat.or_comm, Nat.mul_comm x, ← Nat.two_pow_add_eq_or_of_lt hu]
  have e : 2 ^ k * x = x * 2 ^ k := Nat.mul_comm _ _
  omega

theorem and_one {u : Nat} (h : u < 18446744073709551616) : bitsOf .and .u64 (u : Int) 1 = ((u % 2 : Nat) : Int) := by
  unfold bitsOf
  rw [u64_wrap]
  change (((BitVec.ofInt 64 _ &&& BitVec.ofInt 64 _ : BitVec 64).toNat : Nat) : Int) % 18446744073709551616 = _
  rw [BitVec.toNat_and, ofNat64 u h, show (BitVec.ofInt 64 1).toNat = 1 from by decide, Nat.and_one_is_mod]
  omega

theorem unzig_code {u : Nat} (h : u < 18446744073709551616) : bitsOf .xor .i64 ((u / 2 : Nat) : Int) (-((u % 2 : Nat) : Int)) = unzig u := by
  have hx : ((BitVec.ofInt 64 ((u / 2 : Nat) : Int) ^^^ BitVec.ofInt 64 (-((u % 2 : Nat) : Int)) : BitVec 64)).toNat = if u % 2 = 0 then u / 2 else 18446744073709551615 - u / 2 := by
    split
    · rename_i he
      rw [he, show BitVec.ofInt 64 (-((0 : Nat) : Int)) = 0#64 from by decide, BitVec.xor_zero, ofNat64 _ (by omega)]
    · rename_i he
      have he : u % 2 = 1 := by omega
      rw [he, show BitVec.ofInt 64 (-((1 : Nat) : Int)) = BitVec.allOnes 64 from by decide, BitVec.xor_allOnes, BitVec.toNat_not, ofNat64 _ (by omega)]
  unfold bitsOf
  change IntKind.i64.wrap (((BitVec.ofInt 64 ((u / 2 : Nat) : Int) ^^^ BitVec.ofInt 64 (-((u % 2 : Nat) : Int)) : BitVec 64).toNat : Nat) : Int) = _
  rw [hx, IntKind.wrap_i64]
  unfold unzig
  split <;> omega

/-- What some bvs begin with: the rest, how many were read, what they made. -/
def getL : List UInt8 → Nat → Nat → Option (Nat × Nat)
  | [], _, _ => none
  | b :: l, i, u =>
    if 10 ≤ i then none
    else if i = 9 ∧ 1 < b.toNat % 128 then none
    else if 128 ≤ b.toNat then getL l (i + 1) (u + b.toNat % 128 * 2 ^ (7 * i))
    else if b.toNat % 128 = 0 ∧ 0 < i then none
    else some (u + b.toNat % 128 * 2 ^ (7 * i), i + 1)
theorem getL_cons (b : UInt8) (l : List UInt8) (i u : Nat) : getL (b :: l) i u = if 10 ≤ i then none
    else if i = 9 ∧ 1 < b.toNat % 128 then none
    else if 128 ≤ b.toNat then getL l (i + 1) (u + b.toNat % 128 * 2 ^ (7 * i))
    else if b.toNat % 128 = 0 ∧ 0 < i then none
    else some (u + b.toNat % 128 * 2 ^ (7 * i), i + 1) := rfl
theorem pow_small {i x u : Nat} (hi : i < 10) (hx : x < 128) (hu : u < 2 ^ (7 * i)) (hn : ¬ (i = 9 ∧ 1 < x)) : x * 2 ^ (7 * i) + u < 18446744073709551616 := by
  have hi' : i = 0 ∨ i = 1 ∨ i = 2 ∨ i = 3 ∨ i = 4 ∨ i = 5 ∨ i = 6 ∨ i = 7 ∨ i = 8 ∨ i = 9 := by omega
  rcases hi' with rfl | rfl | rfl | rfl | rfl | rfl | rfl | rfl | rfl | rfl <;> simp at * <;> omega
theorem pow_next {i x u : Nat} (hx : x < 128) (hu : u < 2 ^ (7 * i)) : u + x * 2 ^ (7 * i) < 2 ^ (7 * (i + 1)) := by
  rw [show 7 * (i + 1) = 7 * i + 7 by omega, Nat.pow_add]
  have : (x + 1) * 2 ^ (7 * i) ≤ 128 * 2 ^ (7 * i) := Nat.mul_le_mul_right _ (by omega)
  rw [Nat.add_mul] at this
  omega
def get (l : List UInt8) : Option (Int × Nat) := (getL l 0 0).map fun p => (unzig p.1, p.2)


theorem zig_unzig (u : Nat) : zig (unzig u) = u := by
  unfold zig unzig
  split <;> split <;> omega
theorem unzig_in {u : Nat} (h : u < 18446744073709551616) : inI64 (unzig u) := by
  unfold unzig inI64
  split <;> omega

theorem getL_sound : ∀ (l : List UInt8) (i u U k : Nat), getL l i u = some (U, k) →
    ∃ v, U = u + v * 2 ^ (7 * i) ∧ l.take (k - i) = putF (9 - i) v ∧ i < k ∧ k ≤ i + l.length ∧ i ≤ 9 ∧ v < 2 ^ (64 - 7 * i) ∧ (0 < i → 0 < v)
  | [], _, _, _, _, h => by cases h
  | b :: l, i, u, U, k, h => by
    have hb := b.toNat_lt
    rw [getL_cons] at h
    split at h
    · cases h
    · rename_i hi
      split at h
      · cases h
      · rename_i h9
        have hi' : i = 0 ∨ i = 1 ∨ i = 2 ∨ i = 3 ∨ i = 4 ∨ i = 5 ∨ i = 6 ∨ i = 7 ∨ i = 8 ∨ i = 9 := by omega
        split at h
        · rename_i hge
          obtain ⟨v, hU, htake, hk, hkl, hi9, hv, hv0⟩ := getL_sound l (i + 1) _ _ _ h
          have hv0 := hv0 (by omega)
          refine ⟨b.toNat % 128 + 128 * v, ?_, ?_, by omega, by simp; omega, by omega, ?_, fun _ => by omega⟩
          · rw [hU, show 7 * (i + 1) = 7 * i + 7 by omega, Nat.pow_add, Nat.add_mul, Nat.add_assoc]
            congr 2
            rw [Nat.mul_comm (2 ^ (7 * i)), ← Nat.mul_assoc, Nat.mul_comm v]
          · obtain ⟨j, hj⟩ : ∃ j, k - i = j + 1 := ⟨k - i - 1, by omega⟩
            obtain ⟨g, hg⟩ : ∃ g, 9 - i = g + 1 := ⟨8 - i, by omega⟩
            rw [hj, hg, List.take_succ_cons]
            rw [show k - (i + 1) = j by omega, show 9 - (i + 1) = g by omega] at htake
            rw [htake]
            simp only [putF]
            rw [if_neg (by omega), show (b.toNat % 128 + 128 * v) / 128 = v by omega, show (b.toNat % 128 + 128 * v) % 128 + 128 = b.toNat by omega]
            simp
          · rcases hi' with rfl | rfl | rfl | rfl | rfl | rfl | rfl | rfl | rfl | rfl <;> simp at * <;> omega
        · rename_i hlt
          split at h
          · cases h
          · rename_i h0
            cases h
            refine ⟨b.toNat % 128, rfl, ?_, by omega, by simp, by omega, ?_, fun _ => by omega⟩
            · rw [show i + 1 - i = 1 by omega, putF_lt (by omega), show b.toNat % 128 = b.toNat by omega]
              simp
            · rcases hi' with rfl | rfl | rfl | rfl | rfl | rfl | rfl | rfl | rfl | rfl <;> simp at * <;> omega

theorem getL_complete : ∀ (f i v u : Nat) (r : List UInt8), i + f = 9 → v < 2 ^ (64 - 7 * i) → (0 < i → 0 < v) →
    getL (putF f v ++ r) i u = some (u + v * 2 ^ (7 * i), i + (putF f v).length) := by
  intro f
  induction f with
  | zero =>
    intro i v u r hi hv h0
    have hi : i = 9 := by omega
    subst hi
    simp at hv
    have h0 := h0 (by omega)
    have : v = 1 := by omega
    subst this
    simp [putF, getL_cons]
  | succ f ih =>
    intro i v u r hi hv h0
    have hi' : i = 0 ∨ i = 1 ∨ i = 2 ∨ i = 3 ∨ i = 4 ∨ i = 5 ∨ i = 6 ∨ i = 7 ∨ i = 8 := by omega
    by_cases hlt : v < 128
    · rw [putF_lt hlt, List.singleton_append, getL_cons, UInt8.toNat_ofNat']
      have e : v % 2 ^ 8 = v := by omega
      rw [e, if_neg (by omega), if_neg (by omega), if_neg (by omega), if_neg (by omega), show v % 128 = v by omega]
      rfl
    · simp only [putF]
      rw [if_neg hlt, List.cons_append, getL_cons, UInt8.toNat_ofNat']
      have e : (v % 128 + 128) % 2 ^ 8 = v % 128 + 128 := by omega
      rw [e, if_neg (by omega), if_neg (by omega), if_pos (by omega), ih (i + 1) _ _ _ (by omega) _ (fun _ => by omega)]
      · rw [show (v % 128 + 128) % 128 = v % 128 by omega, show 7 * (i + 1) = 7 * i + 7 by omega, Nat.pow_add]
        have : v % 128 * 2 ^ (7 * i) + v / 128 * (2 ^ (7 * i) * 2 ^ 7) = v * 2 ^ (7 * i) := by
          rw [← Nat.mul_assoc, Nat.mul_comm (v / 128), Nat.mul_assoc, Nat.mul_comm (v % 128), ← Nat.mul_add, Nat.mul_comm v]
          congr 1
          omega
        simp only [List.length_cons]
        congr 2
        · omega
        · omega
      · rcases hi' with rfl | rfl | rfl | rfl | rfl | rfl | rfl | rfl | rfl <;> simp at * <;> omega

theorem get_num {x : Int} (h : inI64 x) (r : List UInt8) : get (num x ++ r) = some (x, (num x).length) := by
  have hz := zig_lt h
  unfold Codec.get num put
  rw [getL_complete 9 0 (zig x) 0 r rfl (by simpa using hz) (fun h => by omega)]
  simp [unzig_zig]
theorem get_some {l : List UInt8} {x : Int} {k : Nat} (h : get l = some (x, k)) : l.take k = num x ∧ k ≤ l.length ∧ inI64 x := by
  unfold Codec.get at h
  cases hg : getL l 0 0 with
  | none => rw [hg] at h; cases h
  | some p =>
    obtain ⟨U, k'⟩ := p
    rw [hg] at h
    simp only [Option.map_some, Option.some.injEq, Prod.mk.injEq] at h
    obtain ⟨rfl, rfl⟩ := h
    obtain ⟨v, hU, htake, _, hk, _, hv, _⟩ := getL_sound l 0 0 U k' hg
    simp at hU hv htake hk
    subst hU
    refine ⟨?_, hk, unzig_in (by omega)⟩
    rw [htake, num, zig_unzig]
    rfl

/-- What a number's bytes stand for, the last first. -/
def valM : List UInt8 → Nat
  | [] => 0
  | b :: r => (valM r * 128 + b.toNat % 128) % 18446744073709551616
theorem valM_lt : ∀ l, valM l < 18446744073709551616
  | [] => by simp [valM]
  | _ :: _ => by simp only [valM]; omega
theorem valM_putF : ∀ (f v : Nat), v < 128 ^ (f + 1) → v < 18446744073709551616 → valM (putF f v) = v
  | 0, v, h, hv => by
    simp only [putF, valM, UInt8.toNat_ofNat']
    omega
  | f + 1, v, h, hv => by
    simp only [putF]
    split
    · simp only [valM, UInt8.toNat_ofNat']
      omega
    · simp only [valM, UInt8.toNat_ofNat']
      rw [valM_putF f (v / 128) (by rw [Nat.pow_succ] at h; omega) (by omega)]
      omega
theorem putF_shape : ∀ (f v : Nat), v < 128 ^ (f + 1) → ∃ p b, putF f v = p ++ [b] ∧ b.toNat < 128 ∧ (∀ c ∈ p, 128 ≤ c.toNat) ∧ p.length ≤ f
  | 0, v, h => ⟨[], UInt8.ofNat v, rfl, by rw [UInt8.toNat_ofNat']; omega, by simp, by simp⟩
  | f + 1, v, h => by
    simp only [putF]
    split
    · exact ⟨[], UInt8.ofNat v, rfl, by rw [UInt8.toNat_ofNat']; omega, by simp, by simp⟩
    · obtain ⟨p, b, h1, h2, h3, h4⟩ := putF_shape f (v / 128) (by rw [Nat.pow_succ] at h; omega)
      refine ⟨UInt8.ofNat (v % 128 + 128) :: p, b, by rw [h1]; rfl, h2, ?_, by simp; omega⟩
      intro c hc
      rcases List.mem_cons.1 hc with rfl | hc
      · rw [UInt8.toNat_ofNat']; omega
      · exact h3 c hc
theorem num_shape {x : Int} (h : inI64 x) : ∃ p b, num x = p ++ [b] ∧ b.toNat < 128 ∧ (∀ c ∈ p, 128 ≤ c.toNat) ∧ p.length ≤ 9 :=
  putF_shape 9 (zig x) (by have := zig_lt h; omega)
theorem num_len {x : Int} (h : inI64 x) : 0 < (num x).length ∧ (num x).length ≤ 10 := by
  obtain ⟨p, b, h1, _, _, h4⟩ := num_shape h
  rw [h1]
  simp
  omega
theorem num_inj {x y : Int} (h : num x = num y) (hx : inI64 x) (hy : inI64 y) : x = y := by
  have h1 := get_num hx []
  have h2 := get_num hy []
  rw [h, h2] at h1
  cases h1
  rfl
theorem valM_num {x : Int} (h : inI64 x) : valM (num x) = zig x := valM_putF 9 (zig x) (by have := zig_lt h; omega) (zig_lt h)

/-- THE LAW OF THE DOCUMENT'S READING: at the first last byte of a number, what is read is right just if it is written so. -/
theorem get_iff {l : List UInt8} {n : Nat} {b : UInt8} (hb : l[n]? = some b) (hlt : b.toNat < 128) (hge : ∀ i c, i < n → l[i]? = some c → 128 ≤ c.toNat) :
    get l = if num (unzig (valM (l.take (n + 1)))) = l.take (n + 1) then some (unzig (valM (l.take (n + 1))), n + 1) else none := by
  have hlen : n < l.length := (List.getElem?_eq_some_iff.1 hb).1
  split
  · rename_i h
    have hin := unzig_in (valM_lt (l.take (n + 1)))
    have := get_num hin (l.drop (n + 1))
    rw [h, List.take_append_drop] at this
    rw [this]
    simp
    omega
  · rename_i h
    cases hg : get l with
    | none => rfl
    | some p =>
      exfalso
      obtain ⟨x, k⟩ := p
      obtain ⟨h1, h2, h3⟩ := get_some hg
      obtain ⟨p, c, hp, hc, hcs, hpl⟩ := num_shape h3
      have hk : k = p.length + 1 := by
        have e1 : (l.take k).length = (num x).length := by rw [h1]
        rw [hp] at e1
        simp at e1
        omega
      have hlast : l[p.length]? = some c := by
        have : (l.take k)[p.length]? = some c := by rw [h1, hp]; simp
        rw [List.getElem?_take_of_lt (by omega)] at this
        exact this
      have hpre : ∀ i, i < p.length → ∃ d, l[i]? = some d ∧ 128 ≤ d.toNat := fun i hi => by
        refine ⟨p[i], ?_, hcs _ (List.getElem_mem _)⟩
        have : (l.take k)[i]? = some p[i] := by rw [h1, hp, List.getElem?_append_left hi]; simp
        rw [List.getElem?_take_of_lt (by omega)] at this
        exact this
      have hnk : n = p.length := by
        rcases Nat.lt_trichotomy n p.length with h | h | h
        · obtain ⟨d, hd, hd2⟩ := hpre n h
          rw [hb] at hd
          cases hd
          omega
        · exact h
        · have := hge _ _ h hlast
          omega
      apply h
      rw [hnk, ← hk, h1, valM_num h3, unzig_zig]

/-! ### Texts -/
def bstr (l : List UInt8) : ByteArray := ⟨l.toArray⟩
theorem bstr_size (l : List UInt8) : (bstr l).size = l.length := by simp [bstr, ByteArray.size]
theorem bstr_app (l k : List UInt8) : bstr l ++ bstr k = bstr (l ++ k) := by
  apply ByteArray.ext
  simp [bstr, ByteArray.data_append]
theorem bstr_list (l : List UInt8) : (bstr l).toList = l := by
  rw [ByteArray.toList_eq]
  simp [bstr]
theorem bstr_cut (l : List UInt8) (i j : Nat) : (bstr l).extract i j = bstr ((l.drop i).take (j - i)) := by
  apply ByteArray.ext
  simp [bstr]
theorem bstr_get (l : List UInt8) (i : Nat) : (bstr l)[i]? = l[i]? := by
  rw [getElem?_def, getElem?_def]
  by_cases h : i < l.length
  · rw [dif_pos (by rw [bstr_size]; exact h), dif_pos h]
    rfl
  · rw [dif_neg (by rw [bstr_size]; exact h), dif_neg h]

end Fb.Codec
