/-
  Walks: the document's numbers.
-/
import Derived.Test.YtalkcjehehljcaaCw
import Derived.Laws.BytesArg
namespace Fb.Try
open Go Go.Proofs Fb Fb.Codec

theorem strOfNums_bvs (l : List UInt8) : strOfNums (l.map fun b => (b.toNat : Int)) = bstr l := by
  simp [strOfNums, bstr, Function.comp_def]
theorem conv_view {a : Option Addr} {len cap : Nat} {l : List UInt8} {w : World} (hv : View w a len cap 1 (bvs l)) :
    (G.sem (.conv 22 9) [.slice a len cap]).run Try.prog w = .ok (.string (bstr l)) w := by
  have hlen : l.length = len := by have := hv.length; simpa [bvs] using this
  change (convert 22 9 (.slice a len cap)).run Try.prog w = _
  cases a with
  | none =>
    rw [run_convert_bytes_nil w 22 5 (by kernel_rfl) (by kernel_rfl) len cap 9 (by kernel_rfl)]
    cases l with
    | nil => rfl
    | cons b r =>
      have := hv.plain (by simp [bvs])
      simp [plainA] at this
  | some ad =>
    cases l with
    | nil =>
      simp at hlen
      subst hlen
      rw [run_convert_bytes_string w 22 9 5 _ _ _ (by kernel_rfl) (by kernel_rfl) (by kernel_rfl), run_bytesToString w ad 0 cap [] (by rfl)]
      rfl
    | cons b r =>
      have hp := hv.plain (by simp [bvs])
      unfold plainA at hp
      have hc := hv.cell
      generalize blk (some ad) = x at hp hc
      generalize ofs (some ad) = y at hp hc
      cases hp
      rw [run_convert_bytes_arg w 22 5 (by kernel_rfl) (by kernel_rfl) x y len cap ((b :: r).map fun b => (b.toNat : Int)) (by simpa using hlen) (fun i hi => ?_) 9 (by kernel_rfl), strOfNums_bvs]
      refine hc i _ ?_
      have hi' : i < (b :: r).length := by omega
      rw [bvs, List.getElem?_map, List.getElem?_eq_getElem hi', List.getD_eq_getElem?_getD, List.getElem?_map, List.getElem?_eq_getElem hi']
      rfl

section
variable {w : World}
theorem r_conv {a : Option Addr} {len cap : Nat} {l : List UInt8} {K : Value → Prop} (hv : View w a len cap 1 (bvs l)) (k : K (.string (bstr l))) : Get Try.prog (G.sem (.conv 22 9) [.slice a len cap]) (fun w' => w' = w) K :=
  r_get (fun _ e => by rw [e]; exact conv_view hv) k
theorem r_convE {a : Option Addr} {len cap : Nat} {l : List UInt8} {K : Value → Prop} (hv : View w a len cap 1 (bvs l)) (k : K (.string (bstr l))) : Get Try.prog (G.sem (.conv 22 9) [.slice a len cap]) (Ext w) K :=
  r_get (fun _ e => conv_view (hv.ext e)) k
end

theorem unsigned_ok (z : Int) (w : World) (hz : inI64 z) :
    Cal Try.prog 28 ⟨[.int .i64 z]⟩ w fun v w' => w' = w ∧ v = .int .u64 (zig z : Int) := by
  have hz' := hz
  unfold inI64 at hz'
  refine go28 (by rfl) ?_
  by_cases h : 0 ≤ z
  all_goals
    (repeat ((conv => whnf); (first | with_reducible refine r_tt ?_ | with_reducible refine r_ff ?_ | with_reducible refine r_ntt ?_ | with_reducible refine r_nff ?_ | refine r_need (by omega) ?_ | refine r_i64 (by omega) ?_ | refine r_dect (by omega) ?_ | refine r_decf (by omega) ?_ | refine r_eqt (by omega) ?_ | refine r_eqf (by omega) ?_ | refine r_net (by omega) ?_ | refine r_nef (by omega) ?_ | refine r_u8 (by omega) ?_ | refine r_u64 (by omega) ?_ | refine r_i32 (by omega) ?_ | refine r_u32 (by omega) ?_ | refine r_rem (by omega) ?_ | refine r_quo (by omega) ?_ | refine r_ldb (by assumption) (by rfl) ?_ | refine r_ldbE (by assumption) (by rfl) ?_))); (conv => whnf)
    refine ⟨rfl, ?_⟩
    congr 1
    unfold zig
    split <;> omega

theorem signed_ok (u : Nat) (w : World) (hu : u < 18446744073709551616) :
    Cal Try.prog 27 ⟨[.int .u64 (u : Int)]⟩ w fun v w' => w' = w ∧ v = .int .i64 (unzig u) := by
  refine go27 (by rfl) ?_
  by_cases h : u % 2 = 0
  all_goals
    (repeat ((conv => whnf); (first | with_reducible refine r_tt ?_ | with_reducible refine r_ff ?_ | with_reducible refine r_ntt ?_ | with_reducible refine r_nff ?_ | refine r_need (by omega) ?_ | refine r_i64 (by omega) ?_ | refine r_dect (by omega) ?_ | refine r_decf (by omega) ?_ | refine r_eqt (by omega) ?_ | refine r_eqf (by omega) ?_ | refine r_net (by omega) ?_ | refine r_nef (by omega) ?_ | refine r_u8 (by omega) ?_ | refine r_u64 (by omega) ?_ | refine r_i32 (by omega) ?_ | refine r_u32 (by omega) ?_ | refine r_rem (by omega) ?_ | refine r_quo (by omega) ?_ | refine r_ldb (by assumption) (by rfl) ?_ | refine r_ldbE (by assumption) (by rfl) ?_))); (conv => whnf)
    refine ⟨rfl, ?_⟩
    congr 1
    unfold unzig
    split <;> omega

theorem Number_ok (z : Int) (w : World) (hz : inI64 z) :
    Cal Try.prog 14 ⟨[.int .i64 z]⟩ w fun v w' => Ext w w' ∧ v = .string (bstr (num z)) := by
  refine go14 (by rfl) ?_
  (repeat ((conv => whnf); (first | with_reducible refine r_tt ?_ | with_reducible refine r_ff ?_ | with_reducible refine r_ntt ?_ | with_reducible refine r_nff ?_ | refine r_need (by omega) ?_ | refine r_i64 (by omega) ?_ | refine r_dect (by omega) ?_ | refine r_decf (by omega) ?_ | refine r_eqt (by omega) ?_ | refine r_eqf (by omega) ?_ | refine r_net (by omega) ?_ | refine r_nef (by omega) ?_ | refine r_u8 (by omega) ?_ | refine r_u64 (by omega) ?_ | refine r_i32 (by omega) ?_ | refine r_u32 (by omega) ?_ | refine r_rem (by omega) ?_ | refine r_quo (by omega) ?_ | refine r_ldb (by assumption) (by rfl) ?_ | refine r_ldbE (by assumption) (by rfl) ?_))); (conv => whnf)
  refine r_cal (unsigned_ok z w hz) ?_
  rintro v w' ⟨rfl, rfl⟩
  have hlt := zig_lt hz
  generalize hu : zig z = u0 at hlt
  have hnum : num z = put u0 := by rw [num, hu]
  rw [hnum]
  (repeat ((conv => whnf); (first | with_reducible refine r_tt ?_ | with_reducible refine r_ff ?_ | with_reducible refine r_ntt ?_ | with_reducible refine r_nff ?_ | refine r_need (by omega) ?_ | refine r_i64 (by omega) ?_ | refine r_dect (by omega) ?_ | refine r_decf (by omega) ?_ | refine r_eqt (by omega) ?_ | refine r_eqf (by omega) ?_ | refine r_net (by omega) ?_ | refine r_nef (by omega) ?_ | refine r_u8 (by omega) ?_ | refine r_u64 (by omega) ?_ | refine r_i32 (by omega) ?_ | refine r_u32 (by omega) ?_ | refine r_rem (by omega) ?_ | refine r_quo (by omega) ?_ | refine r_ldb (by assumption) (by rfl) ?_ | refine r_ldbE (by assumption) (by rfl) ?_))); (conv => whnf)
  refine r_loop (σ := Nat × List UInt8) (fun s => [.int .u64 (s.1 : Int), .string (bstr s.2)]) (fun s w1 => Ext w' w1 ∧ s.1 ≤ u0 ∧ ∃ f, put u0 = s.2 ++ putF f s.1 ∧ s.1 < 128 ^ (f + 1) ∧ s.2.length + f = 9)
    (fun s _ => s.1) (u0, []) rfl ⟨Ext.refl w', Nat.le_refl _, 9, rfl, by omega, rfl⟩ ?_
  rintro ⟨u, pre⟩ w1 again ⟨hext, hle, f, hput, hf, hlen⟩ hagain
  dsimp only at *
  (repeat ((conv => whnf); (first | with_reducible refine r_tt ?_ | with_reducible refine r_ff ?_ | with_reducible refine r_ntt ?_ | with_reducible refine r_nff ?_ | refine r_need (by omega) ?_ | refine r_i64 (by omega) ?_ | refine r_dect (by omega) ?_ | refine r_decf (by omega) ?_ | refine r_eqt (by omega) ?_ | refine r_eqf (by omega) ?_ | refine r_net (by omega) ?_ | refine r_nef (by omega) ?_ | refine r_u8 (by omega) ?_ | refine r_u64 (by omega) ?_ | refine r_i32 (by omega) ?_ | refine r_u32 (by omega) ?_ | refine r_rem (by omega) ?_ | refine r_quo (by omega) ?_ | refine r_ldb (by assumption) (by rfl) ?_ | refine r_ldbE (by assumption) (by rfl) ?_))); (conv => whnf)
  refine r_dec (fun hge => ?_) (fun hlt1 => ?_)
  · obtain ⟨g, hg, hf', hput'⟩ := putF_ge (f := f) (u := u) (by omega) hf
    have hx : (128 + (u : Int) % 128) = ((UInt8.ofNat (u % 128 + 128)).toNat : Int) := by
      rw [UInt8.toNat_ofNat']; omega
    (repeat ((conv => whnf); (first | with_reducible refine r_tt ?_ | with_reducible refine r_ff ?_ | with_reducible refine r_ntt ?_ | with_reducible refine r_nff ?_ | refine r_need (by omega) ?_ | refine r_i64 (by omega) ?_ | refine r_dect (by omega) ?_ | refine r_decf (by omega) ?_ | refine r_eqt (by omega) ?_ | refine r_eqf (by omega) ?_ | refine r_net (by omega) ?_ | refine r_nef (by omega) ?_ | refine r_u8 (by omega) ?_ | refine r_u64 (by omega) ?_ | refine r_i32 (by omega) ?_ | refine r_u32 (by omega) ?_ | refine r_rem (by omega) ?_ | refine r_quo (by omega) ?_ | refine r_ldb (by assumption) (by rfl) ?_ | refine r_ldbE (by assumption) (by rfl) ?_))); (conv => whnf)
    refine r_new fun b w2 hx2 hb2 hsz2 hblk2 => ?_
    rw [hx] at hblk2
    (repeat ((conv => whnf); (first | with_reducible refine r_tt ?_ | with_reducible refine r_ff ?_ | with_reducible refine r_ntt ?_ | with_reducible refine r_nff ?_ | refine r_need (by omega) ?_ | refine r_i64 (by omega) ?_ | refine r_dect (by omega) ?_ | refine r_decf (by omega) ?_ | refine r_eqt (by omega) ?_ | refine r_eqf (by omega) ?_ | refine r_net (by omega) ?_ | refine r_nef (by omega) ?_ | refine r_u8 (by omega) ?_ | refine r_u64 (by omega) ?_ | refine r_i32 (by omega) ?_ | refine r_u32 (by omega) ?_ | refine r_rem (by omega) ?_ | refine r_quo (by omega) ?_ | refine r_ldb (by assumption) (by rfl) ?_ | refine r_ldbE (by assumption) (by rfl) ?_))); (conv => whnf)
    refine r_conv (l := [UInt8.ofNat (u % 128 + 128)]) (View.of_blk hblk2 (by rfl) (by simp [maxLen])) ?_
    (repeat ((conv => whnf); (first | with_reducible refine r_tt ?_ | with_reducible refine r_ff ?_ | with_reducible refine r_ntt ?_ | with_reducible refine r_nff ?_ | refine r_need (by omega) ?_ | refine r_i64 (by omega) ?_ | refine r_dect (by omega) ?_ | refine r_decf (by omega) ?_ | refine r_eqt (by omega) ?_ | refine r_eqf (by omega) ?_ | refine r_net (by omega) ?_ | refine r_nef (by omega) ?_ | refine r_u8 (by omega) ?_ | refine r_u64 (by omega) ?_ | refine r_i32 (by omega) ?_ | refine r_u32 (by omega) ?_ | refine r_rem (by omega) ?_ | refine r_quo (by omega) ?_ | refine r_ldb (by assumption) (by rfl) ?_ | refine r_ldbE (by assumption) (by rfl) ?_))); (conv => whnf)
    refine r_need (by rw [bstr_size, bstr_size]; simp; omega) ?_
    rw [bstr_app]
    (repeat ((conv => whnf); (first | with_reducible refine r_tt ?_ | with_reducible refine r_ff ?_ | with_reducible refine r_ntt ?_ | with_reducible refine r_nff ?_ | refine r_need (by omega) ?_ | refine r_i64 (by omega) ?_ | refine r_dect (by omega) ?_ | refine r_decf (by omega) ?_ | refine r_eqt (by omega) ?_ | refine r_eqf (by omega) ?_ | refine r_net (by omega) ?_ | refine r_nef (by omega) ?_ | refine r_u8 (by omega) ?_ | refine r_u64 (by omega) ?_ | refine r_i32 (by omega) ?_ | refine r_u32 (by omega) ?_ | refine r_rem (by omega) ?_ | refine r_quo (by omega) ?_ | refine r_ldb (by assumption) (by rfl) ?_ | refine r_ldbE (by assumption) (by rfl) ?_))); (conv => whnf)
    refine hagain (u / 128, pre ++ [UInt8.ofNat (u % 128 + 128)]) w2 ⟨hext.trans hx2, by dsimp only; omega, g, ?_, hf', by simp; omega⟩ (by dsimp only; omega)
    dsimp only
    rw [hput, hput', List.append_assoc]; rfl
  · have hx : (u : Int) = ((UInt8.ofNat u).toNat : Int) := by
      rw [UInt8.toNat_ofNat']; omega
    (repeat ((conv => whnf); (first | with_reducible refine r_tt ?_ | with_reducible refine r_ff ?_ | with_reducible refine r_ntt ?_ | with_reducible refine r_nff ?_ | refine r_need (by omega) ?_ | refine r_i64 (by omega) ?_ | refine r_dect (by omega) ?_ | refine r_decf (by omega) ?_ | refine r_eqt (by omega) ?_ | refine r_eqf (by omega) ?_ | refine r_net (by omega) ?_ | refine r_nef (by omega) ?_ | refine r_u8 (by omega) ?_ | refine r_u64 (by omega) ?_ | refine r_i32 (by omega) ?_ | refine r_u32 (by omega) ?_ | refine r_rem (by omega) ?_ | refine r_quo (by omega) ?_ | refine r_ldb (by assumption) (by rfl) ?_ | refine r_ldbE (by assumption) (by rfl) ?_))); (conv => whnf)
    refine r_new fun b w2 hx2 hb2 hsz2 hblk2 => ?_
    rw [hx] at hblk2
    (repeat ((conv => whnf); (first | with_reducible refine r_tt ?_ | with_reducible refine r_ff ?_ | with_reducible refine r_ntt ?_ | with_reducible refine r_nff ?_ | refine r_need (by omega) ?_ | refine r_i64 (by omega) ?_ | refine r_dect (by omega) ?_ | refine r_decf (by omega) ?_ | refine r_eqt (by omega) ?_ | refine r_eqf (by omega) ?_ | refine r_net (by omega) ?_ | refine r_nef (by omega) ?_ | refine r_u8 (by omega) ?_ | refine r_u64 (by omega) ?_ | refine r_i32 (by omega) ?_ | refine r_u32 (by omega) ?_ | refine r_rem (by omega) ?_ | refine r_quo (by omega) ?_ | refine r_ldb (by assumption) (by rfl) ?_ | refine r_ldbE (by assumption) (by rfl) ?_))); (conv => whnf)
    refine r_conv (l := [UInt8.ofNat u]) (View.of_blk hblk2 (by rfl) (by simp [maxLen])) ?_
    (repeat ((conv => whnf); (first | with_reducible refine r_tt ?_ | with_reducible refine r_ff ?_ | with_reducible refine r_ntt ?_ | with_reducible refine r_nff ?_ | refine r_need (by omega) ?_ | refine r_i64 (by omega) ?_ | refine r_dect (by omega) ?_ | refine r_decf (by omega) ?_ | refine r_eqt (by omega) ?_ | refine r_eqf (by omega) ?_ | refine r_net (by omega) ?_ | refine r_nef (by omega) ?_ | refine r_u8 (by omega) ?_ | refine r_u64 (by omega) ?_ | refine r_i32 (by omega) ?_ | refine r_u32 (by omega) ?_ | refine r_rem (by omega) ?_ | refine r_quo (by omega) ?_ | refine r_ldb (by assumption) (by rfl) ?_ | refine r_ldbE (by assumption) (by rfl) ?_))); (conv => whnf)
    refine r_need (by rw [bstr_size, bstr_size]; simp; omega) ?_
    rw [bstr_app]
    (repeat ((conv => whnf); (first | with_reducible refine r_tt ?_ | with_reducible refine r_ff ?_ | with_reducible refine r_ntt ?_ | with_reducible refine r_nff ?_ | refine r_need (by omega) ?_ | refine r_i64 (by omega) ?_ | refine r_dect (by omega) ?_ | refine r_decf (by omega) ?_ | refine r_eqt (by omega) ?_ | refine r_eqf (by omega) ?_ | refine r_net (by omega) ?_ | refine r_nef (by omega) ?_ | refine r_u8 (by omega) ?_ | refine r_u64 (by omega) ?_ | refine r_i32 (by omega) ?_ | refine r_u32 (by omega) ?_ | refine r_rem (by omega) ?_ | refine r_quo (by omega) ?_ | refine r_ldb (by assumption) (by rfl) ?_ | refine r_ldbE (by assumption) (by rfl) ?_))); (conv => whnf)
    refine ⟨hext.trans hx2, ?_⟩
    rw [hput, putF_lt (by omega)]

/-- What the document's reading gives. -/
def refN (x : Int) (r : List UInt8) (ok : Bool) : Value := .agg ⟨[.int .i64 x, .string (bstr r), .bool ok]⟩
def RefGet (l : List UInt8) (v : Value) : Prop := ∃ x r ok, v = refN x r ok ∧ inI64 x ∧ (get l = if ok then some (x, l.length - r.length) else none) ∧ (ok = true → r = l.drop (l.length - r.length) ∧ r.length < l.length)

theorem Get_ok (l : List UInt8) (w : World) (hl : l.length ≤ 9223372036854775807) :
    Cal Try.prog 13 ⟨[.string (bstr l)]⟩ w fun v w' => Ext w w' ∧ RefGet l v := by
  refine go13 (by rfl) ?_
  (repeat ((conv => whnf); (first | with_reducible refine r_tt ?_ | with_reducible refine r_ff ?_ | with_reducible refine r_ntt ?_ | with_reducible refine r_nff ?_ | refine r_need (by omega) ?_ | refine r_i64 (by omega) ?_ | refine r_dect (by omega) ?_ | refine r_decf (by omega) ?_ | refine r_eqt (by omega) ?_ | refine r_eqf (by omega) ?_ | refine r_net (by omega) ?_ | refine r_nef (by omega) ?_ | refine r_u8 (by omega) ?_ | refine r_u64 (by omega) ?_ | refine r_i32 (by omega) ?_ | refine r_u32 (by omega) ?_ | refine r_rem (by omega) ?_ | refine r_quo (by omega) ?_ | refine r_ldb (by assumption) (by rfl) ?_ | refine r_ldbE (by assumption) (by rfl) ?_))); (conv => whnf)
  refine r_new fun b0 w0 hx0 hb0 hsz0 hblk0 => ?_
  (repeat ((conv => whnf); (first | with_reducible refine r_tt ?_ | with_reducible refine r_ff ?_ | with_reducible refine r_ntt ?_ | with_reducible refine r_nff ?_ | refine r_need (by omega) ?_ | refine r_i64 (by omega) ?_ | refine r_dect (by omega) ?_ | refine r_decf (by omega) ?_ | refine r_eqt (by omega) ?_ | refine r_eqf (by omega) ?_ | refine r_net (by omega) ?_ | refine r_nef (by omega) ?_ | refine r_u8 (by omega) ?_ | refine r_u64 (by omega) ?_ | refine r_i32 (by omega) ?_ | refine r_u32 (by omega) ?_ | refine r_rem (by omega) ?_ | refine r_quo (by omega) ?_ | refine r_ldb (by assumption) (by rfl) ?_ | refine r_ldbE (by assumption) (by rfl) ?_))); (conv => whnf)
  have hsize := bstr_size l
  refine r_loop (σ := Nat) (fun n => [.int .i64 ((n + 1 : Nat) : Int)]) (fun n w1 => w1 = w0 ∧ n ≤ 10 ∧ n ≤ l.length ∧ ∀ i c, i < n → l[i]? = some c → 128 ≤ c.toNat)
    (fun n _ => 10 - n) 0 rfl ⟨rfl, by omega, by omega, by omega⟩ ?_
  rintro n w1 again ⟨rfl, hn10, hnl, hall⟩ hagain
  have hnone : ¬ (n < 10 ∧ n < l.length) → Codec.get l = none := fun hnn => by
    cases hg : Codec.get l with
    | none => rfl
    | some p =>
      exfalso
      obtain ⟨x, k⟩ := p
      obtain ⟨h1, h2, h3⟩ := get_some hg
      obtain ⟨p, c, hp, hc, hcs, hpl⟩ := num_shape h3
      have hk : k = p.length + 1 := by
        have e1 : (l.take k).length = (num x).length := by rw [h1]
        rw [hp] at e1
        simp at e1
        omega
      have hlast : l[p.length]? = some c := by
        have : (l.take k)[p.length]? = some c := by rw [h1, hp]; simp
        rw [List.getElem?_take_of_lt (by omega)] at this
        exact this
      have := hall _ _ (by omega) hlast
      omega
  by_cases h10 : n < 10
  · by_cases hl1 : n < l.length
    · obtain ⟨b, hb⟩ : ∃ b, l[n]? = some b := ⟨l[n], by simp [hl1]⟩
      have hb256 := b.toNat_lt
      (repeat ((conv => whnf); (first | with_reducible refine r_tt ?_ | with_reducible refine r_ff ?_ | with_reducible refine r_ntt ?_ | with_reducible refine r_nff ?_ | refine r_need (by omega) ?_ | refine r_i64 (by omega) ?_ | refine r_dect (by omega) ?_ | refine r_decf (by omega) ?_ | refine r_eqt (by omega) ?_ | refine r_eqf (by omega) ?_ | refine r_net (by omega) ?_ | refine r_nef (by omega) ?_ | refine r_u8 (by omega) ?_ | refine r_u64 (by omega) ?_ | refine r_i32 (by omega) ?_ | refine r_u32 (by omega) ?_ | refine r_rem (by omega) ?_ | refine r_quo (by omega) ?_ | refine r_ldb (by assumption) (by rfl) ?_ | refine r_ldbE (by assumption) (by rfl) ?_))); (conv => whnf)
      refine r_byte b (by omega) (by rw [bstr_get]; simpa using hb) ?_
      by_cases hlt : b.toNat < 128
      · (repeat ((conv => whnf); (first | with_reducible refine r_tt ?_ | with_reducible refine r_ff ?_ | with_reducible refine r_ntt ?_ | with_reducible refine r_nff ?_ | refine r_need (by omega) ?_ | refine r_i64 (by omega) ?_ | refine r_dect (by omega) ?_ | refine r_decf (by omega) ?_ | refine r_eqt (by omega) ?_ | refine r_eqf (by omega) ?_ | refine r_net (by omega) ?_ | refine r_nef (by omega) ?_ | refine r_u8 (by omega) ?_ | refine r_u64 (by omega) ?_ | refine r_i32 (by omega) ?_ | refine r_u32 (by omega) ?_ | refine r_rem (by omega) ?_ | refine r_quo (by omega) ?_ | refine r_ldb (by assumption) (by rfl) ?_ | refine r_ldbE (by assumption) (by rfl) ?_))); (conv => whnf)
        refine r_loop (σ := Nat × Nat) (fun s => [.int .u64 (s.1 : Int), .int .i64 ((s.2 : Nat) - 1 : Int)]) (fun s w2 => w2 = w1 ∧ s.2 ≤ n + 1 ∧ s.1 = valM ((l.take (n + 1)).drop s.2))
          (fun s _ => s.2) (0, n + 1) (by simp) ⟨rfl, by omega, by simp [valM]⟩ ?_
        rintro ⟨u, j⟩ w2 again2 ⟨rfl, hj, hu⟩ hagain2
        dsimp only at *
        by_cases hj0 : j = 0
        · subst hj0
          rw [List.drop_zero] at hu
          have hut := valM_lt (l.take (n + 1))
          rw [← hu] at hut
          (repeat ((conv => whnf); (first | with_reducible refine r_tt ?_ | with_reducible refine r_ff ?_ | with_reducible refine r_ntt ?_ | with_reducible refine r_nff ?_ | refine r_need (by omega) ?_ | refine r_i64 (by omega) ?_ | refine r_dect (by omega) ?_ | refine r_decf (by omega) ?_ | refine r_eqt (by omega) ?_ | refine r_eqf (by omega) ?_ | refine r_net (by omega) ?_ | refine r_nef (by omega) ?_ | refine r_u8 (by omega) ?_ | refine r_u64 (by omega) ?_ | refine r_i32 (by omega) ?_ | refine r_u32 (by omega) ?_ | refine r_rem (by omega) ?_ | refine r_quo (by omega) ?_ | refine r_ldb (by assumption) (by rfl) ?_ | refine r_ldbE (by assumption) (by rfl) ?_))); (conv => whnf)
          refine r_cal (signed_ok u w2 hut) ?_
          rintro v w3 ⟨rfl, rfl⟩
          have hin := unzig_in hut
          have hiff := get_iff hb hlt hall
          rw [← hu] at hiff
          (repeat ((conv => whnf); (first | with_reducible refine r_tt ?_ | with_reducible refine r_ff ?_ | with_reducible refine r_ntt ?_ | with_reducible refine r_nff ?_ | refine r_need (by omega) ?_ | refine r_i64 (by omega) ?_ | refine r_dect (by omega) ?_ | refine r_decf (by omega) ?_ | refine r_eqt (by omega) ?_ | refine r_eqf (by omega) ?_ | refine r_net (by omega) ?_ | refine r_nef (by omega) ?_ | refine r_u8 (by omega) ?_ | refine r_u64 (by omega) ?_ | refine r_i32 (by omega) ?_ | refine r_u32 (by omega) ?_ | refine r_rem (by omega) ?_ | refine r_quo (by omega) ?_ | refine r_ldb (by assumption) (by rfl) ?_ | refine r_ldbE (by assumption) (by rfl) ?_))); (conv => whnf)
          refine r_drawE fun w4 hx4 _ => ?_
          (repeat ((conv => whnf); (first | with_reducible refine r_tt ?_ | with_reducible refine r_ff ?_ | with_reducible refine r_ntt ?_ | with_reducible refine r_nff ?_ | refine r_need (by omega) ?_ | refine r_i64 (by omega) ?_ | refine r_dect (by omega) ?_ | refine r_decf (by omega) ?_ | refine r_eqt (by omega) ?_ | refine r_eqf (by omega) ?_ | refine r_net (by omega) ?_ | refine r_nef (by omega) ?_ | refine r_u8 (by omega) ?_ | refine r_u64 (by omega) ?_ | refine r_i32 (by omega) ?_ | refine r_u32 (by omega) ?_ | refine r_rem (by omega) ?_ | refine r_quo (by omega) ?_ | refine r_ldb (by assumption) (by rfl) ?_ | refine r_ldbE (by assumption) (by rfl) ?_))); (conv => whnf)
          refine r_cal (Number_ok (unzig u) w4 hin) ?_
          rintro v w5 ⟨hx5, rfl⟩
          (repeat ((conv => whnf); (first | with_reducible refine r_tt ?_ | with_reducible refine r_ff ?_ | with_reducible refine r_ntt ?_ | with_reducible refine r_nff ?_ | refine r_need (by omega) ?_ | refine r_i64 (by omega) ?_ | refine r_dect (by omega) ?_ | refine r_decf (by omega) ?_ | refine r_eqt (by omega) ?_ | refine r_eqf (by omega) ?_ | refine r_net (by omega) ?_ | refine r_nef (by omega) ?_ | refine r_u8 (by omega) ?_ | refine r_u64 (by omega) ?_ | refine r_i32 (by omega) ?_ | refine r_u32 (by omega) ?_ | refine r_rem (by omega) ?_ | refine r_quo (by omega) ?_ | refine r_ldb (by assumption) (by rfl) ?_ | refine r_ldbE (by assumption) (by rfl) ?_))); (conv => whnf)
          refine r_stn (hblk0.ext (hx4.trans hx5)) (by simp) (by intro v hv; simp at hv; rcases hv with rfl | rfl | rfl <;> rfl) fun w6 hc6 hs6 hb6 => ?_
          (repeat ((conv => whnf); (first | with_reducible refine r_tt ?_ | with_reducible refine r_ff ?_ | with_reducible refine r_ntt ?_ | with_reducible refine r_nff ?_ | refine r_need (by omega) ?_ | refine r_i64 (by omega) ?_ | refine r_dect (by omega) ?_ | refine r_decf (by omega) ?_ | refine r_eqt (by omega) ?_ | refine r_eqf (by omega) ?_ | refine r_net (by omega) ?_ | refine r_nef (by omega) ?_ | refine r_u8 (by omega) ?_ | refine r_u64 (by omega) ?_ | refine r_i32 (by omega) ?_ | refine r_u32 (by omega) ?_ | refine r_rem (by omega) ?_ | refine r_quo (by omega) ?_ | refine r_ldb (by assumption) (by rfl) ?_ | refine r_ldbE (by assumption) (by rfl) ?_))); (conv => whnf)
          refine r_ldnb hb6 rfl rfl ?_
          (repeat ((conv => whnf); (first | with_reducible refine r_tt ?_ | with_reducible refine r_ff ?_ | with_reducible refine r_ntt ?_ | with_reducible refine r_nff ?_ | refine r_need (by omega) ?_ | refine r_i64 (by omega) ?_ | refine r_dect (by omega) ?_ | refine r_decf (by omega) ?_ | refine r_eqt (by omega) ?_ | refine r_eqf (by omega) ?_ | refine r_net (by omega) ?_ | refine r_nef (by omega) ?_ | refine r_u8 (by omega) ?_ | refine r_u64 (by omega) ?_ | refine r_i32 (by omega) ?_ | refine r_u32 (by omega) ?_ | refine r_rem (by omega) ?_ | refine r_quo (by omega) ?_ | refine r_ldb (by assumption) (by rfl) ?_ | refine r_ldbE (by assumption) (by rfl) ?_))); (conv => whnf)
          refine ⟨Chg.step ((hx0.trans hx4).trans hx5) hc6 (fun k hk hlt => absurd hlt (by omega)), unzig u, l.drop (n + 1), decide (num (unzig u) = l.take (n + 1)), ?_, hin, ?_, ?_⟩
          · have e1 : (l.drop (n + 1)).take (l.length - (n + 1)) = l.drop (n + 1) := List.take_of_length_le (by simp)
            simp only [refN, bstr_cut, bstr_list, bstr_size, Int.toNat_natCast, e1, List.drop_zero, Nat.sub_zero, setL, List.take_succ_cons, List.take_zero, Value.agg.injEq, Array.mk.injEq, List.cons.injEq, true_and, and_true, Value.bool.injEq]
            by_cases hq : num (unzig u) = l.take (n + 1)
            · simp [hq]
            · simp [hq]
          · rw [hiff]
            simp only [decide_eq_true_eq, List.length_drop]
            rw [show l.length - (l.length - (n + 1)) = n + 1 by omega]
          · intro _
            rw [List.length_drop, show l.length - (l.length - (n + 1)) = n + 1 by omega]
            exact ⟨rfl, by omega⟩
        · have hdrop : ∃ c, l[j - 1]? = some c ∧ (l.take (n + 1)).drop (j - 1) = c :: (l.take (n + 1)).drop j := by
            have h1 : j - 1 < (l.take (n + 1)).length := by simp; omega
            refine ⟨(l.take (n + 1))[j - 1], ?_, ?_⟩
            · rw [List.getElem_take]; simp
            · rw [List.drop_eq_getElem_cons h1]
              rw [show j - 1 + 1 = j by omega]
          obtain ⟨c, hc, hd⟩ := hdrop
          have hc256 := c.toNat_lt
          have hut := valM_lt ((l.take (n + 1)).drop j)
          rw [← hu] at hut
          have hw : IntKind.u64.wrap (IntKind.u64.wrap ((u : Int) * 128) + (c.toNat : Int) % 128) = (((u * 128 + c.toNat % 128) % 18446744073709551616 : Nat) : Int) := by
            rw [u64_wrap, u64_wrap]; omega
          (repeat ((conv => whnf); (first | with_reducible refine r_tt ?_ | with_reducible refine r_ff ?_ | with_reducible refine r_ntt ?_ | with_reducible refine r_nff ?_ | refine r_need (by omega) ?_ | refine r_i64 (by omega) ?_ | refine r_dect (by omega) ?_ | refine r_decf (by omega) ?_ | refine r_eqt (by omega) ?_ | refine r_eqf (by omega) ?_ | refine r_net (by omega) ?_ | refine r_nef (by omega) ?_ | refine r_u8 (by omega) ?_ | refine r_u64 (by omega) ?_ | refine r_i32 (by omega) ?_ | refine r_u32 (by omega) ?_ | refine r_rem (by omega) ?_ | refine r_quo (by omega) ?_ | refine r_ldb (by assumption) (by rfl) ?_ | refine r_ldbE (by assumption) (by rfl) ?_))); (conv => whnf)
          refine r_keepwrap ?_
          (repeat ((conv => whnf); (first | with_reducible refine r_tt ?_ | with_reducible refine r_ff ?_ | with_reducible refine r_ntt ?_ | with_reducible refine r_nff ?_ | refine r_need (by omega) ?_ | refine r_i64 (by omega) ?_ | refine r_dect (by omega) ?_ | refine r_decf (by omega) ?_ | refine r_eqt (by omega) ?_ | refine r_eqf (by omega) ?_ | refine r_net (by omega) ?_ | refine r_nef (by omega) ?_ | refine r_u8 (by omega) ?_ | refine r_u64 (by omega) ?_ | refine r_i32 (by omega) ?_ | refine r_u32 (by omega) ?_ | refine r_rem (by omega) ?_ | refine r_quo (by omega) ?_ | refine r_ldb (by assumption) (by rfl) ?_ | refine r_ldbE (by assumption) (by rfl) ?_))); (conv => whnf)
          refine r_byte c (by omega) (by rw [bstr_get, show ((j : Int) - 1).toNat = j - 1 by omega]; exact hc) ?_
          (repeat ((conv => whnf); (first | with_reducible refine r_tt ?_ | with_reducible refine r_ff ?_ | with_reducible refine r_ntt ?_ | with_reducible refine r_nff ?_ | refine r_need (by omega) ?_ | refine r_i64 (by omega) ?_ | refine r_dect (by omega) ?_ | refine r_decf (by omega) ?_ | refine r_eqt (by omega) ?_ | refine r_eqf (by omega) ?_ | refine r_net (by omega) ?_ | refine r_nef (by omega) ?_ | refine r_u8 (by omega) ?_ | refine r_u64 (by omega) ?_ | refine r_i32 (by omega) ?_ | refine r_u32 (by omega) ?_ | refine r_rem (by omega) ?_ | refine r_quo (by omega) ?_ | refine r_ldb (by assumption) (by rfl) ?_ | refine r_ldbE (by assumption) (by rfl) ?_))); (conv => whnf)
          refine r_wrapeq hw ?_
          (repeat ((conv => whnf); (first | with_reducible refine r_tt ?_ | with_reducible refine r_ff ?_ | with_reducible refine r_ntt ?_ | with_reducible refine r_nff ?_ | refine r_need (by omega) ?_ | refine r_i64 (by omega) ?_ | refine r_dect (by omega) ?_ | refine r_decf (by omega) ?_ | refine r_eqt (by omega) ?_ | refine r_eqf (by omega) ?_ | refine r_net (by omega) ?_ | refine r_nef (by omega) ?_ | refine r_u8 (by omega) ?_ | refine r_u64 (by omega) ?_ | refine r_i32 (by omega) ?_ | refine r_u32 (by omega) ?_ | refine r_rem (by omega) ?_ | refine r_quo (by omega) ?_ | refine r_ldb (by assumption) (by rfl) ?_ | refine r_ldbE (by assumption) (by rfl) ?_))); (conv => whnf)
          rw [show (j : Int) - 1 - 1 = ((j - 1 : Nat) : Int) - 1 by omega]
          exact hagain2 (_, j - 1) w2 ⟨rfl, by dsimp only; omega, by dsimp only; rw [hd, hu]; rfl⟩ (by dsimp only; omega)
      · (repeat ((conv => whnf); (first | with_reducible refine r_tt ?_ | with_reducible refine r_ff ?_ | with_reducible refine r_ntt ?_ | with_reducible refine r_nff ?_ | refine r_need (by omega) ?_ | refine r_i64 (by omega) ?_ | refine r_dect (by omega) ?_ | refine r_decf (by omega) ?_ | refine r_eqt (by omega) ?_ | refine r_eqf (by omega) ?_ | refine r_net (by omega) ?_ | refine r_nef (by omega) ?_ | refine r_u8 (by omega) ?_ | refine r_u64 (by omega) ?_ | refine r_i32 (by omega) ?_ | refine r_u32 (by omega) ?_ | refine r_rem (by omega) ?_ | refine r_quo (by omega) ?_ | refine r_ldb (by assumption) (by rfl) ?_ | refine r_ldbE (by assumption) (by rfl) ?_))); (conv => whnf)
        exact hagain (n + 1) w1 ⟨rfl, by omega, by omega, fun i c hi hc => by
          rcases Nat.lt_or_ge i n with h | h
          · exact hall i c h hc
          · have : i = n := by omega
            subst this
            rw [hb] at hc
            cases hc
            omega⟩ (by omega)
    · have hnone := hnone (by omega)
      (repeat ((conv => whnf); (first | with_reducible refine r_tt ?_ | with_reducible refine r_ff ?_ | with_reducible refine r_ntt ?_ | with_reducible refine r_nff ?_ | refine r_need (by omega) ?_ | refine r_i64 (by omega) ?_ | refine r_dect (by omega) ?_ | refine r_decf (by omega) ?_ | refine r_eqt (by omega) ?_ | refine r_eqf (by omega) ?_ | refine r_net (by omega) ?_ | refine r_nef (by omega) ?_ | refine r_u8 (by omega) ?_ | refine r_u64 (by omega) ?_ | refine r_i32 (by omega) ?_ | refine r_u32 (by omega) ?_ | refine r_rem (by omega) ?_ | refine r_quo (by omega) ?_ | refine r_ldb (by assumption) (by rfl) ?_ | refine r_ldbE (by assumption) (by rfl) ?_))); (conv => whnf)
      refine r_stn hblk0 (by simp) (by intro v hv; simp at hv; rcases hv with rfl | rfl | rfl <;> rfl) fun w6 hc6 hs6 hb6 => ?_
      (repeat ((conv => whnf); (first | with_reducible refine r_tt ?_ | with_reducible refine r_ff ?_ | with_reducible refine r_ntt ?_ | with_reducible refine r_nff ?_ | refine r_need (by omega) ?_ | refine r_i64 (by omega) ?_ | refine r_dect (by omega) ?_ | refine r_decf (by omega) ?_ | refine r_eqt (by omega) ?_ | refine r_eqf (by omega) ?_ | refine r_net (by omega) ?_ | refine r_nef (by omega) ?_ | refine r_u8 (by omega) ?_ | refine r_u64 (by omega) ?_ | refine r_i32 (by omega) ?_ | refine r_u32 (by omega) ?_ | refine r_rem (by omega) ?_ | refine r_quo (by omega) ?_ | refine r_ldb (by assumption) (by rfl) ?_ | refine r_ldbE (by assumption) (by rfl) ?_))); (conv => whnf)
      refine r_ldnb hb6 rfl rfl ?_
      (repeat ((conv => whnf); (first | with_reducible refine r_tt ?_ | with_reducible refine r_ff ?_ | with_reducible refine r_ntt ?_ | with_reducible refine r_nff ?_ | refine r_need (by omega) ?_ | refine r_i64 (by omega) ?_ | refine r_dect (by omega) ?_ | refine r_decf (by omega) ?_ | refine r_eqt (by omega) ?_ | refine r_eqf (by omega) ?_ | refine r_net (by omega) ?_ | refine r_nef (by omega) ?_ | refine r_u8 (by omega) ?_ | refine r_u64 (by omega) ?_ | refine r_i32 (by omega) ?_ | refine r_u32 (by omega) ?_ | refine r_rem (by omega) ?_ | refine r_quo (by omega) ?_ | refine r_ldb (by assumption) (by rfl) ?_ | refine r_ldbE (by assumption) (by rfl) ?_))); (conv => whnf)
      refine ⟨Chg.step hx0 hc6 (fun k hk hlt => absurd hlt (by omega)), 0, [], false, rfl, by unfold inI64; omega, by simp [hnone], by simp⟩
  · have hnone := hnone (by omega)
    (repeat ((conv => whnf); (first | with_reducible refine r_tt ?_ | with_reducible refine r_ff ?_ | with_reducible refine r_ntt ?_ | with_reducible refine r_nff ?_ | refine r_need (by omega) ?_ | refine r_i64 (by omega) ?_ | refine r_dect (by omega) ?_ | refine r_decf (by omega) ?_ | refine r_eqt (by omega) ?_ | refine r_eqf (by omega) ?_ | refine r_net (by omega) ?_ | refine r_nef (by omega) ?_ | refine r_u8 (by omega) ?_ | refine r_u64 (by omega) ?_ | refine r_i32 (by omega) ?_ | refine r_u32 (by omega) ?_ | refine r_rem (by omega) ?_ | refine r_quo (by omega) ?_ | refine r_ldb (by assumption) (by rfl) ?_ | refine r_ldbE (by assumption) (by rfl) ?_))); (conv => whnf)
    refine r_stn hblk0 (by simp) (by intro v hv; simp at hv; rcases hv with rfl | rfl | rfl <;> rfl) fun w6 hc6 hs6 hb6 => ?_
    (repeat ((conv => whnf); (first | with_reducible refine r_tt ?_ | with_reducible refine r_ff ?_ | with_reducible refine r_ntt ?_ | with_reducible refine r_nff ?_ | refine r_need (by omega) ?_ | refine r_i64 (by omega) ?_ | refine r_dect (by omega) ?_ | refine r_decf (by omega) ?_ | refine r_eqt (by omega) ?_ | refine r_eqf (by omega) ?_ | refine r_net (by omega) ?_ | refine r_nef (by omega) ?_ | refine r_u8 (by omega) ?_ | refine r_u64 (by omega) ?_ | refine r_i32 (by omega) ?_ | refine r_u32 (by omega) ?_ | refine r_rem (by omega) ?_ | refine r_quo (by omega) ?_ | refine r_ldb (by assumption) (by rfl) ?_ | refine r_ldbE (by assumption) (by rfl) ?_))); (conv => whnf)
    refine r_ldnb hb6 rfl rfl ?_
    (repeat ((conv => whnf); (first | with_reducible refine r_tt ?_ | with_reducible refine r_ff ?_ | with_reducible refine r_ntt ?_ | with_reducible refine r_nff ?_ | refine r_need (by omega) ?_ | refine r_i64 (by omega) ?_ | refine r_dect (by omega) ?_ | refine r_decf (by omega) ?_ | refine r_eqt (by omega) ?_ | refine r_eqf (by omega) ?_ | refine r_net (by omega) ?_ | refine r_nef (by omega) ?_ | refine r_u8 (by omega) ?_ | refine r_u64 (by omega) ?_ | refine r_i32 (by omega) ?_ | refine r_u32 (by omega) ?_ | refine r_rem (by omega) ?_ | refine r_quo (by omega) ?_ | refine r_ldb (by assumption) (by rfl) ?_ | refine r_ldbE (by assumption) (by rfl) ?_))); (conv => whnf)
    refine ⟨Chg.step hx0 hc6 (fun k hk hlt => absurd hlt (by omega)), 0, [], false, rfl, by unfold inI64; omega, by simp [hnone], by simp⟩
end Fb.Try
