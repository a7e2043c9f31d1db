/-
  Walks: the document's rules for vocabularies.
-/
import Derived.Test.YtnofndhlhbbhdaaPa
namespace Fb.Try.VO
open Go Go.Proofs Fb Fb.Bytes
theorem ff_iff {p : Prop} (h : ¬ p) : (false = true ↔ p) := ⟨fun e => Bool.noConfusion e, fun e => absurd e h⟩
theorem tt_iff {p : Prop} (h : p) : (true = true ↔ p) := ⟨fun _ => h, fun _ => rfl⟩
theorem byte_cells (b : Nat) (h : b < 256) : bvs [UInt8.ofNat b] = [.int .u8 (b : Int)] := by
  simp [bvs]
  omega
theorem tv_getI {T : List (List UInt8)} {i : Int} (h0 : 0 ≤ i) (h1 : i < T.length) : (tv T)[i.toNat * 1]? = some (.string (bstr (tk T i))) := by
  have := tv_get (T := T) (i := i.toNat) (by omega)
  rw [Nat.mul_one, this, Int.toNat_of_nonneg h0]
theorem tk_len {T : List (List UInt8)} {n : Nat} (h : ∀ s ∈ T, s.length ≤ n) (i : Int) : (tk T i).length ≤ n := by
  unfold tk
  cases he : T[i.toNat]? with
  | none => simp
  | some s => exact h s (List.mem_of_getElem? he)
section
variable {w w' : World} {v : Voc} {x : VA} {a : Option Addr} {len cap : Nat} {T : List (List UInt8)}
theorem rName_ok (w : World) (s : List UInt8) (hs : s.length ≤ 1000) : Cal Try.prog 78 ⟨[.string (bstr s)]⟩ w fun v w' => w' = w ∧ ∃ b, v = .bool b ∧ (b = true ↔ NameOk s) := by
  have hsz := bstr_size s
  refine go78 (by rfl) ?_
  (repeat ((conv => whnf); (first | (with_reducible first | refine jA ?_ | refine jB ?_ | refine jC ?_ | refine jD ?_) | refine jE ?_ | refine jF ?_ | refine jG ?_ | refine jH ?_ | refine jI ?_ | refine jJ ?_ | refine jK ?_ | refine jL ?_ | refine jM ?_ | refine jN ?_ | refine jO ?_ | refine jP ?_ | refine jQ ?_ | refine jR ?_ | refine jS (k := ?_) | refine jT (k := ?_)))); (conv => whnf)
  refine r_loop (σ := Nat) (fun i => [.int .i64 (i : Int)]) (fun i w' => i ≤ s.length ∧ w' = w ∧ ∀ k (h : k < s.length), k < i → okc s[k]) (fun i _ => s.length - i) 0 rfl ⟨by omega, rfl, fun k _ hk => by omega⟩ ?_
  rintro i w1 again ⟨hi, rfl, hall⟩ hagain
  by_cases hil : i < s.length
  · have hget : (bstr s)[(i : Int).toNat]? = some s[i] := by
      rw [bstr_get, Int.toNat_natCast]
      simp [hil]
    have yes : okc s[i] → again [.int .i64 ((i + 1 : Nat) : Int)] w1 := fun ho => hagain (i + 1) w1 ⟨by omega, rfl, fun k h hk => by
      by_cases hki : k = i
      · subst hki; exact ho
      · exact hall k h (by omega)⟩ (by omega)
    (repeat ((conv => whnf); (first | (with_reducible first | refine jA ?_ | refine jB ?_ | refine jC ?_ | refine jD ?_) | refine jE ?_ | refine jF ?_ | refine jG ?_ | refine jH ?_ | refine jI ?_ | refine jJ ?_ | refine jK ?_ | refine jL ?_ | refine jM ?_ | refine jN ?_ | refine jO ?_ | refine jP ?_ | refine jQ ?_ | refine jR ?_ | refine jS (k := ?_) | refine jT (k := ?_)))); (conv => whnf)
    refine r_byte s[i] (by omega) hget ?_
    unfold okc at yes
    have hb := s[i].toNat_lt
    by_cases c1 : 97 ≤ s[i].toNat ∧ s[i].toNat ≤ 122
    · (repeat ((conv => whnf); (first | (with_reducible first | refine jA ?_ | refine jB ?_ | refine jC ?_ | refine jD ?_) | refine jE ?_ | refine jF ?_ | refine jG ?_ | refine jH ?_ | refine jI ?_ | refine jJ ?_ | refine jK ?_ | refine jL ?_ | refine jM ?_ | refine jN ?_ | refine jO ?_ | refine jP ?_ | refine jQ ?_ | refine jR ?_ | refine jS (k := ?_) | refine jT (k := ?_)))); (conv => whnf)
      exact yes (.inl c1)
    by_cases c2 : 48 ≤ s[i].toNat ∧ s[i].toNat ≤ 57
    · by_cases c0 : 97 ≤ s[i].toNat
      all_goals
        (repeat ((conv => whnf); (first | (with_reducible first | refine jA ?_ | refine jB ?_ | refine jC ?_ | refine jD ?_) | refine jE ?_ | refine jF ?_ | refine jG ?_ | refine jH ?_ | refine jI ?_ | refine jJ ?_ | refine jK ?_ | refine jL ?_ | refine jM ?_ | refine jN ?_ | refine jO ?_ | refine jP ?_ | refine jQ ?_ | refine jR ?_ | refine jS (k := ?_) | refine jT (k := ?_)))); (conv => whnf)
        exact yes (.inr (.inl c2))
    by_cases c3 : s[i].toNat = 95
    · (repeat ((conv => whnf); (first | (with_reducible first | refine jA ?_ | refine jB ?_ | refine jC ?_ | refine jD ?_) | refine jE ?_ | refine jF ?_ | refine jG ?_ | refine jH ?_ | refine jI ?_ | refine jJ ?_ | refine jK ?_ | refine jL ?_ | refine jM ?_ | refine jN ?_ | refine jO ?_ | refine jP ?_ | refine jQ ?_ | refine jR ?_ | refine jS (k := ?_) | refine jT (k := ?_)))); (conv => whnf)
      exact yes (.inr (.inr c3))
    have no : ¬ okc s[i] := by unfold okc; omega
    have fin : ∃ b, Value.bool false = .bool b ∧ (b = true ↔ NameOk s) := ⟨false, rfl, ff_iff fun h => no (h.1 _ (List.getElem_mem hil))⟩
    by_cases c0 : 97 ≤ s[i].toNat
    · (repeat ((conv => whnf); (first | (with_reducible first | refine jA ?_ | refine jB ?_ | refine jC ?_ | refine jD ?_) | refine jE ?_ | refine jF ?_ | refine jG ?_ | refine jH ?_ | refine jI ?_ | refine jJ ?_ | refine jK ?_ | refine jL ?_ | refine jM ?_ | refine jN ?_ | refine jO ?_ | refine jP ?_ | refine jQ ?_ | refine jR ?_ | refine jS (k := ?_) | refine jT (k := ?_)))); (conv => whnf)
      exact ⟨rfl, fin⟩
    · by_cases c4 : 48 ≤ s[i].toNat
      all_goals
        (repeat ((conv => whnf); (first | (with_reducible first | refine jA ?_ | refine jB ?_ | refine jC ?_ | refine jD ?_) | refine jE ?_ | refine jF ?_ | refine jG ?_ | refine jH ?_ | refine jI ?_ | refine jJ ?_ | refine jK ?_ | refine jL ?_ | refine jM ?_ | refine jN ?_ | refine jO ?_ | refine jP ?_ | refine jQ ?_ | refine jR ?_ | refine jS (k := ?_) | refine jT (k := ?_)))); (conv => whnf)
        exact ⟨rfl, fin⟩
  · have ha : ∀ c ∈ s, okc c := fun c hc => by
      obtain ⟨k, hk, rfl⟩ := List.getElem_of_mem hc
      exact hall k hk (by omega)
    by_cases c1 : 1 ≤ s.length
    · (repeat ((conv => whnf); (first | (with_reducible first | refine jA ?_ | refine jB ?_ | refine jC ?_ | refine jD ?_) | refine jE ?_ | refine jF ?_ | refine jG ?_ | refine jH ?_ | refine jI ?_ | refine jJ ?_ | refine jK ?_ | refine jL ?_ | refine jM ?_ | refine jN ?_ | refine jO ?_ | refine jP ?_ | refine jQ ?_ | refine jR ?_ | refine jS (k := ?_) | refine jT (k := ?_)))); (conv => whnf)
      refine ⟨rfl, _, rfl, ?_⟩
      rw [decide_eq_true_eq, hsz]
      exact ⟨fun h => ⟨ha, c1, by omega⟩, fun h => by have := h.2.2; omega⟩
    · (repeat ((conv => whnf); (first | (with_reducible first | refine jA ?_ | refine jB ?_ | refine jC ?_ | refine jD ?_) | refine jE ?_ | refine jF ?_ | refine jG ?_ | refine jH ?_ | refine jI ?_ | refine jJ ?_ | refine jK ?_ | refine jL ?_ | refine jM ?_ | refine jN ?_ | refine jO ?_ | refine jP ?_ | refine jQ ?_ | refine jR ?_ | refine jS (k := ?_) | refine jT (k := ?_)))); (conv => whnf)
      exact ⟨rfl, _, rfl, ff_iff fun h => c1 h.2.1⟩
theorem rTok_ok (hv : View w a len cap 1 (tv T)) (hT : T.length ≤ 600) (hl : ∀ s ∈ T, s.length ≤ 80) : Cal Try.prog 59 ⟨[.slice a len cap]⟩ w fun v w' => Ext w w' ∧ ∃ b, v = .bool b ∧ (b = true ↔ TokOk T) := by
  have hlen := tv_lens hv
  refine go59 (by rfl) ?_
  (repeat ((conv => whnf); (first | (with_reducible first | refine jA ?_ | refine jB ?_ | refine jC ?_ | refine jD ?_) | refine jE ?_ | refine jF ?_ | refine jG ?_ | refine jH ?_ | refine jI ?_ | refine jJ ?_ | refine jK ?_ | refine jL ?_ | refine jM ?_ | refine jN ?_ | refine jO ?_ | refine jP ?_ | refine jQ ?_ | refine jR ?_ | refine jS (k := ?_) | refine jT (k := ?_)))); (conv => whnf)
  refine r_loop (σ := Nat) (fun i => [.int .i64 (i : Int)]) (fun i w' => i ≤ len ∧ w' = w ∧ ∀ k : Nat, k < i → (tk T k).length ≤ 64 ∧ (tk T k ≠ [] → ofT T (tk T k) = k)) (fun i _ => len - i) 0 rfl ⟨by omega, rfl, fun k hk => by omega⟩ ?_
  rintro i w1 again ⟨hi, rfl, hall⟩ hagain
  by_cases hil : i < len
  · have hp := hv.plain (by rw [tv_len]; omega)
    have hg := tv_get (T := T) (i := i) (by omega)
    have hg' : (tv T)[(i : Int).toNat * 1]? = some (.string (bstr (tk T i))) := by simpa using hg
    have hsz := bstr_size (tk T i)
    have hl80 := tk_len hl (i : Int)
    have hmem : tk T i ∈ T := tk_mem.2 ⟨i, by omega, rfl⟩
    by_cases c1 : 64 < (tk T i).length
    · (repeat ((conv => whnf); (first | refine r_ldv hv hg' ?_ | (with_reducible first | refine jA ?_ | refine jB ?_ | refine jC ?_ | refine jD ?_) | refine jE ?_ | refine jF ?_ | refine jG ?_ | refine jH ?_ | refine jI ?_ | refine jJ ?_ | refine jK ?_ | refine jL ?_ | refine jM ?_ | refine jN ?_ | refine jO ?_ | refine jP ?_ | refine jQ ?_ | refine jR ?_ | refine jS (k := ?_) | refine jT (k := ?_)))); (conv => whnf)
      exact ⟨Ext.refl _, false, rfl, ff_iff fun h => by have := h.len _ hmem; omega⟩
    by_cases c2 : tk T i = []
    · (repeat ((conv => whnf); (first | refine r_ldv hv hg' ?_ | refine r_n0f c2 ?_ | (with_reducible first | refine jA ?_ | refine jB ?_ | refine jC ?_ | refine jD ?_) | refine jE ?_ | refine jF ?_ | refine jG ?_ | refine jH ?_ | refine jI ?_ | refine jJ ?_ | refine jK ?_ | refine jL ?_ | refine jM ?_ | refine jN ?_ | refine jO ?_ | refine jP ?_ | refine jQ ?_ | refine jR ?_ | refine jS (k := ?_) | refine jT (k := ?_)))); (conv => whnf)
      exact hagain (i + 1) _ ⟨by omega, rfl, fun k hk => by
        by_cases hki : k = i
        · subst hki; exact ⟨by omega, fun h => absurd c2 h⟩
        · exact hall k (by omega)⟩ (by omega)
    (repeat ((conv => whnf); (first | refine r_ldv hv hg' ?_ | refine r_n0t c2 ?_ | (with_reducible first | refine jA ?_ | refine jB ?_ | refine jC ?_ | refine jD ?_) | refine jE ?_ | refine jF ?_ | refine jG ?_ | refine jH ?_ | refine jI ?_ | refine jJ ?_ | refine jK ?_ | refine jL ?_ | refine jM ?_ | refine jN ?_ | refine jO ?_ | refine jP ?_ | refine jQ ?_ | refine jR ?_ | refine jS (k := ?_) | refine jT (k := ?_)))); (conv => whnf)
    refine r_cal (Of_ok hv (tk T i)) ?_
    rintro _ w2 ⟨rfl, rfl⟩
    by_cases c3 : ofT T (tk T i) = i
    · (repeat ((conv => whnf); (first | (with_reducible first | refine jA ?_ | refine jB ?_ | refine jC ?_ | refine jD ?_) | refine jE ?_ | refine jF ?_ | refine jG ?_ | refine jH ?_ | refine jI ?_ | refine jJ ?_ | refine jK ?_ | refine jL ?_ | refine jM ?_ | refine jN ?_ | refine jO ?_ | refine jP ?_ | refine jQ ?_ | refine jR ?_ | refine jS (k := ?_) | refine jT (k := ?_)))); (conv => whnf)
      exact hagain (i + 1) _ ⟨by omega, rfl, fun k hk => by
        by_cases hki : k = i
        · subst hki; exact ⟨by omega, fun _ => c3⟩
        · exact hall k (by omega)⟩ (by omega)
    · (repeat ((conv => whnf); (first | (with_reducible first | refine jA ?_ | refine jB ?_ | refine jC ?_ | refine jD ?_) | refine jE ?_ | refine jF ?_ | refine jG ?_ | refine jH ?_ | refine jI ?_ | refine jJ ?_ | refine jK ?_ | refine jL ?_ | refine jM ?_ | refine jN ?_ | refine jO ?_ | refine jP ?_ | refine jQ ?_ | refine jR ?_ | refine jS (k := ?_) | refine jT (k := ?_)))); (conv => whnf)
      exact ⟨Ext.refl _, false, rfl, ff_iff fun h => c3 (h.one i (by omega) c2)⟩
  · (repeat ((conv => whnf); (first | (with_reducible first | refine jA ?_ | refine jB ?_ | refine jC ?_ | refine jD ?_) | refine jE ?_ | refine jF ?_ | refine jG ?_ | refine jH ?_ | refine jI ?_ | refine jJ ?_ | refine jK ?_ | refine jL ?_ | refine jM ?_ | refine jN ?_ | refine jO ?_ | refine jP ?_ | refine jQ ?_ | refine jR ?_ | refine jS (k := ?_) | refine jT (k := ?_)))); (conv => whnf)
    refine r_loop (σ := Nat) (fun b => [.int .i64 (b : Int)]) (fun b w' => b ≤ 256 ∧ Ext w1 w' ∧ ∀ c, c < b → [UInt8.ofNat c] ∈ T) (fun b _ => 256 - b) 0 rfl ⟨by omega, Ext.refl _, fun c hc => by omega⟩ ?_
    rintro b w2 again2 ⟨hb, hx2, hby⟩ hagain2
    by_cases hb2 : b < 256
    · (repeat ((conv => whnf); (first | (with_reducible first | refine jA ?_ | refine jB ?_ | refine jC ?_ | refine jD ?_) | refine jE ?_ | refine jF ?_ | refine jG ?_ | refine jH ?_ | refine jI ?_ | refine jJ ?_ | refine jK ?_ | refine jL ?_ | refine jM ?_ | refine jN ?_ | refine jO ?_ | refine jP ?_ | refine jQ ?_ | refine jR ?_ | refine jS (k := ?_) | refine jT (k := ?_)))); (conv => whnf)
      refine r_new fun q w3 hx3 hb3 hs3 hblk3 => ?_
      have hblk3 : Blk w3 q 5 (bvs [UInt8.ofNat b]) := by rw [byte_cells b hb2]; exact hblk3
      (repeat ((conv => whnf); (first | (with_reducible first | refine jA ?_ | refine jB ?_ | refine jC ?_ | refine jD ?_) | refine jE ?_ | refine jF ?_ | refine jG ?_ | refine jH ?_ | refine jI ?_ | refine jJ ?_ | refine jK ?_ | refine jL ?_ | refine jM ?_ | refine jN ?_ | refine jO ?_ | refine jP ?_ | refine jQ ?_ | refine jR ?_ | refine jS (k := ?_) | refine jT (k := ?_)))); (conv => whnf)
      refine r_conv (l := [UInt8.ofNat b]) (View.of_blk (n := 1) hblk3 rfl (by simp [maxLen])) ?_
      have hx13 := hx2.trans hx3
      (repeat ((conv => whnf); (first | (with_reducible first | refine jA ?_ | refine jB ?_ | refine jC ?_ | refine jD ?_) | refine jE ?_ | refine jF ?_ | refine jG ?_ | refine jH ?_ | refine jI ?_ | refine jJ ?_ | refine jK ?_ | refine jL ?_ | refine jM ?_ | refine jN ?_ | refine jO ?_ | refine jP ?_ | refine jQ ?_ | refine jR ?_ | refine jS (k := ?_) | refine jT (k := ?_)))); (conv => whnf)
      refine r_cal (Of_ok (hv.ext hx13) [UInt8.ofNat b]) ?_
      rintro _ w4 ⟨rfl, rfl⟩
      by_cases c4 : [UInt8.ofNat b] ∈ T
      · have h0 := ofT_nonneg.2 ⟨by simp, c4⟩
        (repeat ((conv => whnf); (first | (with_reducible first | refine jA ?_ | refine jB ?_ | refine jC ?_ | refine jD ?_) | refine jE ?_ | refine jF ?_ | refine jG ?_ | refine jH ?_ | refine jI ?_ | refine jJ ?_ | refine jK ?_ | refine jL ?_ | refine jM ?_ | refine jN ?_ | refine jO ?_ | refine jP ?_ | refine jQ ?_ | refine jR ?_ | refine jS (k := ?_) | refine jT (k := ?_)))); (conv => whnf)
        exact hagain2 (b + 1) _ ⟨by omega, hx13, fun c hc => by
          by_cases hcb : c = b
          · subst hcb; exact c4
          · exact hby c (by omega)⟩ (by omega)
      · have h0 : ofT T [UInt8.ofNat b] = -1 := ofT_no c4
        rw [h0]
        (repeat ((conv => whnf); (first | (with_reducible first | refine jA ?_ | refine jB ?_ | refine jC ?_ | refine jD ?_) | refine jE ?_ | refine jF ?_ | refine jG ?_ | refine jH ?_ | refine jI ?_ | refine jJ ?_ | refine jK ?_ | refine jL ?_ | refine jM ?_ | refine jN ?_ | refine jO ?_ | refine jP ?_ | refine jQ ?_ | refine jR ?_ | refine jS (k := ?_) | refine jT (k := ?_)))); (conv => whnf)
        exact ⟨hx13, false, rfl, ff_iff fun h => c4 (h.all b hb2)⟩
    · (repeat ((conv => whnf); (first | (with_reducible first | refine jA ?_ | refine jB ?_ | refine jC ?_ | refine jD ?_) | refine jE ?_ | refine jF ?_ | refine jG ?_ | refine jH ?_ | refine jI ?_ | refine jJ ?_ | refine jK ?_ | refine jL ?_ | refine jM ?_ | refine jN ?_ | refine jO ?_ | refine jP ?_ | refine jQ ?_ | refine jR ?_ | refine jS (k := ?_) | refine jT (k := ?_)))); (conv => whnf)
      refine ⟨hx2, true, rfl, ⟨fun _ => ⟨fun s hs => ?_, fun k hk => (hall k (by omega)).2, fun c hc => hby c (by omega)⟩, fun _ => rfl⟩⟩
      obtain ⟨k, hk, rfl⟩ := tk_mem.1 hs
      exact (hall k (by omega)).1
theorem rMade_ok (h : IsV w v x) (hs : Small v) : Cal Try.prog 61 ⟨[.agg ⟨vcs x⟩]⟩ w fun u w' => Ext w w' ∧ ∃ b, u = .bool b ∧ (b = true ↔ MadeOk v.T v.M) := by
  obtain ⟨hlT, hlM, hlS⟩ := h.lens
  have hnt := hs.nt
  have hnm := hs.nm
  refine go61 (by rfl) ?_
  (repeat ((conv => whnf); (first | (with_reducible first | refine jA ?_ | refine jB ?_ | refine jC ?_ | refine jD ?_) | refine jE ?_ | refine jF ?_ | refine jG ?_ | refine jH ?_ | refine jI ?_ | refine jJ ?_ | refine jK ?_ | refine jL ?_ | refine jM ?_ | refine jN ?_ | refine jO ?_ | refine jP ?_ | refine jQ ?_ | refine jR ?_ | refine jS (k := ?_) | refine jT (k := ?_)))); (conv => whnf)
  refine r_new fun p w1 hx1 hb1 hs1 hblk => ?_
  have hblk : Blk w1 p 50 [.slice x.aT x.lT x.cT, .slice x.aM x.lM x.cM, .slice x.aS x.lS x.cS] := hblk
  have h1 := h.ext hx1
  (repeat ((conv => whnf); (first | (with_reducible first | refine jA ?_ | refine jB ?_ | refine jC ?_ | refine jD ?_) | refine jE ?_ | refine jF ?_ | refine jG ?_ | refine jH ?_ | refine jI ?_ | refine jJ ?_ | refine jK ?_ | refine jL ?_ | refine jM ?_ | refine jN ?_ | refine jO ?_ | refine jP ?_ | refine jQ ?_ | refine jR ?_ | refine jS (k := ?_) | refine jT (k := ?_)))); (conv => whnf)
  refine r_loop (σ := Nat) (fun i => [.int .i64 (i : Int)]) (fun i w' => i ≤ x.lT ∧ w' = w1 ∧ ∀ k : Nat, k < i → (tk v.T k).length < 2 ∨ ∃ m ∈ v.M, m.o = k) (fun i _ => x.lT - i) 0 rfl ⟨by omega, rfl, fun k hk => by omega⟩ ?_
  rintro i w2 again ⟨hi, rfl, hall⟩ hagain
  by_cases hil : i < x.lT
  · have hp := h1.t.plain (by rw [tv_len]; omega)
    have hg : (tv v.T)[(i : Int).toNat * 1]? = some (.string (bstr (tk v.T i))) := by simpa using tv_get (T := v.T) (i := i) (by omega)
    have hsz := bstr_size (tk v.T i)
    have hl80 := tk_len hs.tl (i : Int)
    (repeat ((conv => whnf); (first | (with_reducible first | refine jA ?_ | refine jB ?_ | refine jC ?_ | refine jD ?_) | refine jE ?_ | refine jF ?_ | refine jG ?_ | refine jH ?_ | refine jI ?_ | refine jJ ?_ | refine jK ?_ | refine jL ?_ | refine jM ?_ | refine jN ?_ | refine jO ?_ | refine jP ?_ | refine jQ ?_ | refine jR ?_ | refine jS (k := ?_) | refine jT (k := ?_)))); (conv => whnf)
    refine r_ldv h1.t hg ?_
    (repeat ((conv => whnf); (first | (with_reducible first | refine jA ?_ | refine jB ?_ | refine jC ?_ | refine jD ?_) | refine jE ?_ | refine jF ?_ | refine jG ?_ | refine jH ?_ | refine jI ?_ | refine jJ ?_ | refine jK ?_ | refine jL ?_ | refine jM ?_ | refine jN ?_ | refine jO ?_ | refine jP ?_ | refine jQ ?_ | refine jR ?_ | refine jS (k := ?_) | refine jT (k := ?_)))); (conv => whnf)
    refine r_loop (σ := Bool × Nat) (fun s => [.bool s.1, .int .i64 (s.2 : Int)]) (fun s w' => s.2 ≤ x.lM ∧ w' = w2 ∧ (s.1 = true ↔ (tk v.T i).length < 2 ∨ ∃ k, k < s.2 ∧ (gm v.M k).o = i)) (fun s _ => x.lM - s.2) (decide ((tk v.T i).length < 2), 0) (by dsimp only; congr 3; rw [hsz]; exact propext (by omega)) ⟨Nat.zero_le _, rfl, by simp⟩ ?_
    rintro ⟨b, j⟩ w3 again2 ⟨hj, rfl, hiff⟩ hagain2
    dsimp only at hj hiff hagain2 ⊢
    by_cases hjl : j < x.lM
    · have hpm := h1.m.plain (by rw [mv_len]; omega)
      cases b with
      | true =>
        (repeat ((conv => whnf); (first | (with_reducible first | refine jA ?_ | refine jB ?_ | refine jC ?_ | refine jD ?_) | refine jE ?_ | refine jF ?_ | refine jG ?_ | refine jH ?_ | refine jI ?_ | refine jJ ?_ | refine jK ?_ | refine jL ?_ | refine jM ?_ | refine jN ?_ | refine jO ?_ | refine jP ?_ | refine jQ ?_ | refine jR ?_ | refine jS (k := ?_) | refine jT (k := ?_)))); (conv => whnf)
        refine hagain2 (true, j + 1) _ ⟨by dsimp only; omega, rfl, ⟨fun _ => ?_, fun _ => rfl⟩⟩ (by dsimp only; omega)
        rcases hiff.1 rfl with h2 | ⟨k, hk, he⟩
        · exact .inl h2
        · exact .inr ⟨k, by dsimp only; omega, he⟩
      | false =>
        (repeat ((conv => whnf); (first | (with_reducible first | refine jA ?_ | refine jB ?_ | refine jC ?_ | refine jD ?_) | refine jE ?_ | refine jF ?_ | refine jG ?_ | refine jH ?_ | refine jI ?_ | refine jJ ?_ | refine jK ?_ | refine jL ?_ | refine jM ?_ | refine jN ?_ | refine jO ?_ | refine jP ?_ | refine jQ ?_ | refine jR ?_ | refine jS (k := ?_) | refine jT (k := ?_)))); (conv => whnf)
        rw [adrV]
        refine r_ldv h1.m (mv_cell (M := v.M) (i := j) (by omega) 2 (by omega)) ?_
        (repeat ((conv => whnf); (first | (with_reducible first | refine jA ?_ | refine jB ?_ | refine jC ?_ | refine jD ?_) | refine jE ?_ | refine jF ?_ | refine jG ?_ | refine jH ?_ | refine jI ?_ | refine jJ ?_ | refine jK ?_ | refine jL ?_ | refine jM ?_ | refine jN ?_ | refine jO ?_ | refine jP ?_ | refine jQ ?_ | refine jR ?_ | refine jS (k := ?_) | refine jT (k := ?_)))); (conv => whnf)
        refine hagain2 (_, j + 1) _ ⟨by dsimp only; omega, rfl, ?_⟩ (by dsimp only; omega)
        dsimp only
        rw [beq_iff_eq]
        constructor
        · intro he
          exact .inr ⟨j, by omega, he⟩
        · rintro (h2 | ⟨k, hk, he⟩)
          · exact absurd (hiff.2 (.inl h2)) (by simp)
          · by_cases hkj : k = j
            · subst hkj; exact he
            · exact absurd (hiff.2 (.inr ⟨k, by omega, he⟩)) (by simp)
    · have hjx : j = x.lM := by omega
      subst hjx
      cases b with
      | true =>
        (repeat ((conv => whnf); (first | (with_reducible first | refine jA ?_ | refine jB ?_ | refine jC ?_ | refine jD ?_) | refine jE ?_ | refine jF ?_ | refine jG ?_ | refine jH ?_ | refine jI ?_ | refine jJ ?_ | refine jK ?_ | refine jL ?_ | refine jM ?_ | refine jN ?_ | refine jO ?_ | refine jP ?_ | refine jQ ?_ | refine jR ?_ | refine jS (k := ?_) | refine jT (k := ?_)))); (conv => whnf)
        refine hagain (i + 1) _ ⟨by omega, rfl, fun k hk => ?_⟩ (by omega)
        by_cases hki : k = i
        · subst hki
          rcases hiff.1 rfl with h2 | ⟨m, hm, he⟩
          · exact .inl h2
          · exact .inr ⟨_, gm_mem.2 ⟨m, by omega, rfl⟩, he⟩
        · exact hall k (by omega)
      | false =>
        (repeat ((conv => whnf); (first | (with_reducible first | refine jA ?_ | refine jB ?_ | refine jC ?_ | refine jD ?_) | refine jE ?_ | refine jF ?_ | refine jG ?_ | refine jH ?_ | refine jI ?_ | refine jJ ?_ | refine jK ?_ | refine jL ?_ | refine jM ?_ | refine jN ?_ | refine jO ?_ | refine jP ?_ | refine jQ ?_ | refine jR ?_ | refine jS (k := ?_) | refine jT (k := ?_)))); (conv => whnf)
        refine ⟨hx1, false, rfl, ff_iff fun hm => ?_⟩
        have := hiff.2 (by
          rcases hm i (by omega) with h2 | ⟨m, hm, he⟩
          · exact .inl h2
          · obtain ⟨k, hk, rfl⟩ := gm_mem.1 hm
            exact .inr ⟨k, by omega, he⟩)
        cases this
  · (repeat ((conv => whnf); (first | (with_reducible first | refine jA ?_ | refine jB ?_ | refine jC ?_ | refine jD ?_) | refine jE ?_ | refine jF ?_ | refine jG ?_ | refine jH ?_ | refine jI ?_ | refine jJ ?_ | refine jK ?_ | refine jL ?_ | refine jM ?_ | refine jN ?_ | refine jO ?_ | refine jP ?_ | refine jQ ?_ | refine jR ?_ | refine jS (k := ?_) | refine jT (k := ?_)))); (conv => whnf)
    exact ⟨hx1, true, rfl, ⟨fun _ i hi => hall i (by omega), fun _ => rfl⟩⟩
end
end Fb.Try.VO
