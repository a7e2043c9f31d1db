/-
  Walks: the package's rules for tokens; comparing merges.
-/
import Derived.Test.YtnofndhlhbbhdaaPc
import Derived.Test.YtnofndhlhbbhdaaPx
import Derived.Test.YtnofndhlhbbhdaaVz
namespace Fb.Try.VO
open Go Go.Proofs Fb Fb.Bytes
theorem ustr : Try.prog.underlying 9 = some .string := by kernel_rfl
theorem umapS : Try.prog.underlying 137 = some (.map 9 3) := by kernel_rfl
theorem keyedS : Maps.Keyed Try.prog 9 := Maps.string_keyed ustr
theorem key_str {s : List UInt8} (h : s.length ≤ 1000) : keyOf Try.prog 9 (.string (bstr s)) = some (.string s) := by
  have := Go.WideMaps.keyOf_string_mk (P := Try.prog) ustr (s := bstr s) (by rw [bstr_size]; unfold maxLen; omega)
  rw [this]
  rfl
theorem bstr_inj {s t : List UInt8} (h : bstr s = bstr t) : s = t := by
  have := congrArg ByteArray.toList h
  rwa [bstr_list, bstr_list] at this
section
variable {w w' : World} {a : Option Addr} {len cap : Nat} {T : List (List UInt8)}
set_option maxRecDepth 100000 in
theorem IndexS_ok (hv : View w a len cap 1 (tv T)) (f : FuncId) (p : List UInt8 → Bool) (hc : callable Try.prog f = true)
    (hcall : ∀ s ∈ T, ∀ w', Ext w w' → Cal Try.prog f ⟨[.string (bstr s)]⟩ w' fun v w'' => Ext w' w'' ∧ v = .bool (p s)) :
    Cal Try.prog 88 ⟨[.slice a len cap, .func (.func f) ⟨[]⟩ ⟨[]⟩]⟩ w fun v w' => Ext w w' ∧ ∃ r, v = .int .i64 r ∧ (0 ≤ r ↔ ∃ s ∈ T, p s = true) := by
  have hl := tv_lens hv
  have m1 := hv.le
  have m2 := hv.max
  unfold maxLen at m2
  refine go88 (by rfl) ?_
  (repeat ((conv => whnf); (first | (with_reducible first | refine jA ?_ | refine jB ?_ | refine jC ?_ | refine jD ?_) | refine jE ?_ | refine jF ?_ | refine jG ?_ | refine jH ?_ | refine jI ?_ | refine jJ ?_ | refine jK ?_ | refine jL ?_ | refine jM ?_ | refine jN ?_ | refine jO ?_ | refine jP ?_ | refine jQ ?_ | refine jR ?_ | refine jS (k := ?_) | refine jT (k := ?_)))); (conv => whnf)
  refine r_loop (σ := Nat) (fun i => [.int .i64 (i : Int)]) (fun i w' => i ≤ len ∧ Ext w w' ∧ ∀ j : Nat, j < i → p (tk T j) = false) (fun i _ => len - i) 0 rfl ⟨by omega, Ext.refl w, fun j hj => by omega⟩ ?_
  rintro i w1 again ⟨hi, hx1, hno⟩ hagain
  by_cases hil : i < len
  · have hp := hv.plain (by rw [tv_len]; omega)
    (repeat ((conv => whnf); (first | (with_reducible first | refine jA ?_ | refine jB ?_ | refine jC ?_ | refine jD ?_) | refine jE ?_ | refine jF ?_ | refine jG ?_ | refine jH ?_ | refine jI ?_ | refine jJ ?_ | refine jK ?_ | refine jL ?_ | refine jM ?_ | refine jN ?_ | refine jO ?_ | refine jP ?_ | refine jQ ?_ | refine jR ?_ | refine jS (k := ?_) | refine jT (k := ?_)))); (conv => whnf)
    refine r_ldv (j := (i : Int).toNat * 1) (hv.ext hx1) (by simpa using tv_get (T := T) (i := i) (by omega)) ?_
    (repeat ((conv => whnf); (first | (with_reducible first | refine jA ?_ | refine jB ?_ | refine jC ?_ | refine jD ?_) | refine jE ?_ | refine jF ?_ | refine jG ?_ | refine jH ?_ | refine jI ?_ | refine jJ ?_ | refine jK ?_ | refine jL ?_ | refine jM ?_ | refine jN ?_ | refine jO ?_ | refine jP ?_ | refine jQ ?_ | refine jR ?_ | refine jS (k := ?_) | refine jT (k := ?_)))); (conv => whnf)
    have hmem : tk T i ∈ T := tk_mem.2 ⟨i, by omega, rfl⟩
    refine r_calV hc (hcall _ hmem w1 hx1) ?_
    rintro _ w2 ⟨hx2, rfl⟩
    cases hq : p (tk T i) with
    | true =>
      (repeat ((conv => whnf); (first | (with_reducible first | refine jA ?_ | refine jB ?_ | refine jC ?_ | refine jD ?_) | refine jE ?_ | refine jF ?_ | refine jG ?_ | refine jH ?_ | refine jI ?_ | refine jJ ?_ | refine jK ?_ | refine jL ?_ | refine jM ?_ | refine jN ?_ | refine jO ?_ | refine jP ?_ | refine jQ ?_ | refine jR ?_ | refine jS (k := ?_) | refine jT (k := ?_)))); (conv => whnf)
      exact ⟨hx1.trans hx2, i, rfl, ⟨fun _ => ⟨_, hmem, hq⟩, fun _ => by omega⟩⟩
    | false =>
      (repeat ((conv => whnf); (first | (with_reducible first | refine jA ?_ | refine jB ?_ | refine jC ?_ | refine jD ?_) | refine jE ?_ | refine jF ?_ | refine jG ?_ | refine jH ?_ | refine jI ?_ | refine jJ ?_ | refine jK ?_ | refine jL ?_ | refine jM ?_ | refine jN ?_ | refine jO ?_ | refine jP ?_ | refine jQ ?_ | refine jR ?_ | refine jS (k := ?_) | refine jT (k := ?_)))); (conv => whnf)
      refine hagain (i + 1) w2 ⟨by omega, hx1.trans hx2, fun j hj => ?_⟩ (by omega)
      by_cases hji : j = i
      · subst hji; exact hq
      · exact hno j (by omega)
  · (repeat ((conv => whnf); (first | (with_reducible first | refine jA ?_ | refine jB ?_ | refine jC ?_ | refine jD ?_) | refine jE ?_ | refine jF ?_ | refine jG ?_ | refine jH ?_ | refine jI ?_ | refine jJ ?_ | refine jK ?_ | refine jL ?_ | refine jM ?_ | refine jN ?_ | refine jO ?_ | refine jP ?_ | refine jQ ?_ | refine jR ?_ | refine jS (k := ?_) | refine jT (k := ?_)))); (conv => whnf)
    refine ⟨hx1, -1, rfl, ⟨fun h => by omega, ?_⟩⟩
    rintro ⟨s, hs, hps⟩
    obtain ⟨j, hj, rfl⟩ := tk_mem.1 hs
    rw [hno j (by omega)] at hps
    cases hps
set_option maxRecDepth 100000 in
theorem ContainsS_ok (hv : View w a len cap 1 (tv T)) (f : FuncId) (p : List UInt8 → Bool) (hc : callable Try.prog f = true)
    (hcall : ∀ s ∈ T, ∀ w', Ext w w' → Cal Try.prog f ⟨[.string (bstr s)]⟩ w' fun v w'' => Ext w' w'' ∧ v = .bool (p s)) :
    Cal Try.prog 82 ⟨[.slice a len cap, .func (.func f) ⟨[]⟩ ⟨[]⟩]⟩ w fun v w' => Ext w w' ∧ ∃ b, v = .bool b ∧ (b = true ↔ ∃ s ∈ T, p s = true) := by
  refine go82 (by rfl) ?_
  (repeat ((conv => whnf); (first | (with_reducible first | refine jA ?_ | refine jB ?_ | refine jC ?_ | refine jD ?_) | refine jE ?_ | refine jF ?_ | refine jG ?_ | refine jH ?_ | refine jI ?_ | refine jJ ?_ | refine jK ?_ | refine jL ?_ | refine jM ?_ | refine jN ?_ | refine jO ?_ | refine jP ?_ | refine jQ ?_ | refine jR ?_ | refine jS (k := ?_) | refine jT (k := ?_)))); (conv => whnf)
  refine r_cal (IndexS_ok hv f p hc hcall) ?_
  rintro _ w1 ⟨hx1, r, rfl, hr⟩
  (repeat ((conv => whnf); (first | (with_reducible first | refine jA ?_ | refine jB ?_ | refine jC ?_ | refine jD ?_) | refine jE ?_ | refine jF ?_ | refine jG ?_ | refine jH ?_ | refine jI ?_ | refine jJ ?_ | refine jK ?_ | refine jL ?_ | refine jM ?_ | refine jN ?_ | refine jO ?_ | refine jP ?_ | refine jQ ?_ | refine jR ?_ | refine jS (k := ?_) | refine jT (k := ?_)))); (conv => whnf)
  exact ⟨hx1, _, rfl, by rw [← hr, decide_eq_true_eq]⟩
set_option maxRecDepth 100000 in
theorem long_ok (w : World) (s : List UInt8) (hs : s.length ≤ 1000) : Cal Try.prog 83 ⟨[.string (bstr s)]⟩ w fun v w' => Ext w w' ∧ v = .bool (decide (64 < s.length)) := by
  have hsz := bstr_size s
  refine go83 (by rfl) ?_
  (repeat ((conv => whnf); (first | (with_reducible first | refine jA ?_ | refine jB ?_ | refine jC ?_ | refine jD ?_) | refine jE ?_ | refine jF ?_ | refine jG ?_ | refine jH ?_ | refine jI ?_ | refine jJ ?_ | refine jK ?_ | refine jL ?_ | refine jM ?_ | refine jN ?_ | refine jO ?_ | refine jP ?_ | refine jQ ?_ | refine jR ?_ | refine jS (k := ?_) | refine jT (k := ?_)))); (conv => whnf)
  refine ⟨Ext.refl _, ?_⟩
  rw [hsz]
  congr 1
  rw [decide_eq_decide]
  omega
/-- What a map of tokens tells. -/
structure PlM (T : List (List UInt8)) (i : Nat) (f : Value → Option Value) : Prop where
  has : ∀ s : List UInt8, (f (.string (bstr s))).isSome = true ↔ s ≠ [] ∧ ∃ k : Nat, k < i ∧ tk T k = s
  key : ∀ key, f key ≠ none → key ∈ tv T
set_option maxRecDepth 100000 in
theorem places_ok (hv : View w a len cap 1 (tv T)) (hT : T.length ≤ 600) (hl : ∀ s ∈ T, s.length ≤ 80) : Cal Try.prog 84 ⟨[.slice a len cap]⟩ w fun v w' => Ext w w' ∧
    ((Uniq T ∧ ∃ mb f, v = .tuple ⟨[.map (some mb), .bool true]⟩ ∧ MapV Try.prog 9 w' mb f ∧ PlM T T.length f) ∨ (¬ Uniq T ∧ v = .tuple ⟨[.map none, .bool false]⟩)) := by
  have hlen := tv_lens hv
  refine go84 (by rfl) ?_
  (repeat ((conv => whnf); (first | (with_reducible first | refine jA ?_ | refine jB ?_ | refine jC ?_ | refine jD ?_) | refine jE ?_ | refine jF ?_ | refine jG ?_ | refine jH ?_ | refine jI ?_ | refine jJ ?_ | refine jK ?_ | refine jL ?_ | refine jM ?_ | refine jN ?_ | refine jO ?_ | refine jP ?_ | refine jQ ?_ | refine jR ?_ | refine jS (k := ?_) | refine jT (k := ?_)))); (conv => whnf)
  refine r_makeMap (k := 9) fun w1 hx1 hs1 hm1 => ?_
  have hge : w.heap.size ≤ w.heap.size := Nat.le_refl _
  generalize hmb : w.heap.size = mb at hm1 hge ⊢
  (repeat ((conv => whnf); (first | (with_reducible first | refine jA ?_ | refine jB ?_ | refine jC ?_ | refine jD ?_) | refine jE ?_ | refine jF ?_ | refine jG ?_ | refine jH ?_ | refine jI ?_ | refine jJ ?_ | refine jK ?_ | refine jL ?_ | refine jM ?_ | refine jN ?_ | refine jO ?_ | refine jP ?_ | refine jQ ?_ | refine jR ?_ | refine jS (k := ?_) | refine jT (k := ?_)))); (conv => whnf)
  refine r_loop (σ := Nat) (fun i => [.int .i64 (i : Int)]) (fun i w' => i ≤ len ∧ Ext w w' ∧ (∀ p q : Nat, p < i → q < i → tk T p ≠ [] → tk T p = tk T q → p = q) ∧ ∃ f, MapV Try.prog 9 w' mb f ∧ PlM T i f) (fun i _ => len - i) 0 rfl ⟨by omega, hx1, fun p q hp => by omega, _, hm1, ⟨fun s => ⟨fun h => by simp at h, fun h => by obtain ⟨_, k, hk, _⟩ := h; omega⟩, fun key hk => absurd rfl hk⟩⟩ ?_
  clear hm1
  rintro i w2 again ⟨hi, hx2, hun, f, hm2, hpl⟩ hagain
  by_cases hil : i < len
  rotate_left
  · (repeat ((conv => whnf); (first | (with_reducible first | refine jA ?_ | refine jB ?_ | refine jC ?_ | refine jD ?_) | refine jE ?_ | refine jF ?_ | refine jG ?_ | refine jH ?_ | refine jI ?_ | refine jJ ?_ | refine jK ?_ | refine jL ?_ | refine jM ?_ | refine jN ?_ | refine jO ?_ | refine jP ?_ | refine jQ ?_ | refine jR ?_ | refine jS (k := ?_) | refine jT (k := ?_)))); (conv => whnf)
    refine ⟨hx2, .inl ⟨fun p q hp hq hn he => hun p q (by omega) (by omega) hn he, mb, f, rfl, hm2, ?_⟩⟩
    rw [show T.length = i by omega]
    exact hpl
  have hp := hv.plain (by rw [tv_len]; omega)
  have hl80 := tk_len hl (i : Int)
  (repeat ((conv => whnf); (first | (with_reducible first | refine jA ?_ | refine jB ?_ | refine jC ?_ | refine jD ?_) | refine jE ?_ | refine jF ?_ | refine jG ?_ | refine jH ?_ | refine jI ?_ | refine jJ ?_ | refine jK ?_ | refine jL ?_ | refine jM ?_ | refine jN ?_ | refine jO ?_ | refine jP ?_ | refine jQ ?_ | refine jR ?_ | refine jS (k := ?_) | refine jT (k := ?_)))); (conv => whnf)
  refine r_ldv (j := (i : Int).toNat * 1) (hv.ext hx2) (by simpa using tv_get (T := T) (i := i) (by omega)) ?_
  (repeat ((conv => whnf); (first | (with_reducible first | refine jA ?_ | refine jB ?_ | refine jC ?_ | refine jD ?_) | refine jE ?_ | refine jF ?_ | refine jG ?_ | refine jH ?_ | refine jI ?_ | refine jJ ?_ | refine jK ?_ | refine jL ?_ | refine jM ?_ | refine jN ?_ | refine jO ?_ | refine jP ?_ | refine jQ ?_ | refine jR ?_ | refine jS (k := ?_) | refine jT (k := ?_)))); (conv => whnf)
  by_cases c1 : tk T i = []
  · refine r_s0t c1 ?_
    (repeat ((conv => whnf); (first | (with_reducible first | refine jA ?_ | refine jB ?_ | refine jC ?_ | refine jD ?_) | refine jE ?_ | refine jF ?_ | refine jG ?_ | refine jH ?_ | refine jI ?_ | refine jJ ?_ | refine jK ?_ | refine jL ?_ | refine jM ?_ | refine jN ?_ | refine jO ?_ | refine jP ?_ | refine jQ ?_ | refine jR ?_ | refine jS (k := ?_) | refine jT (k := ?_)))); (conv => whnf)
    refine hagain (i + 1) w2 ⟨by omega, hx2, fun p q hp hq hn he => ?_, f, hm2, fun s => ?_, hpl.key⟩ (by omega)
    · have h1 : p ≠ i := fun e => hn (by rw [e]; exact c1)
      have h2 : q ≠ i := fun e => hn (by rw [he, e]; exact c1)
      exact hun p q (by omega) (by omega) hn he
    · rw [hpl.has]
      constructor
      · rintro ⟨hn, k, hk, he⟩
        exact ⟨hn, k, by omega, he⟩
      · rintro ⟨hn, k, hk, he⟩
        have : k ≠ i := fun e => hn (by rw [← he, e]; exact c1)
        exact ⟨hn, k, by omega, he⟩
  refine r_s0f c1 ?_
  (repeat ((conv => whnf); (first | (with_reducible first | refine jA ?_ | refine jB ?_ | refine jC ?_ | refine jD ?_) | refine jE ?_ | refine jF ?_ | refine jG ?_ | refine jH ?_ | refine jI ?_ | refine jJ ?_ | refine jK ?_ | refine jL ?_ | refine jM ?_ | refine jN ?_ | refine jO ?_ | refine jP ?_ | refine jQ ?_ | refine jR ?_ | refine jS (k := ?_) | refine jT (k := ?_)))); (conv => whnf)
  refine r_look hm2 keyedS umapS QU.zint (key_str (by omega)) ?_
  by_cases c2 : (f (.string (bstr (tk T i)))).isSome = true
  · rw [c2]
    (repeat ((conv => whnf); (first | (with_reducible first | refine jA ?_ | refine jB ?_ | refine jC ?_ | refine jD ?_) | refine jE ?_ | refine jF ?_ | refine jG ?_ | refine jH ?_ | refine jI ?_ | refine jJ ?_ | refine jK ?_ | refine jL ?_ | refine jM ?_ | refine jN ?_ | refine jO ?_ | refine jP ?_ | refine jQ ?_ | refine jR ?_ | refine jS (k := ?_) | refine jT (k := ?_)))); (conv => whnf)
    refine ⟨hx2, .inr ⟨fun hu => ?_, rfl⟩⟩
    obtain ⟨_, k, hk, he⟩ := (hpl.has _).1 c2
    have := hu k i (by omega) (by omega) (by rw [he]; exact c1) he
    omega
  · rw [show (f (.string (bstr (tk T i)))).isSome = false by simpa using c2]
    (repeat ((conv => whnf); (first | (with_reducible first | refine jA ?_ | refine jB ?_ | refine jC ?_ | refine jD ?_) | refine jE ?_ | refine jF ?_ | refine jG ?_ | refine jH ?_ | refine jI ?_ | refine jJ ?_ | refine jK ?_ | refine jL ?_ | refine jM ?_ | refine jN ?_ | refine jO ?_ | refine jP ?_ | refine jQ ?_ | refine jR ?_ | refine jS (k := ?_) | refine jT (k := ?_)))); (conv => whnf)
    refine r_mapSet hm2 keyedS umapS _ hpl.key (by rw [tv_len]; unfold maxLen; omega) (key_str (by omega)) fun w3 hc3 hs3 hm3 => ?_
    (repeat ((conv => whnf); (first | (with_reducible first | refine jA ?_ | refine jB ?_ | refine jC ?_ | refine jD ?_) | refine jE ?_ | refine jF ?_ | refine jG ?_ | refine jH ?_ | refine jI ?_ | refine jJ ?_ | refine jK ?_ | refine jL ?_ | refine jM ?_ | refine jN ?_ | refine jO ?_ | refine jP ?_ | refine jQ ?_ | refine jR ?_ | refine jS (k := ?_) | refine jT (k := ?_)))); (conv => whnf)
    refine hagain (i + 1) w3 ⟨by omega, Chg.step hx2 hc3 fun k hk hlt => by omega, fun p q hp hq hn he => ?_, _, hm3, fun s => ?_, fun key hk => ?_⟩ (by omega)
    · have hno : ∀ k : Nat, k < i → tk T k ≠ tk T i := fun k hk e => c2 ((hpl.has _).2 ⟨c1, k, hk, e⟩)
      by_cases hpi : p = i
      · by_cases hqi : q = i
        · omega
        · exact absurd (by rw [← he, hpi]) (hno q (by omega))
      · by_cases hqi : q = i
        · exact absurd (by rw [he, hqi]) (hno p (by omega))
        · exact hun p q (by omega) (by omega) hn he
    · by_cases hs : s = tk T i
      · subst hs
        rw [upd_same]
        simp only [Option.isSome_some, true_iff]
        exact ⟨c1, i, by omega, rfl⟩
      · rw [upd_ne _ _ fun e => hs (bstr_inj (by injection e)), hpl.has]
        constructor
        · rintro ⟨hn, k, hk, he⟩
          exact ⟨hn, k, by omega, he⟩
        · rintro ⟨hn, k, hk, he⟩
          have : k ≠ i := fun e => hs (by rw [← he, e])
          exact ⟨hn, k, by omega, he⟩
    · by_cases hk2 : key = .string (bstr (tk T i))
      · subst hk2
        exact List.mem_of_getElem? (tv_get (T := T) (i := i) (by omega))
      · rw [upd_ne _ _ hk2] at hk
        exact hpl.key key hk
theorem tok_ok (hv : View w a len cap 1 (tv T)) (hT : T.length ≤ 600) (hl : ∀ s ∈ T, s.length ≤ 80) : Cal Try.prog 72 ⟨[.slice a len cap]⟩ w fun v w' => Ext w w' ∧ ∃ b, v = .bool b ∧ (b = true ↔ TokOk T) := by
  have hlen := tv_lens hv
  refine go72 (by rfl) ?_
  (repeat ((conv => whnf); (first | (with_reducible first | refine jA ?_ | refine jB ?_ | refine jC ?_ | refine jD ?_) | refine jE ?_ | refine jF ?_ | refine jG ?_ | refine jH ?_ | refine jI ?_ | refine jJ ?_ | refine jK ?_ | refine jL ?_ | refine jM ?_ | refine jN ?_ | refine jO ?_ | refine jP ?_ | refine jQ ?_ | refine jR ?_ | refine jS (k := ?_) | refine jT (k := ?_)))); (conv => whnf)
  refine r_cal (ContainsS_ok hv 83 (fun s => decide (64 < s.length)) (by kernel_rfl) fun s hs w' _ => long_ok w' s (by have := hl s hs; omega)) ?_
  rintro _ w1 ⟨hx1, b1, rfl, hb1⟩
  cases b1 with
  | true =>
    (repeat ((conv => whnf); (first | (with_reducible first | refine jA ?_ | refine jB ?_ | refine jC ?_ | refine jD ?_) | refine jE ?_ | refine jF ?_ | refine jG ?_ | refine jH ?_ | refine jI ?_ | refine jJ ?_ | refine jK ?_ | refine jL ?_ | refine jM ?_ | refine jN ?_ | refine jO ?_ | refine jP ?_ | refine jQ ?_ | refine jR ?_ | refine jS (k := ?_) | refine jT (k := ?_)))); (conv => whnf)
    obtain ⟨s, hs, hlong⟩ := hb1.1 rfl
    rw [decide_eq_true_eq] at hlong
    exact ⟨hx1, false, rfl, ff_iff fun hh => by have := hh.len s hs; omega⟩
  | false =>
  have hshort : ∀ s ∈ T, s.length ≤ 64 := fun s hs => by
    rcases Nat.lt_or_ge 64 s.length with h | h
    · have := hb1.2 ⟨s, hs, by simpa using h⟩
      cases this
    · exact h
  (repeat ((conv => whnf); (first | (with_reducible first | refine jA ?_ | refine jB ?_ | refine jC ?_ | refine jD ?_) | refine jE ?_ | refine jF ?_ | refine jG ?_ | refine jH ?_ | refine jI ?_ | refine jJ ?_ | refine jK ?_ | refine jL ?_ | refine jM ?_ | refine jN ?_ | refine jO ?_ | refine jP ?_ | refine jQ ?_ | refine jR ?_ | refine jS (k := ?_) | refine jT (k := ?_)))); (conv => whnf)
  refine r_cal (places_ok (hv.ext hx1) hT hl) ?_
  rintro _ w2 ⟨hx2, ⟨hun, mb, f, rfl, hm, hpl⟩ | ⟨hun, rfl⟩⟩
  · have hx02 := hx1.trans hx2
    (repeat ((conv => whnf); (first | (with_reducible first | refine jA ?_ | refine jB ?_ | refine jC ?_ | refine jD ?_) | refine jE ?_ | refine jF ?_ | refine jG ?_ | refine jH ?_ | refine jI ?_ | refine jJ ?_ | refine jK ?_ | refine jL ?_ | refine jM ?_ | refine jN ?_ | refine jO ?_ | refine jP ?_ | refine jQ ?_ | refine jR ?_ | refine jS (k := ?_) | refine jT (k := ?_)))); (conv => whnf)
    refine r_loop (σ := Nat) (fun b => [.int .i64 (b : Int)]) (fun b w' => b ≤ 256 ∧ Ext w2 w' ∧ ∀ c, c < b → [UInt8.ofNat c] ∈ T) (fun b _ => 256 - b) 0 rfl ⟨by omega, Ext.refl _, fun c hc => by omega⟩ ?_
    rintro b w3 again2 ⟨hb, hx3, hby⟩ hagain2
    by_cases hb2 : b < 256
    · (repeat ((conv => whnf); (first | (with_reducible first | refine jA ?_ | refine jB ?_ | refine jC ?_ | refine jD ?_) | refine jE ?_ | refine jF ?_ | refine jG ?_ | refine jH ?_ | refine jI ?_ | refine jJ ?_ | refine jK ?_ | refine jL ?_ | refine jM ?_ | refine jN ?_ | refine jO ?_ | refine jP ?_ | refine jQ ?_ | refine jR ?_ | refine jS (k := ?_) | refine jT (k := ?_)))); (conv => whnf)
      refine r_new fun q w4 hx4 hb4 hs4 hblk4 => ?_
      have hblk4 : Blk w4 q 5 (bvs [UInt8.ofNat b]) := by rw [byte_cells b hb2]; exact hblk4
      (repeat ((conv => whnf); (first | (with_reducible first | refine jA ?_ | refine jB ?_ | refine jC ?_ | refine jD ?_) | refine jE ?_ | refine jF ?_ | refine jG ?_ | refine jH ?_ | refine jI ?_ | refine jJ ?_ | refine jK ?_ | refine jL ?_ | refine jM ?_ | refine jN ?_ | refine jO ?_ | refine jP ?_ | refine jQ ?_ | refine jR ?_ | refine jS (k := ?_) | refine jT (k := ?_)))); (conv => whnf)
      refine r_conv (l := [UInt8.ofNat b]) (View.of_blk (n := 1) hblk4 rfl (by simp [maxLen])) ?_
      have hx24 := hx3.trans hx4
      (repeat ((conv => whnf); (first | (with_reducible first | refine jA ?_ | refine jB ?_ | refine jC ?_ | refine jD ?_) | refine jE ?_ | refine jF ?_ | refine jG ?_ | refine jH ?_ | refine jI ?_ | refine jJ ?_ | refine jK ?_ | refine jL ?_ | refine jM ?_ | refine jN ?_ | refine jO ?_ | refine jP ?_ | refine jQ ?_ | refine jR ?_ | refine jS (k := ?_) | refine jT (k := ?_)))); (conv => whnf)
      refine r_look (hm.ext hx24) keyedS umapS QU.zint (key_str (by simp)) ?_
      by_cases c4 : [UInt8.ofNat b] ∈ T
      · obtain ⟨k, hk, he⟩ := tk_mem.1 c4
        rw [(hpl.has [UInt8.ofNat b]).2 ⟨by simp, k, hk, he⟩]
        (repeat ((conv => whnf); (first | (with_reducible first | refine jA ?_ | refine jB ?_ | refine jC ?_ | refine jD ?_) | refine jE ?_ | refine jF ?_ | refine jG ?_ | refine jH ?_ | refine jI ?_ | refine jJ ?_ | refine jK ?_ | refine jL ?_ | refine jM ?_ | refine jN ?_ | refine jO ?_ | refine jP ?_ | refine jQ ?_ | refine jR ?_ | refine jS (k := ?_) | refine jT (k := ?_)))); (conv => whnf)
        exact hagain2 (b + 1) _ ⟨by omega, hx24, fun c hc => by
          by_cases hcb : c = b
          · subst hcb; exact c4
          · exact hby c (by omega)⟩ (by omega)
      · have hno : (f (.string (bstr [UInt8.ofNat b]))).isSome = false := by
          cases hf : (f (.string (bstr [UInt8.ofNat b]))).isSome with
          | false => rfl
          | true =>
            obtain ⟨_, k, hk, he⟩ := (hpl.has _).1 hf
            exact absurd (tk_mem.2 ⟨k, hk, he⟩) c4
        rw [hno]
        (repeat ((conv => whnf); (first | (with_reducible first | refine jA ?_ | refine jB ?_ | refine jC ?_ | refine jD ?_) | refine jE ?_ | refine jF ?_ | refine jG ?_ | refine jH ?_ | refine jI ?_ | refine jJ ?_ | refine jK ?_ | refine jL ?_ | refine jM ?_ | refine jN ?_ | refine jO ?_ | refine jP ?_ | refine jQ ?_ | refine jR ?_ | refine jS (k := ?_) | refine jT (k := ?_)))); (conv => whnf)
        exact ⟨hx02.trans hx24, false, rfl, ff_iff fun hh => c4 (hh.all b hb2)⟩
    · (repeat ((conv => whnf); (first | (with_reducible first | refine jA ?_ | refine jB ?_ | refine jC ?_ | refine jD ?_) | refine jE ?_ | refine jF ?_ | refine jG ?_ | refine jH ?_ | refine jI ?_ | refine jJ ?_ | refine jK ?_ | refine jL ?_ | refine jM ?_ | refine jN ?_ | refine jO ?_ | refine jP ?_ | refine jQ ?_ | refine jR ?_ | refine jS (k := ?_) | refine jT (k := ?_)))); (conv => whnf)
      exact ⟨hx02.trans hx3, true, rfl, tt_iff ⟨hshort, uniq_iff.1 hun, fun c hc => hby c (by omega)⟩⟩
  · have hx02 := hx1.trans hx2
    (repeat ((conv => whnf); (first | (with_reducible first | refine jA ?_ | refine jB ?_ | refine jC ?_ | refine jD ?_) | refine jE ?_ | refine jF ?_ | refine jG ?_ | refine jH ?_ | refine jI ?_ | refine jJ ?_ | refine jK ?_ | refine jL ?_ | refine jM ?_ | refine jN ?_ | refine jO ?_ | refine jP ?_ | refine jQ ?_ | refine jR ?_ | refine jS (k := ?_) | refine jT (k := ?_)))); (conv => whnf)
    refine r_loop (σ := Nat) (fun b => [.int .i64 (b : Int)]) (fun b w' => b = 0 ∧ Ext w2 w') (fun b _ => 256 - b) 0 rfl ⟨rfl, Ext.refl _⟩ ?_
    rintro b w3 again2 ⟨rfl, hx3⟩ hagain2
    (repeat ((conv => whnf); (first | (with_reducible first | refine jA ?_ | refine jB ?_ | refine jC ?_ | refine jD ?_) | refine jE ?_ | refine jF ?_ | refine jG ?_ | refine jH ?_ | refine jI ?_ | refine jJ ?_ | refine jK ?_ | refine jL ?_ | refine jM ?_ | refine jN ?_ | refine jO ?_ | refine jP ?_ | refine jQ ?_ | refine jR ?_ | refine jS (k := ?_) | refine jT (k := ?_)))); (conv => whnf)
    refine r_new fun q w4 hx4 hb4 hs4 hblk4 => ?_
    have hblk4 : Blk w4 q 5 (bvs [UInt8.ofNat 0]) := hblk4
    (repeat ((conv => whnf); (first | (with_reducible first | refine jA ?_ | refine jB ?_ | refine jC ?_ | refine jD ?_) | refine jE ?_ | refine jF ?_ | refine jG ?_ | refine jH ?_ | refine jI ?_ | refine jJ ?_ | refine jK ?_ | refine jL ?_ | refine jM ?_ | refine jN ?_ | refine jO ?_ | refine jP ?_ | refine jQ ?_ | refine jR ?_ | refine jS (k := ?_) | refine jT (k := ?_)))); (conv => whnf)
    refine r_conv (l := [UInt8.ofNat 0]) (View.of_blk (n := 1) hblk4 rfl (by simp [maxLen])) ?_
    (repeat ((conv => whnf); (first | (with_reducible first | refine jA ?_ | refine jB ?_ | refine jC ?_ | refine jD ?_) | refine jE ?_ | refine jF ?_ | refine jG ?_ | refine jH ?_ | refine jI ?_ | refine jJ ?_ | refine jK ?_ | refine jL ?_ | refine jM ?_ | refine jN ?_ | refine jO ?_ | refine jP ?_ | refine jQ ?_ | refine jR ?_ | refine jS (k := ?_) | refine jT (k := ?_)))); (conv => whnf)
    refine r_get (v := .tuple ⟨[.int .i64 0, .bool false]⟩) (fun w' e => Maps.look_nil true keyedS umapS (QU.zint w') (key_str (by simp))) ?_
    (repeat ((conv => whnf); (first | (with_reducible first | refine jA ?_ | refine jB ?_ | refine jC ?_ | refine jD ?_) | refine jE ?_ | refine jF ?_ | refine jG ?_ | refine jH ?_ | refine jI ?_ | refine jJ ?_ | refine jK ?_ | refine jL ?_ | refine jM ?_ | refine jN ?_ | refine jO ?_ | refine jP ?_ | refine jQ ?_ | refine jR ?_ | refine jS (k := ?_) | refine jT (k := ?_)))); (conv => whnf)
    exact ⟨hx02.trans (hx3.trans hx4), false, rfl, ff_iff fun hh => hun hh.uniq⟩
end
end Fb.Try.VO
