/-
  Walks: the document's vocabularies, tokens.
-/
import Derived.Test.YtnofndhlhbbhdaaPp
import Derived.Test.YtnofndhlhbbhdaaS2
namespace Fb.Bytes
open Go Fb
section
variable {X Y : Prop} {l k : List UInt8}
theorem eqb_dec (l k : List UInt8) : ((bstr l).toList == (bstr k).toList) = decide (l = k) := by
  rw [bstr_list, bstr_list]
  by_cases h : l = k <;> simp [h]
theorem b0 : (⟨#[]⟩ : ByteArray) = bstr [] := rfl
theorem r_sqt (h : l = k) (x : X) : Cond ((bstr l).toList == (bstr k).toList) X Y := r_true (by rw [eqb_dec, decide_eq_true h]) x
theorem r_sqf (h : ¬ l = k) (y : Y) : Cond ((bstr l).toList == (bstr k).toList) X Y := r_false (by rw [eqb_dec, decide_eq_false h]) y
theorem r_snt (h : ¬ l = k) (x : X) : Cond (!((bstr l).toList == (bstr k).toList)) X Y := r_true (by rw [eqb_dec, decide_eq_false h]; rfl) x
theorem r_snf (h : l = k) (y : Y) : Cond (!((bstr l).toList == (bstr k).toList)) X Y := r_false (by rw [eqb_dec, decide_eq_true h]; rfl) y
theorem r_s0t (h : l = []) (x : X) : Cond ((bstr l).toList == (⟨#[]⟩ : ByteArray).toList) X Y := by rw [b0]; exact r_sqt h x
theorem r_s0f (h : ¬ l = []) (y : Y) : Cond ((bstr l).toList == (⟨#[]⟩ : ByteArray).toList) X Y := by rw [b0]; exact r_sqf h y
theorem r_n0t (h : ¬ l = []) (x : X) : Cond (!((bstr l).toList == (⟨#[]⟩ : ByteArray).toList)) X Y := by rw [b0]; exact r_snt h x
theorem r_n0f (h : l = []) (y : Y) : Cond (!((bstr l).toList == (⟨#[]⟩ : ByteArray).toList)) X Y := by rw [b0]; exact r_snf h y
end
end Fb.Bytes
namespace Fb.Try.VO
open Go Go.Proofs Fb Fb.Bytes
def tv (T : List (List UInt8)) : List Value := T.map fun s => .string (bstr s)
theorem tv_len (T : List (List UInt8)) : (tv T).length = T.length := by simp [tv]
theorem tv_get {T : List (List UInt8)} {i : Nat} (h : i < T.length) : (tv T)[i]? = some (.string (bstr (tk T i))) := by
  unfold tv
  rw [List.getElem?_map, tk_get h]
  rfl
def Mg.cells (m : Mg) : List Value := [.int .i64 m.l, .int .i64 m.r, .int .i64 m.o, .int .i64 m.d]
def Sp.cells (s : Sp) : List Value := [.string (bstr s.name), .int .i64 s.id]
def mv (M : List Mg) : List Value := (M.map Mg.cells).flatten
def sv (S : List Sp) : List Value := (S.map Sp.cells).flatten
theorem flat_len {α : Type} (f : α → List Value) (n : Nat) (hf : ∀ a, (f a).length = n) : ∀ l : List α, (l.map f).flatten.length = l.length * n
  | [] => by simp
  | a :: l => by
    rw [List.map_cons, List.flatten_cons, List.length_append, hf, flat_len f n hf l, List.length_cons, Nat.add_mul]
    omega
theorem flat_ent {α : Type} (f : α → List Value) (n : Nat) (hf : ∀ a, (f a).length = n) : ∀ (l : List α) (i : Nat) (h : i < l.length), ((l.map f).flatten.drop (i * n)).take n = f l[i]
  | a :: l, 0, _ => by simp [hf]
  | a :: l, i + 1, h => by
    have ih := flat_ent f n hf l i (by simpa using h)
    rw [show (i + 1) * n = n + i * n by rw [Nat.add_mul]; omega, List.map_cons, List.flatten_cons, ← List.drop_drop, List.drop_left' (hf a)]
    exact ih
theorem mv_len (M : List Mg) : (mv M).length = M.length * 4 := flat_len Mg.cells 4 (fun _ => rfl) M
theorem sv_len (S : List Sp) : (sv S).length = S.length * 2 := flat_len Sp.cells 2 (fun _ => rfl) S
theorem mv_ent {M : List Mg} {i : Nat} (h : i < M.length) : ((mv M).drop (i * 4)).take 4 = (gm M i).cells := by
  have e := gm_get h
  rw [List.getElem?_eq_getElem h] at e
  rw [← Option.some.inj e]
  exact flat_ent Mg.cells 4 (fun _ => rfl) M i h
theorem sv_ent {S : List Sp} {i : Nat} (h : i < S.length) : ((sv S).drop (i * 2)).take 2 = (gs S i).cells := by
  have e := gs_get h
  rw [List.getElem?_eq_getElem h] at e
  rw [← Option.some.inj e]
  exact flat_ent Sp.cells 2 (fun _ => rfl) S i h
theorem mv_cell {M : List Mg} {i : Nat} (h : i < M.length) (f : Nat) (hf : f < 4) : (mv M)[i * 4 + f]? = (gm M i).cells[f]? := by
  rw [← mv_ent h, List.getElem?_take_of_lt hf, List.getElem?_drop]
theorem sv_cell {S : List Sp} {i : Nat} (h : i < S.length) (f : Nat) (hf : f < 2) : (sv S)[i * 2 + f]? = (gs S i).cells[f]? := by
  rw [← sv_ent h, List.getElem?_take_of_lt hf, List.getElem?_drop]
theorem mg_one (m : Mg) : ∀ v ∈ m.cells, v.oneCell' = true := by
  intro v hv
  simp [Mg.cells] at hv
  rcases hv with rfl | rfl | rfl | rfl <;> rfl
theorem sp_one (s : Sp) : ∀ v ∈ s.cells, v.oneCell' = true := by
  intro v hv
  simp [Sp.cells] at hv
  rcases hv with rfl | rfl <;> rfl
/-- Where a vocabulary's rows lie. -/
structure VA where
  aT : Option Addr
  lT : Nat
  cT : Nat
  aM : Option Addr
  lM : Nat
  cM : Nat
  aS : Option Addr
  lS : Nat
  cS : Nat
def vcs (x : VA) : List Value := [.slice x.aT x.lT x.cT, .slice x.aM x.lM x.cM, .slice x.aS x.lS x.cS]
structure IsV (w : World) (v : Voc) (x : VA) : Prop where
  t : View w x.aT x.lT x.cT 1 (tv v.T)
  m : View w x.aM x.lM x.cM 4 (mv v.M)
  s : View w x.aS x.lS x.cS 2 (sv v.S)
structure Small (v : Voc) : Prop where
  nt : v.T.length ≤ 600
  nm : v.M.length ≤ 300
  ns : v.S.length ≤ 20
  tl : ∀ s ∈ v.T, s.length ≤ 80
  nl : ∀ s ∈ v.S, s.name.length ≤ 40
section
variable {w w' : World} {v : Voc} {x : VA} {a : Option Addr} {len cap : Nat} {T : List (List UInt8)}
theorem IsV.ext (h : IsV w v x) (k : Ext w w') : IsV w' v x := ⟨h.t.ext k, h.m.ext k, h.s.ext k⟩
theorem IsV.lens (h : IsV w v x) : v.T.length = x.lT ∧ v.M.length = x.lM ∧ v.S.length = x.lS := by
  have h1 := h.t.length
  have h2 := h.m.length
  have h3 := h.s.length
  rw [tv_len] at h1
  rw [mv_len] at h2
  rw [sv_len] at h3
  omega
theorem tv_lens (hv : View w a len cap 1 (tv T)) : T.length = len := by
  have h1 := hv.length
  rw [tv_len] at h1
  omega
theorem Of_ok (hv : View w a len cap 1 (tv T)) (s : List UInt8) : Cal Try.prog 50 ⟨[.slice a len cap, .string (bstr s)]⟩ w fun v w' => w' = w ∧ v = .int .i64 (ofT T s) := by
  have hl := tv_lens hv
  have m1 := hv.le
  have m2 := hv.max
  unfold maxLen at m2
  refine go50 (by rfl) ?_
  by_cases hs : s = []
  · subst hs
    (repeat ((conv => whnf); (first | (with_reducible first | refine jA ?_ | refine jB ?_ | refine jC ?_ | refine jD ?_) | refine jE ?_ | refine jF ?_ | refine jG ?_ | refine jH ?_ | refine jI ?_ | refine jJ ?_ | refine jK ?_ | refine jL ?_ | refine jM ?_ | refine jN ?_ | refine jO ?_ | refine jP ?_ | refine jQ ?_ | refine jR ?_ | refine jS (k := ?_) | refine jT (k := ?_)))); (conv => whnf)
    refine r_s0t rfl ?_
    (repeat ((conv => whnf); (first | (with_reducible first | refine jA ?_ | refine jB ?_ | refine jC ?_ | refine jD ?_) | refine jE ?_ | refine jF ?_ | refine jG ?_ | refine jH ?_ | refine jI ?_ | refine jJ ?_ | refine jK ?_ | refine jL ?_ | refine jM ?_ | refine jN ?_ | refine jO ?_ | refine jP ?_ | refine jQ ?_ | refine jR ?_ | refine jS (k := ?_) | refine jT (k := ?_)))); (conv => whnf)
    exact ⟨rfl, rfl⟩
  (repeat ((conv => whnf); (first | (with_reducible first | refine jA ?_ | refine jB ?_ | refine jC ?_ | refine jD ?_) | refine jE ?_ | refine jF ?_ | refine jG ?_ | refine jH ?_ | refine jI ?_ | refine jJ ?_ | refine jK ?_ | refine jL ?_ | refine jM ?_ | refine jN ?_ | refine jO ?_ | refine jP ?_ | refine jQ ?_ | refine jR ?_ | refine jS (k := ?_) | refine jT (k := ?_)))); (conv => whnf)
  refine r_s0f hs ?_
  (repeat ((conv => whnf); (first | (with_reducible first | refine jA ?_ | refine jB ?_ | refine jC ?_ | refine jD ?_) | refine jE ?_ | refine jF ?_ | refine jG ?_ | refine jH ?_ | refine jI ?_ | refine jJ ?_ | refine jK ?_ | refine jL ?_ | refine jM ?_ | refine jN ?_ | refine jO ?_ | refine jP ?_ | refine jQ ?_ | refine jR ?_ | refine jS (k := ?_) | refine jT (k := ?_)))); (conv => whnf)
  refine r_loop (σ := Nat) (fun i => [.int .i64 (i : Int)]) (fun i w' => i ≤ len ∧ w' = w ∧ ∀ k, k < i → tk T (k : Nat) ≠ s) (fun i _ => len - i) 0 rfl ⟨by omega, rfl, fun k hk => by omega⟩ ?_
  rintro i w1 again ⟨hi, rfl, hno⟩ hagain
  by_cases hil : i < len
  · have hp := hv.plain (by rw [tv_len]; omega)
    by_cases he : tk T i = s
    · (repeat ((conv => whnf); (first | (with_reducible first | refine jA ?_ | refine jB ?_ | refine jC ?_ | refine jD ?_) | refine jE ?_ | refine jF ?_ | refine jG ?_ | refine jH ?_ | refine jI ?_ | refine jJ ?_ | refine jK ?_ | refine jL ?_ | refine jM ?_ | refine jN ?_ | refine jO ?_ | refine jP ?_ | refine jQ ?_ | refine jR ?_ | refine jS (k := ?_) | refine jT (k := ?_)))); (conv => whnf)
      refine r_ldv (j := (i : Int).toNat * 1) hv (by simpa using tv_get (i := i) (by omega)) ?_
      (repeat ((conv => whnf); (first | (with_reducible first | refine jA ?_ | refine jB ?_ | refine jC ?_ | refine jD ?_) | refine jE ?_ | refine jF ?_ | refine jG ?_ | refine jH ?_ | refine jI ?_ | refine jJ ?_ | refine jK ?_ | refine jL ?_ | refine jM ?_ | refine jN ?_ | refine jO ?_ | refine jP ?_ | refine jQ ?_ | refine jR ?_ | refine jS (k := ?_) | refine jT (k := ?_)))); (conv => whnf)
      refine r_sqt he ?_
      (repeat ((conv => whnf); (first | (with_reducible first | refine jA ?_ | refine jB ?_ | refine jC ?_ | refine jD ?_) | refine jE ?_ | refine jF ?_ | refine jG ?_ | refine jH ?_ | refine jI ?_ | refine jJ ?_ | refine jK ?_ | refine jL ?_ | refine jM ?_ | refine jN ?_ | refine jO ?_ | refine jP ?_ | refine jQ ?_ | refine jR ?_ | refine jS (k := ?_) | refine jT (k := ?_)))); (conv => whnf)
      exact ⟨rfl, by rw [ofT_at hs (by omega) he hno]⟩
    · (repeat ((conv => whnf); (first | (with_reducible first | refine jA ?_ | refine jB ?_ | refine jC ?_ | refine jD ?_) | refine jE ?_ | refine jF ?_ | refine jG ?_ | refine jH ?_ | refine jI ?_ | refine jJ ?_ | refine jK ?_ | refine jL ?_ | refine jM ?_ | refine jN ?_ | refine jO ?_ | refine jP ?_ | refine jQ ?_ | refine jR ?_ | refine jS (k := ?_) | refine jT (k := ?_)))); (conv => whnf)
      refine r_ldv (j := (i : Int).toNat * 1) hv (by simpa using tv_get (i := i) (by omega)) ?_
      (repeat ((conv => whnf); (first | (with_reducible first | refine jA ?_ | refine jB ?_ | refine jC ?_ | refine jD ?_) | refine jE ?_ | refine jF ?_ | refine jG ?_ | refine jH ?_ | refine jI ?_ | refine jJ ?_ | refine jK ?_ | refine jL ?_ | refine jM ?_ | refine jN ?_ | refine jO ?_ | refine jP ?_ | refine jQ ?_ | refine jR ?_ | refine jS (k := ?_) | refine jT (k := ?_)))); (conv => whnf)
      refine r_sqf he ?_
      (repeat ((conv => whnf); (first | (with_reducible first | refine jA ?_ | refine jB ?_ | refine jC ?_ | refine jD ?_) | refine jE ?_ | refine jF ?_ | refine jG ?_ | refine jH ?_ | refine jI ?_ | refine jJ ?_ | refine jK ?_ | refine jL ?_ | refine jM ?_ | refine jN ?_ | refine jO ?_ | refine jP ?_ | refine jQ ?_ | refine jR ?_ | refine jS (k := ?_) | refine jT (k := ?_)))); (conv => whnf)
      refine hagain (i + 1) _ ⟨by omega, rfl, fun k hk => ?_⟩ (by omega)
      by_cases hki : k = i
      · subst hki; exact he
      · exact hno k (by omega)
  · (repeat ((conv => whnf); (first | (with_reducible first | refine jA ?_ | refine jB ?_ | refine jC ?_ | refine jD ?_) | refine jE ?_ | refine jF ?_ | refine jG ?_ | refine jH ?_ | refine jI ?_ | refine jJ ?_ | refine jK ?_ | refine jL ?_ | refine jM ?_ | refine jN ?_ | refine jO ?_ | refine jP ?_ | refine jQ ?_ | refine jR ?_ | refine jS (k := ?_) | refine jT (k := ?_)))); (conv => whnf)
    refine ⟨rfl, ?_⟩
    rw [ofT_no fun hm => ?_]
    obtain ⟨k, hk, hke⟩ := tk_mem.1 hm
    exact hno k (by omega) hke
theorem is_ok (hv : View w a len cap 1 (tv T)) (i : Int) : Cal Try.prog 76 ⟨[.slice a len cap, .int .i64 i]⟩ w fun v w' => w' = w ∧ ∃ b, v = .bool b ∧ (b = true ↔ IsT T i) := by
  have hl := tv_lens hv
  refine go76 (by rfl) ?_
  by_cases h0 : 0 ≤ i
  · by_cases h1 : i < len
    · obtain ⟨k, rfl⟩ : ∃ k : Nat, i = k := ⟨i.toNat, by omega⟩
      have hp := hv.plain (by rw [tv_len]; omega)
      (repeat ((conv => whnf); (first | (with_reducible first | refine jA ?_ | refine jB ?_ | refine jC ?_ | refine jD ?_) | refine jE ?_ | refine jF ?_ | refine jG ?_ | refine jH ?_ | refine jI ?_ | refine jJ ?_ | refine jK ?_ | refine jL ?_ | refine jM ?_ | refine jN ?_ | refine jO ?_ | refine jP ?_ | refine jQ ?_ | refine jR ?_ | refine jS (k := ?_) | refine jT (k := ?_)))); (conv => whnf)
      refine r_ldv (j := (k : Int).toNat * 1) hv (by simpa using tv_get (i := k) (by omega)) ?_
      (repeat ((conv => whnf); (first | (with_reducible first | refine jA ?_ | refine jB ?_ | refine jC ?_ | refine jD ?_) | refine jE ?_ | refine jF ?_ | refine jG ?_ | refine jH ?_ | refine jI ?_ | refine jJ ?_ | refine jK ?_ | refine jL ?_ | refine jM ?_ | refine jN ?_ | refine jO ?_ | refine jP ?_ | refine jQ ?_ | refine jR ?_ | refine jS (k := ?_) | refine jT (k := ?_)))); (conv => whnf)
      refine ⟨rfl, _, rfl, ?_⟩
      rw [b0, eqb_dec]
      unfold IsT
      simp
      intro _
      omega
    · (repeat ((conv => whnf); (first | (with_reducible first | refine jA ?_ | refine jB ?_ | refine jC ?_ | refine jD ?_) | refine jE ?_ | refine jF ?_ | refine jG ?_ | refine jH ?_ | refine jI ?_ | refine jJ ?_ | refine jK ?_ | refine jL ?_ | refine jM ?_ | refine jN ?_ | refine jO ?_ | refine jP ?_ | refine jQ ?_ | refine jR ?_ | refine jS (k := ?_) | refine jT (k := ?_)))); (conv => whnf)
      refine ⟨rfl, _, rfl, ?_⟩
      unfold IsT
      constructor
      · intro h; cases h
      · intro h; omega
  · (repeat ((conv => whnf); (first | (with_reducible first | refine jA ?_ | refine jB ?_ | refine jC ?_ | refine jD ?_) | refine jE ?_ | refine jF ?_ | refine jG ?_ | refine jH ?_ | refine jI ?_ | refine jJ ?_ | refine jK ?_ | refine jL ?_ | refine jM ?_ | refine jN ?_ | refine jO ?_ | refine jP ?_ | refine jQ ?_ | refine jR ?_ | refine jS (k := ?_) | refine jT (k := ?_)))); (conv => whnf)
    refine ⟨rfl, _, rfl, ?_⟩
    unfold IsT
    constructor
    · intro h; cases h
    · intro h; omega
theorem ahead_ok (w : World) (m n : Mg) : Cal Try.prog 77 ⟨[.agg ⟨m.cells⟩, .agg ⟨n.cells⟩]⟩ w fun v w' => Ext w w' ∧ ∃ b, v = .bool b ∧ (b = true ↔ Ahead m n) := by
  refine go77 (by rfl) ?_
  (repeat ((conv => whnf); (first | (with_reducible first | refine jA ?_ | refine jB ?_ | refine jC ?_ | refine jD ?_) | refine jE ?_ | refine jF ?_ | refine jG ?_ | refine jH ?_ | refine jI ?_ | refine jJ ?_ | refine jK ?_ | refine jL ?_ | refine jM ?_ | refine jN ?_ | refine jO ?_ | refine jP ?_ | refine jQ ?_ | refine jR ?_ | refine jS (k := ?_) | refine jT (k := ?_)))); (conv => whnf)
  refine r_new fun p w1 hx1 hb1 hs1 hblk1 => ?_
  have hblk1 : Blk w1 p 57 [.int .i64 m.l, .int .i64 m.r, .int .i64 m.o, .int .i64 m.d] := hblk1
  (repeat ((conv => whnf); (first | (with_reducible first | refine jA ?_ | refine jB ?_ | refine jC ?_ | refine jD ?_) | refine jE ?_ | refine jF ?_ | refine jG ?_ | refine jH ?_ | refine jI ?_ | refine jJ ?_ | refine jK ?_ | refine jL ?_ | refine jM ?_ | refine jN ?_ | refine jO ?_ | refine jP ?_ | refine jQ ?_ | refine jR ?_ | refine jS (k := ?_) | refine jT (k := ?_)))); (conv => whnf)
  refine r_new fun q w2 hx2 hb2 hs2 hblk2 => ?_
  have hblk2 : Blk w2 q 57 [.int .i64 n.l, .int .i64 n.r, .int .i64 n.o, .int .i64 n.d] := hblk2
  have hblk1 := hblk1.ext hx2
  have hx02 := hx1.trans hx2
  unfold Ahead
  by_cases h1 : m.d = n.d
  · by_cases h2 : m.l = n.l
    all_goals
      (repeat ((conv => whnf); (first | (with_reducible first | refine jA ?_ | refine jB ?_ | refine jC ?_ | refine jD ?_) | refine jE ?_ | refine jF ?_ | refine jG ?_ | refine jH ?_ | refine jI ?_ | refine jJ ?_ | refine jK ?_ | refine jL ?_ | refine jM ?_ | refine jN ?_ | refine jO ?_ | refine jP ?_ | refine jQ ?_ | refine jR ?_ | refine jS (k := ?_) | refine jT (k := ?_)))); (conv => whnf)
      refine ⟨hx02, _, rfl, ?_⟩
      rw [decide_eq_true_eq]
      omega
  · (repeat ((conv => whnf); (first | (with_reducible first | refine jA ?_ | refine jB ?_ | refine jC ?_ | refine jD ?_) | refine jE ?_ | refine jF ?_ | refine jG ?_ | refine jH ?_ | refine jI ?_ | refine jJ ?_ | refine jK ?_ | refine jL ?_ | refine jM ?_ | refine jN ?_ | refine jO ?_ | refine jP ?_ | refine jQ ?_ | refine jR ?_ | refine jS (k := ?_) | refine jT (k := ?_)))); (conv => whnf)
    refine ⟨hx02, _, rfl, ?_⟩
    rw [decide_eq_true_eq]
    omega
end
end Fb.Try.VO
