/-
  Bytes and texts, and append that tells where its result lies.
-/
import Derived.Test.YtnofndhlhbbhdaaVp
import Derived.Test.YtnofndhlhbbhdaaVf
import Derived.Test.YtnofndhlhbbhdaaS
import Derived.Maps.AppendAt
import Derived.Laws.Strings
import Derived.Laws.BytesArg
namespace Fb
open Go
section
variable {P : Program} {w : World}
theorem r_appAt {t ty e size bytes base : Nat} {v : Value} {n : Nat} {xs : List Value} {a : Option Addr} {m c : Nat} {news : List Value} {K : Value → World → Prop} (he : Elem P t e size bytes) (hown : w.ownsRow base e size v n xs) (hv : View w a m c size news)
    (h1 : ∀ u ∈ news, u.oneCell' = true) (hb : (n + m) * bytes ≤ 140737488355328 ∧ n + m ≤ 4611686018427387904) (hbase : base ≤ w.heap.size)
    (k : ∀ v' w', w'.ownsRow base e size v' (n + m) (xs ++ news) → Chg (fun b => v.ownBlock = some b) w w' → (v' = .slice none 0 0 ↔ v = .slice none 0 0 ∧ m = 0) → (v'.ownBlock = v.ownBlock ∨ v'.ownBlock = some w.heap.size) → K v' w') : Run P (G.sem (.bi .append ⟨[t, t]⟩ ty) [v, .slice a m c]) w K := by
  obtain ⟨ht, i, z, hi, hz, hs, hby, hzs, hsz⟩ := he
  have hmax : n + m ≤ maxLen := by simp only [maxLen]; omega
  rcases Nat.eq_zero_or_pos m with rfl | hm
  · -- nothing is appended
    have hnil : news = [] := by simpa using hv.length
    subst hnil
    have hrun : ∀ x : Option Addr, (Builtin.append_ ⟨[t, t]⟩ ty ⟨[v, .slice x 0 c]⟩).run P w = .ok v w := by
      intro x
      rcases hown.2 with ⟨rfl, rfl⟩ | ⟨g, cap, cur, rfl, hbg, hg, hn, hc, hsz', htk⟩
      · cases x <;> simp [Builtin.append_, run_underlying ht, Go.sizeOf, typeInfo, hi, Builtin.lenOf, Builtin.firstCells, loadCells, loadCellsFrom]
      · have hle : n ≤ cap := hn
        cases x <;> simp [Builtin.append_, run_underlying ht, Go.sizeOf, typeInfo, hi, Builtin.lenOf, Builtin.firstCells, loadCells, loadCellsFrom, hle, storeCells]
    refine r_run (hrun a) (k v w (by simpa using hown) ?_ (by simp) (.inl rfl))
    exact Chg.refl _ w
  · have hpos : 0 < news.length := by rw [hv.length]; exact Nat.mul_pos hm hsz
    have hp := hv.plain hpos
    unfold plainA at hp
    generalize hbk : blk a = b at hp
    generalize hof : ofs a = o at hp
    subst hp
    obtain ⟨v', w', hr, h2, h3, h4, h5⟩ := run_append_own_at (P := P) w base t ty e i z size bytes ht hi hz hs hby hzs hsz v n xs hown ⟨b, o, none⟩ m c news hv.length
      (fun j u hu => by rw [Addr.add_plain]; exact hv.cell j u hu) h1 hmax hb.1 hbase
    exact r_run hr (k v' w' h2 (chg_grown h3) h4 h5)

end
end Fb
namespace Fb.Bytes
open Go Fb
/-- Bytes as values. -/
def bvs (l : List UInt8) : List Value := l.map fun b => .int .u8 (b.toNat : Int)
theorem bvs_length (l : List UInt8) : (bvs l).length = l.length := by simp [bvs]
theorem bvs_append (l k : List UInt8) : bvs (l ++ k) = bvs l ++ bvs k := by simp [bvs]

/-! ### Texts -/
def bstr (l : List UInt8) : ByteArray := ⟨l.toArray⟩
theorem bstr_size (l : List UInt8) : (bstr l).size = l.length := by simp [bstr, ByteArray.size]
theorem bstr_app (l k : List UInt8) : bstr l ++ bstr k = bstr (l ++ k) := by
  apply ByteArray.ext
  simp [bstr, ByteArray.data_append]
theorem bstr_list (l : List UInt8) : (bstr l).toList = l := by
  rw [ByteArray.toList_eq]
  simp [bstr]
theorem bstr_cut (l : List UInt8) (i j : Nat) : (bstr l).extract i j = bstr ((l.drop i).take (j - i)) := by
  apply ByteArray.ext
  simp [bstr]
theorem bstr_get (l : List UInt8) (i : Nat) : (bstr l)[i]? = l[i]? := by
  rw [getElem?_def, getElem?_def]
  by_cases h : i < l.length
  · rw [dif_pos (by rw [bstr_size]; exact h), dif_pos h]
    rfl
  · rw [dif_neg (by rw [bstr_size]; exact h), dif_neg h]

end Fb.Bytes
namespace Fb.Try
open Go Go.Proofs Fb Fb.Bytes
theorem strOfNums_bvs (l : List UInt8) : strOfNums (l.map fun b => (b.toNat : Int)) = bstr l := by
  simp [strOfNums, bstr, Function.comp_def]
theorem conv_view {a : Option Addr} {len cap : Nat} {l : List UInt8} {w : World} (hv : View w a len cap 1 (bvs l)) :
    (G.sem (.conv 77 9) [.slice a len cap]).run Try.prog w = .ok (.string (bstr l)) w := by
  have hlen : l.length = len := by have := hv.length; simpa [bvs] using this
  change (convert 77 9 (.slice a len cap)).run Try.prog w = _
  cases a with
  | none =>
    rw [run_convert_bytes_nil w 77 5 (by kernel_rfl) (by kernel_rfl) len cap 9 (by kernel_rfl)]
    cases l with
    | nil => rfl
    | cons b r =>
      have := hv.plain (by simp [bvs])
      simp [plainA] at this
  | some ad =>
    cases l with
    | nil =>
      simp at hlen
      subst hlen
      rw [run_convert_bytes_string w 77 9 5 _ _ _ (by kernel_rfl) (by kernel_rfl) (by kernel_rfl), run_bytesToString w ad 0 cap [] (by rfl)]
      rfl
    | cons b r =>
      have hp := hv.plain (by simp [bvs])
      unfold plainA at hp
      have hc := hv.cell
      generalize blk (some ad) = x at hp hc
      generalize ofs (some ad) = y at hp hc
      cases hp
      rw [run_convert_bytes_arg w 77 5 (by kernel_rfl) (by kernel_rfl) x y len cap ((b :: r).map fun b => (b.toNat : Int)) (by simpa using hlen) (fun i hi => ?_) 9 (by kernel_rfl), strOfNums_bvs]
      refine hc i _ ?_
      have hi' : i < (b :: r).length := by omega
      rw [bvs, List.getElem?_map, List.getElem?_eq_getElem hi', List.getD_eq_getElem?_getD, List.getElem?_map, List.getElem?_eq_getElem hi']
      rfl

section
variable {w : World}
theorem r_conv {a : Option Addr} {len cap : Nat} {l : List UInt8} {K : Value → Prop} (hv : View w a len cap 1 (bvs l)) (k : K (.string (bstr l))) : Get Try.prog (G.sem (.conv 77 9) [.slice a len cap]) (fun w' => w' = w) K :=
  r_get (fun _ e => by rw [e]; exact conv_view hv) k
theorem r_convE {a : Option Addr} {len cap : Nat} {l : List UInt8} {K : Value → Prop} (hv : View w a len cap 1 (bvs l)) (k : K (.string (bstr l))) : Get Try.prog (G.sem (.conv 77 9) [.slice a len cap]) (Ext w) K :=
  r_get (fun _ e => conv_view (hv.ext e)) k
end

theorem u8_list : ∀ (xs : List Int), (∀ x ∈ xs, (Lit.int .u8 x).wf = true) → ∃ l : List UInt8, xs.map (Value.int .u8) = bvs l
  | [], _ => ⟨[], rfl⟩
  | x :: xs, h => by
    obtain ⟨l, hl⟩ := u8_list xs fun y hy => h y (by simp [hy])
    have hx := bounds_u8 (h x (by simp))
    refine ⟨UInt8.ofNat x.toNat :: l, ?_⟩
    have e : ((UInt8.ofNat x.toNat).toNat : Int) = x := by rw [UInt8.toNat_ofNat']; omega
    rw [List.map_cons, hl, bvs, bvs, List.map_cons, e]

theorem eqb {x y : ByteArray} (h : x.toList = y.toList) : (x.toList == y.toList) = true := by rw [h]; simp
theorem eqb_dec (l k : List UInt8) : ((bstr l).toList == (bstr k).toList) = decide (l = k) := by
  rw [bstr_list, bstr_list]
  by_cases h : l = k <;> simp [h]
end Fb.Try
