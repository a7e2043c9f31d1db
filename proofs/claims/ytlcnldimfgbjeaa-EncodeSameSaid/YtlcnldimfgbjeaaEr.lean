/-
  Coders: the plain law of vocabularies whose numbers are shifted.
-/
import Derived.Test.YtlcnldimfgbjeaaEq
namespace Fb.Try.VO
open Go Go.Proofs Fb Fb.Bytes
def shM (k : Nat) (m : Mg) : Mg := ⟨m.l + k, m.r + k, m.o + k, m.d⟩
def shT (k : Nat) (T : List (List UInt8)) : List (List UInt8) := List.replicate k [] ++ T
def shV (k : Nat) (v : Voc) : Voc := ⟨shT k v.T, v.M.map (shM k), []⟩
def shR (k : Nat) (row : List Int) : List Int := row.map fun i => i + k
theorem shT_len (k : Nat) (T : List (List UInt8)) : (shT k T).length = k + T.length := by simp [shT]
theorem tk_lo {k : Nat} {T : List (List UInt8)} {i : Nat} (h : i < k) : tk (shT k T) (i : Nat) = [] := by
  unfold tk shT
  rw [Int.toNat_natCast, List.getElem?_append_left (by simpa using h)]
  simp [h]
theorem tk_hi (k : Nat) (T : List (List UInt8)) {i : Int} (h : 0 ≤ i) : tk (shT k T) (i + k) = tk T i := by
  unfold tk shT
  rw [show (i + (k : Int)).toNat = i.toNat + k by omega, List.getElem?_append_right (by simp)]
  simp
theorem isT_sh {k : Nat} {T : List (List UInt8)} {i : Int} (h : IsT T i) : IsT (shT k T) (i + k) := by
  obtain ⟨h1, h2, h3⟩ := h
  refine ⟨by omega, ?_, by rw [tk_hi k T h1]; exact h3⟩
  rw [shT_len]
  omega
theorem ofT_sh {k : Nat} {T : List (List UInt8)} {s : List UInt8} (hs : s ≠ []) (h : s ∈ T) : ofT (shT k T) s = ofT T s + k := by
  obtain ⟨i, hi, h1, h2, h3⟩ := ofT_spec hs h
  have e : ofT (shT k T) s = ((i + k : Nat) : Int) := by
    refine ofT_at hs (by rw [shT_len]; omega) ?_ fun j hj => ?_
    · have := tk_hi k T (i := (i : Int)) (by omega)
      rw [show ((i + k : Nat) : Int) = (i : Int) + k by omega, this, h1]
    · by_cases hjk : j < k
      · rw [tk_lo hjk]
        exact fun e => hs e.symm
      · have := tk_hi k T (i := ((j - k : Nat) : Int)) (by omega)
        rw [show (j : Int) = ((j - k : Nat) : Int) + k by omega, this]
        exact h3 (j - k) (by omega)
  rw [e, h2]
  omega
theorem gm_sh {k : Nat} {M : List Mg} {i : Nat} (h : i < M.length) : gm (M.map (shM k)) i = shM k (gm M i) := by
  unfold gm
  rw [List.getElem?_map, List.getElem?_eq_getElem h]
  rfl
theorem gm_d (k : Nat) (M : List Mg) (i : Nat) : (gm (M.map (shM k)) i).d = (gm M i).d := by
  by_cases h : i < M.length
  · rw [gm_sh h]
    rfl
  · unfold gm
    rw [List.getElem?_eq_none (by simp; omega), List.getElem?_eq_none (by omega)]
theorem may_sh {v : Voc} (k : Nat) (h : MayP v) : MayP (shV k v) := by
  refine ⟨⟨fun s hs => ?_, fun i hi hn => ?_, fun b hb => ?_⟩, fun i hi => ⟨?_, fun j hj => ?_⟩, fun i hi => ?_, ⟨by simp [shV], fun i hi => by simp [shV] at hi⟩⟩
  · have hs : s ∈ List.replicate k [] ++ v.T := hs
    rcases List.mem_append.1 hs with q | q
    · obtain ⟨_, rfl⟩ := List.mem_replicate.1 q
      simp
    · exact h.tok.len s q
  · have hi : i < (shT k v.T).length := hi
    have hn : tk (shT k v.T) (i : Nat) ≠ [] := hn
    rw [shT_len] at hi
    show ofT (shT k v.T) (tk (shT k v.T) (i : Nat)) = i
    by_cases hik : i < k
    · exact absurd (tk_lo hik) hn
    · have e := tk_hi k v.T (i := ((i - k : Nat) : Int)) (by omega)
      rw [show ((i - k : Nat) : Int) + k = (i : Int) by omega] at e
      rw [e] at hn ⊢
      rw [ofT_sh hn (tk_mem.2 ⟨i - k, by omega, rfl⟩), h.tok.one (i - k) (by omega) hn]
      omega
  · exact List.mem_append.2 (.inr (h.tok.all b hb))
  · have hi : i < (v.M.map (shM k)).length := hi
    rw [List.length_map] at hi
    show Fits (shT k v.T) (gm (v.M.map (shM k)) i)
    rw [gm_sh hi]
    obtain ⟨f1, f2, f3, f4, f5, f6⟩ := (h.mg i hi).1
    refine ⟨isT_sh f1, isT_sh f2, isT_sh f3, f4, f5, ?_⟩
    show tk (shT k v.T) ((gm v.M i).o + k) = tk (shT k v.T) ((gm v.M i).l + k) ++ tk (shT k v.T) ((gm v.M i).r + k)
    rw [tk_hi k v.T f1.1, tk_hi k v.T f2.1, tk_hi k v.T f3.1]
    exact f6
  · have hi : i < (v.M.map (shM k)).length := hi
    rw [List.length_map] at hi
    show Pair2 (gm (v.M.map (shM k)) j) (gm (v.M.map (shM k)) i)
    rw [gm_sh hi, gm_sh (by omega)]
    obtain ⟨p1, p2, p3⟩ := (h.mg i hi).2 j hj
    unfold Ahead at p1
    refine ⟨?_, ?_, ?_⟩
    · unfold Ahead shM
      dsimp only
      omega
    · unfold shM
      dsimp only
      intro q
      exact p2 ⟨by omega, by omega⟩
    · unfold shM
      dsimp only
      intro q
      exact p3 ⟨q.1, fun e => q.2 (by rw [e])⟩
  · have hi : i < (shT k v.T).length := hi
    rw [shT_len] at hi
    show (tk (shT k v.T) (i : Nat)).length < 2 ∨ ∃ m ∈ v.M.map (shM k), m.o = i
    by_cases hik : i < k
    · rw [tk_lo hik]
      exact .inl (by decide)
    · have e := tk_hi k v.T (i := ((i - k : Nat) : Int)) (by omega)
      rw [show ((i - k : Nat) : Int) + k = (i : Int) by omega] at e
      rw [e]
      rcases h.made (i - k) (by omega) with q | ⟨m, hm, q⟩
      · exact .inl q
      · exact .inr ⟨shM k m, List.mem_map.2 ⟨m, hm, rfl⟩, by unfold shM; dsimp only; omega⟩
theorem fd_sh (k : Nat) (M : List Mg) (a b : Int) : fd (M.map (shM k)) (a + k) (b + k) = fd M a b := by
  unfold fd
  rw [List.findIdx?_map]
  congr 1
  funext m
  have e : (m.l + (k : Int) = a + k ∧ m.r + (k : Int) = b + k) ↔ (m.l = a ∧ m.r = b) := by omega
  exact decide_eq_decide.2 e
theorem gi_sh (k : Nat) {row : List Int} {i : Nat} (h : i < row.length) : gi (shR k row) i = gi row i + k := by
  unfold gi shR
  rw [List.getElem?_map, List.getElem?_eq_getElem h]
  rfl
theorem better_sh (k : Nat) (M : List Mg) (x y : Option (Nat × Nat)) : better (M.map (shM k)) x y = better M x y := by
  cases x <;> cases y <;> simp only [better, gm_d]
theorem bstN_sh (k : Nat) (M : List Mg) (row : List Int) : ∀ n, n ≤ row.length - 1 → bstN (M.map (shM k)) (shR k row) n = bstN M row n
  | 0, _ => rfl
  | n + 1, h => by
    unfold bstN
    rw [bstN_sh k M row n (by omega), better_sh]
    congr 1
    unfold cand
    rw [gi_sh k (by omega), gi_sh k (by omega), fd_sh]
theorem bst_sh (k : Nat) (M : List Mg) (row : List Int) : bst (M.map (shM k)) (shR k row) = bst M row := by
  unfold bst
  rw [show (shR k row).length = row.length by simp [shR]]
  exact bstN_sh k M row _ (Nat.le_refl _)
theorem stp_sh (k : Nat) (M : List Mg) (row : List Int) : stp (M.map (shM k)) (shR k row) = (stp M row).map (shR k) := by
  unfold stp
  rw [bst_sh, Option.map_map]
  cases hb : bst M row with
  | none => rfl
  | some p =>
    obtain ⟨_, h2, _⟩ := bst_some hb
    simp only [Option.map_some, Function.comp, gm_sh h2, Option.some.injEq]
    unfold repl shR
    simp [List.map_take, List.map_drop, shM]
theorem run_sh (k : Nat) (M : List Mg) : ∀ (n : Nat) (row : List Int), row.length ≤ n → run (M.map (shM k)) (shR k row) = shR k (run M row) := by
  intro n
  induction n with
  | zero =>
    intro row h
    have : row = [] := List.length_eq_zero_iff.1 (by omega)
    subst this
    rfl
  | succ n ih =>
    intro row h
    cases hs : stp M row with
    | none =>
      have : stp (M.map (shM k)) (shR k row) = none := by rw [stp_sh, hs]; rfl
      rw [run_done hs, run_done this]
    | some r =>
      have hl := stp_len hs
      have : stp (M.map (shM k)) (shR k row) = some (shR k r) := by rw [stp_sh, hs]; rfl
      rw [run_step hs, run_step this]
      exact ih r (by omega)
theorem own1_sh {v : Voc} (h : MayP v) (k : Nat) (s : List UInt8) : own1 (shT k v.T) s = shR k (own1 v.T s) := by
  unfold own1 shR
  rw [List.map_map]
  apply List.map_congr_left
  intro b _
  have hm : [b] ∈ v.T := by
    have := h.tok.all b.toNat b.toNat_lt
    simpa using this
  exact ofT_sh (by simp) hm
theorem enc_sh {v : Voc} (h : MayP v) (k : Nat) (s : List UInt8) : run (shV k v).M (own1 (shV k v).T s) = shR k (run v.M (own1 v.T s)) := by
  show run (v.M.map (shM k)) (own1 (shT k v.T) s) = _
  rw [own1_sh h]
  exact run_sh k v.M _ _ (Nat.le_refl _)
end Fb.Try.VO
