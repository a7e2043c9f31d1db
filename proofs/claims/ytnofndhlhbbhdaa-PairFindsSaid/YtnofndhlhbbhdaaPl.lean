/-
  Walks: the package's step and end.
-/
import Derived.Test.YtnofndhlhbbhdaaPk
import Derived.Test.YtnofndhlhbbhdaaVn
namespace Fb.Try.VO
open Go Go.Proofs Fb Fb.Bytes
theorem mki : MakeE Try.prog 62 3 1 8 [.int .i64 0] := MakeE.of (by kernel_rfl)
theorem sli : SlSize Try.prog 62 1 := SlSize.of (by kernel_rfl)
theorem rep0 (n : Nat) : (List.replicate n [Value.int .i64 0]).flatten = ri (List.replicate n 0) := by
  induction n with
  | zero => rfl
  | succ n ih => rw [List.replicate_succ, List.replicate_succ, List.flatten_cons, ih]; rfl
/-- What a step writes. -/
theorem step_cells {row : List Int} {p : Nat} {o : Int} (h : p + 1 < row.length) (z : Int) :
    (((List.replicate (row.length - 1) z).take 0 ++ (row.take p).take (p * 1) ++ (List.replicate (row.length - 1) z).drop (0 + p * 1)).set p o).take (p + 1) ++ (row.drop (p + 2)).take ((row.length - (p + 2)) * 1) ++ (((List.replicate (row.length - 1) z).take 0 ++ (row.take p).take (p * 1) ++ (List.replicate (row.length - 1) z).drop (0 + p * 1)).set p o).drop (p + 1 + (row.length - (p + 2)) * 1) = repl row p o := by
  rw [List.take_zero, List.nil_append, Nat.zero_add, Nat.mul_one, Nat.mul_one, List.take_take, Nat.min_self]
  have e1 : (row.take p).length = p := by simp; omega
  have e2 : (List.replicate (row.length - 1) z).drop p = z :: List.replicate (row.length - 2 - p) z := by
    rw [List.drop_replicate, show row.length - 1 - p = (row.length - 2 - p) + 1 by omega, List.replicate_succ]
  rw [e2, List.set_append_right _ _ (by omega), e1, Nat.sub_self, List.set_cons_zero]
  have e3 : (row.take p ++ o :: List.replicate (row.length - 2 - p) z).take (p + 1) = row.take p ++ [o] := by
    rw [List.take_append, e1, List.take_of_length_le (by omega), show p + 1 - p = 1 by omega]
    rfl
  have e4 : (row.take p ++ o :: List.replicate (row.length - 2 - p) z).drop (p + 1 + (row.length - (p + 2))) = [] := List.drop_of_length_le (by simp; omega)
  have e5 : (row.drop (p + 2)).take (row.length - (p + 2)) = row.drop (p + 2) := List.take_of_length_le (by simp)
  rw [e3, e4, List.append_nil, e5]
  rfl
theorem ri_set (L : List Int) (p : Nat) (o : Int) : (ri L).set p (.int .i64 o) = ri (L.set p o) := by simp [ri, List.map_set]
section
variable {w w' : World} {v : Voc} {x : VA} {a : Option Addr} {len cap : Nat} {row : List Int} {M : List Mg} {tb : Nat}
set_option maxHeartbeats 1000000 in
set_option maxRecDepth 100000 in
theorem pStep_ok (h : Tab w tb M) (hI : ∀ i ∈ row, I64 i) (hv : View w a len cap 1 (ri row)) (hl : len ≤ 1000) : Cal Try.prog 37 ⟨[.pointer (some ⟨tb, 0, none⟩), .slice a len cap]⟩ w fun u w' => Ext w w' ∧ ∃ a' len' cap', u = .tuple ⟨[.slice a' len' cap', .bool (stp M row).isSome]⟩ ∧ View w' a' len' cap' 1 (ri ((stp M row).getD [])) := by
  have hrl := ri_lens hv
  have hcap := hv.le
  refine go37 (by rfl) ?_
  (repeat ((conv => whnf); (first | (with_reducible first | refine jA ?_ | refine jB ?_ | refine jC ?_ | refine jD ?_) | refine jE ?_ | refine jF ?_ | refine jG ?_ | refine jH ?_ | refine jI ?_ | refine jJ ?_ | refine jK ?_ | refine jL ?_ | refine jM ?_ | refine jN ?_ | refine jO ?_ | refine jP ?_ | refine jQ ?_ | refine jR ?_ | refine jS (k := ?_) | refine jT (k := ?_)))); (conv => whnf)
  refine r_cal (pBest_ok h hI hv hl) ?_
  rintro _ w1 ⟨hx1, rfl⟩
  have hz1 := hx1.size
  (repeat ((conv => whnf); (first | (with_reducible first | refine jA ?_ | refine jB ?_ | refine jC ?_ | refine jD ?_) | refine jE ?_ | refine jF ?_ | refine jG ?_ | refine jH ?_ | refine jI ?_ | refine jJ ?_ | refine jK ?_ | refine jL ?_ | refine jM ?_ | refine jN ?_ | refine jO ?_ | refine jP ?_ | refine jQ ?_ | refine jR ?_ | refine jS (k := ?_) | refine jT (k := ?_)))); (conv => whnf)
  refine r_new fun b7 w2 hx2 hb2 hs2 hblk7 => ?_
  (repeat ((conv => whnf); (first | (with_reducible first | refine jA ?_ | refine jB ?_ | refine jC ?_ | refine jD ?_) | refine jE ?_ | refine jF ?_ | refine jG ?_ | refine jH ?_ | refine jI ?_ | refine jJ ?_ | refine jK ?_ | refine jL ?_ | refine jM ?_ | refine jN ?_ | refine jO ?_ | refine jP ?_ | refine jQ ?_ | refine jR ?_ | refine jS (k := ?_) | refine jT (k := ?_)))); (conv => whnf)
  refine r_stn hblk7 (by simp [Mg.cells]) (mg_one _) fun w3 hc3 hs3 hblk7 => ?_
  have hblk7 : Blk w3 b7 57 (bm M (bst M row)).cells := hblk7
  have hx03 : Ext w w3 := Chg.step (hx1.trans hx2) hc3 fun k hk hlt => by omega
  unfold stp
  cases hb : bst M row with
  | none =>
    rw [hb] at hblk7
    (repeat ((conv => whnf); (first | (with_reducible first | refine jA ?_ | refine jB ?_ | refine jC ?_ | refine jD ?_) | refine jE ?_ | refine jF ?_ | refine jG ?_ | refine jH ?_ | refine jI ?_ | refine jJ ?_ | refine jK ?_ | refine jL ?_ | refine jM ?_ | refine jN ?_ | refine jO ?_ | refine jP ?_ | refine jQ ?_ | refine jR ?_ | refine jS (k := ?_) | refine jT (k := ?_)))); (conv => whnf)
    refine r_true (by rfl) ?_
    (repeat ((conv => whnf); (first | (with_reducible first | refine jA ?_ | refine jB ?_ | refine jC ?_ | refine jD ?_) | refine jE ?_ | refine jF ?_ | refine jG ?_ | refine jH ?_ | refine jI ?_ | refine jJ ?_ | refine jK ?_ | refine jL ?_ | refine jM ?_ | refine jN ?_ | refine jO ?_ | refine jP ?_ | refine jQ ?_ | refine jR ?_ | refine jS (k := ?_) | refine jT (k := ?_)))); (conv => whnf)
    exact ⟨hx03, none, 0, 0, rfl, View.nil _ _⟩
  | some p =>
    obtain ⟨hp1, hp2⟩ := atI_nn hb
    rw [hb] at hblk7
    have hblk7 : Blk w3 b7 57 (gm M p.2).cells := hblk7
    have hbat : bat (some p) = p.1 := rfl
    rw [hbat]
    (repeat ((conv => whnf); (first | (with_reducible first | refine jA ?_ | refine jB ?_ | refine jC ?_ | refine jD ?_) | refine jE ?_ | refine jF ?_ | refine jG ?_ | refine jH ?_ | refine jI ?_ | refine jJ ?_ | refine jK ?_ | refine jL ?_ | refine jM ?_ | refine jN ?_ | refine jO ?_ | refine jP ?_ | refine jQ ?_ | refine jR ?_ | refine jS (k := ?_) | refine jT (k := ?_)))); (conv => whnf)
    refine r_false (by rfl) ?_
    (repeat ((conv => whnf); (first | (with_reducible first | refine jA ?_ | refine jB ?_ | refine jC ?_ | refine jD ?_) | refine jE ?_ | refine jF ?_ | refine jG ?_ | refine jH ?_ | refine jI ?_ | refine jJ ?_ | refine jK ?_ | refine jL ?_ | refine jM ?_ | refine jN ?_ | refine jO ?_ | refine jP ?_ | refine jQ ?_ | refine jR ?_ | refine jS (k := ?_) | refine jT (k := ?_)))); (conv => whnf)
    refine r_make mki (by omega) fun b9 w4 hx4 hb4 hs4 hblk9 => ?_
    rw [rep0, show ((len : Int) - 1).toNat = row.length - 1 by omega] at *
    have m1 : Nat.min p.1 (row.length - 1) = p.1 := Nat.min_eq_left (by omega)
    have hx04 := hx03.trans hx4
    (repeat ((conv => whnf); (first | (with_reducible first | refine jA ?_ | refine jB ?_ | refine jC ?_ | refine jD ?_) | refine jE ?_ | refine jF ?_ | refine jG ?_ | refine jH ?_ | refine jI ?_ | refine jJ ?_ | refine jK ?_ | refine jL ?_ | refine jM ?_ | refine jN ?_ | refine jO ?_ | refine jP ?_ | refine jQ ?_ | refine jR ?_ | refine jS (k := ?_) | refine jT (k := ?_)))); (conv => whnf)
    rw [Int.toNat_natCast]
    refine r_copy sli hblk9 (View.hi (hv.ext hx04) p.1 (by omega)) (by rw [m1, ri_len]; simp; omega) (ri_one _) (by omega) fun w5 hc5 hs5 hblk9 => ?_
    rw [m1] at hblk9 ⊢
    have h79 : ¬ b7 = b9 := by have := hblk7.lt; omega
    have hblk7 := (hblk7.ext hx4).keep hc5 h79
    have hz3 := hx03.size
    have hx05 : Ext w w5 := Chg.step hx04 hc5 fun k hk hlt => by omega
    unfold Mg.cells at hblk7
    (repeat ((conv => whnf); (first | refine r_need rfl ?_ | (with_reducible first | refine jA ?_ | refine jB ?_ | refine jC ?_ | refine jD ?_) | refine jE ?_ | refine jF ?_ | refine jG ?_ | refine jH ?_ | refine jI ?_ | refine jJ ?_ | refine jK ?_ | refine jL ?_ | refine jM ?_ | refine jN ?_ | refine jO ?_ | refine jP ?_ | refine jQ ?_ | refine jR ?_ | refine jS (k := ?_) | refine jT (k := ?_)))); (conv => whnf)
    rw [adr0, Nat.mul_one]
    have hp9 : p.1 < ((ri (List.replicate (row.length - 1) 0)).take 0 ++ (ri (row.take p.1)).take (p.1 * 1) ++ (ri (List.replicate (row.length - 1) 0)).drop (0 + p.1 * 1)).length := by
      simp [ri_len]
      omega
    refine r_st hblk9 hp9 (by rfl) fun w6 hc6 hs6 hblk9 => ?_
    have hx06 : Ext w w6 := Chg.step hx05 hc6 fun k hk hlt => by omega
    (repeat ((conv => whnf); (first | (with_reducible first | refine jA ?_ | refine jB ?_ | refine jC ?_ | refine jD ?_) | refine jE ?_ | refine jF ?_ | refine jG ?_ | refine jH ?_ | refine jI ?_ | refine jJ ?_ | refine jK ?_ | refine jL ?_ | refine jM ?_ | refine jN ?_ | refine jO ?_ | refine jP ?_ | refine jQ ?_ | refine jR ?_ | refine jS (k := ?_) | refine jT (k := ?_)))); (conv => whnf)
    refine r_drawS (fun k => k = b9) fun w7 hx7 hh7 => ?_
    have hx07 := hx06.trans hx7
    have hv7 := View.lo (hv.ext hx07) (p.1 + 2) (by omega)
    have hblk9 := hblk9.ext hx7
    have hz7 := hx7.size
    have key := step_cells (row := row) (p := p.1) (o := (gm M p.2).o) hp1 0
    have e0 : ri (((List.replicate (row.length - 1) 0).take 0 ++ (row.take p.1).take (p.1 * 1) ++ (List.replicate (row.length - 1) 0).drop (0 + p.1 * 1)).set p.1 (gm M p.2).o) = ((ri (List.replicate (row.length - 1) 0)).take 0 ++ (ri (row.take p.1)).take (p.1 * 1) ++ (ri (List.replicate (row.length - 1) 0)).drop (0 + p.1 * 1)).set p.1 (.int .i64 (gm M p.2).o) := by
      simp [ri, List.map_set, List.map_take, List.map_drop]
    rw [← e0] at hblk9
    generalize hC : ((List.replicate (row.length - 1) 0).take 0 ++ (row.take p.1).take (p.1 * 1) ++ (List.replicate (row.length - 1) 0).drop (0 + p.1 * 1)).set p.1 (gm M p.2).o = C at *
    have hCl : C.length = row.length - 1 := by
      rw [← hC]
      simp
      omega
    have hrep := repl_len hp1 (gm M p.2).o
    have m2 : Nat.min (len - (p.1 + 2)) (row.length - 1 - (p.1 + 1)) = row.length - (p.1 + 2) := by
      rw [show row.length - 1 - (p.1 + 1) = row.length - (p.1 + 2) by omega, hrl]
      exact Nat.min_self _
    (repeat ((conv => whnf); (first | (with_reducible first | refine jA ?_ | refine jB ?_ | refine jC ?_ | refine jD ?_) | refine jE ?_ | refine jF ?_ | refine jG ?_ | refine jH ?_ | refine jI ?_ | refine jJ ?_ | refine jK ?_ | refine jL ?_ | refine jM ?_ | refine jN ?_ | refine jO ?_ | refine jP ?_ | refine jQ ?_ | refine jR ?_ | refine jS (k := ?_) | refine jT (k := ?_)))); (conv => whnf)
    rw [show ((p.1 : Int) + 1).toNat = p.1 + 1 by omega, show ((p.1 : Int) + 2).toNat = p.1 + 2 by omega]
    by_cases hlast : p.1 + 2 = row.length
    · rw [show slcA (some ⟨b9, 0, none⟩) (row.length - 1) (p.1 + 1) 1 = some ⟨b9, 0, none⟩ by
        unfold slcA
        rw [if_pos (by omega)]]
      refine r_copy sli hblk9 hv7 (by rw [m2]; simp [ri_len]; omega) (ri_one _) (by omega) fun w8 hc8 hs8 hblk9 => ?_
      rw [m2, show row.length - (p.1 + 2) = 0 by omega] at hblk9
      have hf : Blk w8 b9 3 (ri (repl row p.1 (gm M p.2).o)) := by
        rw [show row.length - (p.1 + 2) = 0 by omega] at key
        rw [← key]
        simpa using hblk9
      have hx08 : Ext w w8 := Chg.step hx07 hc8 fun k hk hlt => by omega
      have hx68 : Chg (fun k => k = b9) w6 w8 := Chg.trans (hx7.wide _) hc8
      (repeat ((conv => whnf); (first | (with_reducible first | refine jA ?_ | refine jB ?_ | refine jC ?_ | refine jD ?_) | refine jE ?_ | refine jF ?_ | refine jG ?_ | refine jH ?_ | refine jI ?_ | refine jJ ?_ | refine jK ?_ | refine jL ?_ | refine jM ?_ | refine jN ?_ | refine jO ?_ | refine jP ?_ | refine jQ ?_ | refine jR ?_ | refine jS (k := ?_) | refine jT (k := ?_)))); (conv => whnf)
      have hzl : (ri (repl row p.1 (gm M p.2).o)).length = (row.length - 1) * 1 := by rw [ri_len]; omega
      have hvf := View.of_blk (n := row.length - 1) hf hzl (by simp [maxLen]; omega)
      exact ⟨hx08, _, _, _, rfl, hvf⟩
    · rw [show slcA (some ⟨b9, 0, none⟩) (row.length - 1) (p.1 + 1) 1 = some ⟨b9, p.1 + 1, none⟩ by
        unfold slcA
        rw [if_neg (by omega), Nat.mul_one, Option.map_some, Addr.add_plain, Nat.zero_add]]
      refine r_copy sli hblk9 hv7 (by rw [m2]; simp [ri_len]; omega) (ri_one _) (by omega) fun w8 hc8 hs8 hblk9 => ?_
      rw [m2] at hblk9
      have hf : Blk w8 b9 3 (ri (repl row p.1 (gm M p.2).o)) := by
        rw [← key, ri_app, ri_app]
        simpa [ri, List.map_take, List.map_drop] using hblk9
      have hx08 : Ext w w8 := Chg.step hx07 hc8 fun k hk hlt => by omega
      have hx68 : Chg (fun k => k = b9) w6 w8 := Chg.trans (hx7.wide _) hc8
      (repeat ((conv => whnf); (first | (with_reducible first | refine jA ?_ | refine jB ?_ | refine jC ?_ | refine jD ?_) | refine jE ?_ | refine jF ?_ | refine jG ?_ | refine jH ?_ | refine jI ?_ | refine jJ ?_ | refine jK ?_ | refine jL ?_ | refine jM ?_ | refine jN ?_ | refine jO ?_ | refine jP ?_ | refine jQ ?_ | refine jR ?_ | refine jS (k := ?_) | refine jT (k := ?_)))); (conv => whnf)
      have hzl : (ri (repl row p.1 (gm M p.2).o)).length = (row.length - 1) * 1 := by rw [ri_len]; omega
      have hvf := View.of_blk (n := row.length - 1) hf hzl (by simp [maxLen]; omega)
      exact ⟨hx08, _, _, _, rfl, hvf⟩
theorem stp_i64 (hM : ∀ m ∈ M, I64 m.o) (hI : ∀ i ∈ row, I64 i) {r : List Int} (h : stp M row = some r) : ∀ i ∈ r, I64 i := by
  unfold stp at h
  rw [Option.map_eq_some_iff] at h
  obtain ⟨p, hp, rfl⟩ := h
  obtain ⟨h1, h2⟩ := atI_nn hp
  intro i hi
  unfold repl at hi
  simp only [List.mem_append, List.mem_singleton] at hi
  rcases hi with (hi | rfl) | hi
  · exact hI i (List.mem_of_mem_take hi)
  · exact hM _ (gm_mem.2 ⟨_, h2, rfl⟩)
  · exact hI i (List.mem_of_mem_drop hi)
theorem run_i64 (hM : ∀ m ∈ M, I64 m.o) : ∀ (n : Nat) (row : List Int), row.length ≤ n → (∀ i ∈ row, I64 i) → ∀ i ∈ run M row, I64 i := by
  intro n
  induction n with
  | zero =>
    intro r h hI
    cases hs : stp M r with
    | none => rw [run_done hs]; exact hI
    | some r' => have := stp_len hs; omega
  | succ n ih =>
    intro r h hI
    cases hs : stp M r with
    | none => rw [run_done hs]; exact hI
    | some r' =>
      have hl := stp_len hs
      rw [run_step hs]
      exact ih r' (by omega) (stp_i64 hM hI hs)
set_option maxHeartbeats 1000000 in
theorem pRun_ok (h : Tab w tb M) (hM : ∀ m ∈ M, I64 m.o) (hI : ∀ i ∈ row, I64 i) (hv : View w a len cap 1 (ri row)) (hl : len ≤ 1000) : Cal Try.prog 40 ⟨[.pointer (some ⟨tb, 0, none⟩), .slice a len cap]⟩ w fun u w' => Ext w w' ∧ ∃ a' len' cap', u = .slice a' len' cap' ∧ View w' a' len' cap' 1 (ri (run M row)) := by
  have hrl := ri_lens hv
  refine go40 (by rfl) ?_
  (repeat ((conv => whnf); (first | (with_reducible first | refine jA ?_ | refine jB ?_ | refine jC ?_ | refine jD ?_) | refine jE ?_ | refine jF ?_ | refine jG ?_ | refine jH ?_ | refine jI ?_ | refine jJ ?_ | refine jK ?_ | refine jL ?_ | refine jM ?_ | refine jN ?_ | refine jO ?_ | refine jP ?_ | refine jQ ?_ | refine jR ?_ | refine jS (k := ?_) | refine jT (k := ?_)))); (conv => whnf)
  refine r_cal (cloneI_ok hv hl) ?_
  rintro _ w1 ⟨hx1, a1, l1, c1, rfl, hv1⟩
  (repeat ((conv => whnf); (first | (with_reducible first | refine jA ?_ | refine jB ?_ | refine jC ?_ | refine jD ?_) | refine jE ?_ | refine jF ?_ | refine jG ?_ | refine jH ?_ | refine jI ?_ | refine jJ ?_ | refine jK ?_ | refine jL ?_ | refine jM ?_ | refine jN ?_ | refine jO ?_ | refine jP ?_ | refine jQ ?_ | refine jR ?_ | refine jS (k := ?_) | refine jT (k := ?_)))); (conv => whnf)
  refine r_loop (σ := (Option Addr × Nat × Nat)) (fun s => [.slice s.1 s.2.1 s.2.2]) (fun s w' => Ext w w' ∧ ∃ r, View w' s.1 s.2.1 s.2.2 1 (ri r) ∧ r.length ≤ row.length ∧ run M r = run M row ∧ ∀ i ∈ r, I64 i) (fun s _ => s.2.1) (a1, l1, c1) rfl ⟨hx1, row, hv1, Nat.le_refl _, rfl, hI⟩ ?_
  rintro ⟨a2, l2, c2⟩ w2 again ⟨hx2, r, hr, hrl2, hrun, hIr⟩ hagain
  dsimp only at hr hrl2 hrun hagain ⊢
  have hl2 := ri_lens hr
  (repeat ((conv => whnf); (first | (with_reducible first | refine jA ?_ | refine jB ?_ | refine jC ?_ | refine jD ?_) | refine jE ?_ | refine jF ?_ | refine jG ?_ | refine jH ?_ | refine jI ?_ | refine jJ ?_ | refine jK ?_ | refine jL ?_ | refine jM ?_ | refine jN ?_ | refine jO ?_ | refine jP ?_ | refine jQ ?_ | refine jR ?_ | refine jS (k := ?_) | refine jT (k := ?_)))); (conv => whnf)
  refine r_cal (pStep_ok (h.ext hx2) hIr hr (by omega)) ?_
  rintro _ w3 ⟨hx3, a3, l3, c3, rfl, hv3⟩
  cases hs : stp M r with
  | none =>
    rw [run_done hs] at hrun
    (repeat ((conv => whnf); (first | (with_reducible first | refine jA ?_ | refine jB ?_ | refine jC ?_ | refine jD ?_) | refine jE ?_ | refine jF ?_ | refine jG ?_ | refine jH ?_ | refine jI ?_ | refine jJ ?_ | refine jK ?_ | refine jL ?_ | refine jM ?_ | refine jN ?_ | refine jO ?_ | refine jP ?_ | refine jQ ?_ | refine jR ?_ | refine jS (k := ?_) | refine jT (k := ?_)))); (conv => whnf)
    refine r_true (by rfl) ?_
    (repeat ((conv => whnf); (first | (with_reducible first | refine jA ?_ | refine jB ?_ | refine jC ?_ | refine jD ?_) | refine jE ?_ | refine jF ?_ | refine jG ?_ | refine jH ?_ | refine jI ?_ | refine jJ ?_ | refine jK ?_ | refine jL ?_ | refine jM ?_ | refine jN ?_ | refine jO ?_ | refine jP ?_ | refine jQ ?_ | refine jR ?_ | refine jS (k := ?_) | refine jT (k := ?_)))); (conv => whnf)
    exact ⟨hx2.trans hx3, a2, l2, c2, rfl, by rw [← hrun]; exact hr.ext hx3⟩
  | some r' =>
    rw [hs] at hv3
    have hsl := stp_len hs
    have hv3 : View w3 a3 l3 c3 1 (ri r') := hv3
    have hl3 := ri_lens hv3
    (repeat ((conv => whnf); (first | (with_reducible first | refine jA ?_ | refine jB ?_ | refine jC ?_ | refine jD ?_) | refine jE ?_ | refine jF ?_ | refine jG ?_ | refine jH ?_ | refine jI ?_ | refine jJ ?_ | refine jK ?_ | refine jL ?_ | refine jM ?_ | refine jN ?_ | refine jO ?_ | refine jP ?_ | refine jQ ?_ | refine jR ?_ | refine jS (k := ?_) | refine jT (k := ?_)))); (conv => whnf)
    refine r_false (by rfl) ?_
    (repeat ((conv => whnf); (first | (with_reducible first | refine jA ?_ | refine jB ?_ | refine jC ?_ | refine jD ?_) | refine jE ?_ | refine jF ?_ | refine jG ?_ | refine jH ?_ | refine jI ?_ | refine jJ ?_ | refine jK ?_ | refine jL ?_ | refine jM ?_ | refine jN ?_ | refine jO ?_ | refine jP ?_ | refine jQ ?_ | refine jR ?_ | refine jS (k := ?_) | refine jT (k := ?_)))); (conv => whnf)
    exact hagain (a3, l3, c3) w3 ⟨hx2.trans hx3, r', hv3, by omega, by rw [← run_step hs]; exact hrun, stp_i64 hM hIr hs⟩ (by dsimp only; omega)
end
end Fb.Try.VO
