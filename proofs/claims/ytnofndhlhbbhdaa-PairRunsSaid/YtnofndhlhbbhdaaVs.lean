/-
  The calculus is sound: what 'vc' asks of a function's slim code is enough for a call of the function.
-/
import Derived.Test.YtnofndhlhbbhdaaVc
import Derived.WalkKit
import Derived.Laws.Cover1
namespace Fb
open Go

section
variable {P : Program} {C : World → Prop} {L : Env} {K : Sv → Prop} {a : Act} {n : Nat}

/-- The operation's value, in every world of the class. -/
def Gives (P : Program) (C : World → Prop) (a : Act) (o : Oper) (K : Sv → Prop) : Prop :=
  ∃ s, K s ∧ ∀ w, C w → (execOp a.eval o).run P w = .ok (.value s.val) w

/-- A value, whatever the world. -/
theorem gives_of (o : Oper) (s : Sv) (hk : K s) (h : ∀ w, (execOp a.eval o).run P w = .ok (.value s.val) w) : Gives P C a o K := ⟨s, hk, fun w _ => h w⟩

theorem nthL_spec : ∀ {vs : List Value} {i : Nat} {K : Value → Prop}, nthL vs i K → ∃ v, vs[i]? = some v ∧ K v
  | v :: _, 0, _, h => ⟨v, by simp, h⟩
  | _ :: vs, i + 1, K, h => let ⟨v, hv, hk⟩ := nthL_spec (vs := vs) (i := i) (K := K) h; ⟨v, by simpa using hv, hk⟩
theorem takeL_spec : ∀ {vs : List Value} {m : Nat} {K : List Value → Prop}, takeL vs m K → m ≤ vs.length ∧ K (vs.take m)
  | _, 0, _, h => ⟨by omega, by simpa [takeL] using h⟩
  | v :: vs, m + 1, K, h => by
    obtain ⟨h1, h2⟩ := takeL_spec (vs := vs) (m := m) h
    exact ⟨by simp; omega, by simpa using h2⟩
theorem dropL_spec : ∀ {vs : List Value} {m : Nat} {K : List Value → Prop}, dropL vs m K → m ≤ vs.length ∧ K (vs.drop m)
  | _, 0, _, h => ⟨by omega, by simpa [dropL] using h⟩
  | v :: vs, m + 1, K, h => by
    obtain ⟨h1, h2⟩ := dropL_spec (vs := vs) (m := m) h
    exact ⟨by simp; omega, by simpa using h2⟩

theorem Sv.ofB_val (b : Bool) : (Sv.ofB b).val = .bool b := by cases b <;> rfl

theorem gives_mv {o : Oper} {x : Operand} (ho : o.op = .move x ∨ o.op = .assign x) (h : rdS L x K) (ha : Agr a.tmps n L) : Gives P C a o K := by
  obtain ⟨s, hk, he⟩ := rdS_sound h ha
  refine gives_of o s hk fun w => ?_
  rcases ho with ho | ho <;> simp [execOp, ho, he]

theorem run_pick {o : Oper} {c x y : Operand} {b : Bool} (ho : o.op = .pick c x y) (hb : a.eval c = .bool b) (w : World) : (execOp a.eval o).run P w = .ok (.value (a.eval (if b then x else y))) w := by
  cases b <;> simp [execOp, ho, hb, asBool]

theorem gives_pick {o : Oper} {c x y : Operand} (ho : o.op = .pick c x y) (h : yd P C L (.pick c x y) K) (ha : Agr a.tmps n L) : Gives P C a o K := by
  simp only [yd] at h
  obtain ⟨s, hs, he⟩ := rdS_sound h ha
  have key : ∀ b : Bool, a.eval c = .bool b → (∃ s, K s ∧ a.eval (if b then x else y) = s.val) → Gives P C a o K := by
    rintro b hb ⟨s, hk, hv⟩
    exact gives_of o s hk fun w => by rw [run_pick ho hb, hv]
  cases s with
  | t => exact key true he (rdS_sound hs ha)
  | f => exact key false he (rdS_sound hs ha)
  | v u =>
    cases u with
    | bool b =>
      simp only [Cond_eq] at hs
      cases b with
      | true => exact key true he (rdS_sound (hs.1 rfl) ha)
      | false => exact key false he (rdS_sound (hs.2 rfl) ha)
    | _ => exact hs.elim

theorem gives_sv {o : Oper} {v : Value} (hk : K (.v v)) (h : ∀ w, (execOp a.eval o).run P w = .ok (.value v) w) : Gives P C a o K := gives_of o (.v v) hk h

theorem gives_ibin {o : Oper} {op : BinOp} {t u : TypeId} {k : IntKind} {x y : Operand} (ho : o.op = .binOp op t x y u)
    (h : yd P C L (.ibin op k x y) K) (ha : Agr a.tmps n L) : Gives P C a o K := by
  by_cases hsh : op = .shl ∨ op = .shr
  · have key : rdI L k x fun x => rdZ L y fun y => ibinV op k x y K := by
      rcases hsh with rfl | rfl <;> exact h
    obtain ⟨m, hm, h1⟩ := rdI_sound key ha
    obtain ⟨j, z, hz, h2⟩ := rdZ_sound h1 ha
    rcases hsh with rfl | rfl
    · simp only [ibinV, Need_eq, Wrap_eq, Shl_eq] at h2
      exact gives_sv h2.2 fun w => by simp [execOp, ho, hm, hz, eqGuard, binOp, Op.shift, show ¬ z < 0 by omega]
    · simp only [ibinV, Need_eq, Shr_eq] at h2
      exact gives_sv h2.2 fun w => by simp [execOp, ho, hm, hz, eqGuard, binOp, Op.shift, show ¬ z < 0 by omega]
  · have key : rdI L k x fun x => rdI L k y fun y => ibinV op k x y K := by
      cases op <;> simp only [yd] at h <;> first | exact h | (simp at hsh; done)
    obtain ⟨m, hm, h1⟩ := rdI_sound key ha
    obtain ⟨z, hz, h2⟩ := rdI_sound h1 ha
    cases op <;> first | (simp at hsh; done) | skip
    all_goals simp only [ibinV, Wrap_eq, Need_eq, Quo_eq, Rem_eq, Bits_eq] at h2
    case quo => exact gives_sv h2.2 fun w => by simp [execOp, ho, hm, hz, eqGuard, binOp, Op.intDiv, h2.1]
    case rem => exact gives_sv h2.2 fun w => by simp [execOp, ho, hm, hz, eqGuard, binOp, Op.intDiv, h2.1]
    all_goals exact gives_sv h2 fun w => by simp [execOp, ho, hm, hz, eqGuard, binOp, Op.intArith, Op.intBits, Op.intCmp, bitsOf]

theorem gives_sbin {o : Oper} {op : BinOp} {t u : TypeId} {x y : Operand} (ho : o.op = .binOp op t x y u)
    (h : yd P C L (.sbin op x y) K) (ha : Agr a.tmps n L) : Gives P C a o K := by
  simp only [yd] at h
  have h0 := rd_sound h ha
  have h1 := rd_sound h0 ha
  clear h0 h
  generalize hx : a.eval x = vx at h1
  generalize hy : a.eval y = vy at h1
  cases vx <;> cases vy <;> first | exact h1.elim | skip
  rename_i s1 s2
  cases op <;> simp only [sbinV, Need_eq] at h1 <;> first | exact h1.elim | skip
  case add =>
    have hr := fun w => run_string_add_sum (P := P) w s1 s2 h1.1
    exact gives_sv h1.2 fun w => by simp only [execOp, ho, hx, hy, eqGuard, binOp_string_add, Sem.run_bind, Sem.run_pure, hr]; simp
  case eql => exact gives_sv h1 fun w => by simp [execOp, ho, hx, hy, eqGuard, binOp_string_eql]
  case neq => exact gives_sv h1 fun w => by simp [execOp, ho, hx, hy, eqGuard, binOp_string_neq]
  case lss => exact gives_sv h1 fun w => by simp [execOp, ho, hx, hy, eqGuard, binOp_string_lss]
  case leq => exact gives_sv h1 fun w => by simp [execOp, ho, hx, hy, eqGuard, binOp_string_leq]
  case gtr => exact gives_sv h1 fun w => by simp only [execOp, ho, hx, hy, eqGuard, binOp_string_gtr, Sem.run_bind, Sem.run_pure]; simp
  case geq => exact gives_sv h1 fun w => by simp [execOp, ho, hx, hy, eqGuard, binOp_string_geq]

theorem gives_notB {o : Oper} {t : TypeId} {x : Operand} (ho : o.op = .unOp .not t x) (h : yd P C L (.notB x) K) (ha : Agr a.tmps n L) : Gives P C a o K := by
  simp only [yd] at h
  obtain ⟨s, hs, he⟩ := rdS_sound h ha
  clear h
  cases s with
  | t => exact gives_of o .f hs fun w => by simp [execOp, ho, he, Sv.val, Op.unary]
  | f => exact gives_of o .t hs fun w => by simp [execOp, ho, he, Sv.val, Op.unary]
  | v u =>
    cases u <;> simp only at hs
    exact gives_sv hs fun w => by simp [execOp, ho, he, Sv.val, Op.unary]

theorem gives_neg {o : Oper} {t : TypeId} {k : IntKind} {x : Operand} (ho : o.op = .unOp .neg t x) (h : yd P C L (.neg k x) K) (ha : Agr a.tmps n L) : Gives P C a o K := by
  simp only [yd, Wrap_eq] at h
  obtain ⟨z, hz, h1⟩ := rdI_sound h ha
  exact gives_sv h1 fun w => by simp [execOp, ho, hz, Op.unary, Op.intArith]

theorem gives_conv {o : Oper} {src dst : TypeId} {j k : IntKind} {x : Operand} (ho : o.op = .convert src dst x) (hs : P.underlying src = some (.int j)) (hd : P.underlying dst = some (.int k))
    (h : yd P C L (.conv k x) K) (ha : Agr a.tmps n L) : Gives P C a o K := by
  simp only [yd, Wrap_eq] at h
  obtain ⟨j, z, hz, h1⟩ := rdZ_sound h ha
  exact gives_sv h1 fun w => by simp [execOp, ho, hz, convert, run_underlying hs, run_underlying hd, Conv.intToInt]

theorem gives_nck {o : Oper} {x : Operand} (ho : o.op = .nilCheck x) (h : yd P C L (.nck x) K) (ha : Agr a.tmps n L) : Gives P C a o K := by
  simp only [yd] at h
  have h1 := rd_sound h ha
  clear h
  generalize hx : a.eval x = v at h1
  split at h1
  · exact gives_sv h1 fun w => by simp [execOp, ho, hx]
  · split at h1
    · simp only [NilNo_eq] at h1
      obtain ⟨hn, h1⟩ := h1
      exact gives_sv h1 fun w => by simp [execOp, ho, hx, hn w]
    · exact h1.elim
  · exact gives_sv h1 fun w => by simp [execOp, ho, hx]
  · exact gives_sv h1 fun w => by simp [execOp, ho, hx]
  · exact h1.elim

theorem gives_ext {o : Oper} {x : Operand} {i : Nat} (ho : o.op = .extract x i) (h : yd P C L (.ext x i) K) (ha : Agr a.tmps n L) : Gives P C a o K := by
  simp only [yd] at h
  have h1 := rd_sound h ha
  clear h
  generalize hx : a.eval x = v at h1
  split at h1
  · obtain ⟨v, hv, hk⟩ := nthL_spec h1
    exact gives_sv hk fun w => by simp [execOp, ho, hx, Instr.extract, hv]
  · exact h1.elim

theorem gives_mkf {o : Oper} {fn : Go.Fn} {first captured : Array Operand} (ho : o.op = .makeFunc fn first captured) (h : yd P C L (.mkf fn first.toList captured.toList) K) (ha : Agr a.tmps n L) : Gives P C a o K := by
  simp only [yd] at h
  have h1 := rds_sound ha _ _ h
  have h2 := rds_sound ha _ _ h1
  refine gives_sv h2 fun w => ?_
  simp only [execOp, ho, Instr.makeFunc, Sem.run_bind, Sem.run_pure, Result.andThen_ok]
  congr 3 <;> simp [← Array.toList_inj]

theorem gives_mki {o : Oper} {t : TypeId} {d : TypeDesc} {x : Operand} (ho : o.op = .makeInterface t x) (hd : P.underlying t = some d) (hi : ∀ ms, d ≠ .interface ms) (h : yd P C L (.mki t x) K) (ha : Agr a.tmps n L) : Gives P C a o K := by
  simp only [yd] at h
  have h1 := rd_sound h ha
  refine gives_sv h1 fun w => ?_
  cases d <;> first | (simp [execOp, ho, Instr.makeInterface, run_underlying hd]; done) | exact absurd rfl (hi _)

theorem gives_ld {o : Oper} {t : TypeId} {x : Operand} (ho : o.op = .load t x) (ht : agg? P t = false) (hu : (P.underlying t).isSome = true) (h : yd P C L (.ld x) K) (ha : Agr a.tmps n L) : Gives P C a o K := by
  simp only [yd] at h
  have h1 := rd_sound h ha
  clear h
  generalize hx : a.eval x = v at h1
  split at h1
  · simp only [Load_eq] at h1
    obtain ⟨v, hv, hk⟩ := h1
    refine ⟨.v v, hk, fun w hw => ?_⟩
    obtain ⟨d, hd⟩ := Option.isSome_iff_exists.1 hu
    have hagg : (isAgg t).run P w = .ok false w := by
      unfold agg? at ht
      rw [hd] at ht
      cases d <;> first | (simp at ht; done) | simp [isAgg, run_underlying hd]
    simp [execOp, ho, hx, Instr.loadAt, Instr.sureAddr, loadVar, hagg, hv w hw, Sv.val]
  · exact h1.elim

theorem run_loadCellsFrom (ad : Addr) (w : World) : ∀ (vs : List Value) (i : Nat) (acc : Array Value), (∀ j v, vs[j]? = some v → w.cell? (ad.add (i + j)) = some v) →
    (loadCellsFrom ad i vs.length acc).run P w = .ok (acc ++ vs.toArray) w
  | [], i, acc, _ => by simp [loadCellsFrom]
  | v :: vs, i, acc, h => by
    have h0 := h 0 v (by simp)
    have ih := run_loadCellsFrom ad w vs (i + 1) (acc.push v) (fun j u hj => by
      have := h (j + 1) u (by simpa using hj)
      rwa [show i + (j + 1) = i + 1 + j by omega] at this)
    simp only [Nat.add_zero] at h0
    simp [loadCellsFrom, h0, ih]

theorem gives_ldn {o : Oper} {t : TypeId} {i : TypeInfo} {x : Operand} (ho : o.op = .load t x) (ht : agg? P t = true) (hi : P.info? t = some i) (h : yd P C L (.ldn i.size x) K) (ha : Agr a.tmps n L) : Gives P C a o K := by
  simp only [yd] at h
  have h1 := rd_sound h ha
  clear h
  generalize hx : a.eval x = v at h1
  split at h1
  · simp only [LoadN_eq] at h1
    obtain ⟨vs, hl, hv, hk⟩ := h1
    refine ⟨.v (.agg ⟨vs⟩), hk, fun w hw => ?_⟩
    have hagg : (isAgg t).run P w = .ok true w := by
      unfold agg? at ht
      split at ht
      · rename_i hd; simp [isAgg, run_underlying hd]
      · rename_i hd; simp [isAgg, run_underlying hd]
      · cases ht
    have hr := run_loadCellsFrom (P := P) _ w vs 0 #[] (fun j v hj => by rw [Nat.zero_add]; exact hv w hw j v hj)
    rw [hl] at hr
    simp [execOp, ho, hx, Instr.loadAt, Instr.sureAddr, loadVar, hagg, Go.sizeOf, typeInfo, hi, loadCells, hr, Sv.val]
  · exact h1.elim

theorem Addr.add_plain (b o k : Nat) : (⟨b, o, none⟩ : Addr).add k = ⟨b, o + k, none⟩ := by
  unfold Addr.add
  split
  · rename_i h; subst h; rfl
  · rfl

theorem gives_fad {o : Oper} {s : TypeId} {x : Operand} {f : Nat} {fields : Array Field} {fd : Field} {inf : TypeInfo} (ho : o.op = .fieldAddr s x f) (hs : P.underlying s = some (.struct fields)) (hf : fields[f]? = some fd)
    (hi : P.info? fd.type = some inf) (hz : P.cellsOf fd.type ≠ 0) (h : yd P C L (.fad fd.offset x) K) (ha : Agr a.tmps n L) : Gives P C a o K := by
  simp only [yd] at h
  have h1 := rd_sound h ha
  clear h
  generalize hx : a.eval x = v at h1
  split at h1
  · have hz' : inf.size ≠ 0 := by simpa [Program.cellsOf, hi] using hz
    exact gives_sv h1 fun w => by simp [execOp, ho, hx, Instr.fieldAt, run_underlying hs, hf, Instr.sureAddr, fieldPlace, Go.sizeOf, typeInfo, hi, hz', Addr.add_plain]
  · exact h1.elim

theorem run_part_one {t : TypeId} (ht : agg? P t = false) (hu : (P.underlying t).isSome = true) (cs : Array Value) (off : Nat) (v : Value) (hv : cs[off]? = some v) (w : World) : (part t cs off).run P w = .ok v w := by
  obtain ⟨d, hd⟩ := Option.isSome_iff_exists.1 hu
  have hagg : (isAgg t).run P w = .ok false w := by
    unfold agg? at ht
    rw [hd] at ht
    cases d <;> first | (simp at ht; done) | simp [isAgg, run_underlying hd]
  simp [part, hagg, hv]

theorem gives_fld {o : Oper} {t : TypeId} {x : Operand} {f : Nat} {fields : Array Field} {fd : Field} (ho : o.op = .field t x f) (hs : P.underlying t = some (.struct fields)) (hf : fields[f]? = some fd)
    (ht : agg? P fd.type = false) (hu : (P.underlying fd.type).isSome = true) (h : yd P C L (.fld fd.offset x) K) (ha : Agr a.tmps n L) : Gives P C a o K := by
  simp only [yd] at h
  have h1 := rd_sound h ha
  clear h
  generalize hx : a.eval x = v at h1
  split at h1
  · obtain ⟨v, hv, hk⟩ := nthL_spec h1
    refine gives_sv hk fun w => ?_
    have := run_part_one (P := P) ht hu ⟨_⟩ fd.offset v (by simpa using hv) w
    simp [execOp, ho, hx, Instr.field, run_underlying hs, hf, asAgg, this]
  · exact h1.elim

theorem gives_flds {o : Oper} {t : TypeId} {x : Operand} {f : Nat} {fields : Array Field} {fd : Field} {inf : TypeInfo} (ho : o.op = .field t x f) (hs : P.underlying t = some (.struct fields)) (hf : fields[f]? = some fd)
    (ht : agg? P fd.type = true) (hi : P.info? fd.type = some inf) (h : yd P C L (.flds fd.offset inf.size x) K) (ha : Agr a.tmps n L) : Gives P C a o K := by
  simp only [yd] at h
  have h1 := rd_sound h ha
  clear h
  generalize hx : a.eval x = v at h1
  split at h1
  · rename_i cs
    obtain ⟨hl, h2⟩ := dropL_spec h1
    obtain ⟨hl2, hk⟩ := takeL_spec h2
    refine gives_sv hk fun w => ?_
    have hagg : (isAgg fd.type).run P w = .ok true w := by
      unfold agg? at ht
      split at ht
      · rename_i hd; simp [isAgg, run_underlying hd]
      · rename_i hd; simp [isAgg, run_underlying hd]
      · cases ht
    simp [execOp, ho, hx, Instr.field, run_underlying hs, hf, asAgg, part, hagg, Go.sizeOf, typeInfo, hi, List.extract_eq_take_drop]
  · exact h1.elim

theorem gives_ixA {o : Oper} {t e : TypeId} {inf : TypeInfo} {x i : Operand} (ho : o.op = .indexAddr t x i) (ht : P.underlying t = some (.slice e)) (hi : P.info? e = some inf) (h : yd P C L (.ixA inf.size x i) K) (ha : Agr a.tmps n L) : Gives P C a o K := by
  simp only [yd] at h
  obtain ⟨k, z, hz, h1⟩ := rdZ_sound (rd_sound h ha) ha
  clear h
  generalize hx : a.eval x = v at h1
  split at h1
  · rename_i ad len cap
    simp only [Need_eq, plainA] at h1
    obtain ⟨hb, hp, h1⟩ := h1
    generalize blk ad = b at hp h1
    generalize ofs ad = f at hp h1
    subst hp
    exact gives_sv h1 fun w => by simp [execOp, ho, hx, hz, Instr.indexAt, asIntOf, run_underlying ht, hb, Go.sizeOf, typeInfo, hi, Addr.add_plain]
  · exact h1.elim

theorem gives_ixP {o : Oper} {t e : TypeId} {len : Nat} {inf : TypeInfo} {x i : Operand} (ho : o.op = .indexAddr t x i) (ht : P.underlying t = some (.array len e)) (hi : P.info? e = some inf) (h : yd P C L (.ixP len inf.size x i) K) (ha : Agr a.tmps n L) : Gives P C a o K := by
  simp only [yd] at h
  obtain ⟨k, z, hz, h1⟩ := rdZ_sound (rd_sound h ha) ha
  clear h
  generalize hx : a.eval x = v at h1
  split at h1
  · simp only [Need_eq] at h1
    obtain ⟨hb, h1⟩ := h1
    exact gives_sv h1 fun w => by simp [execOp, ho, hx, hz, Instr.indexAt, Instr.sureAddr, asIntOf, run_underlying ht, hb, Go.sizeOf, typeInfo, hi, Addr.add_plain]
  · exact h1.elim

theorem gives_ixS {o : Oper} {t : TypeId} {x i : Operand} (ho : o.op = .index t x i) (ht : P.underlying t = some .string) (h : yd P C L (.ixS x i) K) (ha : Agr a.tmps n L) : Gives P C a o K := by
  simp only [yd] at h
  obtain ⟨k, z, hz, h1⟩ := rdZ_sound (rd_sound h ha) ha
  clear h
  generalize hx : a.eval x = v at h1
  split at h1
  · simp only [ByteAt_eq] at h1
    obtain ⟨b, hb, hs, hk⟩ := h1
    exact gives_sv hk fun w => by simp [execOp, ho, hx, hz, Instr.index, asIntOf, run_underlying ht, hb, hs]
  · exact h1.elim


theorem gives_lenA {o : Oper} {c : Call} {e : TypeId} {x : Operand} (ho : o.op = .call c) (hc : c.callee = .builtin .len) (hx : c.args.toList = [x]) (ht : (c.argTypes[0]?).bind P.underlying = some (.slice e))
    (h : yd P C L (.lenA x) K) (ha : Agr a.tmps n L) : Gives P C a o K := by
  simp only [yd] at h
  have h1 := rd_sound h ha
  clear h
  obtain ⟨callee, args, ats⟩ := c
  obtain ⟨args⟩ := args
  simp only at hc hx ht
  subst hc hx
  obtain ⟨t, ht, hu⟩ := Option.bind_eq_some_iff.1 ht
  generalize hv : a.eval x = v at h1
  split at h1
  · exact gives_sv h1 fun w => by simp [execOp, ho, resolve, invoke, builtin, Builtin.len_, ht, hv, run_underlying hu, goInt]
  · exact h1.elim

theorem gives_lenS {o : Oper} {c : Call} {x : Operand} (ho : o.op = .call c) (hc : c.callee = .builtin .len) (hx : c.args.toList = [x]) (ht : (c.argTypes[0]?).bind P.underlying = some .string)
    (h : yd P C L (.lenS x) K) (ha : Agr a.tmps n L) : Gives P C a o K := by
  simp only [yd] at h
  have h1 := rd_sound h ha
  clear h
  obtain ⟨callee, args, ats⟩ := c
  obtain ⟨args⟩ := args
  simp only at hc hx ht
  subst hc hx
  obtain ⟨t, ht, hu⟩ := Option.bind_eq_some_iff.1 ht
  generalize hv : a.eval x = v at h1
  split at h1
  · exact gives_sv h1 fun w => by simp [execOp, ho, resolve, invoke, builtin, Builtin.len_, ht, hv, run_underlying hu, goInt]
  · exact h1.elim

theorem gives_max {o : Oper} {c : Call} {k : IntKind} {x y : Operand} (ho : o.op = .call c) (hc : c.callee = .builtin .max) (hx : c.args.toList = [x, y])
    (h : yd P C L (.mm true k x y) K) (ha : Agr a.tmps n L) : Gives P C a o K := by
  simp only [yd, cond_true] at h
  obtain ⟨p, hp, h1⟩ := rdI_sound h ha
  obtain ⟨q, hq, h2⟩ := rdI_sound h1 ha
  clear h h1
  obtain ⟨callee, args, ats⟩ := c
  obtain ⟨args⟩ := args
  simp only at hc hx
  subst hc hx
  refine gives_sv h2 fun w => ?_
  simp [execOp, ho, resolve, invoke, builtin, Builtin.max_, Builtin.max2, hp, hq]
  omega

theorem gives_min {o : Oper} {c : Call} {k : IntKind} {x y : Operand} (ho : o.op = .call c) (hc : c.callee = .builtin .min) (hx : c.args.toList = [x, y])
    (h : yd P C L (.mm false k x y) K) (ha : Agr a.tmps n L) : Gives P C a o K := by
  simp only [yd, cond_false] at h
  obtain ⟨p, hp, h1⟩ := rdI_sound h ha
  obtain ⟨q, hq, h2⟩ := rdI_sound h1 ha
  clear h h1
  obtain ⟨callee, args, ats⟩ := c
  obtain ⟨args⟩ := args
  simp only at hc hx
  subst hc hx
  refine gives_sv h2 fun w => ?_
  simp [execOp, ho, resolve, invoke, builtin, Builtin.min_, Builtin.min2, hp, hq]
  omega

theorem equal_unfold (t : TypeId) (x y : Value) : Op.equal t x y = Op.equalIn (9999 + 1) t x y := rfl

theorem run_equal_bool {t : TypeId} (ht : P.underlying t = some .bool) (x y : Bool) (w : World) : (Op.equal t (.bool x) (.bool y)).run P w = .ok (x == y) w := by
  rw [equal_unfold, Op.equalIn]; simp [run_underlying ht]
theorem run_equal_ptr_none {t e : TypeId} (ht : P.underlying t = some (.pointer e)) (x : Option Addr) (w : World) : (Op.equal t (.pointer x) (.pointer none)).run P w = .ok x.isNone w := by
  rw [equal_unfold, Op.equalIn]; cases x <;> simp [run_underlying ht]
theorem run_equal_slice_none {t e : TypeId} (ht : P.underlying t = some (.slice e)) (x : Option Addr) (l c : Nat) (w : World) : (Op.equal t (.slice x l c) (.slice none 0 0)).run P w = .ok x.isNone w := by
  rw [equal_unfold, Op.equalIn]; cases x <;> simp [run_underlying ht]
theorem run_equal_map_none {t k e : TypeId} (ht : P.underlying t = some (.map k e)) (x : Option Nat) (w : World) : (Op.equal t (.map x) (.map none)).run P w = .ok x.isNone w := by
  rw [equal_unfold, Op.equalIn]; cases x <;> simp [run_underlying ht]
theorem run_equal_func_none {t : TypeId} {p r : Array TypeId} {v : Bool} (ht : P.underlying t = some (.func p r v)) (f : Go.Fn) (x y : Array Value) (w : World) : (Op.equal t (.func f x y) .nilFunc).run P w = .ok false w := by
  rw [equal_unfold, Op.equalIn]; simp [run_underlying ht]
theorem run_equal_nilFunc {t : TypeId} {p r : Array TypeId} {v : Bool} (ht : P.underlying t = some (.func p r v)) (w : World) : (Op.equal t .nilFunc .nilFunc).run P w = .ok true w := by
  rw [equal_unfold, Op.equalIn]; simp [run_underlying ht]

/-- '==', '!=' by 'equal'. -/
theorem run_eqop {o : Oper} {ne b : Bool} {t u : TypeId} {x y : Operand} (ho : o.op = .binOp (bif ne then .neq else .eql) t x y u) {vx vy : Value} (hx : a.eval x = vx) (hy : a.eval y = vy)
    (hg : ∀ op, eqGuard op t x y vx vy = pure ()) (hq : binOp .eql t vx vy = do pure (.bool (← Op.equal t vx vy))) (hq' : binOp .neq t vx vy = do pure (.bool (!(← Op.equal t vx vy))))
    (w : World) (he : (Op.equal t vx vy).run P w = .ok b w) : (execOp a.eval o).run P w = .ok (.value (.bool (if ne then !b else b))) w := by
  cases ne with
  | true =>
    simp only [cond_true] at ho
    simp only [execOp, ho, hx, hy, hg, hq', Sem.run_bind, Sem.run_pure, Result.andThen_ok, he, if_true]
  | false =>
    simp only [cond_false] at ho
    simp only [execOp, ho, hx, hy, hg, hq, Sem.run_bind, Sem.run_pure, Result.andThen_ok, he, Bool.false_eq_true, if_false]

theorem guard_none {op : BinOp} {t : TypeId} {x y : Operand} {vx vy : Value} (h : (∀ cs, vx ≠ .agg cs) ∧ vx ≠ .nilIface) : eqGuard op t x y vx vy = pure () := by
  cases vx
  case agg cs => exact absurd rfl (h.1 cs)
  case nilIface => exact absurd rfl h.2
  all_goals (cases op <;> first | rfl | (cases vy <;> rfl))

theorem gives_bbin {o : Oper} {ne : Bool} {t u : TypeId} {x y : Operand} (ho : o.op = .binOp (bif ne then .neq else .eql) t x y u) (ht : P.underlying t = some .bool)
    (h : yd P C L (.bbin ne x y) K) (ha : Agr a.tmps n L) : Gives P C a o K := by
  simp only [yd] at h
  have h0 := rd_sound h ha
  have h1 := rd_sound h0 ha
  clear h0 h
  generalize hx : a.eval x = vx at h1
  generalize hy : a.eval y = vy at h1
  split at h1
  · exact gives_sv h1 fun w => run_eqop ho hx hy (fun _ => guard_none ⟨by simp, by simp⟩) rfl rfl w (run_equal_bool ht _ _ w)
  · exact h1.elim

theorem gives_ofB {o : Oper} {b : Bool} (hk : K (Sv.ofB b)) (h : ∀ w, (execOp a.eval o).run P w = .ok (.value (.bool b)) w) : Gives P C a o K :=
  gives_of o _ hk fun w => by rw [Sv.ofB_val]; exact h w

theorem gives_isnil {o : Oper} {ne : Bool} {t u : TypeId} {kind : Nat} {x y : Operand} (ho : o.op = .binOp (bif ne then .neq else .eql) t x y u) (ht : nilKind P t y = some kind)
    (h : yd P C L (.isnil kind ne x) K) (ha : Agr a.tmps n L) : Gives P C a o K := by
  simp only [yd] at h
  have h1 := rd_sound h ha
  clear h
  generalize hx : a.eval x = vx at h1
  unfold nilKind at ht
  split at ht
  all_goals first | (split at ht) | skip
  all_goals first | (cases ht; done) | skip
  all_goals rename_i hu
  all_goals cases ht
  all_goals split at h1
  all_goals first | exact h1.elim | skip
  all_goals first | (rename_i hh; cases hh; done) | (rename_i hh _; cases hh; done) | (rename_i hh _ _; cases hh; done) | (rename_i hh _ _ _; cases hh; done) | skip
  all_goals refine gives_ofB h1 fun w => ?_
  all_goals first
    | exact (run_eqop ho hx rfl (fun _ => guard_none ⟨by simp, by simp⟩) rfl rfl w (run_equal_ptr_none hu _ w)).trans (by cases ne <;> rfl)
    | exact (run_eqop ho hx rfl (fun _ => guard_none ⟨by simp, by simp⟩) rfl rfl w (run_equal_slice_none hu _ _ _ w)).trans (by cases ne <;> rfl)
    | exact (run_eqop ho hx rfl (fun _ => guard_none ⟨by simp, by simp⟩) rfl rfl w (run_equal_map_none hu _ w)).trans (by cases ne <;> rfl)
    | exact (run_eqop ho hx rfl (fun _ => guard_none ⟨by simp, by simp⟩) rfl rfl w (run_equal_func_none hu _ _ _ w)).trans (by cases ne <;> rfl)
    | exact (run_eqop ho hx rfl (fun _ => guard_none ⟨by simp, by simp⟩) rfl rfl w (run_equal_nilFunc hu w)).trans (by cases ne <;> rfl)

theorem gives_get_eq {o : Oper} {op : BinOp} {t u : TypeId} {x y : Operand} (ho : o.op = .binOp op t x y u)
    (h : yd P C L (.get (.eq op t x y) [x, y]) K) (ha : Agr a.tmps n L) : Gives P C a o K := by
  simp only [yd] at h
  have h1 := rds_sound ha _ _ h
  simp only [Get_eq, List.map, G.sem] at h1
  obtain ⟨v, hv, hk⟩ := h1
  refine ⟨.v v, hk, fun w hw => ?_⟩
  have := hv w hw
  simp only [Sem.run_bind] at this
  simp only [execOp, ho, Sem.run_bind, this, Sv.val, Sem.run_pure, Result.andThen_ok]

/-- An operation that is a plain one of G's. -/
theorem gives_get {o : Oper} {g : G} {args : List Operand} (ho : ∀ ρ : Operand → Value, execOp ρ o = do pure (.value (← G.sem g (args.map ρ))))
    (h : yd P C L (.get g args) K) (ha : Agr a.tmps n L) : Gives P C a o K := by
  simp only [yd] at h
  have h1 := rds_sound ha _ _ h
  simp only [Get_eq] at h1
  obtain ⟨v, hv, hk⟩ := h1
  refine ⟨.v v, hk, fun w hw => ?_⟩
  have := hv w hw
  rw [ho]
  simp only [Sem.run_bind, this, Sv.val, Sem.run_pure, Result.andThen_ok]

end
end Fb
