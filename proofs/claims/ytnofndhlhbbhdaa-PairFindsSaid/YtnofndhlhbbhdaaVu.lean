/-
  The calculus is sound, third part: every operation; rows, plans, code, functions.
-/
import Derived.Test.YtnofndhlhbbhdaaVt
namespace Fb
open Go

section
variable {P : Program} {C : World → Prop} {L : Env} {K : Sv → Prop} {a : Act} {n : Nat}

theorem quiet_call {c : Call} {o : Oper} (ho : o.op = .call c) {so : SO} (hs : slimCall P c o.type = some so) (hq : so.quiet = true) (h : yd P C L so K) (ha : Agr a.tmps n L) : Gives P C a o K := by
  unfold slimCall at hs
  split at hs
  · rename_i b hc
    split at hs
    · rename_i x e ha1 ha2
      cases hs
      exact gives_lenA ho hc ha1 ha2 h ha
    · rename_i x ha1 ha2
      cases hs
      exact gives_lenS ho hc ha1 ha2 h ha
    · rename_i x k e ha1 ha2
      cases hs
      refine gives_get (fun ρ => ?_) h ha
      obtain ⟨callee, args, ats⟩ := c
      obtain ⟨args⟩ := args
      simp only at hc ha1
      subst hc ha1
      simp [execOp, ho, resolve, invoke, builtin, G.sem]
    · rename_i x _ ha1
      cases hs
      refine gives_get (fun ρ => ?_) h ha
      obtain ⟨callee, args, ats⟩ := c
      obtain ⟨args⟩ := args
      simp only at hc ha1
      subst hc ha1
      simp [execOp, ho, resolve, invoke, builtin, G.sem]
    · rename_i x y k ha1 _
      cases hs
      exact gives_min ho hc ha1 h ha
    · rename_i x y k ha1 _
      cases hs
      exact gives_max ho hc ha1 h ha
    all_goals first | (cases hs; done) | (cases hs; cases hq)
  · split at hs
    · cases hs; cases hq
    · cases hs
  · cases hs; cases hq
  · cases hs; cases hq

theorem gives_bin {o : Oper} {op : BinOp} {t u : TypeId} {x y : Operand} (ho : o.op = .binOp op t x y u) {so : SO} (hs : slimBin P op t x y = some so) (h : yd P C L so K) (ha : Agr a.tmps n L) : Gives P C a o K := by
  unfold slimBin at hs
  split at hs
  · cases hs; exact gives_ibin ho h ha
  · cases hs; exact gives_sbin ho h ha
  · rename_i hu
    split at hs
    · cases hs; exact gives_bbin (ne := false) ho hu h ha
    · cases hs; exact gives_bbin (ne := true) ho hu h ha
    · cases hs
  · split at hs
    · rename_i hk; cases hs; exact gives_isnil (ne := false) ho hk h ha
    · rename_i hk; cases hs; exact gives_isnil (ne := true) ho hk h ha
    · cases hs; exact gives_get_eq ho h ha
    · cases hs; exact gives_get_eq ho h ha
    · cases hs

theorem gives_get_slice {o : Oper} {t : TypeId} {x : Operand} {lo hi mx : Option Operand} (ho : o.op = .slice t x lo hi mx) (hm : ¬(mx.isSome && !hi.isSome) = true)
    (h : yd P C L (.get (.slice t lo.isSome hi.isSome mx.isSome) (x :: (lo.toList ++ hi.toList ++ mx.toList))) K) (ha : Agr a.tmps n L) : Gives P C a o K := by
  refine gives_get (fun ρ => ?_) h ha
  cases lo <;> cases hi <;> cases mx <;> first | (simp at hm; done) | simp [execOp, ho, G.sem]

/-- EVERY QUIET OPERATION. -/
theorem yd_sound {o : Oper} {so : SO} (hs : slimOp P o = some so) (hq : so.quiet = true) (h : yd P C L so K) (ha : Agr a.tmps n L) : Gives P C a o K := by
  unfold slimOp at hs
  split at hs
  case h_1 ho => cases hs; exact gives_mv (.inl ho) h ha
  case h_2 ho => cases hs; exact gives_mv (.inr ho) h ha
  case h_3 ho => cases hs; exact gives_pick ho h ha
  case h_4 ho => exact gives_bin ho hs h ha
  case h_5 ho => cases hs; exact gives_notB ho h ha
  case h_6 ho =>
    split at hs
    · cases hs; exact gives_neg ho h ha
    · cases hs
  case h_7 ho =>
    split at hs
    · rename_i h1 h2; cases hs; exact gives_conv ho h1 h2 h ha
    · cases hs; exact gives_get (fun ρ => by simp [execOp, ho, G.sem]) h ha
    · cases hs; exact gives_get (fun ρ => by simp [execOp, ho, G.sem]) h ha
    · cases hs; cases hq
    · cases hs; cases hq
    · cases hs
  case h_8 ho => exact quiet_call ho hs hq h ha
  case h_9 ho =>
    split at hs
    · cases hs; cases hq
    · cases hs
  case h_10 ho => cases hs; cases hq
  case h_11 ho =>
    split at hs
    · rename_i h1 h2; cases hs; exact gives_bld ho h1 h2 h ha
    · cases hs
  case h_12 ho =>
    split at hs
    · split at hs
      · split at hs
        · cases hs; cases hq
        · cases hs
      · cases hs
    · cases hs
  case h_13 ho =>
    split at hs
    · rename_i h1 h2; cases hs; exact gives_ldn ho h1 h2 h ha
    · rename_i h1 _
      split at hs
      · rename_i h2; cases hs; exact gives_ld ho h1 h2 h ha
      · cases hs
    · cases hs
  case h_14 ho =>
    split at hs
    · cases hs; cases hq
    · split at hs
      · cases hs; cases hq
      · cases hs
    · cases hs
  case h_15 ho => cases hs; exact gives_nck ho h ha
  case h_16 ho =>
    split at hs
    · cases hs
    · rename_i d hn hd; cases hs; exact gives_mki ho hd (fun ms e => hn ms e) h ha
    · cases hs
  case h_17 ho => cases hs; exact gives_mkf ho h ha
  case h_18 ho => cases hs; cases hq
  case h_19 ho => cases hs; cases hq
  case h_20 t x lo hi mx ho =>
    split at hs
    · rename_i h1
      obtain ⟨inf, hinf, he⟩ := Option.map_eq_some_iff.1 hs
      subst he; exact gives_slc ho h1 hinf h ha
    · rename_i h1; cases hs; exact gives_sls ho h1 h ha
    · split at hs
      · cases hs
      · rename_i hm
        cases hs
        exact gives_get_slice ho hm h ha
  case h_21 s x f ho =>
    split at hs
    · rename_i fields hu
      split at hs
      · rename_i fd hf
        split at hs
        · cases hs
        · rename_i hz
          simp only [Bool.or_eq_true, beq_iff_eq, Bool.not_eq_true', not_or] at hz
          cases hs
          obtain ⟨inf, hinf⟩ := Option.ne_none_iff_exists'.1 (by simpa using hz.2)
          exact gives_fad ho hu hf hinf hz.1 h ha
      · cases hs
    · cases hs
  case h_22 t x f ho =>
    split at hs
    · rename_i fields hu
      split at hs
      · rename_i fd hf
        split at hs
        · rename_i h1 h2; cases hs; exact gives_flds ho hu hf h1 h2 h ha
        · rename_i h1 _
          split at hs
          · rename_i h2; cases hs; exact gives_fld ho hu hf h1 h2 h ha
          · cases hs
        · cases hs
      · cases hs
    · cases hs
  case h_23 t x i ho =>
    split at hs
    · rename_i h1
      obtain ⟨inf, hinf, he⟩ := Option.map_eq_some_iff.1 hs
      subst he; exact gives_ixA ho h1 hinf h ha
    · rename_i h1
      obtain ⟨inf, hinf, he⟩ := Option.map_eq_some_iff.1 hs
      subst he; exact gives_ixP ho h1 hinf h ha
    · cases hs
  case h_24 t x i ho =>
    split at hs
    · rename_i h1; cases hs; exact gives_ixS ho h1 h ha
    · cases hs; exact gives_get (fun ρ => by simp [execOp, ho, G.sem]) h ha
  case h_25 ho => cases hs; exact gives_get (fun ρ => by simp [execOp, ho, G.sem]) h ha
  case h_26 ho => cases hs; cases hq
  case h_27 ho => cases hs; cases hq
  case h_28 ho => cases hs; cases hq
  case h_29 ho => cases hs; cases hq
  case h_30 ho => cases hs; cases hq
  case h_31 ho => cases hs; cases hq
  case h_32 ho =>
    split at hs
    · cases hs
    · rename_i d z hn hd hz; cases hs; exact gives_asrt ho hd (fun ms e => hn ms e) hz h ha
    · cases hs
  case h_33 ho => cases hs; exact gives_ext ho h ha
  case h_34 => cases hs


/-! ### Operations that do more -/
variable {K : Sv → World → Prop} {w : World}

def Does (P : Program) (a : Act) (o : Oper) (w : World) (K : Sv → World → Prop) : Prop :=
  ∀ (next : Act → World → Prop) (Q : Exit → Act → World → Prop), (∀ s w', K s w' → next (a.put o.dst s.val) w') → o.wp P a w next Q

theorem does_value {o : Oper} {v : Value} {w' : World} (hk : K (.v v) w') (h : (execOp a.eval o).run P w = .ok (.value v) w') : Does P a o w K := by
  intro next Q hn
  unfold Oper.wp
  rw [h]
  exact hn _ _ hk

theorem does_skip {o : Oper} {w' : World} (hk : K (.v undef) w') (h : (execOp a.eval o).run P w = .ok .skip w') : Does P a o w K := by
  intro next Q hn
  unfold Oper.wp
  rw [h]
  exact hn _ _ hk

theorem vcO_quiet {so : SO} (hq : so.quiet = true) : vcO P L so w K = yd P (fun w' => w' = w) L so (fun s => K s w) := by
  cases so <;> first | rfl | (cases hq; done)

theorem does_quiet {o : Oper} {so : SO} (hs : slimOp P o = some so) (hq : so.quiet = true) (h : vcO P L so w K) (ha : Agr a.tmps n L) : Does P a o w K := by
  rw [vcO_quiet hq] at h
  obtain ⟨s, hk, hr⟩ := yd_sound hs hq h ha
  intro next Q hn
  unfold Oper.wp
  rw [hr w rfl]
  exact hn _ _ hk

theorem does_new {o : Oper} {elem : TypeId} {z : Value} (ho : o.op = .alloc elem) (hz : (P.info? elem).bind (·.zero) = some z) (h : vcO P L (.new (Value.cellsL z) elem) w K) : Does P a o w K := by
  simp only [vcO, New_eq] at h
  obtain ⟨inf, hinf, hzz⟩ := Option.bind_eq_some_iff.1 hz
  refine does_value h ?_
  have e : z.cells = ⟨Value.cellsL z⟩ := by rw [← cellsL_toList]
  simp [execOp, ho, Instr.alloc, zeroValue, typeInfo, hinf, hzz, newVar, newRow, e]

theorem does_box {o : Oper} {elem : TypeId} {x : Operand} (ho : o.op = .box elem x) (h : vcO P L (.box elem x) w K) (ha : Agr a.tmps n L) : Does P a o w K := by
  simp only [vcO, New_eq] at h
  have h1 := rd_sound h ha
  refine does_value h1 ?_
  have e : ∀ v : Value, v.cells = ⟨Value.cellsL v⟩ := fun v => by rw [← cellsL_toList]
  simp [execOp, ho, Instr.box, newVar, newRow, e]

theorem repL_spec (z : List Value) : ∀ k, (Array.range (k * z.length)).map (fun i => z.toArray[i % z.toArray.size]!) = (repL k z).toArray := by
  intro k
  apply Array.toList_inj.1
  rw [Array.toList_map, Array.toList_range]
  induction k with
  | zero => simp [repL]
  | succ k ih =>
    rw [Nat.succ_mul, List.range_add, List.map_append, ih]
    have hsnoc : ∀ k, repL (k + 1) z = repL k z ++ z := by
      intro k
      induction k with
      | zero => simp [repL]
      | succ k ih =>
        show z ++ repL (k + 1) z = (z ++ repL k z) ++ z
        rw [ih, List.append_assoc]
    rw [hsnoc]
    simp only [List.append_cancel_left_eq]
    apply List.ext_getElem
    · simp
    · intro i h1 h2
      simp only [List.getElem_map, List.getElem_range, List.size_toArray]
      have : (k * z.length + i) % z.length = i := by rw [Nat.mul_comm, Nat.mul_add_mod, Nat.mod_eq_of_lt h2]
      rw [this]
      simp [h2]

theorem does_bsl {o : Oper} {t elem : TypeId} {len size : Nat} {z : Value} {inf : TypeInfo} {parts : Array (Nat × Operand)} (ho : o.op = .buildSlice t len parts) (ht : P.underlying t = some (.slice elem)) (hi : P.info? elem = some inf) (hsz : inf.size = size) (hz : inf.zero = some z)
    (h1 : (Value.cellsL z).length = size) (h2 : 0 < size) (h3 : len * size ≤ 2 ^ 24)
    (h : vcO P L (.bsl elem len (repL len (Value.cellsL z)) (parts.toList.map fun p => (p.1 * size, size)) (parts.toList.map (·.2))) w K) (ha : Agr a.tmps n L) : Does P a o w K := by
  simp only [vcO, New_eq] at h
  have hv := rds_sound ha _ _ h
  generalize hvals : (parts.toList.map (·.2)).map a.eval = vals at hv
  have hlen : vals.length = parts.toList.length := by rw [← hvals]; simp
  have hsnd : ((parts.toList.map (·.1)).zip vals).map (·.2) = vals := by rw [List.map_snd_zip]; simp [hlen]
  have hfst : ((parts.toList.map (·.1)).zip vals).map (·.1) = parts.toList.map (·.1) := by rw [List.map_fst_zip]; simp [hlen]
  have hpl : ((parts.toList.map (·.1)).zip vals).map (fun p => some (p.1 * size, size)) = (parts.toList.map fun p => (p.1 * size, size)).map some := by
    have : ((parts.toList.map (·.1)).zip vals).map (fun p => some (p.1 * size, size)) = (((parts.toList.map (·.1)).zip vals).map (·.1)).map (fun i => some (i * size, size)) := by simp
    rw [this, hfst]; simp
  obtain ⟨out, hf, hq⟩ := fill_spec (fun i => some (i * size, size)) _ _ ⟨repL len (Value.cellsL z)⟩ _ hpl (by rw [hsnd]; exact hv)
  have e : (parts.map fun p => (p.1, a.eval p.2)) = ((parts.toList.map (·.1)).zip vals).toArray := by
    apply Array.toList_inj.1
    rw [Array.toList_map, ← hvals]
    have : ∀ l : List (Nat × Operand), l.map (fun p => (p.1, a.eval p.2)) = (l.map (·.1)).zip ((l.map (·.2)).map a.eval) := by
      intro l; induction l with
      | nil => rfl
      | cons x l ih => simp [ih]
    rw [this]
  have hcells : z.cells = ⟨Value.cellsL z⟩ := by rw [← cellsL_toList]
  refine does_value hq ?_
  have hrep : ∀ (hl : ¬ len * size = 0), ((Array.range (len * size)).map (fun i => z.cells[i % z.cells.size]!)) = ⟨repL len (Value.cellsL z)⟩ := fun _ => by
    have := repL_spec (Value.cellsL z) len
    rw [hcells, ← h1]; exact this
  have hbig : ¬ (16777216 < len * size) := by omega
  by_cases hl : len * size = 0
  · have hl0 : len = 0 := by rcases Nat.mul_eq_zero.1 hl with h | h <;> omega
    subst hl0
    simp only [repL] at hf
    have hfa : Instr.fill (fun i => some (i * size, size)) #[] ((parts.toList.map (·.1)).zip vals) = some out := hf
    have hr0 : ∀ g : Nat → Value, (Array.range 0).map g = #[] := fun g => Array.toList_inj.1 (by simp)
    simp [execOp, ho, Instr.buildSlice, run_underlying ht, Go.sizeOf, typeInfo, hi, hsz, e, hr0, hfa, newRow]
  · simp [execOp, ho, Instr.buildSlice, run_underlying ht, Go.sizeOf, typeInfo, hi, hsz, hbig, hl, zeroValue, hz, hrep hl, e, hf, newRow]


theorem storeFrom_spec (ad : Addr) : ∀ (vs : List Value) (i : Nat) (w : World) (K : World → Prop), StoreFrom ad vs i w K → ∃ w', (storeCells ad vs i).run P w = .ok () w' ∧ K w'
  | [], _, w, _, h => ⟨w, rfl, h⟩
  | v :: vs, i, w, K, h => by
    obtain ⟨h1, h2, h3, h4⟩ := h
    obtain ⟨w', hr, hk⟩ := storeFrom_spec ad vs (i + 1) _ K h4
    refine ⟨w', ?_, hk⟩
    obtain ⟨u, hu⟩ := Option.isSome_iff_exists.1 h1
    simp only [storeCells, Sem.run_bind, run_store P w (ad.add i) v .plain h3, hu, h2]
    exact hr

theorem does_st {o : Oper} {t : TypeId} {inf : TypeInfo} {x v : Operand} (ho : o.op = .store t x v) (hi : P.info? t = some inf) (hs : inf.size = 1) (h : vcO P L (.st x v) w K) (ha : Agr a.tmps n L) : Does P a o w K := by
  simp only [vcO] at h
  have h0 := rd_sound h ha
  have h1 := rd_sound h0 ha
  clear h h0
  generalize hx : a.eval x = vx at h1
  split at h1
  · rename_i ad
    simp only [Store_eq] at h1
    obtain ⟨h2, h3, h4, h5⟩ := h1
    obtain ⟨u, hu⟩ := Option.isSome_iff_exists.1 h2
    refine does_skip h5 ?_
    have hc : (a.eval v).cells = #[a.eval v] := by
      generalize a.eval v = y at h4
      cases y <;> first | rfl | (cases h4; done)
    have hadd : ad.add 0 = ad := by simp [Addr.add]
    simp [execOp, ho, hx, Instr.storeAt, Instr.sureAddr, storeVar, hc, Go.sizeOf, typeInfo, hi, hs, storeCells, hadd, run_store P w ad _ .plain h4, hu, h3]
  · exact h1.elim

theorem does_stn {o : Oper} {t : TypeId} {inf : TypeInfo} {x v : Operand} (ho : o.op = .store t x v) (hi : P.info? t = some inf) (h : vcO P L (.stn inf.size x v) w K) (ha : Agr a.tmps n L) : Does P a o w K := by
  simp only [vcO] at h
  have h0 := rd_sound h ha
  have h1 := rd_sound h0 ha
  clear h h0
  generalize hx : a.eval x = vx at h1
  generalize hv : a.eval v = vv at h1
  split at h1
  · rename_i ad vs
    cases hb : lenIs vs inf.size with
    | false => rw [hb] at h1; exact h1.elim
    | true =>
      rw [hb, cond_true] at h1
      have e := lenIs_spec _ _ hb
      simp only [StoreN_eq] at h1
      obtain ⟨w', hr, hk⟩ := storeFrom_spec (P := P) ad vs 0 w _ h1
      refine does_skip hk ?_
      simp [execOp, ho, hx, hv, Instr.storeAt, Instr.sureAddr, storeVar, Value.cells, Go.sizeOf, typeInfo, hi, e, hr]
  · exact h1.elim

theorem does_run {o : Oper} {g : G} {args : List Operand} (ho : ∀ ρ : Operand → Value, execOp ρ o = do pure (.value (← G.sem g (args.map ρ)))) (h : vcO P L (.run g args) w K) (ha : Agr a.tmps n L) : Does P a o w K := by
  simp only [vcO] at h
  have h1 := rds_sound ha _ _ h
  simp only [Run_eq] at h1
  obtain ⟨v, w', hr, hk⟩ := h1
  refine does_value hk ?_
  rw [ho]
  simp only [Sem.run_bind, hr, Sem.run_pure, Result.andThen_ok]

theorem does_runU {o : Oper} {g : G} {args : List Operand} {s : (Operand → Value) → Sem Unit} (ho : ∀ ρ : Operand → Value, execOp ρ o = do s ρ; pure .skip) (hg : ∀ ρ : Operand → Value, G.sem g (args.map ρ) = unitly (s ρ)) (h : vcO P L (.run g args) w K) (ha : Agr a.tmps n L) : Does P a o w K := by
  simp only [vcO] at h
  have h1 := rds_sound ha _ _ h
  simp only [Run_eq] at h1
  obtain ⟨v, w', hr, hk⟩ := h1
  rw [hg] at hr
  simp only [unitly, Sem.run_bind] at hr
  have key : (s a.eval).run P w = .ok () w' ∧ v = undef := by
    revert hr
    cases (s a.eval).run P w with
    | ok u w1 => intro hr; simp only [Result.andThen_ok, Sem.run_pure, Result.ok.injEq] at hr; exact ⟨by rw [hr.2], hr.1.symm⟩
    | halt x w1 => intro hr; simp at hr
  rw [key.2] at hk
  refine does_skip hk ?_
  rw [ho]
  simp only [Sem.run_bind, key.1, Sem.run_pure, Result.andThen_ok]

theorem does_enter {o : Oper} {f : FuncId} {args : Array Value} (h : Cal P f args w fun v w' => K (.v v) w') (hr : (execOp a.eval o).run P w = .ok (.enter f args) w) : Does P a o w K := by
  intro next Q hn
  unfold Oper.wp
  rw [hr]
  simp only [Oper.upon]
  simp only [Cal_eq] at h
  refine h.mono ?_
  rintro e w' ⟨v, rfl, hk⟩
  exact hn _ _ hk

theorem run_callFunc {f : FuncId} (hc : callable P f = true) (args : Array Value) (w : World) : (callFunc f args).run P w = .ok (.enter f args) w := by
  unfold callable at hc
  split at hc
  · rename_i fn hf
    simp only [Bool.and_eq_true, Bool.not_eq_true'] at hc
    obtain ⟨h1, h2⟩ := hc
    have h3 : fn.body.isNone = false := by
      cases hb : fn.body <;> simp_all
    simp only [callFunc, Sem.run_bind, run_program, Result.andThen_ok, hf, h2, h3]
    rfl
  · cases hc

theorem does_call {o : Oper} {c : Call} {f : FuncId} (ho : o.op = .call c) (hc : c.callee = .value (.func f)) (hf : callable P f = true) (h : vcO P L (.call f c.args.toList) w K) (ha : Agr a.tmps n L) : Does P a o w K := by
  simp only [vcO] at h
  have h1 := rds_sound ha _ _ h
  refine does_enter h1 ?_
  have e : (⟨c.args.toList.map a.eval⟩ : Array Value) = c.args.map a.eval := Array.toList_inj.1 (by simp)
  rw [e]
  simp [execOp, ho, resolve, hc, Act.eval, Deferred.ofValue, invoke, run_callFunc hf]

theorem run_invoke_method {t : TypeId} {v : Value} {name : String} {f : FuncId} {r : Value} (hm : ∀ w, (method (P.types.size + Made.depth) t v name).run P w = .ok (f, r) w) (hf : callable P f = true) (args : List Value) (cap : Array Value) (w : World) :
    (invoke (.fn (.method name) cap) ⟨.iface t v :: args⟩).run P w = .ok (.enter f ⟨r :: args⟩) w := by
  have hex : (⟨.iface t v :: args⟩ : Array Value).extract 1 (args.length + 1) = ⟨args⟩ := Array.toList_inj.1 (by simp [List.extract_eq_take_drop])
  have e2 : (#[r] : Array Value) ++ ⟨args⟩ = ⟨r :: args⟩ := Array.toList_inj.1 (by simp)
  have h0 : (⟨.iface t v :: args⟩ : Array Value)[0]? = some (.iface t v) := by simp
  have hs : (⟨.iface t v :: args⟩ : Array Value).size = args.length + 1 := by simp
  simp only [invoke, h0, hs, hex, callMethod, Sem.run_bind, run_program, Result.andThen_ok, hm, run_callFunc hf, e2]

theorem does_callv {o : Oper} {c : Call} {x : Operand} (ho : o.op = .call c) (hc : c.callee = .value x) (h : vcO P L (.callv x c.args.toList) w K) (ha : Agr a.tmps n L) : Does P a o w K := by
  simp only [vcO] at h
  have h0 := rd_sound h ha
  have h1 := rds_sound ha _ _ h0
  clear h h0
  have e : c.args.map a.eval = (⟨c.args.toList.map a.eval⟩ : Array Value) := Array.toList_inj.1 (by simp)
  generalize hx : a.eval x = vx at h1
  split at h1
  · rename_i f first captured
    simp only [FnV_eq] at h1
    refine does_enter h1.2 ?_
    have e2 : (⟨first⟩ : Array Value) ++ c.args.map a.eval ++ ⟨captured⟩ = ⟨first ++ c.args.toList.map a.eval ++ captured⟩ := Array.toList_inj.1 (by simp)
    rw [← e2]
    simp [execOp, ho, resolve, hc, hx, Deferred.ofValue, invoke, run_callFunc h1.1]
  · rename_i name t v
    simp only [FnI_eq] at h1
    obtain ⟨f, r, hm, hf, hcal⟩ := h1
    refine does_enter hcal ?_
    have e2 : (⟨[.iface t v]⟩ : Array Value) ++ c.args.map a.eval = ⟨.iface t v :: c.args.toList.map a.eval⟩ := Array.toList_inj.1 (by simp)
    have hr := run_invoke_method hm hf (c.args.toList.map a.eval) ⟨[]⟩ w
    rw [← e2] at hr
    simp only [execOp, ho, resolve, hc, hx, Deferred.ofValue, Sem.run_bind, Sem.run_pure, Result.andThen_ok, hr]
  · exact h1.elim

theorem does_calli {o : Oper} {c : Call} {x : Operand} {name : String} (ho : o.op = .call c) (hc : c.callee = .invoke x name) (h : vcO P L (.calli x name c.args.toList) w K) (ha : Agr a.tmps n L) : Does P a o w K := by
  simp only [vcO] at h
  have h0 := rd_sound h ha
  have h1 := rds_sound ha _ _ h0
  clear h h0
  generalize hx : a.eval x = vx at h1
  split at h1
  · rename_i t v
    simp only [FnI_eq] at h1
    obtain ⟨f, r, hm, hf, hcal⟩ := h1
    refine does_enter hcal ?_
    have e2 : (#[.iface t v] : Array Value) ++ c.args.map a.eval = ⟨.iface t v :: c.args.toList.map a.eval⟩ := Array.toList_inj.1 (by simp)
    have hr := run_invoke_method hm hf (c.args.toList.map a.eval) #[] w
    rw [← e2] at hr
    simp only [execOp, ho, resolve, hc, hx, Sem.run_bind, Sem.run_pure, Result.andThen_ok, hr]
  · exact h1.elim


theorem does_slimCall {c : Call} {o : Oper} (ho : o.op = .call c) {so : SO} (hs : slimCall P c o.type = some so) (hq : so.quiet = false) (h : vcO P L so w K) (ha : Agr a.tmps n L) : Does P a o w K := by
  unfold slimCall at hs
  split at hs
  · rename_i b hc
    split at hs
    all_goals first | (cases hs; done) | (cases hs; cases hq; done) | skip
    all_goals
      cases hs
      refine does_run (fun ρ => ?_) h ha
      obtain ⟨callee, args, ats⟩ := c
      obtain ⟨args⟩ := args
      simp only at hc
      subst hc
      simp [execOp, ho, resolve, invoke, builtin, G.sem]
  · rename_i f hc
    split at hs
    · rename_i hf; cases hs; exact does_call ho hc hf h ha
    · cases hs
  · rename_i x _ hc; cases hs; exact does_callv ho hc h ha
  · rename_i x name hc; cases hs; exact does_calli ho hc h ha

/-- EVERY OPERATION. -/
theorem vcO_sound {o : Oper} {so : SO} (hs : slimOp P o = some so) (h : vcO P L so w K) (ha : Agr a.tmps n L) : Does P a o w K := by
  by_cases hq : so.quiet = true
  · exact does_quiet hs hq h ha
  have hq : so.quiet = false := by simpa using hq
  unfold slimOp at hs
  split at hs
  case h_4 op t x y u ho =>
    unfold slimBin at hs
    repeat' split at hs
    all_goals first | (cases hs; done) | (cases hs; cases hq; done)
  case h_7 ho =>
    split at hs
    · cases hs; cases hq
    · cases hs; cases hq
    · cases hs; cases hq
    · cases hs; exact does_run (fun ρ => by simp [execOp, ho, G.sem]) h ha
    · cases hs; exact does_run (fun ρ => by simp [execOp, ho, G.sem]) h ha
    · cases hs
  case h_8 ho => exact does_slimCall ho hs hq h ha
  case h_9 ho =>
    split at hs
    · rename_i z hz; cases hs; exact does_new ho hz h
    · cases hs
  case h_10 ho => cases hs; exact does_box ho h ha
  case h_12 ho =>
    split at hs
    · rename_i elem ht
      split at hs
      · rename_i size z hz
        obtain ⟨inf, hinf, hz⟩ := Option.bind_eq_some_iff.1 hz
        obtain ⟨z', hz', e⟩ := Option.map_eq_some_iff.1 hz
        cases e
        split at hs
        · rename_i hc
          simp only [Bool.and_eq_true, beq_iff_eq, decide_eq_true_eq] at hc
          cases hs
          exact does_bsl ho ht hinf rfl hz' hc.1.1 hc.1.2 hc.2 h ha
        · cases hs
      · cases hs
    · cases hs
  case h_14 ho =>
    split at hs
    · rename_i inf h1 h2; cases hs; exact does_stn ho h2 h ha
    · rename_i inf h1 h2
      split at hs
      · rename_i hc
        simp only [Bool.and_eq_true, beq_iff_eq] at hc
        cases hs; exact does_st ho h2 hc.2 h ha
      · cases hs
    · cases hs
  case h_18 t r ho => cases hs; exact does_run (fun ρ => by cases r <;> simp [execOp, ho, G.sem]) h ha
  case h_19 ho => cases hs; exact does_run (fun ρ => by simp [execOp, ho, G.sem]) h ha
  case h_26 ho => cases hs; exact does_runU (fun ρ => by simp only [execOp, ho]) (fun ρ => rfl) h ha
  case h_27 ho => cases hs; exact does_runU (fun ρ => by simp only [execOp, ho]) (fun ρ => rfl) h ha
  case h_28 ho => cases hs; exact does_run (fun ρ => by simp [execOp, ho, G.sem]) h ha
  case h_29 ho => cases hs; exact does_runU (fun ρ => by simp only [execOp, ho]) (fun ρ => rfl) h ha
  case h_30 ho => cases hs; exact does_run (fun ρ => by simp [execOp, ho, G.sem]) h ha
  case h_31 ho => cases hs; exact does_run (fun ρ => by simp [execOp, ho, G.sem]) h ha
  all_goals
    repeat' split at hs
    all_goals first
      | (cases hs; done)
      | (cases hs; cases hq; done)
      | (obtain ⟨inf, hinf, he⟩ := Option.map_eq_some_iff.1 hs; subst he; cases hq; done)

end
end Fb
