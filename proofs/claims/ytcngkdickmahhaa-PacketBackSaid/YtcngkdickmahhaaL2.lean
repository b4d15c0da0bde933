/- The operations. -/
import Derived.Test.YtcngkdickmahhaaL1
import Derived.Great.BuildSlice
import Derived.Laws.MakeOwn
import Derived.Laws.IdiomStrings
namespace Go.Proofs.Ytcngkdickmahhaa
section
/- The operations, third part: scalars; addresses; loads. -/

variable {P : Program} {o : Oper} {a : Act} {w : World} {env env' : Env} {O : Owns}

theorem opt_do {α β : Type} {x : Option α} {f : α → Option β} {b : β} (h : (do let y ← x; f y) = some b) : ∃ y, x = some y ∧ f y = some b := by
  cases x with
  | none => cases h
  | some y => exact ⟨y, rfl, h⟩

theorem ofO_run {q : Option PV} {κ : PV → Pr} (h : (Pr.ofO q κ).run env = some env') : ∃ v, q = some v ∧ (κ v).run env = some env' := by
  cases q with
  | none => simp [Pr.ofO, Pr.run] at h
  | some v => exact ⟨v, rfl, h⟩

theorem asInt_run {v : PV} {κ : Int → Pr} (h : (asInt v κ).run env = some env') : ∃ k n, v = .int k n ∧ (κ n).run env = some env' := by
  cases v with
  | int k n => exact ⟨k, n, rfl, h⟩
  | _ => simp [asInt, Pr.run] at h

theorem rd_int {k : IntKind} {n : Int} {v : Value} (h : RdRep w O (.int k n) v) : v = .int k n := by cases h; rfl
theorem rd_bool {b : Bool} {v : Value} (h : RdRep w O (.bool b) v) : v = .bool b := by cases h; rfl
theorem rd_str {s : ByteArray} {v : Value} (h : RdRep w O (.str s) v) : v = .string s := by cases h; rfl
theorem rd_nils {v : Value} (h : RdRep w O .nils v) : v = .slice none 0 0 := by cases h; rfl

theorem int_run {x : Operand} {y : Opd} (hx : cOpd x = some y) (inv : Inv env a.tmps w O) {κ : Int → Pr} (h : (Pr.rd y fun v => asInt v κ).run env = some env') : ∃ k n, a.eval x = .int k n ∧ (κ n).run env = some env' := by
  replace h := rd_run inv (cOpd_rep hx a) h
  obtain ⟨v, hv, h⟩ := h
  obtain ⟨k, n, rfl, h⟩ := asInt_run h
  exact ⟨k, n, rd_int hv, h⟩

/-- A scalar result. -/
theorem OpVal.sc {v : Value} {x : PV} (hrun : (execOp a.eval o).run P w = .ok (.value v) w) (inv : Inv env a.tmps w O) (h : (Pr.put o.dst (.cv (.pv x))).run env = some env') (hf : ∀ H, FRep H x v) : OpVal P o a w env' O :=
  OpVal.pure hrun (Gh.refl inv) h (fun _ _ => hf _) trivial

theorem pick_ok {F : Fns} {c x y : Operand} {c' x' y' : Opd} (ho : o.op = .pick c x y) (hc : cOpd c = some c') (hx : cOpd x = some x') (hy : cOpd y = some y') (inv : Inv env a.tmps w O)
    (h : (stepOp F o.dst (.pick c' x' y')).run env = some env') : OpVal P o a w env' O := by
  simp only [stepOp] at h
  replace h := rd_run inv (cOpd_rep hc a) h
  obtain ⟨v, hv, h⟩ := h
  cases v with
  | bool q =>
    have hcv := rd_bool hv
    simp only at h
    have hq : ∃ z, RdRep w O z (if q = true then a.eval x else a.eval y) ∧ (if z.isSc = true then Pr.put o.dst (.cv (.pv z)) else Pr.fail).run env = some env' := by
      cases q with
      | true => obtain ⟨z, hz, h⟩ := rd_run inv (cOpd_rep hx a) h; exact ⟨z, hz, h⟩
      | false => obtain ⟨z, hz, h⟩ := rd_run inv (cOpd_rep hy a) h; exact ⟨z, hz, h⟩
    obtain ⟨z, hz, h⟩ := hq
    split at h
    · rename_i hs
      have hrun : (execOp a.eval o).run P w = .ok (.value (if q = true then a.eval x else a.eval y)) w := by
        simp [execOp, ho, hcv, asBool]
      refine OpVal.pure hrun (Gh.refl inv) h (fun _ _ => ?_) trivial
      cases z <;> first | exact hz | cases hs
    · simp [Pr.run] at h
  | _ => simp [Pr.run] at h

def scV : PV → Value
  | .int k n => .int k n
  | .bool b => .bool b
  | .str s => .string s
  | _ => Go.undef

theorem bin_int {op : BinOp} {t : TypeId} {k k' : IntKind} {m n : Int} {r : PV} (h : pbin op (.int k m) (.int k' n) = some r) : ∃ v, (binOp op t (.int k m) (.int k' n)).run P w = .ok v w ∧ ∀ H, FRep H r v := by
  suffices hh : (binOp op t (.int k m) (.int k' n)).run P w = .ok (scV r) w ∧ ∀ H, FRep H r (scV r) from ⟨_, hh⟩
  simp only [pbin] at h
  split at h
  · rename_i hs
    unfold pshift at h
    split at h
    · cases h
    · rename_i hn
      cases op <;> first | cases hs | skip
      · simp only [Option.some.injEq] at h; subst h
        exact ⟨by simp [binOp, Op.shift, hn, scV], fun H => .int ..⟩
      · simp only [Option.some.injEq] at h; subst h
        exact ⟨by simp [binOp, Op.shift, hn, scV], fun H => .int ..⟩
  · rename_i hs
    split at h
    · rename_i hk
      subst hk
      cases op <;> simp only [pint] at h <;> first
        | (exfalso; exact hs rfl)
        | (split at h
           · cases h
           · rename_i hn
             simp only [Option.some.injEq] at h; subst h
             exact ⟨by simp [binOp, Op.intDiv, hn, scV], fun H => .int ..⟩)
        | (simp only [Option.some.injEq] at h; subst h
           refine ⟨?_, fun H => ?_⟩
           · simp only [binOp, ne_eq, not_true_eq_false, if_false]; rfl
           · constructor)
    · cases h

theorem bin_str {op : BinOp} {t : TypeId} {m n : ByteArray} {r : PV} (h : pbin op (.str m) (.str n) = some r) : ∃ v, (binOp op t (.string m) (.string n)).run P w = .ok v w ∧ ∀ H, FRep H r v := by
  simp only [pbin] at h
  cases op <;> simp only [pstr] at h <;> first
    | cases h; done
    | (split at h
       · cases h
       · rename_i hn
         simp only [Option.some.injEq] at h; subst h
         exact ⟨_, by simp only [binOp, Op.stringOp]; rw [if_neg hn]; rfl, fun H => .str ..⟩)
    | (simp only [Option.some.injEq] at h; subst h
       exact ⟨_, by simp only [binOp, Op.stringOp]; rfl, fun H => .bool ..⟩)

theorem bin_ok {F : Fns} {op : BinOp} {t u : TypeId} {x y : Operand} {x' y' : Opd} (ho : o.op = .binOp op t x y u) (hx : cOpd x = some x') (hy : cOpd y = some y') (inv : Inv env a.tmps w O)
    (h : (stepOp F o.dst (.bin op x' y')).run env = some env') : OpVal P o a w env' O := by
  simp only [stepOp] at h
  replace h := rd_run inv (cOpd_rep hx a) h
  obtain ⟨v, hv, h⟩ := h
  replace h := rd_run inv (cOpd_rep hy a) h
  obtain ⟨z, hz, h⟩ := h
  replace h := ofO_run h
  obtain ⟨r, hr, h⟩ := h
  have guard : ∀ p q : Value, ((∃ k n, p = .int k n) ∨ ∃ s, p = .string s) → (eqGuard op t x y p q).run P w = .ok () w := by
    intro p q hp
    unfold eqGuard
    rcases hp with ⟨k, n, rfl⟩ | ⟨s, rfl⟩ <;> (cases op <;> simp)
  cases v with
  | int k m =>
    cases z with
    | int k' n =>
      have e1 := rd_int hv
      have e2 := rd_int hz
      obtain ⟨v, hb, hf⟩ := bin_int (P := P) (w := w) (t := t) hr
      refine OpVal.sc ?_ inv h hf
      simp [execOp, ho, e1, e2, guard _ _ (.inl ⟨_, _, rfl⟩), hb]
    | _ => cases hr
  | str m =>
    cases z with
    | str n =>
      have e1 := rd_str hv
      have e2 := rd_str hz
      obtain ⟨v, hb, hf⟩ := bin_str (P := P) (w := w) (t := t) hr
      refine OpVal.sc ?_ inv h hf
      simp [execOp, ho, e1, e2, guard _ _ (.inr ⟨_, rfl⟩), hb]
    | _ => cases hr
  | _ => cases hr

theorem equalIn_bool {t : TypeId} (ht : P.underlying t = some .bool) (p q : Bool) (d : Nat) : (Op.equalIn (d + 1) t (.bool p) (.bool q)).run P w = .ok (p == q) w := by
  simp only [Op.equalIn, Sem.run_bind, run_underlying ht, Result.andThen_ok]
  rfl
theorem equal_bool {t : TypeId} (ht : P.underlying t = some .bool) (p q : Bool) : (Op.equal t (.bool p) (.bool q)).run P w = .ok (p == q) w := equalIn_bool ht p q 9999
theorem equalIn_nil {t e : TypeId} (ht : P.underlying t = some (.slice e)) (b : Option Addr) (n m : Nat) (d : Nat) : (Op.equalIn (d + 1) t (.slice b n m) (.slice none 0 0)).run P w = .ok b.isNone w := by
  simp only [Op.equalIn, Sem.run_bind, run_underlying ht, Result.andThen_ok]
  cases b <;> rfl
theorem equal_nil {t e : TypeId} (ht : P.underlying t = some (.slice e)) (b : Option Addr) (n m : Nat) : (Op.equal t (.slice b n m) (.slice none 0 0)).run P w = .ok b.isNone w := equalIn_nil ht b n m 9999

theorem eqB_ok {F : Fns} {op : BinOp} {t u : TypeId} {x y : Operand} {x' y' : Opd} {neg : Bool} (hop : op = if neg then .neq else .eql) (ht : P.underlying t = some .bool) (ho : o.op = .binOp op t x y u) (hx : cOpd x = some x') (hy : cOpd y = some y') (inv : Inv env a.tmps w O)
    (h : (stepOp F o.dst (.eqB neg x' y')).run env = some env') : OpVal P o a w env' O := by
  simp only [stepOp] at h
  replace h := rd_run inv (cOpd_rep hx a) h
  obtain ⟨v, hv, h⟩ := h
  replace h := rd_run inv (cOpd_rep hy a) h
  obtain ⟨z, hz, h⟩ := h
  split at h
  · rename_i p q
    have e1 := rd_bool hv
    have e2 := rd_bool hz
    refine OpVal.sc ?_ inv h (fun H => .bool _)
    have g : ∀ op, (eqGuard op t x y (.bool p) (.bool q)).run P w = .ok () w := by intro op; unfold eqGuard; cases op <;> simp
    cases neg with
    | true => subst hop; simp [execOp, ho, e1, e2, g, binOp, equal_bool ht]
    | false => subst hop; simp [execOp, ho, e1, e2, g, binOp, equal_bool ht]
  · simp [Pr.run] at h

theorem eqNil_ok {F : Fns} {op : BinOp} {t u e : TypeId} {x y : Operand} {x' : Opd} {neg : Bool} (hop : op = if neg then .neq else .eql) (ht : P.underlying t = some (.slice e)) (ho : o.op = .binOp op t x y u) (hx : cOpd x = some x') (hy : isNilC y = true) (inv : Inv env a.tmps w O)
    (h : (stepOp F o.dst (.eqNil neg x')).run env = some env') : OpVal P o a w env' O := by
  have hyv : a.eval y = .slice none 0 0 := by
    unfold isNilC at hy
    split at hy
    · rfl
    · cases hy
  simp only [stepOp] at h
  replace h := rd_run inv (cOpd_rep hx a) h
  obtain ⟨v, hv, h⟩ := h
  have g : ∀ op p q n m, (eqGuard op t x y (.slice p n m) q).run P w = .ok () w := by intro op p q n m; unfold eqGuard; cases op <;> simp
  have eq1 : (Op.equal t (.slice none 0 0) (.slice none 0 0)).run P w = .ok true w := equal_nil ht none 0 0
  have eq2 : ∀ b n m, (Op.equal t (.slice (some b) n m) (.slice none 0 0)).run P w = .ok false w := fun b n m => equal_nil ht (some b) n m
  split at h
  · have e1 := rd_nils hv
    refine OpVal.sc ?_ inv h (fun H => .bool _)
    cases neg with
    | true => subst hop; simp [execOp, ho, e1, hyv, g, binOp, eq1]
    | false => subst hop; simp [execOp, ho, e1, hyv, g, binOp, eq1]
  · obtain ⟨b, off, sp, len, cap, e1, _⟩ := hv
    refine OpVal.sc ?_ inv h (fun H => .bool _)
    cases neg with
    | true => subst hop; simp [execOp, ho, e1, hyv, g, binOp, eq2]
    | false => subst hop; simp [execOp, ho, e1, hyv, g, binOp, eq2]
  · simp [Pr.run] at h

theorem un_ok {F : Fns} {op : UnOp} {t : TypeId} {x : Operand} {x' : Opd} (ho : o.op = .unOp op t x) (hx : cOpd x = some x') (inv : Inv env a.tmps w O)
    (h : (stepOp F o.dst (.un op x')).run env = some env') : OpVal P o a w env' O := by
  simp only [stepOp] at h
  replace h := rd_run inv (cOpd_rep hx a) h
  obtain ⟨v, hv, h⟩ := h
  replace h := ofO_run h
  obtain ⟨r, hr, h⟩ := h
  unfold pun at hr
  split at hr
  · have e1 := rd_int hv
    simp only [Option.some.injEq] at hr; subst hr
    exact OpVal.sc (by simp only [execOp, ho, e1]; rfl) inv h (fun H => .int ..)
  · have e1 := rd_int hv
    simp only [pint, Option.some.injEq] at hr; subst hr
    exact OpVal.sc (by simp only [execOp, ho, e1]; rfl) inv h (fun H => .int ..)
  · have e1 := rd_bool hv
    simp only [Option.some.injEq] at hr; subst hr
    exact OpVal.sc (by simp only [execOp, ho, e1]; rfl) inv h (fun H => .bool ..)
  · cases hr

theorem cvInt_ok {F : Fns} {src dst : TypeId} {x : Operand} {x' : Opd} {k k0 : IntKind} (hs : P.underlying src = some (.int k0)) (hd : P.underlying dst = some (.int k)) (ho : o.op = .convert src dst x) (hx : cOpd x = some x') (inv : Inv env a.tmps w O)
    (h : (stepOp F o.dst (.cvInt k x')).run env = some env') : OpVal P o a w env' O := by
  simp only [stepOp] at h
  obtain ⟨k', n, e1, h⟩ := int_run hx inv h
  refine OpVal.sc (v := .int k (k.wrap n)) ?_ inv h (fun H => .int ..)
  simp [execOp, ho, e1, convert, run_underlying hs, run_underlying hd, Conv.intToInt]

theorem cvStr_ok {F : Fns} {src dst : TypeId} {x : Operand} {x' : Opd} (hs : P.underlying src = some .string) (hd : P.underlying dst = some .string) (ho : o.op = .convert src dst x) (hx : cOpd x = some x') (inv : Inv env a.tmps w O)
    (h : (stepOp F o.dst (.cvStr x')).run env = some env') : OpVal P o a w env' O := by
  simp only [stepOp] at h
  replace h := rd_run inv (cOpd_rep hx a) h
  obtain ⟨v, hv, h⟩ := h
  split at h
  · have e1 := rd_str hv
    refine OpVal.sc ?_ inv h (fun H => .str _)
    simp [execOp, ho, e1, convert, run_underlying hs, run_underlying hd]
  · simp [Pr.run] at h

theorem args_one {c : Call} {a : Act} {x : Operand} (h1 : c.args[0]? = some x) : (c.args.map a.eval)[0]? = some (a.eval x) := by simp [h1]

theorem len_run {c : Call} {r : Value} (hcal : c.callee = .builtin .len) (ho : o.op = .call c) (hr : (Builtin.len_ c.argTypes o.type (c.args.map a.eval)).run P w = .ok r w) : (execOp a.eval o).run P w = .ok (.value r) w := by
  simp [execOp, ho, resolve, hcal, invoke, builtin, hr]

theorem lenS_ok {F : Fns} {t : TypeId} {x : Operand} {x' : Opd} (c : Call) (hcal : c.callee = .builtin .len) (h0 : c.argTypes[0]? = some t) (h1 : c.args[0]? = some x) (ht : P.underlying t = some .string)
    (ho : o.op = .call c) (hx : cOpd x = some x') (inv : Inv env a.tmps w O) (h : (stepOp F o.dst (.lenS x')).run env = some env') : OpVal P o a w env' O := by
  simp only [stepOp] at h
  replace h := rd_run inv (cOpd_rep hx a) h
  obtain ⟨v, hv, h⟩ := h
  split at h
  · have e1 := rd_str hv
    rename_i s
    refine OpVal.sc (v := .int .i64 s.size) (len_run hcal ho ?_) inv h (fun H => .int ..)
    simp only [Builtin.len_, h0, args_one h1, e1, Sem.run_bind, run_underlying ht, Result.andThen_ok]; rfl
  · simp [Pr.run] at h

theorem shape_run {r k gs gc : Nat} {κ : Nat → Nat → Pr} (h : (Pr.shape r k gs gc κ).run env = some env') :
    ∃ f s cs sp, live (env.at r) k gs gc = some (.own f s cs sp) ∧ gs = (env.at r).1 ∧ (κ s cs.length).run env = some env' := by
  unfold Pr.shape at h; simp only [Pr.run] at h
  split at h
  · rename_i s n hk
    obtain ⟨f, cs, sp, he, rfl⟩ := hd_own hk
    split at h
    · rename_i h1
      split at h
      · rename_i h2
        split at h
        · rename_i h3
          exact ⟨f, s, cs, sp, by unfold live; rw [if_pos h3, he]; simp [h1, h2], h3.symm, h⟩
        · simp [Pr.run] at h
      · simp [Pr.run] at h
    · simp [Pr.run] at h
  · obtain ⟨z, c, hl, hg, hz, h⟩ := place_run h
    cases c with
    | own f s cs sp => exact ⟨f, s, cs, sp, hl, hg, h⟩
    | _ => simp [Pr.run] at h

theorem len_ok {F : Fns} {t e : TypeId} {x : Operand} {x' : Opd} (c : Call) (hcal : c.callee = .builtin .len) (h0 : c.argTypes[0]? = some t) (h1 : c.args[0]? = some x) (ht : P.underlying t = some (.slice e))
    (ho : o.op = .call c) (hx : cOpd x = some x') (inv : Inv env a.tmps w O) (h : (stepOp F o.dst (.len x')).run env = some env') : OpVal P o a w env' O := by
  have key : ∀ (b : Nat) (off : Nat) (sp : Option Nat) (m cap : Nat), a.eval x = .slice (some ⟨b, off, sp⟩) m cap → (Pr.put o.dst (.cv (.pv (.int .i64 (m : Nat))))).run env = some env' → OpVal P o a w env' O := by
    intro b off sp m cap e1 h
    refine OpVal.sc (v := .int .i64 m) (len_run hcal ho ?_) inv h (fun H => .int ..)
    simp only [Builtin.len_, h0, args_one h1, e1, Sem.run_bind, run_underlying ht, Result.andThen_ok]; rfl
  have plain : (Pr.rd x' fun v => match v with
      | .nils => Pr.put o.dst (.cv (.pv (.int .i64 0)))
      | .sl s cs => Pr.put o.dst (.cv (.pv (.int .i64 (cs.length / s : Nat))))
      | _ => .fail).run env = some env' → OpVal P o a w env' O := by
    intro h
    replace h := rd_run inv (cOpd_rep hx a) h
    obtain ⟨v, hv, h⟩ := h
    split at h
    · have e1 := rd_nils hv
      refine OpVal.sc (v := .int .i64 0) (len_run hcal ho ?_) inv h (fun H => .int ..)
      simp only [Builtin.len_, h0, args_one h1, e1, Sem.run_bind, run_underlying ht, Result.andThen_ok]; rfl
    · rename_i s cs
      obtain ⟨b, off, sp, len, cap, e1, _, hp, hl, h2, h3⟩ := hv
      rw [hl, Nat.mul_div_cancel _ hp] at h
      exact key b off sp len cap e1 h
    · simp [Pr.run] at h
  have hr := cOpd_rep hx a
  simp only [stepOp] at h
  cases x' with
  | con p => exact plain h
  | tmp t' =>
    have hv : a.eval x = a.tmps.getD t' undef := hr
    have hmm := inv.mem t'
    have ha := inv.ali t'
    simp only [Pr.run] at h
    split at h
    · rename_i s n hk
      obtain ⟨f, cs, sp, he, rfl⟩ := hd_own hk
      rw [he] at hmm
      obtain ⟨b, off, len, cap, e1, hr⟩ := hmm
      rw [hr.len_eq, Nat.mul_div_cancel _ hr.pos] at h
      exact key b off none len cap (hv.trans e1) h
    · obtain ⟨sv, he⟩ : ∃ sv, (env.at t').2 = sv := ⟨_, rfl⟩
      simp only [Pr.run] at h
      rw [he] at h ha
      cases sv with
      | ref r k gs gc =>
        simp only at h
        obtain ⟨f, s, cs, sp, hl, hg, h⟩ := shape_run h
        obtain ⟨b, off, len, cap, hh, hr⟩ := live_own inv hl
        have hvv := ha.2 _ hl
        rw [hh, Option.some.injEq] at hvv
        rw [hr.len_eq, Nat.mul_div_cancel _ hr.pos] at h
        exact key b off none len cap (hv.trans hvv.symm) h
      | view r k gs gc i j =>
        simp only at h
        obtain ⟨f, s, cs, sp, hl, hg, h⟩ := shape_run h
        obtain ⟨_, _, _, _, bl, off, len, cap, _, off', e1, _⟩ := ha.2 _ _ _ _ hl
        exact key bl off' none _ _ (hv.trans e1) h
      | _ => exact plain h
    · simp [Pr.run] at h
end

section
/- The operations, fourth part: addresses and loads; parts of values. -/

variable {P : Program} {o : Oper} {a : Act} {w : World} {env env' : Env} {O : Owns}

theorem pair_some {α β γ : Type} {x : Option α} {y : Option β} {f : α → β → γ} {r : γ} (h : (do let a ← x; let b ← y; some (f a b)) = some r) : ∃ a b, x = some a ∧ y = some b ∧ r = f a b := by
  cases x with
  | none => cases h
  | some a => cases y with
    | none => cases h
    | some b => exact ⟨a, b, rfl, rfl, (Option.some.inj h).symm⟩

theorem nilck_ok {F : Fns} {x : Operand} {y : Opd} (ho : o.op = .nilCheck x) (hx : cOpd x = some y) (inv : Inv env a.tmps w O) (h : (stepOp F o.dst (.nilck y)).run env = some env') : OpVal P o a w env' O := by
  have hr := cOpd_rep hx a
  cases y with
  | con v => simp [stepOp, Pr.run] at h
  | tmp t =>
    have hv : a.eval x = a.tmps.getD t undef := hr
    have hm := inv.mem t
    have ha := inv.ali t
    simp only [stepOp, Pr.run] at h
    split at h
    · rename_i hk
      obtain ⟨cs, he⟩ := hd_box hk
      rw [he] at hm
      obtain ⟨b, hb, _⟩ := hm
      have hrun : (execOp a.eval o).run P w = .ok (.value (a.tmps.getD t undef)) w := by simp [execOp, ho, hv, hb]
      exact OpVal.pure hrun (Gh.refl inv) h (fun _ _ => trivial) ⟨Nat.le_refl _, b, hb, fun _ => ⟨hk, hb⟩⟩
    · simp only [Pr.run] at h
      split at h
      · rename_i r off gs he
        rw [he] at ha
        obtain ⟨h1, b, hb, h2⟩ := ha
        have hrun : (execOp a.eval o).run P w = .ok (.value (a.tmps.getD t undef)) w := by simp [execOp, ho, hv, hb]
        exact OpVal.pure hrun (Gh.refl inv) h (fun _ _ => trivial) ⟨h1, b, hb, h2⟩
      · simp [Pr.run] at h
    · simp [Pr.run] at h

/-- An address moved on inside what it leads to. -/
theorem addr_ok {x : Operand} {t off : Nat} (hx : a.eval x = a.tmps.getD t undef) (inv : Inv env a.tmps w O)
    (hrun : ∀ b o', a.eval x = .pointer (some ⟨b, o', none⟩) → (execOp a.eval o).run P w = .ok (.value (.pointer (some ⟨b, o' + off, none⟩))) w)
    (h : (Pr.hd t fun h => match h.2 with
      | .box => Pr.put o.dst (.ptr t off h.1)
      | .plain => .get t fun y => match y.2 with
        | .ptr r o' gs => Pr.put o.dst (.ptr r (o' + off) gs)
        | .eptr r k gs gc o' => Pr.put o.dst (.eptr r k gs gc (o' + off))
        | .fptr cs o' => Pr.put o.dst (.fptr cs (o' + off))
        | _ => .fail
      | _ => .fail).run env = some env') : OpVal P o a w env' O := by
  have hm := inv.mem t
  have ha := inv.ali t
  simp only [Pr.run] at h
  split at h
  · rename_i hk
    obtain ⟨cs, he⟩ := hd_box hk
    rw [he] at hm
    obtain ⟨b, hb, _⟩ := hm
    have := hrun b 0 (hx.trans hb)
    rw [Nat.zero_add] at this
    exact OpVal.pure this (Gh.refl inv) h (fun _ _ => trivial) ⟨Nat.le_refl _, b, rfl, fun _ => ⟨hk, hb⟩⟩
  · simp only [Pr.run] at h
    split at h
    · rename_i r o' gs he
      rw [he] at ha
      obtain ⟨h1, b, hb, h2⟩ := ha
      exact OpVal.pure (hrun b o' (hx.trans hb)) (Gh.refl inv) h (fun _ _ => trivial) ⟨h1, b, rfl, h2⟩
    · rename_i r k gs gc o' he
      rw [he] at ha
      obtain ⟨h1, bl, off0, hb, h2⟩ := ha
      have := hrun bl _ (hx.trans hb)
      rw [Nat.add_assoc] at this
      exact OpVal.pure this (Gh.refl inv) h (fun _ _ => trivial) ⟨h1, bl, off0, rfl, h2⟩
    · rename_i cs o' he
      rw [he] at hm
      obtain ⟨b, off0, hb, h2⟩ := hm
      have := hrun b _ (hx.trans hb)
      rw [Nat.add_assoc] at this
      exact OpVal.pure this (Gh.refl inv) h (fun _ _ => ⟨b, off0, rfl, h2⟩) trivial
    · simp [Pr.run] at h
  · simp [Pr.run] at h

theorem sizeT_some {t : TypeId} {s : Nat} (h : sizeT P t = some s) : ∃ i, P.info? t = some i ∧ i.size = s ∧ s ≠ 0 := by
  unfold sizeT at h
  split at h
  · rename_i i hi
    split at h
    · cases h
    · cases h; exact ⟨i, hi, rfl, by assumption⟩
  · cases h

theorem sizeOf_run {t : TypeId} {i : TypeInfo} (h : P.info? t = some i) : (sizeOf t).run P w = .ok i.size w := by
  simp [sizeOf, typeInfo, h]

theorem faddr_ok {F : Fns} {t : TypeId} {x : Operand} {y : Opd} {fi : Nat} {fs : Array Field} {f : Field} {s : Nat} (ho : o.op = .fieldAddr t x fi) (ht : P.underlying t = some (.struct fs)) (hf : fs[fi]? = some f) (hs : sizeT P f.type = some s)
    (hx : cOpd x = some y) (inv : Inv env a.tmps w O) (h : (stepOp F o.dst (.faddr f.offset y)).run env = some env') : OpVal P o a w env' O := by
  have hr := cOpd_rep hx a
  cases y with
  | con v => simp [stepOp, Pr.run] at h
  | tmp t' =>
    obtain ⟨i, hi, his, hs0⟩ := sizeT_some hs
    refine addr_ok (x := x) hr inv ?_ h
    intro b o' hb
    have hz : i.size ≠ 0 := by omega
    simp [execOp, ho, hb, Instr.fieldAt, run_underlying ht, hf, Instr.sureAddr, fieldPlace, sizeOf_run hi, hz, Addr.add_mid]

theorem iaddrA_ok {F : Fns} {t e : TypeId} {x i : Operand} {y j : Opd} {n s : Nat} (ho : o.op = .indexAddr t x i) (ht : P.underlying t = some (.array n e)) (hs : sizeT P e = some s)
    (hx : cOpd x = some y) (hi : cOpd i = some j) (inv : Inv env a.tmps w O) (h : (stepOp F o.dst (.iaddrA n s y j)).run env = some env') : OpVal P o a w env' O := by
  obtain ⟨ti, hti, his, _⟩ := sizeT_some hs
  simp only [stepOp] at h
  replace h := int_run hi inv h
  obtain ⟨k, m, hm, h⟩ := h
  split at h
  · rename_i h0
    split at h
    · rename_i h1
      have hr := cOpd_rep hx a
      cases y with
      | con v => simp [Pr.run] at h
      | tmp t' =>
        refine addr_ok (x := x) (off := m.toNat * s) hr inv ?_ h
        intro b o' hb
        simp [execOp, ho, hb, hm, Instr.indexAt, run_underlying ht, asIntOf, Instr.sureAddr, sizeOf_run hti, h0, h1, his, Addr.add_mid]
    · simp [Pr.run] at h
  · simp [Pr.run] at h

theorem iaddrS_ok {F : Fns} {t e : TypeId} {x i : Operand} {y j : Opd} {s : Nat} (ho : o.op = .indexAddr t x i) (ht : P.underlying t = some (.slice e)) (hs : sizeT P e = some s)
    (hx : cOpd x = some y) (hi : cOpd i = some j) (inv : Inv env a.tmps w O) (h : (stepOp F o.dst (.iaddrS s y j)).run env = some env') : OpVal P o a w env' O := by
  obtain ⟨ti, hti, his, hs0⟩ := sizeT_some hs
  simp only [stepOp] at h
  replace h := int_run hi inv h
  obtain ⟨k, m, hm, h⟩ := h
  have hr := cOpd_rep hx a
  -- what the address is
  have hrun : ∀ b off len cap, a.eval x = .slice (some ⟨b, off, none⟩) len cap → 0 ≤ m → m < len → (execOp a.eval o).run P w = .ok (.value (.pointer (some ⟨b, off + m.toNat * s, none⟩))) w := by
    intro b off len cap e1 h0 h1
    simp [execOp, ho, e1, hm, Instr.indexAt, run_underlying ht, asIntOf, sizeOf_run hti, h0, h1, his, Addr.add_mid]
  cases y with
  | con p => simp [Pr.run] at h
  | tmp t' =>
    have hv : a.eval x = a.tmps.getD t' undef := hr
    have hmm := inv.mem t'
    have ha := inv.ali t'
    simp only [Pr.run] at h
    -- the test that all ways pass
    have test : ∀ (s' n : Nat) (κ : Pr), (if s' = s then if 0 ≤ m then if m < (n / s : Nat) then κ else Pr.fail else Pr.fail else Pr.fail).run env = some env' → s' = s ∧ 0 ≤ m ∧ m < (n / s : Nat) ∧ κ.run env = some env' := by
      intro s' n κ h
      split at h
      · split at h
        · split at h
          · exact ⟨by assumption, by assumption, by assumption, h⟩
          · simp [Pr.run] at h
        · simp [Pr.run] at h
      · simp [Pr.run] at h
    split at h
    · rename_i s' n hk
      obtain ⟨f, cs, sp, he, rfl⟩ := hd_own hk
      rw [he] at hmm
      obtain ⟨rfl, h0, h1, h⟩ := test _ _ _ h
      obtain ⟨b, off, len, cap, e1, hr⟩ := hmm
      rw [hr.len_eq, Nat.mul_div_cancel _ hr.pos] at h1
      exact OpVal.pure (hrun b off len cap (hv.trans e1) h0 h1) (Gh.refl inv) h (fun _ _ => trivial) ⟨⟨Nat.le_refl _, fun _ => by rw [he]; rfl⟩, b, off, rfl, fun c hc => ⟨len, cap, by rw [he]; exact congrArg some e1⟩⟩
    · obtain ⟨sv, he⟩ : ∃ sv, (env.at t').2 = sv := ⟨_, rfl⟩
      simp only [Pr.run] at h
      rw [he] at h hmm ha
      cases sv with
      | cv c =>
        cases c with
        | pv p =>
          cases p with
          | sl s' cs =>
            simp only at h
            obtain ⟨rfl, h0, h1, h⟩ := test _ _ _ h
            obtain ⟨b, off, sp, len, cap, e1, hsp, hp, hl, h2, h3⟩ := frep_sl.1 hmm
            rw [hl, Nat.mul_div_cancel _ hp] at h1
            obtain rfl : sp = none := by
              rcases hsp with h | h
              · exact h
              · omega
            exact OpVal.pure (hrun b off len cap (hv.trans e1) h0 h1) (Gh.refl inv) h (fun _ _ => ⟨b, off, rfl, h3⟩) trivial
          | _ => simp [Pr.run] at h
        | _ => simp [Pr.run] at h
      | ref r k' gs gc =>
        simp only at h
        obtain ⟨f, s', cs, sp, hl, hg, h⟩ := shape_run h
        obtain ⟨rfl, h0, h1, h⟩ := test _ _ _ h
        obtain ⟨b, off, len, cap, hh, hr⟩ := live_own inv hl
        have hvv := ha.2 _ hl
        have e1 := hh
        rw [hvv, Option.some.injEq] at e1
        rw [hr.len_eq, Nat.mul_div_cancel _ hr.pos] at h1
        refine OpVal.pure (hrun b off len cap (hv.trans e1) h0 h1) (Gh.refl inv) h (fun _ _ => trivial) ⟨ha.1, b, off, rfl, fun c hc => ⟨len, cap, hh⟩⟩
      | view r k' gs gc i j =>
        simp only at h
        obtain ⟨f, s', cs, sp, hl, hg, h⟩ := shape_run h
        obtain ⟨rfl, h0, h1, h⟩ := test _ _ _ h
        obtain ⟨hab, hb, hi', hj', bl, off0, len, cap, hh, off', hvv, hoff⟩ := ha.2 f _ cs sp hl
        obtain ⟨b, off, len2, cap2, hh2, hr⟩ := live_own inv hl
        rw [hh, Option.some.injEq] at hh2
        cases hh2
        have hne : off' = off0 + i := by
          rcases hoff with h | ⟨h, _⟩
          · exact h
          · subst h; simp at h1; omega
        have := hrun bl off' _ _ (hv.trans hvv) h0 h1
        rw [hne, Nat.add_assoc] at this
        exact OpVal.pure this (Gh.refl inv) h (fun _ _ => trivial) ⟨ha.1, bl, off0, rfl, fun c hc => ⟨len, cap, hh⟩⟩
      | _ => simp [Pr.run] at h
    · simp [Pr.run] at h

theorem indexS_ok {F : Fns} {t : TypeId} {x i : Operand} {y j : Opd} (ho : o.op = .index t x i) (ht : P.underlying t = some .string)
    (hx : cOpd x = some y) (hi : cOpd i = some j) (inv : Inv env a.tmps w O) (h : (stepOp F o.dst (.indexS y j)).run env = some env') : OpVal P o a w env' O := by
  simp only [stepOp] at h
  replace h := rd_run inv (cOpd_rep hx a) h
  obtain ⟨v, hv, h⟩ := h
  replace h := int_run hi inv h
  obtain ⟨k, m, hm, h⟩ := h
  split at h
  · rename_i s
    have e1 := rd_str hv
    split at h
    · rename_i h0
      split at h
      · rename_i c hc
        refine OpVal.sc (v := .int .u8 c.toNat) ?_ inv h (fun H => .int ..)
        have hc' : s[m.toNat]? = some c := by
          have hlt : m.toNat < s.data.toList.length := getElem?_lt hc
          have hlt' : m.toNat < s.size := by simpa using hlt
          rw [getElem?_pos s m.toNat hlt']
          rw [List.getElem?_eq_getElem hlt] at hc
          rw [← hc]; simp; rfl
        simp [execOp, ho, e1, hm, Instr.index, run_underlying ht, asIntOf, h0, hc']
      · simp [Pr.run] at h
    · simp [Pr.run] at h
  · simp [Pr.run] at h

theorem extract_ok {F : Fns} {x : Operand} {y : Opd} {i : Nat} (ho : o.op = .extract x i) (hx : cOpd x = some y) (inv : Inv env a.tmps w O) (h : (stepOp F o.dst (.extract y i)).run env = some env') : OpVal P o a w env' O := by
  have hr := cOpd_rep hx a
  cases y with
  | con v => simp [stepOp, Pr.run] at h
  | tmp t =>
    have hv : a.eval x = a.tmps.getD t undef := hr
    have hm := inv.mem t
    simp only [stepOp, Pr.run] at h
    have tup : ∀ m, (env.at t).2.cmp i = some m → ∃ ms vs u, (env.at t).2 = .tup ms ∧ ms[i]? = some m ∧ a.tmps.getD t undef = .tuple vs ∧ vs[i]? = some u ∧ CmpRep w O t i m u ∧ (execOp a.eval o).run P w = .ok (.value u) w := by
      intro m hm'
      cases he : (env.at t).2 with
      | tup ms =>
        rw [he] at hm hm'
        obtain ⟨vs, hvs, hsz, hc⟩ := hm
        obtain ⟨u, hu, hcr⟩ := hc i m hm'
        refine ⟨ms, vs, u, rfl, hm', hvs, hu, hcr, ?_⟩
        simp [execOp, ho, hv, hvs, Instr.extract, hu]
      | _ => rw [he] at hm'; simp [SV.cmp, SV.cmps] at hm'
    split at h
    · rename_i g p hp
      obtain ⟨ms, vs, u, he, hms, hvs, hu, hcr, hrun⟩ := tup _ hp
      exact OpVal.pure hrun (Gh.refl inv) h (fun _ _ => hcr) trivial
    · rename_i g f s cs sp hp
      obtain ⟨ms, vs, u, he, hms, hvs, hu, hcr, hrun⟩ := tup _ hp
      refine OpVal.pure hrun (Gh.refl inv) h (fun _ _ => trivial) ⟨⟨Nat.le_refl _, fun _ => ?_⟩, fun c hc => ?_⟩
      · rw [he]; exact ⟨_, hms, Nat.le_refl _, fun _ => rfl⟩
      · rw [he, hvs]; exact hu
    · rename_i cs hp
      obtain ⟨ms, vs, u, he, hms, hvs, hu, hcr, hrun⟩ := tup _ hp
      refine OpVal.pure hrun (Gh.refl inv) h (fun _ _ => trivial) ⟨Nat.le_refl _, fun _ => ⟨by rw [he]; rfl, ?_⟩⟩
      rw [he, hvs]; exact hu
    · simp [Pr.run] at h

theorem lenC_ok {F : Fns} {n : Nat} {t e : TypeId} {x : Operand} (c : Call) (hcal : c.callee = .builtin .len) (h0 : c.argTypes[0]? = some t) (h1 : c.args[0]? = some x) (ht : P.underlying t = some (.array n e))
    (ho : o.op = .call c) (inv : Inv env a.tmps w O) (h : (stepOp F o.dst (.lenC n)).run env = some env') : OpVal P o a w env' O := by
  simp only [stepOp] at h
  refine OpVal.sc (v := .int .i64 n) (len_run hcal ho ?_) inv h (fun H => .int ..)
  simp only [Builtin.len_, h0, args_one h1, Sem.run_bind, run_underlying ht, Result.andThen_ok]; rfl

/-- Cells out of a row that nobody writes. -/
theorem loadRow_ok {n : Option Nat} {t : TypeId} {cs : List PV} {b off ofs : Nat} (hn : aggOf P t = some n) (hrow : RowAt (Frz w O) (cellAt w) b off cs) (inv : Inv env a.tmps w O)
    (hrun : ∀ v, (Instr.loadAt t (.pointer (some ⟨b, off + ofs, none⟩))).run P w = .ok v w → (execOp a.eval o).run P w = .ok (.value v) w)
    (h : (stepOp.loadRow o.dst n cs ofs).run env = some env') : OpVal P o a w env' O := by
  unfold aggOf at hn
  split at hn
  · rename_i i hag hi
    cases hn
    simp only [stepOp.loadRow] at h
    split at h
    · rename_i hle
      obtain ⟨d, hd, hrd⟩ : ∃ d, P.underlying t = some d ∧ d.isRow = true := by
        unfold isAggT at hag
        split at hag
        · exact ⟨_, by assumption, rfl⟩
        · exact ⟨_, by assumption, rfl⟩
        · cases hag
        · cases hag
      -- the values that lie there
      have hcell : ∀ j, j < i.size → ∃ u, cellAt w b (off + ofs + j) = some u := by
        intro j hj
        obtain ⟨_, u, hu, _⟩ := hrow (ofs + j) (cs[ofs + j]'(by omega)) (List.getElem?_eq_getElem (by omega))
        exact ⟨u, by rw [Nat.add_assoc]; exact hu⟩
      let us : List Value := (List.range i.size).map fun j => (cellAt w b (off + ofs + j)).getD undef
      have hus : ∀ j u, us[j]? = some u → cellAt w b (off + ofs + j) = some u := by
        intro j u hu
        simp only [us, List.getElem?_map, Option.map_eq_some_iff] at hu
        obtain ⟨j', hj', rfl⟩ := hu
        rw [List.getElem?_eq_some_iff] at hj'
        obtain ⟨hjl, rfl⟩ := hj'
        simp at hjl ⊢
        obtain ⟨u, hu⟩ := hcell j hjl
        rw [hu]; rfl
      have hlen : us.length = i.size := by simp [us]
      have hr := run_loadAt_mid (P := P) w b (off + ofs) t us d (fun j v hv => hus j v hv) hd hrd (by rw [hi, hlen]; rfl)
      refine OpVal.pure (hrun _ hr) (Gh.refl inv) h (fun _ _ => frep_agg.2 ⟨_, rfl, by simp [hlen]; omega, fun j c hc => ?_⟩) trivial
      have hj := getElem?_lt hc
      rw [List.length_take, List.length_drop] at hj
      rw [List.getElem?_take, if_pos (by omega), List.getElem?_drop] at hc
      obtain ⟨h1, u, hu, hf⟩ := hrow (ofs + j) c hc
      refine ⟨h1, u, ?_, hf⟩
      have hju : us[j]? = some (us[j]'(by omega)) := List.getElem?_eq_getElem (by omega)
      have := hus j _ hju
      rw [Nat.add_assoc, hu] at this
      simp only [List.getElem?_toArray, hju]; exact this.symm
    · simp [Pr.run] at h
  · rename_i i hag hi
    split at hn
    · cases hn
      simp only [stepOp.loadRow] at h
      split at h
      · rename_i c hc
        obtain ⟨h1, u, hu, hf⟩ := hrow ofs c hc
        have hna : (isAgg t).run P w = .ok false w := by
          unfold isAggT at hag
          split at hag
          · cases hag
          · cases hag
          · rename_i d hns hna hd
            unfold isAgg
            rw [Sem.run_bind, run_underlying hd]
            cases d <;> first | rfl | (exfalso; exact hns _ rfl) | (exfalso; exact hna _ _ rfl)
          · cases hag
        have hr : (Instr.loadAt t (.pointer (some ⟨b, off + ofs, none⟩))).run P w = .ok u w := by
          have hu' : w.cell? ⟨b, off + ofs, none⟩ = some u := hu
          simp [Instr.loadAt, Instr.sureAddr, loadVar, hna, hu']
        exact OpVal.pure (hrun _ hr) (Gh.refl inv) h (fun _ _ => hf) trivial
      · simp [Pr.run] at h
    · cases hn
  · cases hn
end

section
/- The operations, fifth part: loads of boxes; cuts; texts. -/

variable {P : Program} {o : Oper} {a : Act} {w : World} {env env' : Env} {O : Owns}

/-- A box's cells are told anew. -/
theorem boxUpd_inv {tmps : Array Value} {w' : World} {O' : Owns} (inv : Inv env tmps w O) {r g : Nat} {cs cs' : List (Nat × CV)} {κ : Pr} (he : env.at r = (g, .box cs)) (hlen : cs'.length = cs.length)
    (h : (Pr.upd r (g, .box cs') κ).run env = some env') (T : Owner → Prop) (hkeep : Keep T w O w' O') (hT : ∀ t, t ≠ r → ∀ q, Uses t (env.at t).2 q → ¬ T q) (hbnd : ∀ b o q, O' b o = some q → b < w'.heap.size)
    (hbox : BoxRep w' O' r cs' (tmps.getD r undef))
    (hgen : ∀ b, tmps.getD r undef = .pointer (some ⟨b, 0, none⟩) → ∀ (k : Nat) p p', cs[k]? = some p → cs'[k]? = some p' → p.1 ≤ p'.1 ∧ (p'.1 = p.1 → PV.isRow p.2 = true → sameRow p.2 p'.2 ∧ cellAt w' b k = cellAt w b k)) :
    Inv (env.set r (g, .box cs')) tmps w' O' ∧ κ.run (env.set r (g, .box cs')) = some env' ∧ r < env.length := by
  have hr : r < env.length := by
    rcases Nat.lt_or_ge r env.length with h | h
    · exact h
    · rw [at_out env h] at he; cases he
  simp only [Pr.run, he] at h
  rw [if_pos trivial, if_pos (by rfl)] at h
  refine ⟨?_, h, hr⟩
  have hm := inv.mem r
  rw [he] at hm
  obtain ⟨b, hb, hcells⟩ := hm
  have hg := hgen b hb
  refine inv.make (fun t' => t' = r) T (by simpa using inv.len) hbnd hkeep (fun t ht => hT t ht) (fun t ht => ⟨at_set_ne _ _ ht, rfl⟩) ?_ ?_ ?_
  · rintro t rfl; rw [at_set_same _ _ hr]; exact hbox
  · rintro t rfl
    rw [at_set_same _ _ hr, he]
    refine ⟨Nat.le_refl _, fun _ _ => ⟨rfl, rfl⟩, ?_, ?_⟩
    · intro k gs gc ho
      refine ⟨ho.1, fun e => ?_⟩
      obtain ⟨p, hp, hle, hi⟩ := ho.2 e
      have hk := getElem?_lt hp
      have hp' : cs'[k]? = some (cs'[k]'(by omega)) := List.getElem?_eq_getElem (by omega)
      obtain ⟨h1, h2⟩ := hg k p _ hp hp'
      refine ⟨_, hp', by omega, fun e' => ?_⟩
      have e2 : (cs'[k]'(by omega)).1 = p.1 := by omega
      obtain ⟨⟨f, s, c1, sp, f', c2, sp', _, e3, _⟩, _⟩ := h2 e2 (hi (by omega))
      rw [e3]; rfl
    · intro k gs gc c' ho hl
      unfold live at hl ⊢
      simp only at hl ⊢
      split at hl
      · rename_i e
        rw [if_pos e]
        split at hl
        · rename_i p' hp'
          split at hl
          · rename_i e'
            cases hl
            obtain ⟨p, hp, hle, hi⟩ := ho.2 e.symm
            obtain ⟨h1, h2⟩ := hg k p p' hp hp'
            have e2 : p'.1 = p.1 := by omega
            obtain ⟨h3, h4⟩ := h2 e2 (hi (by omega))
            rw [hp]; simp only
            rw [if_pos (by omega)]
            exact ⟨_, rfl, h3, by rw [hb]; exact h4⟩
          · cases hl
        · cases hl
      · cases hl
  · rintro t rfl; rw [at_set_same _ _ hr]; trivial

/-- Values of a part of a box. -/
theorem box_vals {t n ofs b : Nat} {cs : List (Nat × CV)} (hle : ofs + n ≤ cs.length) (hc : ∀ (i : Nat) p, cs[i]? = some p → O b i = some (.box t) ∧ frozenAt w b i = false ∧ ∃ u, cellAt w b i = some u ∧ CellRep w O (.pl t 0 i) p.2 u) :
    ∃ us : List Value, us.length = n ∧ (∀ j u, us[j]? = some u → cellAt w b (ofs + j) = some u) ∧ ∀ (j : Nat) p, ((cs.drop ofs).take n)[j]? = some p → ∃ u, us[j]? = some u ∧ cs[ofs + j]? = some p ∧ cellAt w b (ofs + j) = some u ∧ CellRep w O (.pl t 0 (ofs + j)) p.2 u := by
  let us : List Value := (List.range n).map fun j => (cellAt w b (ofs + j)).getD undef
  have hlen : us.length = n := by simp [us]
  have hcell : ∀ j, j < n → ∃ u, cellAt w b (ofs + j) = some u := by
    intro j hj
    obtain ⟨_, _, u, hu, _⟩ := hc (ofs + j) (cs[ofs + j]'(by omega)) (List.getElem?_eq_getElem (by omega))
    exact ⟨u, hu⟩
  have hus : ∀ j u, us[j]? = some u → cellAt w b (ofs + j) = some u := by
    intro j u hu
    have hj := getElem?_lt hu
    simp only [us, List.getElem?_map, Option.map_eq_some_iff] at hu
    obtain ⟨j', hj', rfl⟩ := hu
    rw [List.getElem?_eq_some_iff] at hj'
    obtain ⟨hjl, rfl⟩ := hj'
    simp at hjl ⊢
    obtain ⟨u, hu⟩ := hcell j hjl
    rw [hu]; rfl
  refine ⟨us, hlen, hus, fun j p hp => ?_⟩
  have hj := getElem?_lt hp
  rw [List.length_take, List.length_drop] at hj
  rw [List.getElem?_take, if_pos (by omega), List.getElem?_drop] at hp
  obtain ⟨_, _, u, hu, hr⟩ := hc _ p hp
  have hju : us[j]? = some (us[j]'(by omega)) := List.getElem?_eq_getElem (by omega)
  have := hus j _ hju
  rw [hu] at this
  exact ⟨u, by rw [hju, this], hp, hu, hr⟩

theorem aggOf_some {t : TypeId} {n : Nat} (h : aggOf P t = some (some n)) : ∃ d i, P.underlying t = some d ∧ d.isRow = true ∧ P.info? t = some i ∧ i.size = n := by
  unfold aggOf at h
  split at h
  · rename_i i hag hi
    cases h
    unfold isAggT at hag
    split at hag
    · exact ⟨_, i, by assumption, rfl, hi, rfl⟩
    · exact ⟨_, i, by assumption, rfl, hi, rfl⟩
    · cases hag
    · cases hag
  · split at h <;> cases h
  · cases h

theorem aggOf_none {t : TypeId} (h : aggOf P t = some none) : (isAgg t).run P w = .ok false w ∧ ∃ i, P.info? t = some i ∧ i.size = 1 := by
  unfold aggOf at h
  split at h
  · cases h
  · rename_i i hag hi
    split at h
    · refine ⟨?_, i, hi, by assumption⟩
      unfold isAggT at hag
      split at hag
      · cases hag
      · cases hag
      · rename_i d hns hna hd
        unfold isAgg
        rw [Sem.run_bind, run_underlying hd]
        cases d <;> first | rfl | (exfalso; exact hns _ rfl) | (exfalso; exact hna _ _ rfl)
      · cases hag
    · cases h
  · cases h

theorem load_one {t : TypeId} {b off : Nat} {u : Value} (h : aggOf P t = some none) (hu : cellAt w b off = some u) : (Instr.loadAt t (.pointer (some ⟨b, off, none⟩))).run P w = .ok u w := by
  have hu' : w.cell? ⟨b, off, none⟩ = some u := hu
  simp [Instr.loadAt, Instr.sureAddr, loadVar, (aggOf_none (w := w) h).1, hu']

theorem load_many {t : TypeId} {b off n : Nat} {us : List Value} (h : aggOf P t = some (some n)) (hl : us.length = n) (hu : ∀ j u, us[j]? = some u → cellAt w b (off + j) = some u) : (Instr.loadAt t (.pointer (some ⟨b, off, none⟩))).run P w = .ok (.agg us.toArray) w := by
  obtain ⟨d, i, hd, hr, hi, hs⟩ := aggOf_some h
  exact run_loadAt_mid w b off t us d (fun j v hv => hu j v hv) hd hr (by rw [hi, hl]; simp [hs])

theorem set_take_drop {α : Type} {l : List α} {o n : Nat} {f : α → α} (hle : o + n ≤ l.length) (k : Nat) :
    (l.take o ++ ((l.drop o).take n).map f ++ l.drop (o + n))[k]? = if o ≤ k ∧ k < o + n then (l[k]?).map f else l[k]? := by
  rw [List.append_assoc]
  by_cases h1 : k < o
  · rw [List.getElem?_append_left (by rw [List.length_take]; omega), List.getElem?_take, if_pos h1, if_neg (by omega)]
  · rw [List.getElem?_append_right (by rw [List.length_take]; omega), List.length_take, Nat.min_eq_left (by omega)]
    by_cases h2 : k < o + n
    · rw [List.getElem?_append_left (by simp [List.length_take, List.length_drop]; omega), List.getElem?_map, List.getElem?_take, if_pos (by omega), List.getElem?_drop, if_pos ⟨by omega, h2⟩, show o + (k - o) = k from by omega]
    · rw [List.getElem?_append_right (by simp [List.length_take, List.length_drop]; omega), if_neg (by omega)]
      simp only [List.length_map, List.length_take, List.length_drop, List.getElem?_drop]
      congr 1; omega

theorem loadBox_ok {take : Bool} {n : Option Nat} {t : TypeId} {r g ofs : Nat} {cs : List (Nat × CV)} (hn : aggOf P t = some n) (he : env.at r = (g, .box cs)) (inv : Inv env a.tmps w O)
    (hrun : ∀ b, a.tmps.getD r undef = .pointer (some ⟨b, 0, none⟩) → ∀ v, (Instr.loadAt t (.pointer (some ⟨b, ofs, none⟩))).run P w = .ok v w → (execOp a.eval o).run P w = .ok (.value v) w)
    (h : (stepOp.loadBox o.dst take n r (g, .box cs) cs ofs).run env = some env') : OpVal P o a w env' O := by
  have hm := inv.mem r
  rw [he] at hm
  obtain ⟨b, hb, hcells⟩ := hm
  have hrun := hrun b hb
  cases n with
  | none =>
    simp only [stepOp.loadBox] at h
    split at h
    · rename_i g' p hp
      obtain ⟨_, _, u, hu, _, hr⟩ := hcells _ _ hp
      exact OpVal.pure (hrun u (load_one hn hu)) (Gh.refl inv) h (fun _ _ => hr) trivial
    · rename_i g' f s c sp hp
      obtain ⟨_, _, u, hu, _, hr⟩ := hcells _ _ hp
      refine OpVal.pure (hrun u (load_one hn hu)) (Gh.refl inv) h (fun _ _ => trivial) ⟨⟨?_, fun _ => ?_⟩, fun c hc => ?_⟩
      · rw [he]; exact Nat.le_refl _
      · rw [he]; exact ⟨_, hp, Nat.le_refl _, fun _ => rfl⟩
      · rw [he, hb]; exact hu
    · simp [Pr.run] at h
  | some n =>
    simp only [stepOp.loadBox] at h
    split at h
    case isFalse => simp [Pr.run] at h
    rename_i hle
    obtain ⟨us, hul, hus, hpart⟩ := box_vals hle hcells
    have hv := hrun _ (load_many hn hul hus)
    have views : ∀ (vs : List PV) (O1 : Owns), ((cs.drop ofs).take n).mapM (fun p => p.2.view) = some vs →
        (∀ (j : Nat) p u, ((cs.drop ofs).take n)[j]? = some p → us[j]? = some u → ∃ x, p.2.view = some x ∧ x.isCell = true ∧ FRep (Frz w O1) x u) → FRep (Frz w O1) (.agg vs) (.agg us.toArray) := by
      intro vs O1 hvs hh
      obtain ⟨hl, hview⟩ := mapM_some hvs
      refine frep_agg.2 ⟨_, rfl, ?_, fun j x hx => ?_⟩
      · rw [List.size_toArray, hul, hl, List.length_take, List.length_drop]; omega
      · obtain ⟨p, hp, hpv⟩ := hview j x hx
        obtain ⟨u, hu, _⟩ := hpart j p hp
        obtain ⟨x', e1, e2, e3⟩ := hh j p u hp hu
        rw [hpv] at e1; cases e1
        exact ⟨e2, u, by simpa using hu, e3⟩
    split at h
    · split at h
      · -- taken
        have hb2 : BoxRep w O r (cs.take ofs ++ ((cs.drop ofs).take n).map (fun p => (p.1 + 1, CV.gone)) ++ cs.drop (ofs + n)) (a.tmps.getD r undef) := by
          refine ⟨b, hb, fun i p hp => ?_⟩
          rw [set_take_drop hle] at hp
          split at hp
          · rw [Option.map_eq_some_iff] at hp
            obtain ⟨p0, hp0, rfl⟩ := hp
            obtain ⟨h1, h2, u, hu, _⟩ := hcells i p0 hp0
            exact ⟨h1, h2, u, hu, rfl, trivial⟩
          · exact hcells i p hp
        obtain ⟨inv1, hk, hr⟩ := boxUpd_inv inv he (by simp; omega) h (fun _ => False) (Keep.refl _ _ _) (fun _ _ _ _ h => h) inv.bnd hb2 (by
          intro b' hb' k p p' hp hp'
          rw [set_take_drop hle] at hp'
          split at hp'
          · rw [hp] at hp'; cases hp'
            exact ⟨Nat.le_succ _, fun e => absurd e (Nat.succ_ne_self _)⟩
          · rw [hp] at hp'; cases hp'
            exact ⟨Nat.le_refl _, fun _ hi => ⟨sameRow.refl_of hi, rfl⟩⟩)
        let L : List Cell3 := ((cs.drop ofs).take n).mapIdx fun j p => (p.2, us.getD j undef, .pl r 0 (ofs + j))
        have hL1 : L.map (·.1) = ((cs.drop ofs).take n).map (·.2) := by
          simp only [L]
          apply List.ext_getElem?
          intro j
          simp only [List.getElem?_map, List.getElem?_mapIdx, Option.map_map]
          rfl
        have hat : ∀ (j : Nat) x, L[j]? = some x → ∃ p u, ((cs.drop ofs).take n)[j]? = some p ∧ us[j]? = some u ∧ x = (p.2, u, .pl r 0 (ofs + j)) := by
          intro j x hx
          simp only [L, List.getElem?_mapIdx, Option.map_eq_some_iff] at hx
          obtain ⟨p, hp, rfl⟩ := hx
          obtain ⟨u, hu, _⟩ := hpart j p hp
          refine ⟨p, u, hp, hu, ?_⟩
          rw [List.getD_eq_getElem?_getD, hu]; rfl
        have huse : ∀ t q, Uses t (Env.at (env.set r (g, .box (cs.take ofs ++ ((cs.drop ofs).take n).map (fun p => (p.1 + 1, CV.gone)) ++ cs.drop (ofs + n)))) t).2 q → ∀ j, j < n → q ≠ .pl r 0 (ofs + j) := by
          intro t q hq j hj e
          have hs := hq.slot
          rw [e] at hs; simp only [Owner.slot] at hs; subst hs
          rw [at_set_same _ _ hr] at hq
          subst e
          rcases hq with e | ⟨i, p, hp, hi, e⟩
          · cases e
          · injection e with _ _ e
            rw [set_take_drop hle, if_pos (by omega), Option.map_eq_some_iff] at hp
            obtain ⟨p0, _, rfl⟩ := hp
            cases hi
        have hLR : LRow (env.set r (g, .box (cs.take ofs ++ ((cs.drop ofs).take n).map (fun p => (p.1 + 1, CV.gone)) ++ cs.drop (ofs + n)))) w O L := by
          refine ⟨fun x hx => ?_, ?_, fun x hx _ => ?_⟩
          case refine_3 =>
            obtain ⟨j, hj, e⟩ := List.getElem_of_mem hx
            obtain ⟨p, u, hp, hu, rfl⟩ := hat j x (by rw [← e]; exact List.getElem?_eq_getElem hj)
            simp
          · obtain ⟨j, hj, e⟩ := List.getElem_of_mem hx
            obtain ⟨p, u, hp, hu, rfl⟩ := hat j x (by rw [← e]; exact List.getElem?_eq_getElem hj)
            obtain ⟨u', hu', _, _, hc1, hc2⟩ := hpart j p hp
            rw [hu] at hu'; cases hu'
            have hjn : j < n := by have := getElem?_lt hp; rw [List.length_take] at this; omega
            exact ⟨hc1, hc2, fun _ t ht => huse t _ ht j hjn rfl⟩
          · rw [List.Nodup, List.pairwise_filterMap, List.pairwise_iff_getElem]
            intro i j hi hj hij p hp q hq e
            obtain ⟨p1, u1, _, _, e1⟩ := hat i _ (List.getElem?_eq_getElem hi)
            obtain ⟨p2, u2, _, _, e2⟩ := hat j _ (List.getElem?_eq_getElem hj)
            rw [e1] at hp; rw [e2] at hq
            unfold ro at hp hq
            split at hp
            · split at hq
              · cases hp; cases hq; injection e with _ _ e; omega
              · cases hq
            · cases hp
        obtain ⟨O', i1, i2, _⟩ := inv1.putW hLR (Later.refl w) (fun _ _ => none) o.dst (fun d i => .pl d 0 i) _ (.agg us.toArray) (fun _ _ _ e => by cases e) (fun _ _ => rfl) hk (by
          intro d' _ O' _ _ _ hc
          refine ⟨us.toArray, rfl, ?_, fun i c hci => ?_⟩
          · rw [List.size_toArray, hul, List.length_map, List.length_take, List.length_drop]; omega
          · rw [← hL1, List.getElem?_map, Option.map_eq_some_iff] at hci
            obtain ⟨x, hx, rfl⟩ := hci
            obtain ⟨p, u, _, hu, rfl⟩ := hat i x hx
            obtain ⟨k1, k2⟩ := hc i _ hx
            exact ⟨u, by simpa using hu, k1, k2⟩) trivial
        exact ⟨_, w, O', _, hv, .inl rfl, i1, i2⟩
      · -- shared
        split at h
        · rename_i vs hvs
          obtain ⟨hl, hview⟩ := mapM_some hvs
          -- the part's cells, the others left alone
          let cs0 : List CV := cs.mapIdx fun i p => if ofs ≤ i ∧ i < ofs + n then p.2 else .pv .nili
          have hc0 : ∀ (i : Nat) c, cs0[i]? = some c → ∃ p, cs[i]? = some p ∧ c = if ofs ≤ i ∧ i < ofs + n then p.2 else .pv .nili := by
            intro i c hc
            simp only [cs0, List.getElem?_mapIdx, Option.map_eq_some_iff] at hc
            obtain ⟨p, hp, rfl⟩ := hc
            exact ⟨p, hp, rfl⟩
          have hpart' : ∀ (i : Nat) p, cs[i]? = some p → ofs ≤ i → i < ofs + n → ((cs.drop ofs).take n)[i - ofs]? = some p := by
            intro i p hp h1 h2
            rw [List.getElem?_take, if_pos (by omega), List.getElem?_drop, show ofs + (i - ofs) = i from by omega]; exact hp
          obtain ⟨O1, k1, _, k3, k4, k5⟩ := share_many (w := w) (fun i => .pl r 0 i) (fun i j e => by injection e) cs0 (fun i => if ofs ≤ i ∧ i < ofs + n then (cellAt w b i).getD undef else .nilIface) (by
            intro i c hc
            obtain ⟨p, hp, rfl⟩ := hc0 i c hc
            split
            · rename_i hi
              have := hpart' i p hp hi.1 hi.2
              have hj := getElem?_lt this
              obtain ⟨p', hp', hpv⟩ := hview (i - ofs) (vs[i - ofs]'(by omega)) (List.getElem?_eq_getElem (by omega))
              rw [this] at hp'; cases hp'; rw [hpv]; rfl
            · rfl) cs.length O (by
            intro i c hc
            obtain ⟨p, hp, rfl⟩ := hc0 i c hc
            obtain ⟨_, _, u, hu, _, hr⟩ := hcells i p hp
            split
            · rw [hu]; exact hr
            · exact .nili)
          have hlen0 : cs0.length = cs.length := by simp [cs0]
          have hin : ∀ (i : Nat) p, cs[i]? = some p → ofs ≤ i → i < ofs + n → ∀ u, cellAt w b i = some u → CRep w O1 (.pl r 0 i) p.2.less u ∧ ∃ x, p.2.view = some x ∧ (p.2.isCell = true → x.isCell = true) ∧ FRep (Frz w O1) x u := by
            intro i p hp h1 h2 u hu
            have hc : cs0[i]? = some p.2 := by simp [cs0, hp, h1, h2]
            have := k1 i p.2 (getElem?_lt hp) hc
            simp only [if_pos (And.intro h1 h2), hu, Option.getD_some] at this
            exact this
          have hT : ∀ q, (∃ i c, cs0[i]? = some c ∧ PV.isRow c = true ∧ q = Owner.pl r 0 i) → ∃ i p, cs[i]? = some p ∧ PV.isRow p.2 = true ∧ ofs ≤ i ∧ i < ofs + n ∧ q = .pl r 0 i := by
            rintro q ⟨i, c, hc, hr, rfl⟩
            obtain ⟨p, hp, rfl⟩ := hc0 i c hc
            split at hr
            · rename_i hi; exact ⟨i, p, hp, hr, hi.1, hi.2, rfl⟩
            · cases hr
          have hb2 : BoxRep w O1 r (cs.take ofs ++ ((cs.drop ofs).take n).map (fun p => (p.1, p.2.less)) ++ cs.drop (ofs + n)) (a.tmps.getD r undef) := by
            refine ⟨b, hb, fun i p hp => ?_⟩
            rw [set_take_drop hle] at hp
            have hbx : ∀ p0, cs[i]? = some p0 → O1 b i = some (.box r) := by
              intro p0 hp0
              obtain ⟨h1, h2, u, hu, _⟩ := hcells i p0 hp0
              obtain ⟨_, e2, _⟩ := k3 b i u hu (by
                intro q hq hT'
                rw [h1] at hq; cases hq
                obtain ⟨_, _, _, _, e⟩ := hT'; cases e)
              exact e2.trans h1
            split at hp
            · rename_i hi
              rw [Option.map_eq_some_iff] at hp
              obtain ⟨p0, hp0, rfl⟩ := hp
              obtain ⟨h1, h2, u, hu, hcl, _⟩ := hcells i p0 hp0
              exact ⟨hbx p0 hp0, h2, u, hu, less_cell hcl, (hin i p0 hp0 hi.1 hi.2 u hu).1⟩
            · rename_i hi
              obtain ⟨h1, h2, u, hu, hcl, hr⟩ := hcells i p hp
              refine ⟨hbx p hp, h2, u, hu, hcl, hr.keep k3 (fun _ hT' => ?_)⟩
              obtain ⟨i', p', _, _, h3, h4, e⟩ := hT _ hT'
              injection e with _ _ e; omega
          obtain ⟨inv1, hk, hr⟩ := boxUpd_inv inv he (by simp; omega) h _ k3 (by
            intro t ht q hq hT'
            obtain ⟨i', p', _, _, _, _, e⟩ := hT _ hT'
            subst e; exact ht hq.slot.symm) (fun b o q hq => inv.bnd b o q (k5 b o q hq)) hb2 (by
            intro b' hb' k p p' hp hp'
            rw [set_take_drop hle] at hp'
            split at hp'
            · rw [hp] at hp'; cases hp'
              refine ⟨Nat.le_refl _, fun _ hi => ⟨?_, rfl⟩⟩
              cases hpc : p.2 with
              | own f s c sp => exact ⟨f, s, c, sp, false, c, sp, rfl, by show p.2.less = _; rw [hpc]; rfl, rfl⟩
              | pv x => rw [hpc] at hi; cases hi
              | gone => rw [hpc] at hi; cases hi
            · rw [hp] at hp'; cases hp'
              exact ⟨Nat.le_refl _, fun _ hi => ⟨sameRow.refl_of hi, rfl⟩⟩)
          have hgh : Evo w O w O1 := Evo.ghost k4 (fun b o u hu ho => (k3.ext (fun hT' => by obtain ⟨_, _, _, _, _, _, e⟩ := hT _ hT'; cases e) b o u hu ho).2.1)
          obtain ⟨O', e1, e2⟩ : ∃ O', Inv env' (putT a.tmps o.dst (.agg us.toArray)) w O' ∧ Evo w O w O' :=
            ⟨O1, inv1.putD _ hk (fun _ _ => views vs O1 hvs (by
              intro j p u hp hu
              obtain ⟨u', hu', hcs, hcu, hc1, _⟩ := hpart j p hp
              rw [hu] at hu'; cases hu'
              have hjn : j < n := by have := getElem?_lt hp; rw [List.length_take] at this; omega
              obtain ⟨_, x, e1, e2, e3⟩ := hin (ofs + j) p hcs (by omega) (by omega) u hcu
              exact ⟨x, e1, e2 hc1, e3⟩)) trivial, hgh⟩
          exact ⟨_, w, O', _, hv, .inl rfl, e1, e2⟩
        · simp [Pr.run] at h
    · rename_i hnr
      split at h
      · rename_i vs hvs
        refine OpVal.pure hv (Gh.refl inv) h (fun _ _ => views vs O hvs ?_) trivial
        intro j p u hp hu
        obtain ⟨u', hu', _, _, hc1, hc2⟩ := hpart j p hp
        rw [hu] at hu'; cases hu'
        have hrow : PV.isRow p.2 = false := by
          cases hb : PV.isRow p.2 with
          | false => rfl
          | true => exact absurd (List.any_eq_true.2 ⟨p, List.mem_of_getElem? hp, hb⟩) hnr
        cases hpc : p.2 with
        | pv x => rw [hpc] at hc1 hc2; exact ⟨x, rfl, hc1, hc2⟩
        | own f s c sp => rw [hpc] at hrow; cases hrow
        | gone =>
          obtain ⟨hl, hview⟩ := mapM_some hvs
          have hj := getElem?_lt hp
          obtain ⟨p', hp', hpv⟩ := hview j (vs[j]'(by omega)) (List.getElem?_eq_getElem (by omega))
          rw [hp] at hp'; cases hp'; rw [hpc] at hpv; cases hpv
      · simp [Pr.run] at h

theorem load_ok {F : Fns} {take : Bool} {t : TypeId} {n : Option Nat} {x : Operand} {y : Opd} (ho : o.op = .load t x) (hn : aggOf P t = some n) (hx : cOpd x = some y) (inv : Inv env a.tmps w O)
    (h : (stepOp F o.dst (.load take n y)).run env = some env') : OpVal P o a w env' O := by
  have hr := cOpd_rep hx a
  have hrun : ∀ v, (Instr.loadAt t (a.eval x)).run P w = .ok v w → (execOp a.eval o).run P w = .ok (.value v) w := by
    intro v hv; simp [execOp, ho, hv]
  cases y with
  | con v => simp [stepOp, Pr.run] at h
  | tmp t' =>
    have hv : a.eval x = a.tmps.getD t' undef := hr
    have hm := inv.mem t'
    have ha := inv.ali t'
    simp only [stepOp, Pr.run] at h
    obtain ⟨sv, he⟩ : ∃ sv, (env.at t').2 = sv := ⟨_, rfl⟩
    rw [he] at h hm ha
    cases sv with
    | box cs =>
      simp only at h
      have he' : env.at t' = ((env.at t').1, .box cs) := by rw [← he]
      rw [he'] at h
      exact loadBox_ok hn he' inv (fun b hb v hvv => hrun v (by rw [hv, hb]; exact hvv)) h
    | ptr r off gs =>
      simp only [Pr.run] at h
      split at h
      · rename_i hg
        split at h
        · rename_i cs hcs
          have he' : env.at r = ((env.at r).1, .box cs) := by rw [← hcs]
          rw [he'] at h
          obtain ⟨_, b, hb, h2⟩ := ha
          obtain ⟨_, h3⟩ := h2 hg.symm
          refine loadBox_ok hn he' inv (fun b' hb' v hvv => hrun v ?_) h
          rw [h3] at hb'; cases hb'
          rw [hv, hb]; exact hvv
        · simp [Pr.run] at h
      · simp [Pr.run] at h
    | eptr r k gs gc ofs =>
      simp only at h
      obtain ⟨z, c, hl, hg, hz, h⟩ := place_run h
      cases c with
      | own f s cs sp =>
        obtain ⟨_, bl, off, hvv, h2⟩ := ha
        obtain ⟨len, cap, hh⟩ := h2 _ hl
        obtain ⟨b, off', len', cap', hh', hr'⟩ := live_own inv hl
        rw [hh, Option.some.injEq] at hh'
        cases hh'
        exact loadRow_ok hn (fun j c hj => hr'.row j c (by rw [List.getElem?_append_left (getElem?_lt hj)]; exact hj)) inv (fun v hvl => hrun v (by rw [hv, hvv]; exact hvl)) h
      | _ => simp [Pr.run] at h
    | fptr cs ofs =>
      simp only at h
      obtain ⟨b, off, hvv, hrow⟩ := hm
      exact loadRow_ok hn (hrow.mono (fun _ _ _ h => h) (fun _ _ _ h => Frz.sub _ _ _ h)) inv (fun v hvl => hrun v (by rw [hv, hvv]; exact hvl)) h
    | _ => simp [Pr.run] at h
end

section
/- The operations, sixth part: texts, parts, cuts. -/

variable {P : Program} {o : Oper} {a : Act} {w : World} {env env' : Env} {O : Owns}

/-- A list of operands. -/
theorem cOpds_rep {xs : Array Operand} {ys : List Opd} (h : cOpds xs = some ys) (a : Act) : OpdReps a.tmps ys (xs.toList.map a.eval) := by
  unfold cOpds at h
  obtain ⟨h1, h2⟩ := mapM_some h
  refine ⟨by simp [h1], fun i o v ho hv => ?_⟩
  obtain ⟨x, hx, hc⟩ := h2 i o ho
  rw [List.getElem?_map, hx] at hv
  cases hv
  exact cOpd_rep hc a

def pmm (mx : Bool) (a b : PV) : Option PV :=
  match a, b with
  | .int k m, .int _ n => some (.int k (if mx then (if n > m then n else m) else (if n < m then n else m)))
  | _, _ => none

theorem minmax_fold (mx : Bool) : ∀ (ps : List PV) (vs : List Value) (p r : PV) (v : Value), All2 (RdRep w O) ps vs → RdRep w O p v → ps.foldlM (pmm mx) p = some r → ps ≠ [] ∨ (∃ k n, p = .int k n) →
    ∃ u, (vs.foldlM (if mx then Builtin.max2 else Builtin.min2) v).run P w = .ok u w ∧ ∀ H, FRep H r u
  | [], vs, p, r, v, h2, hp, hr, hi => by
    cases vs with
    | cons _ _ => exact h2.elim
    | nil =>
      simp at hr; subst hr
      rcases hi with h | ⟨k, n, rfl⟩
      · exact absurd rfl h
      · exact ⟨v, rfl, fun H => by rw [rd_int hp]; exact .int k n⟩
  | q :: ps, vs, p, r, v, h2, hp, hr, _ => by
    cases vs with
    | nil => exact h2.elim
    | cons u vs =>
      simp only [List.foldlM_cons] at hr
      cases hq : pmm mx p q with
      | none => rw [hq] at hr; cases hr
      | some p' =>
        rw [hq] at hr
        cases p with
        | int k m =>
          cases q with
          | int k' n =>
            simp only [pmm, Option.some.injEq] at hq; subst hq
            have e1 := rd_int hp
            have e2 := rd_int h2.1
            have hstep : ((if mx = true then Builtin.max2 else Builtin.min2) v u).run P w = .ok (.int k (if mx then (if n > m then n else m) else (if n < m then n else m))) w := by
              rw [e1, e2]; cases mx <;> rfl
            obtain ⟨u', h3, h4⟩ := minmax_fold mx ps vs _ r (.int k (if mx then (if n > m then n else m) else (if n < m then n else m))) h2.2 (by exact .int k _) hr (.inr ⟨_, _, rfl⟩)
            refine ⟨u', ?_, h4⟩
            rw [List.foldlM_cons, Sem.run_bind, hstep]; exact h3
          | _ => cases hq
        | _ => cases hq

theorem minmax_ok {F : Fns} {mx : Bool} (c : Call) (hcal : c.callee = .builtin (if mx then .max else .min)) (ho : o.op = .call c) {y : Opd} {ys : List Opd} (hx : cOpds c.args = some (y :: ys)) (hne : ys ≠ []) (inv : Inv env a.tmps w O)
    (h : (stepOp F o.dst (.minmax mx y ys)).run env = some env') : OpVal P o a w env' O := by
  have hr := cOpds_rep hx a
  obtain ⟨v, vs, hvs, h1, h2⟩ := hr.cons
  simp only [stepOp] at h
  replace h := rd_run inv h1 h
  obtain ⟨p, hp, h⟩ := h
  replace h := rds_run inv ys vs _ h2 h
  obtain ⟨ps, hps, h⟩ := h
  replace h := ofO_run h
  obtain ⟨r, hr', h⟩ := h
  have hpsne : ps ≠ [] := by
    intro e; subst e
    cases vs with
    | nil => exact hne (by have := h2.1; simp at this; exact List.length_eq_zero_iff.1 this.symm)
    | cons _ _ => exact hps.elim
  obtain ⟨u, h3, h4⟩ := minmax_fold (P := P) mx ps vs p r v hps hp hr' (.inl hpsne)
  have hargs : (c.args.map a.eval).toList = v :: vs := by simpa using hvs
  refine OpVal.sc (v := u) ?_ inv h h4
  cases mx with
  | true =>
    have : (Builtin.max_ c.argTypes o.type (c.args.map a.eval)).run P w = .ok u w := by unfold Builtin.max_; rw [hargs]; exact h3
    simp only [if_true] at hcal
    simp [execOp, ho, resolve, hcal, invoke, builtin, this]
  | false =>
    have : (Builtin.min_ c.argTypes o.type (c.args.map a.eval)).run P w = .ok u w := by unfold Builtin.min_; rw [hargs]; exact h3
    simp only [Bool.false_eq_true, if_false] at hcal
    simp [execOp, ho, resolve, hcal, invoke, builtin, this]

theorem textOf_cells : ∀ (cs : List PV) (l : List UInt8), textOf cs = some l → ∃ ns : List Int, cs = ns.map (PV.int .u8) ∧ l = ns.map fun n => UInt8.ofNat n.toNat
  | [], l, h => by simp only [textOf, Option.some.injEq] at h; subst h; exact ⟨[], rfl, rfl⟩
  | c :: cs, l, h => by
    cases c with
    | int k n =>
      cases k with
      | u8 =>
        simp only [textOf, Option.map_eq_some_iff] at h
        obtain ⟨l', hl', rfl⟩ := h
        obtain ⟨ns, h1, h2⟩ := textOf_cells cs l' hl'
        exact ⟨n :: ns, by rw [h1]; rfl, by rw [h2]; rfl⟩
      | _ => simp [textOf] at h
    | _ => simp [textOf] at h

theorem push_all (ns : List Int) : ∀ (s : ByteArray), ns.foldl (fun r n => r.push (UInt8.ofNat n.toNat)) s = ⟨s.data ++ (ns.map fun n => UInt8.ofNat n.toNat).toArray⟩ := by
  induction ns with
  | nil => intro s; simp
  | cons n ns ih =>
    intro s
    simp only [List.foldl_cons, ih, List.map_cons]
    congr 1
    show (s.data.push _) ++ _ = _
    apply Array.ext'
    simp

theorem cvText_ok {F : Fns} {src dst e : TypeId} {x : Operand} {y : Opd} (hs : P.underlying src = some (.slice e)) (hd : P.underlying dst = some .string) (he : P.underlying e = some (.int .u8)) (ho : o.op = .convert src dst x) (hx : cOpd x = some y) (inv : Inv env a.tmps w O)
    (h : (stepOp F o.dst (.cvText y)).run env = some env') : OpVal P o a w env' O := by
  simp only [stepOp] at h
  replace h := rd_run inv (cOpd_rep hx a) h
  obtain ⟨v, hv, h⟩ := h
  split at h
  · have e1 := rd_nils hv
    refine OpVal.sc (v := .string ByteArray.empty) ?_ inv h (fun H => .str _)
    simp [execOp, ho, e1, convert, run_underlying hs, run_underlying hd, run_underlying he, Conv.bytesToString]
  · rename_i s cs
    obtain ⟨b, off, sp, len, cap, e1, hsp, h0, hl, h2, h3⟩ := hv
    split at h
    · rename_i hs1
      subst hs1
      split at h
      · rename_i l hl'
        obtain ⟨ns, rfl, rfl⟩ := textOf_cells cs l hl'
        have hload : (loadCells ⟨b, off, sp⟩ len).run P w = .ok (ns.map (Value.int .u8)).toArray w := by
          have := run_loadCells_list (P := P) w ⟨b, off, sp⟩ (ns.map (Value.int .u8)) (fun j v hv => by
            have hjl := getElem?_lt hv
            rw [List.length_map] at hjl hl
            obtain rfl : sp = none := by
              rcases hsp with h | h
              · exact h
              · omega
            rw [Addr.add_mid]
            rw [List.getElem?_map, Option.map_eq_some_iff] at hv
            obtain ⟨n, hn, rfl⟩ := hv
            obtain ⟨_, u, hu, hf⟩ := h3 j (.int .u8 n) (by rw [List.getElem?_map, hn]; rfl)
            cases hf; exact hu)
          rw [List.length_map] at this hl
          rw [show len = ns.length by omega]; exact this
        have hb := run_bytesToString (P := P) w ⟨b, off, sp⟩ len cap ns hload
        refine OpVal.sc (v := .string ⟨(ns.map fun n => UInt8.ofNat n.toNat).toArray⟩) ?_ inv h (fun H => .str _)
        have hp := push_all ns ByteArray.empty
        rw [hp] at hb
        have hz : (⟨ByteArray.empty.data ++ (ns.map fun n => UInt8.ofNat n.toNat).toArray⟩ : ByteArray) = ⟨(ns.map fun n => UInt8.ofNat n.toNat).toArray⟩ := by
          congr 1; apply Array.ext'; simp
        rw [hz] at hb
        simp only [execOp, ho, e1, convert, Sem.run_bind, run_underlying hs, run_underlying hd, run_underlying he, Result.andThen_ok, hb]; rfl
      · simp [Pr.run] at h
    · simp [Pr.run] at h
  · simp [Pr.run] at h

/-- A part of a struct or an array by value. -/
theorem part_ok {n : Option Nat} {t : TypeId} {cs : List PV} {vs : Array Value} {ofs : Nat} {env1 : Env} {O1 : Owns} (hn : aggOf P t = some n) (g : Gh a.tmps w env O env1 O1) (hv : FRep (Frz w O1) (.agg cs) (.agg vs))
    (hrun : ∀ v, (part t vs ofs).run P w = .ok v w → (execOp a.eval o).run P w = .ok (.value v) w)
    (h : (stepOp.loadRow o.dst n cs ofs).run env1 = some env') : OpVal P o a w env' O := by
  obtain ⟨vs', e, hsz, hc⟩ := frep_agg.1 hv
  cases e
  cases n with
  | none =>
    simp only [stepOp.loadRow] at h
    split at h
    · rename_i c hcc
      obtain ⟨h1, u, hu, hf⟩ := hc ofs c hcc
      refine OpVal.pure (hrun u ?_) g h (fun _ _ => hf) trivial
      simp [part, (aggOf_none (w := w) hn).1, hu]
    · simp [Pr.run] at h
  | some n =>
    obtain ⟨d, i, hd, hr, hi, hs⟩ := aggOf_some hn
    simp only [stepOp.loadRow] at h
    split at h
    · rename_i hle
      have hag : (isAgg t).run P w = .ok true w := by
        unfold isAgg
        rw [Sem.run_bind, run_underlying hd]
        cases d <;> simp_all
      refine OpVal.pure (hrun (.agg (vs.extract ofs (ofs + n))) ?_) g h (fun _ _ => frep_agg.2 ⟨_, rfl, ?_, fun j c hj => ?_⟩) trivial
      · simp [part, hag, sizeOf, typeInfo, hi, hs]
      · simp [Array.size_extract]; omega
      · have hjl := getElem?_lt hj
        rw [List.length_take, List.length_drop] at hjl
        rw [List.getElem?_take, if_pos (by omega), List.getElem?_drop] at hj
        obtain ⟨h1, u, hu, hf⟩ := hc _ c hj
        refine ⟨h1, u, ?_, hf⟩
        rw [Array.getElem?_extract, if_pos (by omega)]; exact hu
    · simp [Pr.run] at h

theorem field_ok {F : Fns} {t : TypeId} {x : Operand} {y : Opd} {fi : Nat} {fs : Array Field} {f : Field} {n : Option Nat} (ho : o.op = .field t x fi) (ht : P.underlying t = some (.struct fs)) (hf : fs[fi]? = some f) (hn : aggOf P f.type = some n)
    (hx : cOpd x = some y) (inv : Inv env a.tmps w O) (h : (stepOp F o.dst (.field f.offset n y)).run env = some env') : OpVal P o a w env' O := by
  simp only [stepOp] at h
  replace h := emb_run inv (cOpd_rep hx a) h
  obtain ⟨v, env1, O1, g, hv, h⟩ := h
  split at h
  · rename_i cs
    obtain ⟨vs, e, _⟩ := frep_agg.1 hv
    refine part_ok hn g (by rw [← e]; exact hv) (fun v hv => ?_) h
    simp [execOp, ho, e, Instr.field, run_underlying ht, hf, asAgg, hv]
  · simp [Pr.run] at h

theorem indexA_ok {F : Fns} {t e : TypeId} {x i : Operand} {y j : Opd} {m s : Nat} {n : Option Nat} (ho : o.op = .index t x i) (ht : P.underlying t = some (.array m e)) (hs : sizeT P e = some s) (hn : aggOf P e = some n)
    (hx : cOpd x = some y) (hi : cOpd i = some j) (inv : Inv env a.tmps w O) (h : (stepOp F o.dst (.indexA m s n y j)).run env = some env') : OpVal P o a w env' O := by
  obtain ⟨ti, hti, his, _⟩ := sizeT_some hs
  simp only [stepOp] at h
  replace h := emb_run inv (cOpd_rep hx a) h
  obtain ⟨v, env1, O1, g, hv, h⟩ := h
  replace h := int_run hi g.inv h
  obtain ⟨k, q, hq, h⟩ := h
  split at h
  · rename_i cs
    obtain ⟨vs, e1, _⟩ := frep_agg.1 hv
    split at h
    · rename_i h0
      split at h
      · rename_i h1
        refine part_ok hn g (by rw [← e1]; exact hv) (fun v hv => ?_) h
        simp [execOp, ho, e1, hq, Instr.index, run_underlying ht, asIntOf, h0, h1, sizeOf_run hti, his, hv]
      · simp [Pr.run] at h
    · simp [Pr.run] at h
  · simp [Pr.run] at h

/-- An index of a cut. -/
def OptRep (a : Act) (x : Option Operand) (l : Option Int) : Prop :=
  match x, l with
  | none, none => True
  | some x, some n => ∃ k, a.eval x = .int k n
  | _, _ => False

theorem optRd_run {lo : Option Operand} {lo' : Option Opd} (hlo : cOptOpd lo = some lo') (inv : Inv env a.tmps w O) {κ : Option Int → Pr} (h : (optRd lo' κ).run env = some env') : ∃ l, OptRep a lo l ∧ (κ l).run env = some env' := by
  cases lo with
  | none => simp only [cOptOpd, Option.some.injEq] at hlo; subst hlo; exact ⟨none, trivial, h⟩
  | some x =>
    simp only [cOptOpd, Option.map_eq_some_iff] at hlo
    obtain ⟨y, hy, rfl⟩ := hlo
    obtain ⟨k, n, hn, h⟩ := int_run hy inv h
    exact ⟨some n, ⟨k, hn⟩, h⟩

theorem bounds_run {lo hi : Option Operand} {l h : Option Int} (hl : OptRep a lo l) (hh : OptRep a hi h) (sl : Bool) (len cap : Nat) (h0 : 0 ≤ l.getD 0) (h1 : l.getD 0 ≤ h.getD len) (h2 : h.getD len ≤ cap) :
    (Instr.sliceBounds sl len cap (lo.map a.eval) (hi.map a.eval) none).run P w = .ok ((l.getD 0).toNat, (h.getD len).toNat, cap) w := by
  have b1 : ∀ (k : IntKind) (i : Int) (y : Nat) code, 0 ≤ i → i ≤ y → (Instr.sliceBound (.int k i) y code).run P w = .ok i.toNat w := by
    intro k i y code h0 h1
    simp [Instr.sliceBound, asIntOf, h0, h1]
  unfold Instr.sliceBounds
  cases lo with
  | none =>
    cases l with
    | some _ => exact hl.elim
    | none =>
      cases hi with
      | none => cases h with
        | some _ => exact hh.elim
        | none => simp
      | some y => cases h with
        | none => exact hh.elim
        | some n =>
          obtain ⟨k, hk⟩ := hh
          simp only [Option.getD_none, Option.getD_some] at h1 h2
          simp [hk, b1 k n cap _ h1 h2]
  | some x =>
    cases l with
    | none => exact hl.elim
    | some m =>
      obtain ⟨k, hk⟩ := hl
      simp only [Option.getD_some] at h0 h1
      cases hi with
      | none => cases h with
        | some _ => exact hh.elim
        | none =>
          simp only [Option.getD_none] at h1 h2
          simp [hk, b1 k m len _ h0 h1]
      | some y => cases h with
        | none => exact hh.elim
        | some n =>
          obtain ⟨k', hk'⟩ := hh
          simp only [Option.getD_some] at h1 h2
          have hn : (n.toNat : Int) = n := Int.toNat_of_nonneg (by omega)
          simp [hk, hk', b1 k' n cap _ (by omega) h2, b1 k m n.toNat _ h0 (by omega)]

theorem sliceS_ok {F : Fns} {t : TypeId} {x : Operand} {y : Opd} {lo hi : Option Operand} {lo' hi' : Option Opd} (ho : o.op = .slice t x lo hi none) (ht : P.underlying t = some .string) (hx : cOpd x = some y) (hlo : cOptOpd lo = some lo') (hhi : cOptOpd hi = some hi')
    (inv : Inv env a.tmps w O) (h : (stepOp F o.dst (.sliceS y lo' hi')).run env = some env') : OpVal P o a w env' O := by
  simp only [stepOp] at h
  replace h := optRd_run hlo inv h
  obtain ⟨l, hl, h⟩ := h
  replace h := optRd_run hhi inv h
  obtain ⟨hh, hhr, h⟩ := h
  replace h := rd_run inv (cOpd_rep hx a) h
  obtain ⟨v, hv, h⟩ := h
  split at h
  · rename_i s
    have e1 := rd_str hv
    split at h
    · rename_i h0
      split at h
      · rename_i h1
        split at h
        · rename_i h2
          refine OpVal.sc (v := .string (s.extract (l.getD 0).toNat (hh.getD s.size).toNat)) ?_ inv h (fun H => .str _)
          have hb := bounds_run (P := P) (w := w) hl hhr false s.size s.size h0 h1 h2
          simp [execOp, ho, e1, Instr.sliceAt, Instr.slice, run_underlying ht, hb]
        · simp [Pr.run] at h
      · simp [Pr.run] at h
    · simp [Pr.run] at h
  · simp [Pr.run] at h

theorem slice_run {t e : TypeId} {x : Operand} {lo hi : Option Operand} {l hh : Option Int} {s : Nat} (ho : o.op = .slice t x lo hi none) (ht : P.underlying t = some (.slice e)) (hs : sizeT P e = some s) (hl : OptRep a lo l) (hhr : OptRep a hi hh)
    {ad : Option Addr} {len cap : Nat} (e1 : a.eval x = .slice ad len cap) (h0 : 0 ≤ l.getD 0) (h1 : l.getD 0 ≤ hh.getD len) (h2 : hh.getD len ≤ cap) :
    (execOp a.eval o).run P w = .ok (.value (.slice (if cap = (l.getD 0).toNat then ad else ad.map (·.add ((l.getD 0).toNat * s))) ((hh.getD len).toNat - (l.getD 0).toNat) (cap - (l.getD 0).toNat))) w := by
  obtain ⟨i, hi', his, _⟩ := sizeT_some hs
  have hb := bounds_run (P := P) (w := w) hl hhr true len cap h0 h1 h2
  simp [execOp, ho, e1, Instr.sliceAt, Instr.slice, run_underlying ht, hb, sizeOf_run hi', his]

theorem slice_ok {F : Fns} {t e : TypeId} {x : Operand} {y : Opd} {lo hi : Option Operand} {lo' hi' : Option Opd} {s : Nat} (ho : o.op = .slice t x lo hi none) (ht : P.underlying t = some (.slice e)) (hs : sizeT P e = some s) (hx : cOpd x = some y) (hlo : cOptOpd lo = some lo') (hhi : cOptOpd hi = some hi')
    (inv : Inv env a.tmps w O) (h : (stepOp F o.dst (.slice s y lo' hi')).run env = some env') : OpVal P o a w env' O := by
  simp only [stepOp] at h
  replace h := optRd_run hlo inv h
  obtain ⟨l, hl, h⟩ := h
  replace h := optRd_run hhi inv h
  obtain ⟨hh, hhr, h⟩ := h
  have hr := cOpd_rep hx a
  have cut : ∀ (n max : Nat) (κ : Nat → Nat → Pr) {env1 : Env}, (if 0 ≤ l.getD 0 then (if l.getD 0 ≤ hh.getD n then (if hh.getD n ≤ max then κ (l.getD 0).toNat (hh.getD n).toNat else .fail) else .fail) else .fail : Pr).run env1 = some env' →
      0 ≤ l.getD 0 ∧ l.getD 0 ≤ hh.getD n ∧ hh.getD n ≤ max ∧ (κ (l.getD 0).toNat (hh.getD n).toNat).run env1 = some env' := by
    intro n max κ env1 h
    split at h
    · split at h
      · split at h
        · exact ⟨by assumption, by assumption, by assumption, h⟩
        · simp [Pr.run] at h
      · simp [Pr.run] at h
    · simp [Pr.run] at h
  -- a value that nobody writes
  have keep : ∀ (v : PV), FRep (Frz w O) v (a.eval x) → (match v with
        | .nils => (if 0 ≤ l.getD 0 then (if l.getD 0 ≤ hh.getD (0 : Nat) then (if hh.getD (0 : Nat) ≤ (0 : Nat) then Pr.put o.dst (.cv (.pv .nils)) else .fail) else .fail) else .fail : Pr)
        | .sl s' cs => if s' = s then (if 0 ≤ l.getD 0 then (if l.getD 0 ≤ hh.getD (cs.length / s : Nat) then (if hh.getD (cs.length / s : Nat) ≤ (cs.length / s : Nat) then Pr.put o.dst (.cv (.pv (.sl s ((cs.take ((hh.getD (cs.length / s : Nat)).toNat * s)).drop ((l.getD 0).toNat * s))))) else .fail) else .fail) else .fail) else .fail
        | _ => .fail : Pr).run env = some env' → OpVal P o a w env' O := by
    intro v hv h
    cases v with
    | nils =>
      simp only at h
      obtain ⟨h0, h1, h2, h⟩ := cut 0 0 (fun _ _ => Pr.put o.dst (.cv (.pv .nils))) h
      have e1 := rd_nils (FRep.rd hv)
      have := slice_run (P := P) (w := w) ho ht hs hl hhr e1 h0 h1 h2
      refine OpVal.sc this inv h (fun H => ?_)
      have e0 : l.getD 0 = 0 := by omega
      have e2 : hh.getD (0 : Nat) = 0 := by omega
      rw [e0, e2]; simp; exact .nils
    | sl s' cs =>
      simp only at h
      split at h
      · rename_i hss
        subst hss
        obtain ⟨h0, h1, h2, h⟩ := cut (cs.length / s') (cs.length / s') (fun i j => Pr.put o.dst (.cv (.pv (.sl s' ((cs.take (j * s')).drop (i * s')))))) h
        obtain ⟨b, off, spt, len, cap, e1, hsp, hp, hlen, hle, hrow⟩ := frep_sl.1 hv
        rw [hlen, Nat.mul_div_cancel _ hp] at h1 h2 h
        have hrun := slice_run (P := P) (w := w) ho ht hs hl hhr e1 h0 h1 (by omega)
        refine OpVal.pure hrun (Gh.refl inv) h (fun _ _ => ?_) trivial
        generalize hi' : (l.getD 0).toNat = i at *
        generalize hj' : (hh.getD len).toNat = j at *
        have hij : i ≤ j := by omega
        have hjl : j ≤ len := by omega
        have hb : j * s' ≤ cs.length := by rw [hlen]; exact Nat.mul_le_mul_right _ hjl
        obtain ⟨v1, v2, v3⟩ := view_row (off' := if cap = i then off else off + i * s') hp hlen hle (Nat.mul_le_mul_right s' hij) hb ⟨i, rfl⟩ ⟨j, rfl⟩ (by
          split
          · rename_i e; right; have : i = j := by omega
            rw [this]
          · exact .inl rfl) hrow
        rw [← Nat.sub_mul, Nat.mul_div_cancel _ hp] at v1 v2
        rw [Nat.mul_div_cancel _ hp] at v2
        refine frep_sl.2 ⟨b, if cap = i then off else off + i * s', spt, j - i, cap - i, ?_, hsp.imp id (fun h => by omega), hp, v1, v2, v3⟩
        split
        · rfl
        · rcases hsp with rfl | h
          · simp [Addr.add_mid]
          · omega
      · simp [Pr.run] at h
    | _ => simp [Pr.run] at h
  cases y with
  | con p => exact keep p (hr _) h
  | tmp t' =>
    have hv : a.eval x = a.tmps.getD t' undef := hr
    have hmm := inv.mem t'
    have ha := inv.ali t'
    simp only [Pr.run] at h
    -- a cut of what a place owns
    have part : ∀ (r k gs gc i0 j0 : Nat) (C : Prop) [Decidable C], (C → i0 = 0) → RefOK (env.at r) k gs gc → (∀ f s' cs sp, live (env.at r) k gs gc = some (.own f s' cs sp) → i0 ≤ j0 ∧ j0 ≤ cs.length ∧ (∃ q, i0 = q * s') ∧ (∃ q, j0 = q * s') ∧
          ∃ bl off len cap, hdrAt w (env.at r).2 (a.tmps.getD r undef) k = some (.slice (some ⟨bl, off, none⟩) len cap) ∧
            ∃ off', a.eval x = .slice (some ⟨bl, off', none⟩) ((j0 - i0) / s') (cap - i0 / s') ∧ (off' = off + i0 ∨ (i0 = j0 ∧ i0 ≠ 0))) →
        (Pr.place r k gs gc fun z c => match c with
        | .own f s' cs sp => if s' = s then
            (if ((j0 - i0) / s : Nat) < hh.getD 0 ∧ l = none ∧ C ∧ j0 = cs.length ∧ f = true then
              (if hh.getD 0 ≤ ((cs.length + sp.length) / s : Nat) then
                Pr.chPl r k gc z true .gone (Pr.put o.dst (.cv (.own f s (cs ++ sp.take ((hh.getD 0).toNat * s - cs.length)) (sp.drop ((hh.getD 0).toNat * s - cs.length)))))
              else .fail)
            else (if 0 ≤ l.getD 0 then (if l.getD 0 ≤ hh.getD ((j0 - i0) / s : Nat) then (if hh.getD ((j0 - i0) / s : Nat) ≤ ((j0 - i0) / s : Nat) then Pr.put o.dst (.view r k gs gc (i0 + (l.getD 0).toNat * s) (i0 + (hh.getD ((j0 - i0) / s : Nat)).toNat * s)) else .fail) else .fail) else .fail)) else .fail
        | _ => .fail).run env = some env' → OpVal P o a w env' O := by
      intro r k gs gc i0 j0 C _ hC hok hw h
      replace h := place_run h
      obtain ⟨z, c, hlv, hg, hz, h⟩ := h
      cases c with
      | own f s' cs sp =>
        simp only at h
        split at h
        · rename_i hss
          subst hss
          obtain ⟨hij, hjl, ⟨q1, hq1⟩, ⟨q2, hq2⟩, bl, off, len, cap, hh', off', e1, hoff⟩ := hw _ _ _ _ hlv
          obtain ⟨b2, off2, len2, cap2, hh2, hr2⟩ := live_own inv hlv
          rw [hh', Option.some.injEq] at hh2
          cases hh2
          have hp := hr2.pos
          split at h
          · rename_i hc
            obtain ⟨hc1, hc2, hc3, hc4, hc6⟩ := hc
            replace hc3 := hC hc3
            subst hc3; subst hc2; subst hc6
            split at h
            · rename_i hc5
              -- up into what lies behind
              have hoff0 : off' = off := by
                rcases hoff with h | ⟨_, h⟩
                · simpa using h
                · exact absurd rfl h
              subst hoff0
              obtain ⟨env1, v, hk, g, hv', hL, _⟩ := takePlace inv hlv hz h
              cases hh with
              | none => exact absurd hc1 (Int.not_lt.2 (Int.natCast_nonneg _))
              | some n =>
                simp only [Option.getD_some] at hc1 hc5 hk
                have hlen0 : (j0 - 0) / s' = len := by rw [Nat.sub_zero, hc4, hr2.len_eq, Nat.mul_div_cancel _ hp]
                rw [hlen0] at e1 hc1
                simp only [Nat.zero_div, Nat.sub_zero] at e1
                have hcap : (cs.length + sp.length) / s' ≤ cap := by
                  have := hr2.room
                  calc (cs.length + sp.length) / s' ≤ cap * s' / s' := Nat.div_le_div_right this
                    _ = cap := Nat.mul_div_cancel _ hp
                have hn2 : n ≤ cap := by omega
                have hrun := slice_run (P := P) (w := w) ho ht hs hl hhr e1 (by simp) (by simp; omega) (by simpa using hn2)
                simp only [Option.getD_none, Option.getD_some, Int.toNat_zero, Nat.zero_mul, Nat.sub_zero] at hrun
                have hval : (Value.slice (if cap = 0 then some (⟨bl, off', none⟩ : Addr) else Option.map (fun x : Addr => x.add 0) (some (⟨bl, off', none⟩ : Addr))) n.toNat cap) = .slice (some ⟨bl, off', none⟩) n.toNat cap := by
                  split
                  · rfl
                  · simp [Addr.add]
                rw [hval] at hrun
                have hnl : n.toNat * s' ≤ cs.length + sp.length := by
                  have : n.toNat ≤ (cs.length + sp.length) / s' := by omega
                  calc n.toNat * s' ≤ (cs.length + sp.length) / s' * s' := Nat.mul_le_mul_right _ this
                    _ ≤ _ := Nat.div_mul_le_self _ _
                have hcn : cs.length ≤ n.toNat * s' := by
                  rw [hr2.len_eq]; exact Nat.mul_le_mul_right _ (by omega)
                have hL2 : LRow env1 w O [(.own true s' (cs ++ sp.take (n.toNat * s' - cs.length)) (sp.drop (n.toNat * s' - cs.length)), .slice (some ⟨bl, off', none⟩) n.toNat cap, plOwner (env.at r).2 r k)] := by
                  refine ⟨fun y hy => ?_, by simp [ro, PV.isRow], fun x hx _ => by rw [List.mem_singleton] at hx; subst hx; exact plOwner_ne⟩
                  rw [List.mem_singleton] at hy; subst hy
                  refine ⟨rfl, ⟨bl, off', _, cap, rfl, hp, ?_, by omega, ?_, hr2.cell, ?_, ?_, ?_⟩, (hL.cell _ (List.mem_singleton.2 rfl)).2.2⟩
                  · rw [List.length_append, List.length_take]; omega
                  · have := hr2.room
                    rw [List.length_append, List.length_take, List.length_drop]; omega
                  · intro j hj hjj
                    refine hr2.mine j hj (hjj.imp id fun h => ?_)
                    rw [List.length_append] at h; omega
                  · intro hf; cases hf
                  · rw [List.append_assoc, List.take_append_drop]; exact hr2.row
                obtain ⟨O', h1, h2⟩ := putOne g.inv hL2 o.dst hk
                exact ⟨_, w, O', _, hrun, .inl rfl, h1, h2⟩
            · simp [Pr.run] at h
          · obtain ⟨h0, h1, h2, h⟩ := cut ((j0 - i0) / s') ((j0 - i0) / s') (fun i j => Pr.put o.dst (.view r k gs gc (i0 + i * s') (i0 + j * s'))) h
            subst hq1 hq2
            have eij : (q2 * s' - q1 * s') / s' = q2 - q1 := by rw [← Nat.sub_mul, Nat.mul_div_cancel _ hp]
            rw [eij] at h1 h2 h e1
            rw [Nat.mul_div_cancel _ hp] at e1
            have hqq : q1 ≤ q2 := Nat.le_of_mul_le_mul_right hij hp
            have hql : q2 ≤ len := Nat.le_of_mul_le_mul_right (hr2.len_eq ▸ hjl) hp
            have hle := hr2.le
            have hrun := slice_run (P := P) (w := w) ho ht hs hl hhr e1 h0 h1 (by omega)
            generalize hi' : (l.getD 0).toNat = i at *
            generalize hj' : (hh.getD ((q2 - q1 : Nat) : Int)).toNat = j at *
            have hij' : i ≤ j := by omega
            have hjq : j ≤ q2 - q1 := by omega
            refine OpVal.pure hrun (Gh.refl inv) h (fun _ _ => trivial) ⟨hok, fun f2 s2 cs2 sp2 hl2 => ?_⟩
            rw [hlv] at hl2
            cases hl2
            refine ⟨?_, ?_, ⟨q1 + i, by rw [Nat.add_mul]⟩, ⟨q1 + j, by rw [Nat.add_mul]⟩, bl, off, len, cap, hh', ?_⟩
            · exact Nat.add_le_add_left (Nat.mul_le_mul_right _ hij') _
            · rw [hr2.len_eq, ← Nat.add_mul]; exact Nat.mul_le_mul_right _ (by omega)
            · rw [show q1 * s' + j * s' - (q1 * s' + i * s') = (j - i) * s' by rw [Nat.sub_mul]; omega, Nat.mul_div_cancel _ hp, ← Nat.add_mul, Nat.mul_div_cancel _ hp]
              refine ⟨if cap - q1 = i then off' else off' + i * s', ?_, ?_⟩
              · rw [show cap - (q1 + i) = cap - q1 - i by omega]
                split
                · rfl
                · simp [Addr.add_mid]
              · split
                · rename_i hci
                  rcases hoff with h | ⟨h, h'⟩
                  · by_cases hi0 : i = 0
                    · left; rw [h, hi0]; simp
                    · right
                      have hij3 : i = j := by omega
                      have hp3 : 0 < j * s' := Nat.mul_pos (by omega) hp
                      rw [hij3]
                      refine ⟨Nat.add_mul _ _ _, ?_⟩
                      rw [Nat.add_mul]; omega
                  · right
                    have h3 : q1 = q2 := Nat.eq_of_mul_eq_mul_right hp h
                    have : i = j := by omega
                    rw [this]
                    refine ⟨Nat.add_mul _ _ _, ?_⟩
                    rw [Nat.add_mul]; omega
                · rcases hoff with h | ⟨h, h'⟩
                  · left; rw [h, Nat.add_mul]; omega
                  · right
                    have h3 : q1 = q2 := Nat.eq_of_mul_eq_mul_right hp h
                    have : i = j := by omega
                    rw [this]
                    refine ⟨Nat.add_mul _ _ _, ?_⟩
                    rw [Nat.add_mul]; omega
        · simp [Pr.run] at h
      | _ => simp [Pr.run] at h
    obtain ⟨sv, he⟩ : ∃ sv, (env.at t').2 = sv := ⟨_, rfl⟩
    rw [he] at h hmm ha
    cases sv with
    | cv c =>
      cases c with
      | pv p => exact keep p (by rw [hv]; exact hmm) h
      | own f s' cs sp =>
        simp only at h
        refine part t' 0 _ 0 0 cs.length True (fun _ => rfl) ⟨Nat.le_refl _, fun _ => by rw [he]; rfl⟩ (fun f2 s2 cs2 sp2 hl2 => ?_) h
        unfold live at hl2
        rw [if_pos rfl, he] at hl2
        simp only [if_true, Option.some.injEq] at hl2
        cases hl2
        obtain ⟨b, off, len, cap, e1, hr2⟩ := hmm
        refine ⟨Nat.zero_le _, Nat.le_refl _, ⟨0, by simp⟩, ⟨len, hr2.len_eq⟩, b, off, len, cap, by rw [he]; exact congrArg some e1, off, ?_, .inl rfl⟩
        rw [hv, e1, Nat.sub_zero, hr2.len_eq, Nat.mul_div_cancel _ hr2.pos]; simp
      | gone => simp [Pr.run] at h
    | ref r k gs gc =>
      simp only at h
      replace h := place_run h
      obtain ⟨z, c, hlv, hg, hz, h⟩ := h
      cases c with
      | own f s' cs sp =>
        simp only at h
        refine part r k gs gc 0 cs.length True (fun _ => rfl) ha.1 (fun f2 s2 cs2 sp2 hl2 => ?_) h
        rw [hlv] at hl2
        cases hl2
        obtain ⟨b, off, len, cap, hh', hr2⟩ := live_own inv hlv
        have e1 := ha.2 _ hlv
        rw [hh', Option.some.injEq] at e1
        refine ⟨Nat.zero_le _, Nat.le_refl _, ⟨0, by simp⟩, ⟨len, hr2.len_eq⟩, b, off, len, cap, hh', off, ?_, .inl rfl⟩
        rw [hv, ← e1, Nat.sub_zero, hr2.len_eq, Nat.mul_div_cancel _ hr2.pos]; simp
      | _ => simp [Pr.run] at h
    | view r k gs gc i0 j0 =>
      simp only at h
      refine part r k gs gc i0 j0 (i0 = 0) id ha.1 (fun f2 s2 cs2 sp2 hl2 => ?_) h
      rw [hv]
      exact ha.2 f2 s2 cs2 sp2 hl2
    | _ => simp [Pr.run] at h
end

section
/- The operations that make memory: variables, structs, rows. -/

variable {P : Program} {o : Oper} {a : Act} {w : World} {env env' : Env} {O : Owns}

theorem new_cell (w : World) (C : Array Value) (e : TypeId) (fr : Nat × Nat) (hfr : fr = (0, 0) ∨ C.size ≤ fr.1) {j : Nat} {v : Value} (hj : C[j]? = some v) :
    cellAt (w.alloc (.cells C e fr)) w.heap.size j = some v ∧ frozenAt (w.alloc (.cells C e fr)) w.heap.size j = false := by
  have h := heap_alloc_new w (.cells C e fr)
  have hlt := (Array.getElem?_eq_some_iff.1 hj).1
  unfold cellAt frozenAt World.cell?
  simp only [h]
  refine ⟨by simpa using hj, ?_⟩
  obtain ⟨lo, hi⟩ := fr
  rcases hfr with h | h
  · cases h; simp
  · simp only at h ⊢
    simp [h]

/-- A new row of cells, owned whole. -/
theorem newRow_ok {tmps : Array Value} (inv : Inv env tmps w O) {w1 : World} (hw : Later w w1) (hsz : w1.heap.size = w.heap.size) (C : Array Value) (e : TypeId) (fr : Nat × Nat) (hfr : fr = (0, 0) ∨ C.size ≤ fr.1)
    {s len cap : Nat} {cs sp : List PV} (h0 : 0 < s) (hlen : cs.length = len * s) (hle : len ≤ cap) (hroom : cs.length + sp.length ≤ cap * s) (hC : cap * s ≤ C.size)
    (hrow : ∀ (j : Nat) c, (cs ++ sp)[j]? = some c → c.isCell = true ∧ ∃ u, C[j]? = some u ∧ FRep (Frz w O) c u) {d : Option Nat} (h : (Pr.put d (.cv (.own true s cs sp))).run env = some env') :
    ∃ O', Inv env' (putT tmps d (.slice (some ⟨w.heap.size, 0, none⟩) len cap)) (w1.alloc (.cells C e fr)) O' ∧ Evo w O (w1.alloc (.cells C e fr)) O' := by
  have hnc := fun j v hj => new_cell w1 C e fr hfr (j := j) (v := v) hj
  rw [hsz] at hnc
  obtain ⟨O', h1, h2, _⟩ := inv.putW (LRow.nil _ _ _) (hw.trans (Later.alloc w1 (.cells C e fr))) (fun b _ => if b = w.heap.size then some (.pl (d.getD 0) 0 0) else none) d (fun d _ => .pl d 0 0) (.cv (.own true s cs sp))
    (.slice (some ⟨w.heap.size, 0, none⟩) len cap) (by
      intro b o' p hp
      split at hp
      · rename_i hb; subst hb; rw [← hsz]; show _ < (w1.heap.push _).size; simp
      · cases hp) (fun _ _ => rfl) h (by
      intro d' hd O' hn hfz _ _
      subst hd
      refine ⟨w.heap.size, 0, len, cap, rfl, h0, hlen, hle, hroom, ?_, ?_, (fun hf => by cases hf), ?_⟩
      · intro j hj
        have hjC : j < C.size := by omega
        rw [Nat.zero_add]
        obtain ⟨e1, e2⟩ := hnc j _ (Array.getElem?_eq_getElem hjC)
        exact ⟨⟨_, e1⟩, e2⟩
      · intro j hj _
        rw [hn _ _ (Nat.le_refl _), if_pos rfl]; rfl
      · intro j c hj
        obtain ⟨e1, u, hu, hf⟩ := hrow j c hj
        rw [Nat.zero_add]
        exact ⟨e1, u, (hnc j u hu).1, hf.mono hfz⟩) trivial
  exact ⟨O', h1, h2⟩

/-- A new variable. -/
theorem newBox_ok {tmps : Array Value} (inv : Inv env tmps w O) {L : List Cell3} (hL : LRow env w O L) (C : Array Value) (e : TypeId) (hC : L = [] ∨ C.toList = L.map (·.2.1)) {d : Option Nat} (h : (Pr.put d (.box ((L.map (·.1)).map fun c => (0, c)))).run env = some env') :
    ∃ O', Inv env' (putT tmps d (.pointer (some ⟨w.heap.size, 0, none⟩))) (w.alloc (.cells C e)) O' ∧ Evo w O (w.alloc (.cells C e)) O' := by
  have hnc := fun j v hj => new_cell w C e (0, 0) (.inl rfl) (j := j) (v := v) hj
  obtain ⟨O', h1, h2, _⟩ := inv.putW hL (Later.alloc w (.cells C e)) (fun b _ => if b = w.heap.size then some (.box (d.getD 0)) else none) d (fun d i => .pl d 0 i) (.box ((L.map (·.1)).map fun c => (0, c)))
    (.pointer (some ⟨w.heap.size, 0, none⟩)) (by
      intro b o' p hp
      split at hp
      · rename_i hb; subst hb; show _ < (w.heap.push _).size; simp
      · cases hp) (fun _ _ => rfl) h (by
      intro d' hd O' hn hfz _ hc
      subst hd
      refine ⟨w.heap.size, rfl, fun i p hp => ?_⟩
      rw [List.map_map, List.getElem?_map, Option.map_eq_some_iff] at hp
      obtain ⟨y, hy, rfl⟩ := hp
      obtain ⟨e1, e2⟩ := hc i y hy
      have hCi : C[i]? = some y.2.1 := by
        rcases hC with h | h
        · subst h; simp at hy
        · rw [← Array.getElem?_toList, h, List.getElem?_map, hy]; rfl
      obtain ⟨e3, e4⟩ := hnc i _ hCi
      exact ⟨by rw [hn _ _ (Nat.le_refl _), if_pos rfl]; rfl, e4, y.2.1, e3, e1, e2⟩) trivial
  exact ⟨O', h1, h2⟩

theorem zeroT_some {t : TypeId} {zero : List PV} (h : zeroT P t = some zero) : ∃ i z, P.info? t = some i ∧ i.zero = some z ∧ z.cells.size = i.size ∧ zero.length = i.size ∧
    ∀ (j : Nat) c, zero[j]? = some c → c.isCell = true ∧ ∃ u, z.cells[j]? = some u ∧ ∀ H, FRep H c u := by
  unfold zeroT at h
  split at h
  · rename_i i hi
    split at h
    · rename_i z hz
      split at h
      · rename_i hs
        obtain ⟨h1, h2⟩ := mapM_some h
        refine ⟨i, z, hi, hz, hs, by rw [h1]; simpa using hs, fun j c hj => ?_⟩
        obtain ⟨u, hu, hf⟩ := h2 j c hj
        obtain ⟨h3, h4⟩ := ofConst1_rep hf
        exact ⟨h3, u, by simpa using hu, h4⟩
      · cases h
    · cases h
  · cases h

/-- The zero cells on their way. -/
theorem zero_row {zero : List PV} {z : Array Value} (hz : z.size = zero.length) (hzz : ∀ (j : Nat) c, zero[j]? = some c → c.isCell = true ∧ ∃ u, z[j]? = some u ∧ ∀ H, FRep H c u) (env : Env) (w : World) (O : Owns) :
    ∃ L : List Cell3, L.map (·.1) = zero.map .pv ∧ L.map (·.2.1) = z.toList ∧ LRow env w O L ∧ L.filterMap ro = [] := by
  refine ⟨(zero.zip z.toList).map fun p => (.pv p.1, p.2, .box 0), ?_, ?_, ?_, ?_⟩
  · rw [List.map_map]
    have : ((fun x : Cell3 => x.1) ∘ fun p : PV × Value => (CV.pv p.1, p.2, Owner.box 0)) = CV.pv ∘ Prod.fst := rfl
    rw [this, ← List.map_map, List.map_fst_zip]
    simp [hz]
  · rw [List.map_map]
    have : ((fun x : Cell3 => x.2.1) ∘ fun p : PV × Value => (CV.pv p.1, p.2, Owner.box 0)) = Prod.snd := rfl
    rw [this, List.map_snd_zip]; simp [hz]
  · refine LRow.plain (by simp [hz]) fun i c u hc hu => ?_
    obtain ⟨h1, u', hu', hf⟩ := hzz i c hc
    rw [← Array.getElem?_toList, hu] at hu'; cases hu'
    exact ⟨h1, hf _⟩
  · rw [List.filterMap_eq_nil_iff]
    intro x hx
    obtain ⟨p, _, rfl⟩ := List.mem_map.1 hx
    rfl

theorem alloc_ok {F : Fns} {t : TypeId} {zero : List PV} (ho : o.op = .alloc t) (hz : zeroT P t = some zero) (inv : Inv env a.tmps w O) (h : (stepOp F o.dst (.alloc zero)).run env = some env') : OpVal P o a w env' O := by
  obtain ⟨i, z, hi, hzz, hs, hl, hc⟩ := zeroT_some hz
  have hrun : (execOp a.eval o).run P w = .ok (.value (.pointer (some ⟨w.heap.size, 0, none⟩))) (w.alloc (.cells z.cells t)) := by
    simp [execOp, ho, Instr.alloc, zeroValue, typeInfo, hi, hzz, newVar, newRow]
  obtain ⟨L, h1, h2, h3, h4⟩ := zero_row (hs.trans hl.symm) hc env w O
  have e : (L.map (·.1)).map (fun c => ((0 : Nat), c)) = zero.map fun v => (0, .pv v) := by rw [h1, List.map_map]; rfl
  obtain ⟨O', k1, k2⟩ := newBox_ok inv h3 z.cells t (.inr h2.symm) (by rw [e]; exact h)
  exact ⟨_, _, O', _, hrun, .inl rfl, k1, k2⟩

theorem box_ok {F : Fns} {t : TypeId} {x : Operand} {y : Opd} (ho : o.op = .box t x) (hx : cOpd x = some y) (inv : Inv env a.tmps w O) (h : (stepOp F o.dst (.box y)).run env = some env') : OpVal P o a w env' O := by
  have hrun : (execOp a.eval o).run P w = .ok (.value (.pointer (some ⟨w.heap.size, 0, none⟩))) (w.alloc (.cells (a.eval x).cells t)) := by
    simp [execOp, ho, Instr.box, newVar, newRow]
  simp only [stepOp] at h
  obtain ⟨L, env1, O1, g, hL, hc, _, h⟩ := tk_run inv (cOpd_rep hx a) h
  obtain ⟨O', k1, k2⟩ := newBox_ok g.inv hL (a.eval x).cells t (hc.imp (fun h => by simpa using h) id) h
  exact ⟨_, _, O', _, hrun, .inl rfl, k1, g.evo.trans k2⟩

/-! ## Cells laid over a row -/

theorem fill_one (off : Nat) (l : List Value) (cells : Array Value) (h : off + l.length ≤ cells.size) :
    (l.zipIdx.foldl (fun cs (x : Value × Nat) => cs.setIfInBounds (off + x.2) x.1) cells).toList = cells.toList.take off ++ l ++ cells.toList.drop (off + l.length) := by
  obtain ⟨h1, h2⟩ := Great.foldl_set off l 0 cells
  apply List.ext_getElem?
  intro k
  rw [Array.getElem?_toList, h2 k]
  have hcl : cells.toList.length = cells.size := Array.length_toList
  rw [List.append_assoc, List.getElem?_append, List.length_take, hcl, Nat.min_eq_left (by omega)]
  by_cases hk : k < off
  · rw [if_neg (by omega), if_pos hk, List.getElem?_take, if_pos hk, Array.getElem?_toList]
  · rw [if_neg hk, List.getElem?_append]
    by_cases hk2 : k < off + l.length
    · rw [if_pos (by omega), if_pos (by omega)]; rfl
    · rw [if_neg (by omega), if_neg (by omega), List.getElem?_drop, Array.getElem?_toList]
      congr 1; omega

theorem fill_lay (place : Nat → Option (Nat × Nat)) : ∀ (ps : List (Nat × Value)) (qs : List (Nat × List Value)) (cells : Array Value) (r : List Value),
    All2 (fun p q => place p.1 = some (q.1, q.2.length) ∧ p.2.cells.toList = q.2) ps qs → lay cells.toList qs = some r → Instr.fill place cells ps = some r.toArray
  | [], [], cells, r, _, h => by simp only [lay, Option.some.injEq] at h; subst h; simp [Instr.fill]
  | p :: ps, (off, l) :: qs, cells, r, ha, h => by
    obtain ⟨⟨h1, h2⟩, h3⟩ := ha
    simp only [lay] at h
    split at h
    · rename_i hle
      rw [Array.length_toList] at hle
      simp only at h1 h2
      have hs : p.2.cells.size = l.length := by rw [← h2, Array.length_toList]
      unfold Instr.fill
      simp only [h1]
      rw [if_neg (by simp [hs]; omega)]
      refine fill_lay place ps qs _ r h3 ?_
      rw [← h]
      congr 1
      rw [← Array.foldl_toList, Array.toList_zipIdx, h2]
      exact fill_one off l cells hle
    · cases h
  | [], _ :: _, _, _, ha, _ => ha.elim
  | _ :: _, [], _, _, ha, _ => ha.elim

theorem all2_get {α β : Type} {R : α → β → Prop} : ∀ {l : List α} {m : List β}, All2 R l m → l.length = m.length ∧ ∀ (i : Nat) x y, l[i]? = some x → m[i]? = some y → R x y
  | [], [], _ => ⟨rfl, fun i x y h => by simp at h⟩
  | x :: l, y :: m, h => by
    obtain ⟨h1, h2⟩ := all2_get h.2
    refine ⟨by simp [h1], fun i a b ha hb => ?_⟩
    cases i with
    | zero => simp at ha hb; subst ha; subst hb; exact h.1
    | succ i => simp at ha hb; exact h2 i a b ha hb
  | [], _ :: _, h => h.elim
  | _ :: _, [], h => h.elim

theorem all2_of {α β : Type} {R : α → β → Prop} : ∀ {l : List α} {m : List β}, l.length = m.length → (∀ (i : Nat) x y, l[i]? = some x → m[i]? = some y → R x y) → All2 R l m
  | [], [], _, _ => trivial
  | x :: l, y :: m, h, hr => ⟨hr 0 x y rfl rfl, all2_of (by simpa using h) fun i a b ha hb => hr (i + 1) a b (by simpa using ha) (by simpa using hb)⟩
  | [], _ :: _, h, _ => by simp at h
  | _ :: _, [], h, _ => by simp at h

/-- The parts of a literal: what the compiled operation says of them. -/
structure PartsOK (place : Nat → Option (Nat × Nat)) (parts : List (Nat × Operand)) (ps : List (Nat × Nat × Opd)) : Prop where
  len : ps.length = parts.length
  at_ : ∀ (i : Nat) q, ps[i]? = some q → ∃ p, parts[i]? = some p ∧ place p.1 = some (q.1, q.2.1) ∧ q.2.1 ≠ 0 ∧ cOpd p.2 = some q.2.2

theorem PartsOK.reps {place : Nat → Option (Nat × Nat)} {parts : List (Nat × Operand)} {ps : List (Nat × Nat × Opd)} (h : PartsOK place parts ps) (a : Act) : OpdReps a.tmps (ps.map fun p => p.2.2) (parts.map fun p => a.eval p.2) := by
  refine ⟨by simp [h.len], fun i o v ho hv => ?_⟩
  rw [List.getElem?_map, Option.map_eq_some_iff] at ho hv
  obtain ⟨q, hq, rfl⟩ := ho
  obtain ⟨p, hp, rfl⟩ := hv
  obtain ⟨p', hp', _, _, hc⟩ := h.at_ i q hq
  rw [hp] at hp'; cases hp'
  exact cOpd_rep hc a

theorem build_ok {F : Fns} {t : TypeId} {parts : Array (Nat × Operand)} {ps : List (Nat × Nat × Opd)} {zero : List PV} {place : Nat → Option (Nat × Nat)} (ho : o.op = .build t parts) (hz : zeroT P t = some zero) (hp : PartsOK place parts.toList ps)
    (hb : ∀ z i, P.info? t = some i → i.zero = some z → ∀ X, P.built t X = Instr.fill place z.cells X) (inv : Inv env a.tmps w O) (h : (stepOp F o.dst (.build zero ps)).run env = some env') : OpVal P o a w env' O := by
  obtain ⟨i, z, hi, hzz, hs, hl, hc⟩ := zeroT_some hz
  simp only [stepOp] at h
  obtain ⟨Ls, env1, O1, g, hL, hcs, hus, h⟩ := tks_run _ _ _ env O inv (hp.reps a) h
  obtain ⟨hlen, hat⟩ := all2_get hcs
  obtain ⟨Z, hz1, hz2, hz3, hz4⟩ := zero_row (hs.trans hl.symm) hc env1 w O1
  split at h
  case isFalse => simp [Pr.run] at h
  rename_i hall
  rw [List.all_eq_true] at hall
  have hlps : Ls.length = ps.length := by rw [hlen]; simp [hp.len]
  -- the parts as laid
  have hparts : (ps.zip (Ls.map fun L => L.map (·.1))).map (fun p => (p.1.1, p.2)) = ((ps.zip Ls).map fun p => (p.1.1, p.2)).map fun p => (p.1, p.2.map (·.1)) := by
    rw [List.zip_map_right, List.map_map, List.map_map]; rfl
  rw [hparts, ← hz1, lay_map] at h
  cases hlay : lay Z ((ps.zip Ls).map fun p => (p.1.1, p.2)) with
  | none => simp [hlay, Pr.run] at h
  | some L' =>
    simp only [hlay, Option.map_some] at h
    have hsnd : (((ps.zip Ls).map fun p => (p.1.1, p.2)).map (·.2)) = Ls := by
      rw [List.map_map]
      show (ps.zip Ls).map Prod.snd = Ls
      rw [List.map_snd_zip (by omega)]
    have hL' : LRow env1 w O1 L' := by
      obtain ⟨_, hmem⟩ := lay_mem _ _ _ hlay
      have hfrom : ∀ x ∈ L', x ∈ Z ∨ x ∈ Ls.flatten := by
        intro x hx
        rcases hmem x hx with hx | ⟨p, hp', hx⟩
        · exact .inl hx
        · exact .inr (List.mem_flatten.2 ⟨p.2, by rw [← hsnd]; exact List.mem_map_of_mem hp', hx⟩)
      refine ⟨fun x hx => ?_, ?_, fun x hx => (hfrom x hx).elim (hz3.next x) (hL.next x)⟩
      · rcases hmem x hx with hx | ⟨p, hp', hx⟩
        · exact hz3.cell x hx
        · refine hL.cell x (List.mem_flatten.2 ⟨p.2, ?_, hx⟩)
          rw [← hsnd]; exact List.mem_map_of_mem hp'
      · refine lay_nodup ro _ _ _ hlay ?_
        rw [hz4, hsnd]; simpa using hL.nodup
    -- the model's own literal
    have hfill : P.built t (parts.map fun (i, x) => (i, a.eval x)).toList = some (L'.map (·.2.1)).toArray := by
      rw [hb z i hi hzz]
      refine fill_lay place _ (((ps.zip Ls).map fun p => (p.1.1, p.2)).map fun p => (p.1, p.2.map (·.2.1))) _ _ ?_ (by rw [← hz2, lay_map, hlay]; rfl)
      refine all2_of (by simp [hlps, hp.len]) fun k x y hx hy => ?_
      rw [List.map_map, List.getElem?_map, Option.map_eq_some_iff] at hy
      obtain ⟨⟨q, L⟩, hq, rfl⟩ := hy
      rw [List.getElem?_zip_eq_some] at hq
      obtain ⟨hq1, hq2⟩ := hq
      obtain ⟨p, hp1, hp2, hp3, hp4⟩ := hp.at_ k q hq1
      simp only [Array.toList_map, List.getElem?_map, hp1, Option.map_some, Option.some.injEq] at hx
      subst hx
      have h5 := hat k L (a.eval p.2) hq2 (by simp [List.getElem?_map, hp1])
      have hsz : L.length = q.2.1 := by
        have := hall (q, L.map (·.1)) (by
          refine List.mem_of_getElem? (i := k) ?_
          rw [List.getElem?_zip_eq_some]; exact ⟨hq1, by simp [List.getElem?_map, hq2]⟩)
        simpa using this
      have h6 : (a.eval p.2).cells.toList = L.map (·.2.1) := by
        rcases h5 with h5 | h5
        · have : L = [] := by simpa using h5
          subst this; exact absurd hsz.symm hp3
        · exact h5
      refine ⟨?_, h6⟩
      show place p.1 = some (q.1, (L.map (·.2.1)).length)
      rw [hp2, List.length_map, hsz]
    have hrun : (execOp a.eval o).run P w = .ok (.value (.agg (L'.map (·.2.1)).toArray)) w := by
      simp only [execOp, ho, Sem.run_bind, run_build w t _ _ hfill, Result.andThen_ok]; rfl
    split at h
    · obtain ⟨O', h1, h2, _⟩ := g.inv.putW hL' (Later.refl w) (fun _ _ => none) o.dst (fun d i => .pl d 0 i) (.st (L'.map (·.1))) (.agg (L'.map (·.2.1)).toArray) (fun _ _ _ e => by cases e) (fun _ _ => rfl) h (by
        intro d' _ O' _ _ _ hcc
        refine ⟨_, rfl, by simp, fun k c hk => ?_⟩
        rw [List.getElem?_map, Option.map_eq_some_iff] at hk
        obtain ⟨y, hy, rfl⟩ := hk
        exact ⟨y.2.1, by simp [hy], hcc k y hy⟩) trivial
      exact ⟨_, w, O', _, hrun, .inl rfl, h1, g.evo.trans h2⟩
    · rename_i hany
      split at h
      · rename_i ws hws
        obtain ⟨e1, e2⟩ := mapM_some hws
        refine OpVal.pure hrun g h (fun _ _ => frep_agg.2 ⟨_, rfl, by rw [e1]; simp, fun k c hk => ?_⟩) trivial
        obtain ⟨cv, hcv, hview⟩ := e2 k c hk
        rw [List.getElem?_map, Option.map_eq_some_iff] at hcv
        obtain ⟨y, hy, rfl⟩ := hcv
        have hyc := hL'.cell y (List.mem_of_getElem? hy)
        have hnr : PV.isRow y.1 = false := by
          cases hr : PV.isRow y.1 with
          | false => rfl
          | true => exact absurd (List.any_eq_true.2 ⟨y.1, List.mem_map_of_mem (List.mem_of_getElem? hy), hr⟩) hany
        obtain ⟨c0, u0, p0⟩ := y
        cases c0 with
        | pv x =>
          simp only [CV.view, Option.some.injEq] at hview
          subst hview
          exact ⟨hyc.1, u0, by simp [hy], hyc.2.1⟩
        | own f s cs sp => cases hnr
        | gone => cases hview
      · simp [Pr.run] at h
end

section
/- The operations that make rows. -/

variable {P : Program} {o : Oper} {a : Act} {w : World} {env env' : Env} {O : Owns}

theorem reps_len (n : Nat) (z : List PV) : (reps n z).length = n * z.length := by
  unfold reps; simp

theorem reps_get (z : List PV) : ∀ (n j : Nat), j < n * z.length → (reps n z)[j]? = z[j % z.length]?
  | 0, j, h => by simp at h
  | n + 1, j, h => by
    have e : reps (n + 1) z = z ++ reps n z := by unfold reps; simp [List.replicate_succ]
    rw [e, List.getElem?_append]
    split
    · rename_i hj; rw [Nat.mod_eq_of_lt hj]
    · rename_i hj
      have h1 : j - z.length < n * z.length := by rw [Nat.add_mul] at h; omega
      rw [reps_get z n _ h1]
      congr 1
      have hj' : j = z.length + (j - z.length) := by omega
      conv => rhs; rw [hj', Nat.add_mod_left]

theorem made_get (z : Array Value) {n j : Nat} (hj : j < n) (h0 : 0 < z.size) : (madeCells z n)[j]? = z[j % z.size]? := by
  unfold madeCells
  have hlt := Nat.mod_lt j h0
  rw [Array.getElem?_map]
  have : (Array.range n)[j]? = some j := by simp [hj]
  rw [this, Option.map_some, Array.getElem?_eq_getElem hlt]
  congr 1
  exact getElem!_pos z _ hlt

/-- Zero cells, as many times. -/
theorem made_row {zero : List PV} {z : Array Value} (hz : z.size = zero.length) (h0 : 0 < zero.length) (hzz : ∀ (j : Nat) c, zero[j]? = some c → c.isCell = true ∧ ∃ u, z[j]? = some u ∧ ∀ H, FRep H c u) (n : Nat) (H : Look) (j : Nat) (c : PV)
    (hj : (reps n zero)[j]? = some c) : c.isCell = true ∧ ∃ u, (madeCells z (n * zero.length))[j]? = some u ∧ FRep H c u := by
  have hlt := getElem?_lt hj
  rw [reps_len] at hlt
  rw [reps_get _ _ _ hlt] at hj
  obtain ⟨h1, u, hu, hf⟩ := hzz _ c hj
  refine ⟨h1, u, ?_, hf H⟩
  rw [made_get z hlt (by omega), hz]; exact hu

/-- Pairs of a pure value and its meaning. -/
abbrev Row2 (H : Look) (L : List (PV × Value)) : Prop := ∀ x ∈ L, x.1.isCell = true ∧ FRep H x.1 x.2

theorem bsl_ok {F : Fns} {t e : TypeId} {len s : Nat} {parts : Array (Nat × Operand)} {ps : List (Nat × Opd)} {zero : List PV} (ho : o.op = .buildSlice t len parts) (ht : P.underlying t = some (.slice e)) (hs : sizeT P e = some s) (hsm : ¬ len * s > 2 ^ 24) (hz : zeroT P e = some zero)
    (hp : ps.length = parts.size ∧ ∀ (i : Nat) q, ps[i]? = some q → ∃ p, parts[i]? = some p ∧ p.1 = q.1 ∧ cOpd p.2 = some q.2)
    (inv : Inv env a.tmps w O) (h : (stepOp F o.dst (.bsl s zero len ps)).run env = some env') : OpVal P o a w env' O := by
  obtain ⟨i, z, hi, hzz, hsz, hl, hc⟩ := zeroT_some hz
  obtain ⟨i', hi', hsi, hs0⟩ := sizeT_some hs
  rw [hi] at hi'; cases hi'
  have hreps : OpdReps a.tmps (ps.map fun p => p.2) (parts.toList.map fun p => a.eval p.2) := by
    refine ⟨by simp [hp.1], fun k o v ho hv => ?_⟩
    rw [List.getElem?_map, Option.map_eq_some_iff] at ho hv
    obtain ⟨q, hq, rfl⟩ := ho
    obtain ⟨p, hpp, rfl⟩ := hv
    obtain ⟨p', hp', _, hc⟩ := hp.2 k q hq
    rw [Array.getElem?_toList, hp'] at hpp; cases hpp
    exact cOpd_rep hc a
  simp only [stepOp] at h
  obtain ⟨vs, env1, O1, g, hvs, h⟩ := embs_run _ _ _ env O inv hreps h
  obtain ⟨hlen, hat⟩ := all2_get hvs
  split at h
  case isFalse => simp [Pr.run] at h
  rename_i hall
  rw [List.all_eq_true] at hall
  have hlv : vs.length = ps.length := by rw [hlen]; simp [hp.1]
  -- pairs
  let Z : List (PV × Value) := (reps len zero).zip (madeCells z.cells (len * s)).toList
  have hml : (madeCells z.cells (len * s)).toList.length = len * s := by rw [Array.length_toList, size_madeCells]
  have hrl : (reps len zero).length = len * s := by rw [reps_len, hl, hsi]
  have hZ1 : Z.map (·.1) = reps len zero := List.map_fst_zip (by omega)
  have hZ2 : Z.map (·.2) = (madeCells z.cells (len * s)).toList := List.map_snd_zip (by omega)
  have hZr : Row2 (Frz w O1) Z := by
    intro x hx
    obtain ⟨j, hj⟩ := List.mem_iff_getElem?.1 hx
    rw [List.getElem?_zip_eq_some] at hj
    obtain ⟨h1, u, hu, hf⟩ := made_row (hsz.trans hl.symm) (by omega) hc len (Frz w O1) j x.1 hj.1
    rw [hl, hsi] at hu
    have := hj.2
    rw [Array.getElem?_toList, hu] at this; cases this
    exact ⟨h1, hf⟩
  let Q : List (Nat × List (PV × Value)) := (ps.zip (vs.zip (parts.toList.map fun p => a.eval p.2))).map fun x => (x.1.1 * s, x.2.1.cells.zip x.2.2.cells.toList)
  have hpart : ∀ (k : Nat) q v u, ps[k]? = some q → vs[k]? = some v → (parts.toList.map fun p => a.eval p.2)[k]? = some u → v.cells.length = s ∧ u.cells.toList.length = s ∧ ∀ (j : Nat) c y, v.cells[j]? = some c → u.cells.toList[j]? = some y → c.isCell = true ∧ FRep (Frz w O1) c y := by
    intro k q v u hq hv hu
    have hf := hat k v u hv hu
    have hsz1 : v.cells.length = s := by
      have := hall (q, v) (List.mem_of_getElem? (i := k) (by rw [List.getElem?_zip_eq_some]; exact ⟨hq, hv⟩))
      simpa using this
    obtain ⟨_, h2⟩ := cells_rep hf (.inr trivial)
    have hne : v ≠ .undef := by rintro rfl; simp [PV.cells] at hsz1; omega
    obtain ⟨h3, h4⟩ := h2 hne
    exact ⟨hsz1, by rw [Array.length_toList, h3, hsz1], h4⟩
  have hlm : (parts.toList.map fun p => a.eval p.2).length = ps.length := by simp [hp.1]
  have hQ1 : Q.map (fun p => (p.1, p.2.map (·.1))) = (ps.zip vs).map fun p => (p.1.1 * s, p.2.cells) := by
    apply List.ext_getElem?
    intro k
    simp only [Q, List.map_map, List.getElem?_map]
    cases hk : (ps.zip vs)[k]? with
    | none =>
      rw [List.getElem?_eq_none_iff, List.length_zip] at hk
      rw [List.getElem?_eq_none (by rw [List.length_zip, List.length_zip]; omega)]; rfl
    | some x =>
      rw [List.getElem?_zip_eq_some] at hk
      have hkl := getElem?_lt hk.1
      obtain ⟨u, hu⟩ : ∃ u, (parts.toList.map fun p => a.eval p.2)[k]? = some u := ⟨_, List.getElem?_eq_getElem (by omega)⟩
      have : (ps.zip (vs.zip (parts.toList.map fun p => a.eval p.2)))[k]? = some (x.1, x.2, u) := by
        rw [List.getElem?_zip_eq_some, List.getElem?_zip_eq_some]; exact ⟨hk.1, hk.2, hu⟩
      rw [this]
      obtain ⟨e1, e2, _⟩ := hpart k _ _ _ hk.1 hk.2 hu
      simp only [Option.map_some, Function.comp_apply]
      rw [List.map_fst_zip (by omega)]
  rw [← hQ1, ← hZ1, lay_map] at h
  cases hlay : lay Z Q with
  | none => simp [hlay, Pr.run] at h
  | some L' =>
    simp only [hlay, Option.map_some] at h
    obtain ⟨hll, hmem⟩ := lay_mem _ _ _ hlay
    have hL' : Row2 (Frz w O1) L' := by
      intro x hx
      rcases hmem x hx with hx | ⟨p, hp', hx⟩
      · exact hZr x hx
      · obtain ⟨y, hy, rfl⟩ := List.mem_map.1 hp'
        obtain ⟨k, hk⟩ := List.mem_iff_getElem?.1 hy
        rw [List.getElem?_zip_eq_some, List.getElem?_zip_eq_some] at hk
        obtain ⟨_, _, e3⟩ := hpart k _ _ _ hk.1 hk.2.1 hk.2.2
        obtain ⟨j, hj⟩ := List.mem_iff_getElem?.1 hx
        rw [List.getElem?_zip_eq_some] at hj
        exact e3 j _ _ hj.1 hj.2
    have hL'l : L'.length = len * s := by rw [hll, List.length_zip, hml, hrl]; omega
    have hfill : Instr.fill (fun i => some (i * s, s)) (madeCells z.cells (len * s)) (parts.map fun (i, x) => (i, a.eval x)).toList = some (L'.map (·.2)).toArray := by
      refine fill_lay _ _ (Q.map fun p => (p.1, p.2.map (·.2))) _ _ ?_ (by rw [← hZ2, lay_map, hlay]; rfl)
      refine all2_of (by simp [Q, hlv, hp.1]) fun k x y hx hy => ?_
      simp only [Q, List.map_map] at hy
      rw [List.getElem?_map, Option.map_eq_some_iff] at hy
      obtain ⟨⟨q, v, u⟩, hq, rfl⟩ := hy
      rw [List.getElem?_zip_eq_some, List.getElem?_zip_eq_some] at hq
      obtain ⟨hq1, hq2, hq3⟩ := hq
      obtain ⟨p, hp1, hp2, hp3⟩ := hp.2 k q hq1
      simp only [Array.toList_map, List.getElem?_map, Array.getElem?_toList, hp1, Option.map_some, Option.some.injEq] at hx hq3
      subst hx; subst hq3
      obtain ⟨e1, e2, _⟩ := hpart k q v (a.eval p.2) hq1 hq2 (by simp [List.getElem?_map, hp1])
      have e3 : ((v.cells.zip (a.eval p.2).cells.toList).map (·.2)) = (a.eval p.2).cells.toList := List.map_snd_zip (by omega)
      simp only [Function.comp_apply]
      rw [e3]
      exact ⟨by rw [e2, hp2], rfl⟩
    have hrun : (execOp a.eval o).run P w = .ok (.value (.slice (some ⟨w.heap.size, 0, none⟩) len len)) (w.alloc (.cells (L'.map (·.2)).toArray e)) := by
      by_cases hpos : len * s = 0
      · rw [hpos] at hfill
        have e0 : madeCells z.cells 0 = #[] := by simp [madeCells]
        rw [e0] at hfill
        subst hsi
        simp only [execOp, ho]
        simp [Instr.buildSlice, run_underlying ht, sizeOf, typeInfo, hi, hpos, newRow, Array.range_zero']
        simp only [Array.toList_map] at hfill
        rw [hfill]
        rfl
      · have := run_buildSlice (P := P) w t e len (parts.map fun (i, x) => (i, a.eval x)) (L'.map (·.2)).toArray i z ht hi hzz (by rw [hsi]; exact hsm) (by rw [hsi]; exact hpos) (by rw [hsi]; exact hfill)
        simp only [execOp, ho, Sem.run_bind, this, Result.andThen_ok]; rfl
    obtain ⟨O', k1, k2⟩ := newRow_ok (tmps := a.tmps) g.inv (Later.refl w) rfl (L'.map (·.2)).toArray e (0, 0) (.inl rfl) (s := s) (len := len) (cap := len) (cs := L'.map (·.1)) (sp := []) (by omega) (by simpa using hL'l) (Nat.le_refl _)
      (by simp [hL'l]) (by simp [hL'l]) (by
        intro j c hj
        rw [List.append_nil, List.getElem?_map, Option.map_eq_some_iff] at hj
        obtain ⟨x, hx, rfl⟩ := hj
        obtain ⟨e1, e2⟩ := hL' x (List.mem_of_getElem? hx)
        exact ⟨e1, x.2, by simp [hx], e2⟩) h
    exact ⟨_, _, O', _, hrun, .inl rfl, k1, g.evo.trans k2⟩

theorem mkslice_ok {F : Fns} {t e : TypeId} {s bytes : Nat} {len cap : Operand} {len' cap' : Opd} {zero : List PV} {i : TypeInfo} (ho : o.op = .makeSlice t len cap) (ht : P.underlying t = some (.slice e)) (hi : P.info? e = some i) (hb : i.bytes = bytes) (hb0 : bytes ≠ 0)
    (hs : sizeT P e = some s) (hz : zeroT P e = some zero) (hl : cOpd len = some len') (hcp : cOpd cap = some cap')
    (inv : Inv env a.tmps w O) (h : (stepOp F o.dst (.mkslice s bytes zero len' cap')).run env = some env') : OpVal P o a w env' O := by
  obtain ⟨i1, z, hi1, hzz, hsz, hzl, hc⟩ := zeroT_some hz
  rw [hi] at hi1; cases hi1
  obtain ⟨i', hi', hsi, hs0⟩ := sizeT_some hs
  rw [hi] at hi'; cases hi'
  simp only [stepOp] at h
  replace h := int_run hl inv h
  obtain ⟨kl, n, hn, h⟩ := h
  replace h := int_run hcp inv h
  obtain ⟨kc, c, hcc, h⟩ := h
  split at h
  case isFalse => simp [Pr.run] at h
  rename_i h0
  split at h
  case isFalse => simp [Pr.run] at h
  rename_i h1
  split at h
  case isFalse => simp [Pr.run] at h
  rename_i h2
  subst hb; subst hsi
  have hc0 : ((c.toNat : Nat) : Int) = c := Int.toNat_of_nonneg (by omega)
  have hcb : c.toNat ≤ 2 ^ 47 := Nat.le_trans (Nat.le_mul_of_pos_right _ (by omega)) h2
  have hbc : (i.bytes : Int) * c ≤ 281474976710656 := by
    rw [← hc0, ← Int.natCast_mul, Nat.mul_comm]
    have : c.toNat * i.bytes ≤ 2 ^ 47 := h2
    omega
  have hmk := run_make (P := P) w t e i z ht hi hzz kl kc n c h0 h1 hbc (by omega)
  have hrun : (execOp a.eval o).run P w = .ok (.value (.slice (some ⟨w.heap.size, 0, none⟩) n.toNat c.toNat)) (w.alloc (.cells (madeCells z.cells (c.toNat * i.size)) e)) := by
    simp only [execOp, ho, hn, hcc, Sem.run_bind, hmk, Result.andThen_ok]; rfl
  have hnc : n.toNat ≤ c.toNat := by omega
  have happ : reps n.toNat zero ++ reps (c.toNat - n.toNat) zero = reps c.toNat zero := by
    unfold reps
    rw [← List.flatten_append, List.replicate_append_replicate]
    congr 2; omega
  have hsum : (reps n.toNat zero).length + (reps (c.toNat - n.toNat) zero).length = c.toNat * i.size := by
    rw [← List.length_append, happ, reps_len, hzl]
  obtain ⟨O', k1, k2⟩ := newRow_ok (tmps := a.tmps) inv (Later.refl w) rfl (madeCells z.cells (c.toNat * i.size)) e (0, 0) (.inl rfl) (s := i.size) (len := n.toNat) (cap := c.toNat) (cs := reps n.toNat zero) (sp := reps (c.toNat - n.toNat) zero) (by omega)
    (by rw [reps_len, hzl]) hnc (by omega) (by rw [size_madeCells]; exact Nat.le_refl _) (by
      intro j cc hj
      rw [happ] at hj
      have := made_row (hsz.trans hzl.symm) (by omega) hc c.toNat (Frz w O) j cc hj
      rw [hzl] at this; exact this) h
  exact ⟨_, _, O', _, hrun, .inl rfl, k1, k2⟩

theorem cvBytes_ok {F : Fns} {src dst e : TypeId} {x : Operand} {y : Opd} (ho : o.op = .convert src dst x) (hs : P.underlying src = some .string) (hd : P.underlying dst = some (.slice e)) (he : P.underlying e = some (.int .u8)) (hx : cOpd x = some y)
    (inv : Inv env a.tmps w O) (h : (stepOp F o.dst (.cvBytes y)).run env = some env') : OpVal P o a w env' O := by
  simp only [stepOp] at h
  replace h := rd_run inv (cOpd_rep hx a) h
  obtain ⟨v, hv, h⟩ := h
  cases v with
  | str s =>
    simp only at h
    have hvv := rd_str hv
    have hcv := run_bytes_of_string (P := P) w src dst e s hs hd he
    have hrun : (execOp a.eval o).run P w = .ok (.value (.slice (some ⟨w.heap.size, 0, none⟩) s.size (grownCap w s.size 0 e)))
      (w.drew.alloc (.cells (bytesRow s (grownCap w s.size 0 e)) e ((bytesRow s (grownCap w s.size 0 e)).size, (bytesRow s (grownCap w s.size 0 e)).size + 1))) := by
      simp only [execOp, ho, hvv, Sem.run_bind, hcv, Result.andThen_ok]; rfl
    have hge := grownCap_ge w s.size 0 e
    have hbl : (bytesOf s).length = s.size := by simp [bytesOf]
    have hbs : (bytesRow s (grownCap w s.size 0 e)).size = grownCap w s.size 0 e := by
      simp [bytesRow]; show s.size + _ = _; omega
    obtain ⟨O', k1, k2⟩ := newRow_ok (tmps := a.tmps) inv (Later.drew w) rfl (bytesRow s (grownCap w s.size 0 e)) e ((bytesRow s (grownCap w s.size 0 e)).size, (bytesRow s (grownCap w s.size 0 e)).size + 1) (.inr (Nat.le_refl _)) (s := 1) (len := s.size) (cap := grownCap w s.size 0 e) (cs := bytesOf s) (sp := []) (by omega) (by omega) hge
      (by simp; omega) (by omega) (by
        intro j c hj
        rw [List.append_nil] at hj
        unfold bytesOf at hj
        rw [List.getElem?_map, Option.map_eq_some_iff] at hj
        obtain ⟨b, hb, rfl⟩ := hj
        refine ⟨rfl, .int .u8 b.toNat, ?_, .int ..⟩
        have hjs := getElem?_lt hb
        unfold bytesRow
        rw [Array.getElem?_append_left (by simpa using hjs)]
        rw [Array.getElem?_map, ← Array.getElem?_toList, hb]; rfl) h
    exact ⟨_, _, O', _, hrun, .inl rfl, k1, k2⟩
  | _ => simp [Pr.run] at h
end

section
/- The operations: stores. -/

variable {P : Program} {o : Oper} {a : Act} {w : World} {env env' : Env} {O : Owns}

theorem setCells_size (b : Nat) : ∀ (vs : List Value) (o : Nat) (w : World), (w.setCells b o vs).heap.size = w.heap.size
  | [], _, _ => rfl
  | v :: r, o, w => by rw [World.setCells, setCells_size b r]; unfold World.setCell; simp
theorem setCells_os (b : Nat) : ∀ (vs : List Value) (o : Nat) (w : World), (w.setCells b o vs).os = w.os ∧ (w.setCells b o vs).tape = w.tape ∧ (w.setCells b o vs).output = w.output
  | [], _, _ => ⟨rfl, rfl, rfl⟩
  | v :: r, o, w => by rw [World.setCells]; exact setCells_os b r (o + 1) (w.setCell ⟨b, o, none⟩ v)

theorem setCells_other (b : Nat) {i : Nat} : ∀ (vs : List Value) (o : Nat) (w : World), i ≠ b → (w.setCells b o vs).heap[i]? = w.heap[i]?
  | [], _, _, _ => rfl
  | v :: r, o, w, h => by
    rw [World.setCells, setCells_other b r _ _ h]
    unfold World.setCell
    simp only [Array.getElem?_modify]
    rw [if_neg (fun e => h e.symm)]

theorem setCells_frozen (b b' o' : Nat) : ∀ (vs : List Value) (o : Nat) (w : World), frozenAt (w.setCells b o vs) b' o' = frozenAt w b' o'
  | [], _, _ => rfl
  | v :: r, o, w => by
    rw [World.setCells, setCells_frozen b b' o' r]
    unfold frozenAt World.setCell
    simp only [Array.getElem?_modify]
    by_cases hb : b = b'
    · subst hb
      rw [if_pos rfl]
      cases hw : w.heap[b]? with
      | none => rfl
      | some x =>
        cases x with
        | cells c e fr => obtain ⟨lo, hi⟩ := fr; simp
        | _ => rfl
    · rw [if_neg hb]

theorem cell_one {H : Look} {p : PV} {v : Value} (hc : p.isCell = true) (h : FRep H p v) : v.oneCell' = true := by
  cases h <;> first | rfl | cases hc

theorem ccell_one {p : Owner} {c : CV} {v : Value} (hc : c.isCell = true) (hh : c.here = true) (h : CRep w O p c v) : v.oneCell' = true := by
  cases c with
  | pv x => exact cell_one hc h
  | own f s cs sp => obtain ⟨b, off, len, cap, rfl, _⟩ := h; rfl
  | gone => cases hh

/-- A value of any kind is stored. -/
theorem run_store_gen (w : World) (b ofs : Nat) (ty : TypeId) (v : Value) {n : Nat} (hsz : v.cells.size = n) (hi : (P.info? ty).map (·.size) = some n) (ht : ∀ j, j < n → (∃ u, cellAt w b (ofs + j) = some u) ∧ frozenAt w b (ofs + j) = false)
    (h1 : ∀ u ∈ v.cells.toList, u.oneCell' = true) : (Instr.storeAt ty (.pointer (some ⟨b, ofs, none⟩)) v).run P w = .ok () (w.setCells b ofs v.cells.toList) := by
  subst hsz
  have := run_storeCells_cells (P := P) b ofs v.cells.toList 0 w (fun j hj => by
      obtain ⟨u, hu⟩ := (ht j (by simpa using hj)).1
      rw [Nat.add_zero]
      have hu' : w.cell? ⟨b, ofs + j, none⟩ = some u := hu
      rw [hu']; rfl) (fun j hj => by
      rw [Nat.add_zero]
      obtain ⟨⟨u, hu⟩, hf⟩ := ht j (by simpa using hj)
      exact frozen_of hu hf) h1
  cases hq : P.info? ty with
  | none => simp [hq] at hi
  | some i =>
    have hs : v.cells.size = i.size := by simp [hq] at hi; omega
    simp only [Nat.add_zero] at this
    simp [Instr.storeAt, Instr.sureAddr, storeVar, sizeOf, typeInfo, hq, hs, this]

theorem setCells_at (w : World) (b ofs : Nat) (us : List Value) (ht : ∀ j, j < us.length → ∃ u, cellAt w b (ofs + j) = some u) :
    (∀ j u, us[j]? = some u → cellAt (w.setCells b ofs us) b (ofs + j) = some u) ∧ (∀ b' o', (b' ≠ b ∨ o' < ofs ∨ ofs + us.length ≤ o') → cellAt (w.setCells b ofs us) b' o' = cellAt w b' o') ∧
    (∀ b' o', frozenAt (w.setCells b ofs us) b' o' = frozenAt w b' o') := by
  refine ⟨fun j u hu => ?_, fun b' o' h => ?_, fun b' o' => setCells_frozen b b' o' us ofs w⟩
  · have hj := getElem?_lt hu
    have := World.cell?_setCells_in b us ofs w (fun j hj => by obtain ⟨u, hu⟩ := ht j hj; have hu' : w.cell? ⟨b, ofs + j, none⟩ = some u := hu; rw [hu']; rfl) j hj
    rw [List.getElem?_eq_getElem hj] at hu; cases hu
    exact this
  · refine World.cell?_setCells_out b us ofs w _ fun hb _ => ?_
    rcases h with h | h
    · exact absurd hb h
    · exact h

/-- Cells whose owner is p are written. -/
theorem keep_setCells {b ofs : Nat} {us : List Value} {p : Owner} (hO : ∀ j, j < us.length → O b (ofs + j) = some p) (ht : ∀ j, j < us.length → ∃ u, cellAt w b (ofs + j) = some u) : Keep (fun q => q = p) w O (w.setCells b ofs us) O := by
  obtain ⟨_, h2, h3⟩ := setCells_at w b ofs us ht
  intro b' o' u hu hq
  refine ⟨?_, rfl, h3 _ _⟩
  rw [h2 b' o' ?_]; · exact hu
  rcases Nat.lt_or_ge o' ofs with h | h
  · exact .inr (.inl h)
  · rcases Nat.lt_or_ge o' (ofs + us.length) with h' | h'
    · by_cases hb : b' = b
      · subst hb
        exact absurd rfl (hq p (by have := hO (o' - ofs) (by omega); rwa [show ofs + (o' - ofs) = o' by omega] at this))
      · exact .inl hb
    · exact .inr (.inr h')

theorem evo_setCells {b ofs : Nat} {us : List Value} {p : Owner} (hO : ∀ j, j < us.length → O b (ofs + j) = some p) (ht : ∀ j, j < us.length → ∃ u, cellAt w b (ofs + j) = some u) (hp : p ≠ .ext) : Evo w O (w.setCells b ofs us) O := by
  obtain ⟨_, h2, h3⟩ := setCells_at w b ofs us ht
  obtain ⟨k1, k2, k3⟩ := setCells_os b us ofs w
  refine ⟨k1, k2, k3, by rw [setCells_size]; exact Nat.le_refl _, fun b' hb' hn => ?_, fun b' o' hb' hn => ⟨hn, ?_, h3 _ _⟩, (keep_setCells hO ht).ext (fun e => hp e.symm)⟩
  · cases us with
    | nil => rfl
    | cons u us =>
      refine setCells_other b _ ofs w fun e => ?_
      have := hO 0 (by simp)
      rw [e] at hn; rw [hn] at this; cases this
  · refine h2 b' o' ?_
    by_cases hb : b' = b
    · subst hb
      refine .inr ?_
      rcases Nat.lt_or_ge o' ofs with h | h
      · exact .inl h
      · rcases Nat.lt_or_ge o' (ofs + us.length) with h' | h'
        · have := hO (o' - ofs) (by omega)
          rw [show ofs + (o' - ofs) = o' by omega, hn] at this; cases this
        · exact .inr h'
    · exact .inl hb

/-- What was taken bears its new names. -/
theorem Inv.ren {tmps : Array Value} (inv : Inv env tmps w O) {L : List Cell3} (hL : LRow env w O L) (q : Nat → Owner) :
    ∃ O1, Inv env tmps w O1 ∧ Evo w O w O1 ∧ ∀ (i : Nat) y, L[i]? = some y → y.1.isCell = true ∧ CRep w O1 (q i) y.1 y.2.1 := by
  let O' : Owns := renO w O L q (fun _ _ => none)
  have hnone : ∀ b o, b < w.heap.size → (O' b o = none ↔ O b o = none) := fun b o hb => renO_none hb
  have hbnd : ∀ b o p, O' b o = some p → b < w.heap.size := by
    intro b o p hp
    rcases Nat.lt_or_ge b w.heap.size with hb | hb
    · exact hb
    · have : O' b o = none := if_neg (by omega)
      rw [this] at hp; cases hp
  have hevo : Evo w O w O' := ⟨rfl, rfl, rfl, Nat.le_refl _, fun b hb _ => rfl, fun b o hb ho => ⟨(hnone b o hb).2 ho, rfl, rfl⟩, fun b o u hu ho => ⟨hu, renO_other (cellAt_lt hu) ho hL.noext, rfl⟩⟩
  have hkeep : Keep (fun p => p ∈ L.filterMap ro) w O w O' := by
    intro b o u hu hq'
    have hb := cellAt_lt hu
    refine ⟨hu, ?_, rfl⟩
    cases hO : O b o with
    | none => exact (hnone b o hb).2 hO
    | some p => exact renO_other hb hO (hq' p hO)
  have hTL : ∀ t p, Uses t (env.at t).2 p → ¬ p ∈ L.filterMap ro := by
    intro t p hu hp
    obtain ⟨y, hy, hr, rfl⟩ := mem_ro.1 hp
    exact (hL.cell y hy).2.2 hr t hu
  exact ⟨O', inv.make (fun _ => False) _ inv.len hbnd hkeep (fun t _ p hu => hTL t p hu) (fun _ _ => ⟨rfl, rfl⟩) (fun _ h => h.elim) (fun _ h => h.elim) (fun _ h => h.elim), hevo, fun i y hy =>
      ⟨(hL.cell y (List.mem_of_getElem? hy)).1, CRep.ren (Later.refl w) inv.bnd hL.nodup hy (hL.cell y (List.mem_of_getElem? hy)).2.1⟩⟩

/-- Cells go into a box. -/
theorem into_ok {n r gs ofs b : Nat} {t : TypeId} {x : Value} (ht : (P.info? t).map (·.size) = some n) (hrun : ∀ w', (Instr.storeAt t (.pointer (some ⟨b, ofs, none⟩)) x).run P w = .ok () w' → (execOp a.eval o).run P w = .ok .skip w')
    {env1 : Env} {O1 : Owns} (g : Gh a.tmps w env O env1 O1) (hb : gs = (env1.at r).1 → (env1.at r).2.hd = .box → a.tmps.getD r undef = .pointer (some ⟨b, 0, none⟩)) {L : List Cell3} (hL : LRow env1 w O1 L) (hc : L = [] ∨ x.cells.toList = L.map (·.2.1)) (hn : n ≠ 0) (hdst : o.dst = none)
    (h : (if (L.map (·.1)).length = n ∧ (L.map (·.1)).all CV.here = true then Pr.get r fun z => if z.1 = gs then (match z.2 with
      | .box cs => if ofs + n ≤ cs.length then
          .upd r (z.1, .box (cs.take ofs ++ (((cs.drop ofs).take n).zip (L.map (·.1))).map (fun p => (if PV.isRow p.1.2 then p.1.1 + 1 else p.1.1, p.2)) ++ cs.drop (ofs + n))) .done
        else .fail
      | _ => .fail) else .fail else .fail).run env1 = some env') : OpVal P o a w env' O := by
  split at h
  case isFalse => simp [Pr.run] at h
  rename_i hln
  obtain ⟨hlen, hhere⟩ := hln
  rw [List.length_map] at hlen
  simp only [Pr.run] at h
  split at h
  case isFalse => simp [Pr.run] at h
  rename_i hgs
  split at h
  case h_2 => simp [Pr.run] at h
  rename_i cs hcs
  split at h
  case isFalse => simp [Pr.run] at h
  rename_i hle
  have hptr := hb hgs.symm (by rw [hcs]; rfl)
  obtain ⟨O2, inv2, hevo, hcell⟩ := g.inv.ren hL (fun i => .pl r 0 (ofs + i))
  have hm := inv2.mem r
  rw [hcs] at hm
  obtain ⟨b', hb', hbox⟩ := hm
  rw [hptr] at hb'
  cases hb'
  have hx : x.cells.toList = L.map (·.2.1) := by
    rcases hc with hc | hc
    · subst hc; exact absurd hlen.symm hn
    · exact hc
  have hxl : (L.map (·.2.1)).length = n := by rw [List.length_map, hlen]
  have hat : ∀ j, j < n → O2 b (ofs + j) = some (.box r) ∧ frozenAt w b (ofs + j) = false ∧ ∃ u, cellAt w b (ofs + j) = some u := by
    intro j hj
    obtain ⟨h1, h2, u, hu, _⟩ := hbox (ofs + j) _ (List.getElem?_eq_getElem (by omega))
    exact ⟨h1, h2, u, hu⟩
  have hthere : ∀ j, j < (L.map (·.2.1)).length → ∃ u, cellAt w b (ofs + j) = some u := fun j hj => (hat j (by omega)).2.2
  have hown : ∀ j, j < (L.map (·.2.1)).length → O2 b (ofs + j) = some (.box r) := fun j hj => (hat j (by omega)).1
  obtain ⟨s1, s2, s3⟩ := setCells_at w b ofs _ hthere
  have hkeep := keep_setCells hown hthere
  have hst := run_store_gen (P := P) w b ofs t x (n := n) (by rw [← Array.length_toList, hx, hxl]) ht (fun j hj => ⟨(hat j hj).2.2, (hat j hj).2.1⟩) (by
    intro u hu
    rw [hx, List.mem_map] at hu
    obtain ⟨y, hy, rfl⟩ := hu
    exact ccell_one (hL.cell y hy).1 (List.all_eq_true.1 hhere _ (List.mem_map_of_mem hy)) (hL.cell y hy).2.1)
  rw [hx] at hst
  -- the new cells of the box
  let cs' := cs.take ofs ++ (((cs.drop ofs).take n).zip (L.map (·.1))).map (fun p => (if PV.isRow p.1.2 then p.1.1 + 1 else p.1.1, p.2)) ++ cs.drop (ofs + n)
  have hmid : ((((cs.drop ofs).take n).zip (L.map (·.1))).map (fun p => (if PV.isRow p.1.2 then p.1.1 + 1 else p.1.1, p.2))).length = n := by
    rw [List.length_map, List.length_zip, List.length_take, List.length_drop, List.length_map]; omega
  have hcl : cs'.length = cs.length := by
    simp only [cs', List.length_append, hmid, List.length_take, List.length_drop]; omega
  have hin : ∀ j, j < n → ∃ p y, cs[ofs + j]? = some p ∧ L[j]? = some y ∧ cs'[ofs + j]? = some (if PV.isRow p.2 then p.1 + 1 else p.1, y.1) := by
    intro j hj
    refine ⟨cs[ofs + j]'(by omega), L[j]'(by omega), List.getElem?_eq_getElem _, List.getElem?_eq_getElem _, ?_⟩
    simp only [cs']
    rw [List.append_assoc, List.getElem?_append_right (by rw [List.length_take]; omega), List.length_take, List.getElem?_append_left (by rw [hmid]; omega), Nat.min_eq_left (by omega)]
    rw [show ofs + j - ofs = j by omega, List.getElem?_map]
    have : (((cs.drop ofs).take n).zip (L.map (·.1)))[j]? = some (cs[ofs + j]'(by omega), (L[j]'(by omega)).1) := by
      rw [List.getElem?_zip_eq_some, List.getElem?_take, if_pos hj, List.getElem?_drop, List.getElem?_map]
      exact ⟨List.getElem?_eq_getElem _, by rw [List.getElem?_eq_getElem]; rfl⟩
    rw [this]; rfl
  have hout : ∀ k, (k < ofs ∨ ofs + n ≤ k) → cs'[k]? = cs[k]? := by
    intro k hk
    simp only [cs']
    rcases hk with hk | hk
    · rw [List.append_assoc, List.getElem?_append_left (by rw [List.length_take]; omega), List.getElem?_take, if_pos hk]
    · rw [List.getElem?_append_right (by rw [List.length_append, hmid, List.length_take]; omega), List.length_append, hmid, List.length_take, List.getElem?_drop]
      congr 1; omega
  have he : env1.at r = ((env1.at r).1, .box cs) := by rw [← hcs]
  have hz1 : ((env1.at r).1, SV.box cs') = ((env1.at r).1, SV.box cs') := rfl
  have hBR : BoxRep (w.setCells b ofs (L.map (·.2.1))) O2 r cs' (a.tmps.getD r undef) := by
    refine ⟨b, hptr, fun k p hk => ?_⟩
    by_cases hkr : ofs ≤ k ∧ k < ofs + n
    · obtain ⟨p0, y, h1, h2, h3⟩ := hin (k - ofs) (by omega)
      rw [show ofs + (k - ofs) = k by omega] at h1 h3
      rw [h3] at hk; cases hk
      obtain ⟨k1, k2, _⟩ := hat (k - ofs) (by omega)
      rw [show ofs + (k - ofs) = k by omega] at k1 k2
      have hu := s1 (k - ofs) y.2.1 (by rw [List.getElem?_map, h2]; rfl)
      rw [show ofs + (k - ofs) = k by omega] at hu
      obtain ⟨c1, c2⟩ := hcell (k - ofs) y h2
      simp only [show ofs + (k - ofs) = k by omega] at c2
      exact ⟨k1, (s3 _ _).trans k2, y.2.1, hu, c1, c2.keep hkeep (fun _ e => by cases e)⟩
    · rw [hout k (by omega)] at hk
      obtain ⟨k1, k2, u, hu, c1, c2⟩ := hbox k p hk
      exact ⟨k1, (s3 _ _).trans k2, u, (s2 b k (by rw [hxl]; omega)).trans hu, c1, c2.keep hkeep (fun _ e => by cases e)⟩
  obtain ⟨k1, k2, k3⟩ := boxUpd_inv inv2 he hcl (κ := .done) h (fun q => q = .box r) hkeep (fun t ht q hq e => by subst e; exact ht (hq.slot.symm)) (fun b o q hq => by rw [setCells_size]; exact inv2.bnd b o q hq) hBR (by
    intro b1 hb1 k p p' hp hp'
    rw [hptr] at hb1; cases hb1
    by_cases hkr : ofs ≤ k ∧ k < ofs + n
    · obtain ⟨p0, y, h1, h2, h3⟩ := hin (k - ofs) (by omega)
      rw [show ofs + (k - ofs) = k by omega] at h1 h3
      rw [hp] at h1; cases h1
      rw [hp'] at h3; cases h3
      split
      · exact ⟨Nat.le_succ _, fun e => absurd e (by simp)⟩
      · rename_i hr
        exact ⟨Nat.le_refl _, fun _ hr' => absurd hr' hr⟩
    · rw [hout k (by omega), hp] at hp'; cases hp'
      exact ⟨Nat.le_refl _, fun _ hr => ⟨sameRow.refl_of hr, s2 b k (by rw [hxl]; omega)⟩⟩)
  simp only [Pr.run, Option.some.injEq] at k2
  rw [k2] at k1
  refine ⟨undef, _, O2, _, hrun _ hst, .inr ⟨rfl, rfl⟩, ?_, (g.evo.trans hevo).trans (evo_setCells hown hthere (by simp))⟩
  rw [hdst]; exact k1
end

section
/- The operations: stores, joined. -/

variable {P : Program} {o : Oper} {a : Act} {w : World} {env env' : Env} {O : Owns}

/-- The cells of what is stored. -/
theorem takeX_run {tmps : Array Value} (inv : Inv env tmps w O) {x : Opd} {v : Value} (ho : OpdRep tmps x v) {κ : List CV → Pr} (h : (stepOp.takeX x κ).run env = some env') :
    ∃ L env1 O1, Gh tmps w env O env1 O1 ∧ LRow env1 w O1 L ∧ (L.map (·.1) = [] ∨ v.cells.toList = L.map (·.2.1)) ∧ (∀ p, p ∈ L.filterMap ro → ∃ t, Uses t (env.at t).2 p) ∧ (κ (L.map (·.1))).run env1 = some env' := by
  cases x with
  | con p => exact tk_run inv ho h
  | tmp t =>
    simp only [stepOp.takeX, Pr.run] at h
    have ha := inv.ali t
    have hv : v = tmps.getD t undef := ho
    obtain ⟨sv, he⟩ : ∃ sv, (env.at t).2 = sv := ⟨_, rfl⟩
    rw [he] at h ha
    cases sv with
    | ref r k gs gc =>
      simp only at h
      obtain ⟨z, c, hl, hg, hz, h⟩ := place_run h
      have hh := ha.2 _ hl
      cases c with
      | own f s cs sp =>
        simp only at h
        split at h
        · exact tk_run inv ho h
        · obtain ⟨env1, u, hk, g, hv', hL, _⟩ := takePlace inv hl hz h
          rw [hh, Option.some.injEq] at hv'
          subst hv'
          obtain ⟨_, _, _, hu⟩ := live_rep inv hl
          refine ⟨_, env1, O, g, hL, .inr ?_, ?_, hk⟩
          · have hcr := (hL.cell _ (List.mem_singleton.2 rfl)).2.1
            obtain ⟨b, off, len, cap, hvv, _⟩ := hcr
            simp only at hvv
            rw [hv, hvv]; rfl
          · intro p hp
            simp [ro, PV.isRow] at hp; subst hp
            exact ⟨r, hu rfl⟩
      | _ => simp [Pr.run] at h
    | _ => exact tk_run inv ho h

theorem store_ok {F : Fns} {t : TypeId} {n : Nat} {ad x : Operand} {ad' x' : Opd} (ho : o.op = .store t ad x) (hs : sizeT P t = some n) (had : cOpd ad = some ad') (hx : cOpd x = some x') (inv : Inv env a.tmps w O)
    (h : (stepOp F o.dst (.store n ad' x')).run env = some env') : OpVal P o a w env' O := by
  obtain ⟨i, hi, hsi, hs0⟩ := sizeT_some hs
  have hsize : (P.info? t).map (·.size) = some n := by rw [hi]; simp [hsi]
  have hrad := cOpd_rep had a
  have hrun : ∀ b ofs, a.eval ad = .pointer (some ⟨b, ofs, none⟩) → ∀ w', (Instr.storeAt t (.pointer (some ⟨b, ofs, none⟩)) (a.eval x)).run P w = .ok () w' → (execOp a.eval o).run P w = .ok .skip w' := by
    intro b ofs e w' hw; simp [execOp, ho, e, hw]
  cases ad' with
  | con p => simp [stepOp, Pr.run] at h
  | tmp t' =>
    have hv : a.eval ad = a.tmps.getD t' undef := hrad
    simp only [stepOp] at h
    split at h
    · simp [Pr.run] at h
    · rename_i hd
      have hdst : o.dst = none := by
        cases hdd : o.dst with
        | none => rfl
        | some d => rw [hdd] at hd; exact absurd rfl hd
      simp only [Pr.run] at h
      obtain ⟨sv, he⟩ : ∃ sv, (env.at t').2 = sv := ⟨_, rfl⟩
      have viaTake : (stepOp.takeX x' fun c => Pr.get t' fun y => match y.2 with
        | .box _ => stepOp.intoBox n t' y.1 0 c
        | .ptr r off gs => stepOp.intoBox n r gs off c
        | _ => .fail).run env = some env' → OpVal P o a w env' O := by
        intro h
        obtain ⟨L, env1, O1, g, hL, hc, _, h⟩ := takeX_run inv (cOpd_rep hx a) h
        have hc' : L = [] ∨ (a.eval x).cells.toList = L.map (·.2.1) := hc.imp (fun h => by simpa using h) id
        simp only [Pr.run] at h
        have hm := g.inv.mem t'
        have ha := g.inv.ali t'
        obtain ⟨sv, he⟩ : ∃ sv, (env1.at t').2 = sv := ⟨_, rfl⟩
        rw [he] at h hm ha
        cases sv with
        | box cs =>
          obtain ⟨b, hb, _⟩ := hm
          exact into_ok (t := t) (x := a.eval x) hsize (hrun b 0 (hv.trans hb)) g (fun _ _ => hb) hL hc' hs0 hdst h
        | ptr r off gs =>
          obtain ⟨_, b, hb, h2⟩ := ha
          exact into_ok (t := t) (x := a.eval x) hsize (hrun b off (hv.trans hb)) g (fun e _ => (h2 e).2) hL hc' hs0 hdst h
        | _ => simp [Pr.run] at h
      rw [he] at h
      cases sv with
      | eptr r k gs gc ofs =>
        simp only at h
        obtain ⟨pv, env1, O1, g, hf, h⟩ := emb_run inv (cOpd_rep hx a) h
        have hinv1 := g.inv
        simp only [Pr.run] at h
        have ha := hinv1.ali t'
        obtain ⟨sv, he⟩ : ∃ sv, (env1.at t').2 = sv := ⟨_, rfl⟩
        rw [he] at h ha
        cases sv with
        | eptr r k gs gc ofs =>
          simp only at h
          obtain ⟨z, c, hl, hg, hz, h⟩ := place_run h
          cases c with
          | own f s cs sp =>
            simp only at h
            split at h
            case isFalse => simp [Pr.run] at h
            rename_i hf'
            subst hf'
            split at h
            case isFalse => simp [Pr.run] at h
            rename_i hlen
            split at h
            case isFalse => simp [Pr.run] at h
            rename_i hle
            obtain ⟨_, bl, off, hptr, h2⟩ := ha
            obtain ⟨len, cap, hh⟩ := h2 _ hl
            obtain ⟨bl', off', len', cap', hh', hr⟩ := live_own hinv1 hl
            rw [hh, Option.some.injEq] at hh'
            cases hh'
            have hroom := hr.room
            -- the value's cells
            obtain ⟨_, hcr⟩ := cells_rep hf (.inr trivial)
            have hne : pv ≠ .undef := by rintro rfl; simp [PV.cells] at hlen; omega
            obtain ⟨hcs, hcell⟩ := hcr hne
            have hul : (a.eval x).cells.toList.length = n := by rw [Array.length_toList, hcs, hlen]
            generalize hus : (a.eval x).cells.toList = us at hul hcell
            have hown : ∀ j, j < us.length → O1 bl (off + ofs + j) = some (plOwner (env1.at r).2 r k) := fun j hj => by
              rw [Nat.add_assoc]; exact hr.mine (ofs + j) (by omega) (.inl rfl)
            have hthere : ∀ j, j < us.length → ∃ u, cellAt w bl (off + ofs + j) = some u := fun j hj => by
              rw [Nat.add_assoc]; exact (hr.cell (ofs + j) (by omega)).1
            obtain ⟨s1, s2, s3⟩ := setCells_at w bl (off + ofs) us hthere
            have hkeep := keep_setCells hown hthere
            have hst := run_store_gen (P := P) w bl (off + ofs) t (a.eval x) (n := n) (by rw [← Array.length_toList, hus, hul]) hsize (fun j hj => ⟨hthere j (by omega), by rw [Nat.add_assoc]; exact (hr.cell (ofs + j) (by omega)).2⟩) (by
              intro u hu
              rw [hus] at hu
              obtain ⟨j, hj⟩ := List.mem_iff_getElem?.1 hu
              have hjl := getElem?_lt hj
              obtain ⟨e1, e2⟩ := hcell j _ u (List.getElem?_eq_getElem (by omega)) hj
              exact cell_one e1 e2)
            rw [hus] at hst
            have hcl : (cs.take ofs ++ pv.cells ++ cs.drop (ofs + n)).length = cs.length := by
              simp only [List.length_append, List.length_take, List.length_drop, hlen]; omega
            obtain ⟨env2, e1, e2, _, _⟩ := chPl_inv hinv1 hl rfl hz (κ := .done) h hkeep (fun b o q hq => by rw [setCells_size]; exact hinv1.bnd b o q hq) (by
              intro v hv'
              rw [hh] at hv'; cases hv'
              refine ⟨bl, off, len, cap, rfl, hr.pos, by rw [hcl]; exact hr.len_eq, hr.le, by rw [hcl]; exact hr.room, ?_, (fun j hj _ => hr.mine j hj (.inl rfl)), (fun e => by cases e), ?_⟩
              · intro j hj
                obtain ⟨⟨u, hu⟩, hfz⟩ := hr.cell j hj
                refine ⟨?_, (s3 _ _).trans hfz⟩
                by_cases hjr : ofs ≤ j ∧ j < ofs + n
                · have := s1 (j - ofs) _ (List.getElem?_eq_getElem (by omega))
                  rw [show off + ofs + (j - ofs) = off + j by omega] at this
                  exact ⟨_, this⟩
                · exact ⟨u, (s2 bl _ (by omega)).trans hu⟩
              · intro j c hj
                rw [List.append_assoc, List.append_assoc] at hj
                by_cases hj1 : j < ofs
                · rw [List.getElem?_append_left (by rw [List.length_take]; omega), List.getElem?_take, if_pos hj1] at hj
                  obtain ⟨q1, u, q2, q3⟩ := hr.row j c (by rw [List.getElem?_append_left (by omega)]; exact hj)
                  exact ⟨q1, u, (s2 bl _ (by omega)).trans q2, q3.mono hkeep.frz⟩
                · rw [List.getElem?_append_right (by rw [List.length_take]; omega), List.length_take, Nat.min_eq_left (by omega)] at hj
                  by_cases hj2 : j < ofs + n
                  · rw [List.getElem?_append_left (by omega)] at hj
                    have hju : us[j - ofs]? = some (us[j - ofs]'(by omega)) := List.getElem?_eq_getElem (by omega)
                    obtain ⟨q1, q2⟩ := hcell (j - ofs) c _ hj hju
                    have := s1 (j - ofs) _ hju
                    rw [show off + ofs + (j - ofs) = off + j by omega] at this
                    exact ⟨q1, _, this, q2.mono hkeep.frz⟩
                  · rw [List.getElem?_append_right (by omega)] at hj
                    obtain ⟨q1, u, q2, q3⟩ := hr.row j c (by
                      rw [← hj]
                      have : cs ++ sp = cs.take (ofs + n) ++ (cs.drop (ofs + n) ++ sp) := by rw [← List.append_assoc, List.take_append_drop]
                      rw [this, List.getElem?_append_right (by rw [List.length_take]; omega), List.length_take]
                      congr 1; omega)
                    exact ⟨q1, u, (s2 bl _ (by omega)).trans q2, q3.mono hkeep.frz⟩) rfl (fun _ => ⟨_, _, _, _, _, _, _, rfl, rfl, hcl⟩)
            simp only [Pr.run, Option.some.injEq] at e1
            subst e1
            refine ⟨undef, _, O1, _, hrun bl (off + ofs) (hv.trans hptr) _ hst, .inr ⟨rfl, rfl⟩, by rw [hdst]; exact e2, g.evo.trans (evo_setCells hown hthere plOwner_ne)⟩
          | _ => simp [Pr.run] at h
        | _ => simp [Pr.run] at h
      | _ => exact viaTake h
end

section
/- The operations: append. -/

variable {P : Program} {o : Oper} {a : Act} {w : World} {env env' : Env} {O : Owns}

/-- A new row: owned whole, or behind its elements. -/
theorem newRowF_ok {tmps : Array Value} (inv : Inv env tmps w O) {w1 : World} (hw : Later w w1) (hsz : w1.heap.size = w.heap.size) (C : Array Value) (e : TypeId) (f : Bool)
    {s len cap : Nat} {cs : List PV} (h0 : 0 < s) (hlen : cs.length = len * s) (hle : len ≤ cap) (hC : cap * s ≤ C.size)
    (hrow : ∀ (j : Nat) c, cs[j]? = some c → c.isCell = true ∧ ∃ u, C[j]? = some u ∧ FRep (Frz w O) c u) {d : Option Nat} (h : (Pr.put d (.cv (.own f s cs []))).run env = some env') :
    ∃ O', Inv env' (putT tmps d (.slice (some ⟨w.heap.size, 0, none⟩) len cap)) (w1.alloc (.cells C e)) O' ∧ Evo w O (w1.alloc (.cells C e)) O' := by
  have hnc := fun j v hj => new_cell w1 C e (0, 0) (.inl rfl) (j := j) (v := v) hj
  rw [hsz] at hnc
  obtain ⟨O', h1, h2, _⟩ := inv.putW (LRow.nil _ _ _) (hw.trans (Later.alloc w1 (.cells C e))) (fun b o => if b = w.heap.size ∧ (f = true ∨ cs.length ≤ o) then some (.pl (d.getD 0) 0 0) else none) d (fun d _ => .pl d 0 0) (.cv (.own f s cs []))
    (.slice (some ⟨w.heap.size, 0, none⟩) len cap) (by
      intro b o' p hp
      split at hp
      · rename_i hb; rw [hb.1, ← hsz]; show _ < (w1.heap.push _).size; simp
      · cases hp) (fun _ _ => rfl) h (by
      intro d' hd O' hn hfz _ _
      subst hd
      have hroom : len * s ≤ cap * s := Nat.mul_le_mul_right _ hle
      refine ⟨w.heap.size, 0, len, cap, rfl, h0, hlen, hle, by simp; omega, ?_, ?_, ?_, ?_⟩
      · intro j hj
        have hjC : j < C.size := by omega
        rw [Nat.zero_add]
        obtain ⟨e1, e2⟩ := hnc j _ (Array.getElem?_eq_getElem hjC)
        exact ⟨⟨_, e1⟩, e2⟩
      · intro j hj hh
        rw [hn _ _ (Nat.le_refl _), if_pos ⟨rfl, by rw [Nat.zero_add]; exact hh⟩]; rfl
      · intro hf j hj
        rw [hn _ _ (Nat.le_refl _), if_neg]
        rintro ⟨_, hh⟩
        rcases hh with hh | hh
        · rw [hf] at hh; cases hh
        · omega
      · intro j c hj
        rw [List.append_nil] at hj
        obtain ⟨e1, u, hu, hf⟩ := hrow j c hj
        rw [Nat.zero_add]
        exact ⟨e1, u, (hnc j u hu).1, hf.mono hfz⟩) trivial
  exact ⟨O', h1, h2⟩

/-- What nobody's slot leads to changes. -/
theorem Inv.loose {tmps : Array Value} {w' : World} {O' : Owns} {p : Owner} (inv : Inv env tmps w O) (hp : ∀ t, ¬ Uses t (env.at t).2 p) (hk : Keep (fun q => q = p) w O w' O') (hb : ∀ b o q, O' b o = some q → b < w'.heap.size) : Inv env tmps w' O' :=
  inv.make (fun _ => False) _ inv.len hb hk (fun t _ q hu e => by subst e; exact hp t hu) (fun _ _ => ⟨rfl, rfl⟩) (fun _ h => h.elim) (fun _ h => h.elim) (fun _ h => h.elim)

/-- What the operation makes of a slice: the two arms. -/
structure App (P : Program) (o : Oper) (a : Act) (w : World) (s bytes : Nat) (z : Value) (e : TypeId) (x : Value) (n : Nat) (news : List Value) : Prop where
  len : news.length = n * s
  room : ∀ b off sLen sCap, x = .slice (some ⟨b, off, none⟩) sLen sCap → sLen + n ≤ sCap → (∀ j, j < news.length → (w.cell? ⟨b, off + sLen * s + j, none⟩).isSome = true) → (∀ j, j < news.length → w.frozen? ⟨b, off + sLen * s + j, none⟩ = false) →
    (execOp a.eval o).run P w = .ok (.value (.slice (some ⟨b, off, none⟩) (sLen + n) sCap)) (w.setCells b (off + sLen * s) news)
  nil : x = .slice none 0 0 → n = 0 → (execOp a.eval o).run P w = .ok (.value (.slice none 0 0)) w
  grow : ∀ base sLen sCap olds, x = .slice base sLen sCap → (Builtin.firstCells s sLen (.slice base sLen sCap)).run P w.drew = .ok olds.toArray w.drew → sCap < sLen + n → (sLen + n) * bytes ≤ 140737488355328 →
    (execOp a.eval o).run P w = .ok (.value (.slice (some ⟨w.heap.size, 0, none⟩) (sLen + n) (grownCap w (sLen + n) sCap e))) (w.drew.alloc (.cells ((olds ++ news).toArray ++ Builtin.zeroCells z.cells (grownCap w (sLen + n) sCap e - (sLen + n))) e))

/-- The new row's cells. -/
theorem grown_size {s sLen n c : Nat} {olds news : List Value} {z : Array Value} (hz : z.size = s) (h1 : olds.length = sLen * s) (h2 : news.length = n * s) (h3 : sLen + n ≤ c) :
    ((olds ++ news).toArray ++ Builtin.zeroCells z (c - (sLen + n))).size = c * s := by
  rw [Array.size_append, size_zeroCells, List.size_toArray, List.length_append, h1, h2, hz, ← Nat.add_mul, ← Nat.add_mul]
  congr 1; omega

theorem onto_ok {s bytes n : Nat} {z : Value} {e : TypeId} {x : Value} {news : List Value} {new : List PV} (A : App P o a w s bytes z e x n news) (hz : z.cells.size = s)
    (hnl : new.length = news.length) (hnew : ∀ (j : Nat) c u, new[j]? = some c → news[j]? = some u → c.isCell = true ∧ FRep (Frz w O) c u)
    (inv : Inv env a.tmps w O) {r k gs gc : Nat} {f : Bool} {cs sp : List PV} {y : Nat × SV} (hl : live (env.at r) k gs gc = some (.own f s cs sp)) (hy : PlaceX env r y)
    {b : Nat} {bl off len cap : Nat} (hh : hdrAt w (env.at r).2 (a.tmps.getD r undef) k = some (.slice (some ⟨bl, off, none⟩) len cap)) (hb : b ≤ cs.length) (hbs : ∃ q, b = q * s) (hx : x = .slice (some ⟨bl, off, none⟩) (b / s) cap)
    (hfb : f = true ∨ b = cs.length)
    (h : (if new.length ≤ (cs.drop b ++ sp).length then
              Pr.chPl r k gc y true (if f then .gone else .pv (.sl s cs)) (Pr.put o.dst (.cv (.own f s (cs.take b ++ new) ((cs.drop b ++ sp).drop new.length))))
            else if fits s bytes (b + new.length) then
              Pr.chPl r k gc y true (if f then .gone else .pv (.sl s cs)) (Pr.put o.dst (.cv (.own f s (cs.take b ++ new) [])))
            else .fail).run env = some env') : OpVal P o a w env' O := by
  obtain ⟨p, hp⟩ : ∃ p, plOwner (env.at r).2 r k = p := ⟨_, rfl⟩
  -- the two arms of the machine are one
  have hdrop : ¬ new.length ≤ (cs.drop b ++ sp).length → (cs.drop b ++ sp).drop new.length = [] := fun h => List.drop_eq_nil_of_le (by omega)
  have h' : (new.length ≤ (cs.drop b ++ sp).length ∨ fits s bytes (b + new.length) = true) ∧ (Pr.chPl r k gc y true (if f then .gone else .pv (.sl s cs)) (Pr.put o.dst (.cv (.own f s (cs.take b ++ new) ((cs.drop b ++ sp).drop new.length))))).run env = some env' := by
    split at h
    · rename_i hle; exact ⟨.inl hle, h⟩
    · rename_i hle
      split at h
      · rename_i hf; rw [hdrop hle]; exact ⟨.inr hf, h⟩
      · simp [Pr.run] at h
  clear h
  obtain ⟨hfit, h⟩ := h'
  -- the place gives its content away
  have hgive : ∃ env1 O1, Gh a.tmps w env O env1 O1 ∧ (∀ t, ¬ Uses t (env1.at t).2 p) ∧ OwnRep w O1 p f s cs sp bl off len cap ∧
      (Pr.put o.dst (.cv (.own f s (cs.take b ++ new) ((cs.drop b ++ sp).drop new.length)))).run env1 = some env' := by
    cases f with
    | true =>
      obtain ⟨env1, v, hk, g, hv', hL, _⟩ := takePlace inv hl hy h
      rw [hh, Option.some.injEq] at hv'
      subst hv'
      have := hL.cell _ (List.mem_singleton.2 rfl)
      obtain ⟨b1, off1, len1, cap1, e1, hr⟩ := this.2.1
      cases e1
      exact ⟨env1, O, g, by rw [← hp]; exact this.2.2 rfl, by rw [← hp]; exact hr, hk⟩
    | false =>
      obtain ⟨env1, O1, g, hk, hno, b1, off1, len1, cap1, hv', hr, _⟩ := freeze_run inv hl hy h
      rw [hh, Option.some.injEq] at hv'
      cases hv'
      exact ⟨env1, O1, g, by rw [← hp]; exact hno, by rw [← hp]; exact hr, hk⟩
  clear h
  obtain ⟨env1, O1, g, hno, hr, h⟩ := hgive
  obtain ⟨q, rfl⟩ := hbs
  have hs := hr.pos
  rw [Nat.mul_div_cancel _ hs] at hx
  have hroom := hr.room
  have hnn : new.length = n * s := by rw [hnl, A.len]
  have htl : (cs.take (q * s)).length = q * s := by rw [List.length_take]; omega
  have hcl : (cs.take (q * s) ++ new).length = (q + n) * s := by rw [List.length_append, htl, hnn, Nat.add_mul]
  have hnew1 : ∀ (j : Nat) c u, new[j]? = some c → news[j]? = some u → c.isCell = true ∧ FRep (Frz w O1) c u := fun j c u h1 h2 => ⟨(hnew j c u h1 h2).1, (hnew j c u h1 h2).2.mono g.frz⟩
  by_cases hcap : q + n ≤ cap
  · -- in place
    have hqs : q * s + n * s ≤ cap * s := by rw [← Nat.add_mul]; exact Nat.mul_le_mul_right _ hcap
    have hthere : ∀ j, j < news.length → (∃ u, cellAt w bl (off + q * s + j) = some u) ∧ frozenAt w bl (off + q * s + j) = false := by
      intro j hj
      rw [Nat.add_assoc]; exact hr.cell (q * s + j) (by rw [A.len] at hj; omega)
    have hrun := A.room bl off q cap hx hcap (fun j hj => by
      obtain ⟨⟨u, hu⟩, _⟩ := hthere j hj
      have hu' : w.cell? ⟨bl, off + q * s + j, none⟩ = some u := hu
      rw [hu']; rfl) (fun j hj => by
      obtain ⟨⟨u, hu⟩, hf⟩ := hthere j hj
      exact frozen_of hu hf)
    have hown : ∀ j, j < news.length → O1 bl (off + q * s + j) = some p := by
      intro j hj
      rw [Nat.add_assoc]
      refine hr.mine (q * s + j) (by rw [A.len] at hj; omega) ?_
      rcases hfb with hf | hf
      · exact .inl hf
      · exact .inr (by omega)
    obtain ⟨s1, s2, s3⟩ := setCells_at w bl (off + q * s) news (fun j hj => (hthere j hj).1)
    have hk1 := keep_setCells hown (fun j hj => (hthere j hj).1)
    have hpx : p ≠ .ext := by rw [← hp]; exact plOwner_ne
    have he1 := evo_setCells hown (fun j hj => (hthere j hj).1) hpx
    -- what is written may be shared at once
    let O2 : Owns := fun b' o' => if f = false ∧ b' = bl ∧ off + q * s ≤ o' ∧ o' < off + q * s + n * s then none else O1 b' o'
    have hO2 : ∀ b' o', O1 b' o' = none → O2 b' o' = none := by
      intro b' o' h; simp only [O2]; rw [h]; split <;> rfl
    have hO2' : ∀ b' o' x, O2 b' o' = some x → O1 b' o' = some x := by
      intro b' o' x h; simp only [O2] at h; split at h
      · cases h
      · exact h
    have hk2 : Keep (fun q => q = p) w O1 (w.setCells bl (off + q * s) news) O2 := by
      intro b' o' u hu hq
      obtain ⟨e1, _, e3⟩ := hk1 b' o' u hu hq
      refine ⟨e1, ?_, e3⟩
      simp only [O2]
      split
      · rename_i hc
        obtain ⟨_, rfl, c1, c2⟩ := hc
        have := hown (o' - (off + q * s)) (by rw [A.len]; omega)
        rw [show off + q * s + (o' - (off + q * s)) = o' by omega] at this
        exact absurd rfl (hq p this)
      · rfl
    have he2 : Evo w O1 (w.setCells bl (off + q * s) news) O2 := ⟨he1.os, he1.tape, he1.output, he1.size, he1.block, fun b' o' hb' ho => ⟨hO2 _ _ ho, (he1.cell b' o' hb' ho).2⟩, hk2.ext (fun e => hpx e.symm)⟩
    have inv2 := g.inv.loose hno hk2 (fun b o x hx => by rw [setCells_size]; exact g.inv.bnd b o x (hO2' b o x hx))
    have hL : LRow env1 (w.setCells bl (off + q * s) news) O2 [(.own f s (cs.take (q * s) ++ new) ((cs.drop (q * s) ++ sp).drop new.length), .slice (some ⟨bl, off, none⟩) (q + n) cap, p)] := by
      refine ⟨fun y hy => ?_, by simp [ro, PV.isRow], fun x hx _ => by rw [List.mem_singleton] at hx; subst hx; exact hpx⟩
      rw [List.mem_singleton] at hy; subst hy
      refine ⟨rfl, ⟨bl, off, q + n, cap, rfl, hs, hcl, hcap, ?_, ?_, ?_, ?_, ?_⟩, fun _ => hno⟩
      · rw [hcl, List.length_drop, List.length_append, List.length_drop, hnn, Nat.add_mul]; omega
      · intro j hj
        obtain ⟨⟨u, hu⟩, hfz⟩ := hr.cell j hj
        refine ⟨?_, (s3 _ _).trans hfz⟩
        by_cases hjr : q * s ≤ j ∧ j < q * s + n * s
        · have := s1 (j - q * s) _ (List.getElem?_eq_getElem (by rw [A.len]; omega))
          rw [show off + q * s + (j - q * s) = off + j by omega] at this
          exact ⟨_, this⟩
        · exact ⟨u, (s2 bl _ (by rw [A.len]; omega)).trans hu⟩
      · intro j hj hm
        rw [hcl, Nat.add_mul] at hm
        simp only [O2]
        rw [if_neg]
        · refine hr.mine j hj ?_
          rcases hfb with hf | hf
          · exact .inl hf
          · rcases hm with hm | hm
            · exact .inl hm
            · exact .inr (by omega)
        · rintro ⟨c1, _, c2, c3⟩
          rcases hm with hm | hm
          · rw [c1] at hm; cases hm
          · omega
      · intro hf j hj
        rw [hcl, Nat.add_mul] at hj
        by_cases hjr : q * s ≤ j
        · simp only [O2]
          rw [if_pos ⟨hf, trivial, by omega, by omega⟩]
        · exact hO2 _ _ (hr.free hf j (by omega))
      · intro j c hj
        rw [List.append_assoc] at hj
        by_cases hj1 : j < q * s
        · rw [List.getElem?_append_left (by omega), List.getElem?_take, if_pos hj1] at hj
          obtain ⟨q1, u, q2, q3⟩ := hr.row j c (by rw [List.getElem?_append_left (by omega)]; exact hj)
          exact ⟨q1, u, (s2 bl _ (by omega)).trans q2, q3.mono hk2.frz⟩
        · rw [List.getElem?_append_right (by omega), htl] at hj
          by_cases hj2 : j - q * s < new.length
          · rw [List.getElem?_append_left hj2] at hj
            have hju : news[j - q * s]? = some (news[j - q * s]'(by omega)) := List.getElem?_eq_getElem (by omega)
            obtain ⟨q1, q2⟩ := hnew1 _ c _ hj hju
            have := s1 (j - q * s) _ hju
            rw [show off + q * s + (j - q * s) = off + j by omega] at this
            exact ⟨q1, _, this, q2.mono hk2.frz⟩
          · rw [List.getElem?_append_right (by omega), List.getElem?_drop] at hj
            obtain ⟨q1, u, q2, q3⟩ := hr.row j c (by
              rw [← hj]
              have : cs ++ sp = cs.take (q * s) ++ (cs.drop (q * s) ++ sp) := by rw [← List.append_assoc, List.take_append_drop]
              rw [this, List.getElem?_append_right (by omega), htl]
              congr 1; omega)
            exact ⟨q1, u, (s2 bl _ (by rw [A.len]; omega)).trans q2, q3.mono hk2.frz⟩
    obtain ⟨O', k1, k2⟩ := putOne inv2 hL o.dst h
    exact ⟨_, _, O', _, hrun, .inl rfl, k1, (g.evo.trans he2).trans k2⟩
  · -- a new row
    have hfit' : (q + n) * bytes ≤ 140737488355328 := by
      rcases hfit with hf | hf
      · exfalso
        apply hcap
        rw [hnn, List.length_append, List.length_drop] at hf
        have : (q + n) * s ≤ cap * s := by rw [Nat.add_mul]; omega
        exact Nat.le_of_mul_le_mul_right this hs
      · simp only [fits, decide_eq_true_eq] at hf
        rwa [hnn, ← Nat.add_mul, Nat.mul_div_cancel _ hs] at hf
    let olds : List Value := (List.range (q * s)).map fun j => (cellAt w bl (off + j)).getD undef
    have hol : olds.length = q * s := by simp [olds]
    have hoc : ∀ j v, olds[j]? = some v → cellAt w bl (off + j) = some v := by
      intro j v hj
      have hjl := getElem?_lt hj
      rw [hol] at hjl
      obtain ⟨⟨u, hu⟩, _⟩ := hr.cell j (by have := hr.le; have := hr.len_eq; omega)
      simp only [olds, List.getElem?_map, List.getElem?_range hjl, Option.map_some, Option.some.injEq, hu, Option.getD_some] at hj
      rw [hu, hj]
    have hqc : q ≤ cap := by
      have h1 := hr.le
      have h2 : q * s ≤ len * s := by rw [← hr.len_eq]; exact hb
      exact Nat.le_trans (Nat.le_of_mul_le_mul_right h2 hs) h1
    have hfc : (Builtin.firstCells s q (.slice (some ⟨bl, off, none⟩) q cap)).run P w.drew = .ok olds.toArray w.drew :=
      run_firstCells_some (P := P) w.drew s q ⟨bl, off, none⟩ q cap olds hol (fun j v hj => by rw [Addr.add_mid]; exact hoc j v hj)
    have hrun := A.grow (some ⟨bl, off, none⟩) q cap olds hx hfc (by omega) hfit'
    have hge := grownCap_ge w (q + n) cap e
    have hsz := grown_size (z := z.cells) hz hol A.len hge
    have hsp : (cs.drop (q * s) ++ sp).drop new.length = [] := by
      refine List.drop_eq_nil_of_le ?_
      rw [List.length_append, List.length_drop, hnn]
      have : cap * s < (q + n) * s := Nat.mul_lt_mul_of_pos_right (by omega) hs
      rw [Nat.add_mul] at this; omega
    rw [hsp] at h
    obtain ⟨O', k1, k2⟩ := newRowF_ok (tmps := a.tmps) g.inv (Later.drew w) rfl ((olds ++ news).toArray ++ Builtin.zeroCells z.cells (grownCap w (q + n) cap e - (q + n))) e f (s := s) (len := q + n) (cap := grownCap w (q + n) cap e) (cs := cs.take (q * s) ++ new) hs hcl hge (by rw [hsz]; exact Nat.le_refl _) (by
      intro j c hj
      have hjl := getElem?_lt hj
      rw [hcl, Nat.add_mul] at hjl
      by_cases hj1 : j < q * s
      · rw [List.getElem?_append_left (by omega), List.getElem?_take, if_pos hj1] at hj
        obtain ⟨q1, u, q2, q3⟩ := hr.row j c (by rw [List.getElem?_append_left (by omega)]; exact hj)
        refine ⟨q1, u, ?_, q3⟩
        have hju : olds[j]? = some (olds[j]'(by omega)) := List.getElem?_eq_getElem (by omega)
        have := hoc j _ hju
        rw [q2] at this; cases this
        rw [Array.getElem?_append_left (by simp; omega)]
        simp only [List.getElem?_toArray]
        rw [List.getElem?_append_left (by omega)]; exact hju
      · rw [List.getElem?_append_right (by omega), htl] at hj
        have hju : news[j - q * s]? = some (news[j - q * s]'(by rw [A.len]; omega)) := List.getElem?_eq_getElem (by rw [A.len]; omega)
        obtain ⟨q1, q2⟩ := hnew1 _ c _ hj hju
        refine ⟨q1, _, ?_, q2⟩
        rw [Array.getElem?_append_left (by simp [hol, A.len]; omega)]
        simp only [List.getElem?_toArray]
        rw [List.getElem?_append_right (by omega), hol]; exact hju) h
    exact ⟨_, _, O', _, hrun, .inl rfl, k1, g.evo.trans k2⟩
end

section
/- The operations: append, joined. -/

variable {P : Program} {o : Oper} {a : Act} {w : World} {env env' : Env} {O : Owns}

theorem frep_nils {H : Look} {v : Value} (h : FRep H .nils v) : v = .slice none 0 0 := by cases h; rfl

theorem appendTo_ok {s bytes n : Nat} {z : Value} {e : TypeId} {x : Operand} {x' : Opd} {news : List Value} {new : List PV} (hx : cOpd x = some x') (A : App P o a w s bytes z e (a.eval x) n news) (hz : z.cells.size = s) (hs : 0 < s)
    (hnl : new.length = news.length) (hnew : ∀ (j : Nat) c u, new[j]? = some c → news[j]? = some u → c.isCell = true ∧ FRep (Frz w O) c u)
    (inv : Inv env a.tmps w O) (h : (stepOp.appendTo o.dst s bytes x' new).run env = some env') : OpVal P o a w env' O := by
  have hr := cOpd_rep hx a
  -- a slice that is nil
  have fresh : a.eval x = .slice none 0 0 → (if new.length = 0 then Pr.put o.dst (.cv (.pv .nils)) else if fits s bytes new.length then Pr.put o.dst (.cv (.own true s new [])) else .fail).run env = some env' → OpVal P o a w env' O := by
    intro hn h
    split at h
    · rename_i h0
      have hn0 : n = 0 := by
        have := A.len
        rw [← hnl, h0] at this
        rcases Nat.mul_eq_zero.1 this.symm with h | h <;> omega
      exact OpVal.pure (A.nil hn hn0) (Gh.refl inv) h (fun _ _ => .nils) trivial
    · rename_i h0
      split at h
      · rename_i hf
        have hnn : new.length = n * s := by rw [hnl, A.len]
        simp only [fits, decide_eq_true_eq] at hf
        rw [hnn, Nat.mul_div_cancel _ hs] at hf
        have hn0 : 0 < n := by
          rcases Nat.eq_zero_or_pos n with h | h
          · rw [h, Nat.zero_mul] at hnn; omega
          · exact h
        have hrun := A.grow none 0 0 [] hn (by have := run_firstCells_none (P := P) w.drew s 0 0 0; simpa using this) (by omega) (by simpa using hf)
        have hge := grownCap_ge w (0 + n) 0 e
        have hsz := grown_size (s := s) (sLen := 0) (n := n) (olds := []) (news := news) (z := z.cells) hz (by simp) A.len hge
        obtain ⟨O', k1, k2⟩ := newRowF_ok (tmps := a.tmps) inv (Later.drew w) rfl (([] ++ news).toArray ++ Builtin.zeroCells z.cells (grownCap w (0 + n) 0 e - (0 + n))) e true (s := s) (len := 0 + n) (cap := grownCap w (0 + n) 0 e) (cs := new) hs (by rw [hnn]; simp) hge (by rw [hsz]; exact Nat.le_refl _) (by
          intro j c hj
          have hjl := getElem?_lt hj
          have hju : news[j]? = some (news[j]'(by omega)) := List.getElem?_eq_getElem (by omega)
          obtain ⟨q1, q2⟩ := hnew _ c _ hj hju
          refine ⟨q1, _, ?_, q2⟩
          rw [Array.getElem?_append_left (by simp; omega)]
          simp) h
        exact ⟨_, _, O', _, hrun, .inl rfl, k1, k2⟩
      · simp [Pr.run] at h
  -- a place's slice, up to b
  have onto : ∀ (r k gs gc b bl off cap : Nat), a.eval x = .slice (some ⟨bl, off, none⟩) (b / s) cap →
      (∀ f s' cs sp, live (env.at r) k gs gc = some (.own f s' cs sp) → s' = s → b ≤ cs.length ∧ (∃ q, b = q * s) ∧ ∃ len, hdrAt w (env.at r).2 (a.tmps.getD r undef) k = some (.slice (some ⟨bl, off, none⟩) len cap)) →
      (Pr.place r k gs gc fun z c => match c with
      | .own f s' cs sp => if s' = s then
          (if f || b == cs.length then
            (if new.length ≤ (cs.drop b ++ sp).length then
              Pr.chPl r k gc z true (if f then .gone else .pv (.sl s cs)) (Pr.put o.dst (.cv (.own f s (cs.take b ++ new) ((cs.drop b ++ sp).drop new.length))))
            else if fits s bytes (b + new.length) then
              Pr.chPl r k gc z true (if f then .gone else .pv (.sl s cs)) (Pr.put o.dst (.cv (.own f s (cs.take b ++ new) [])))
            else .fail) else .fail) else .fail
      | _ => .fail).run env = some env' → OpVal P o a w env' O := by
    intro r k gs gc b bl off cap hv hh h
    obtain ⟨y, c, hl, hg, hy, h⟩ := place_run h
    cases c with
    | own f s' cs sp =>
      simp only at h
      split at h
      · rename_i hs'
        subst hs'
        split at h
        · rename_i hfb
          simp only [Bool.or_eq_true, beq_iff_eq] at hfb
          obtain ⟨hb, hq, len, hhd⟩ := hh _ _ _ _ hl rfl
          exact onto_ok A hz hnl hnew inv hl hy hhd hb hq hv hfb h
        · simp [Pr.run] at h
      · simp [Pr.run] at h
    | _ => simp [Pr.run] at h
  cases x' with
  | con p =>
    cases p with
    | nils => exact fresh (frep_nils (hr (fun _ _ => none))) h
    | _ => simp [stepOp.appendTo, Pr.run] at h
  | tmp t' =>
    have hv : a.eval x = a.tmps.getD t' undef := hr
    have hmm := inv.mem t'
    have ha := inv.ali t'
    simp only [stepOp.appendTo, Pr.run] at h
    obtain ⟨sv, he⟩ : ∃ sv, (env.at t').2 = sv := ⟨_, rfl⟩
    rw [he] at h hmm ha
    cases sv with
    | cv c =>
      cases c with
      | pv p =>
        cases p with
        | nils => exact fresh (hv.trans (frep_nils hmm)) h
        | _ => simp [Pr.run] at h
      | own f s' cs sp =>
        obtain ⟨bl, off, len, cap, e1, hr'⟩ := hmm
        -- the element's size: the place tells it
        have h0 := h
        obtain ⟨y, c, hl, hg, hy, h1⟩ := place_run h0
        have hlc : c = .own f s' cs sp := by
          unfold live at hl
          rw [if_pos rfl, he] at hl
          simp only [if_true, Option.some.injEq] at hl
          exact hl.symm
        subst hlc
        simp only at h1
        split at h1
        · rename_i hs'
          subst hs'
          refine onto t' 0 _ 0 cs.length bl off cap (hv.trans (by rw [e1, hr'.len_eq, Nat.mul_div_cancel _ hr'.pos])) (fun f2 s2 cs2 sp2 hl2 _ => ?_) h
          rw [hl] at hl2; cases hl2
          exact ⟨Nat.le_refl _, ⟨len, hr'.len_eq⟩, len, by rw [he]; exact congrArg some e1⟩
        · simp [Pr.run] at h1
      | gone => simp [Pr.run] at h
    | ref r k gs gc =>
      simp only at h
      obtain ⟨y, c, hl, hg, hy, h⟩ := place_run h
      cases c with
      | own f s' cs sp =>
        simp only at h
        obtain ⟨bl, off, len, cap, hh, hr'⟩ := live_own inv hl
        have e1 := hh
        rw [ha.2 _ hl, Option.some.injEq] at e1
        have h0 := h
        obtain ⟨y2, c2, hl2, _, _, h1⟩ := place_run h0
        rw [hl] at hl2; cases hl2
        simp only at h1
        split at h1
        · rename_i hs'
          subst hs'
          refine onto r k gs gc cs.length bl off cap (hv.trans (by rw [e1, hr'.len_eq, Nat.mul_div_cancel _ hr'.pos])) (fun f2 s2 cs2 sp2 hl2 _ => ?_) h
          rw [hl] at hl2; cases hl2
          exact ⟨Nat.le_refl _, ⟨len, hr'.len_eq⟩, len, hh⟩
        · simp [Pr.run] at h1
      | _ => simp [Pr.run] at h
    | view r k gs gc i j =>
      simp only at h
      split at h
      · rename_i hi
        subst hi
        have h0 := h
        obtain ⟨y2, c2, hl, _, _, h1⟩ := place_run h0
        cases c2 with
        | own f s' cs sp =>
          simp only at h1
          split at h1
          · rename_i hs'
            subst hs'
            obtain ⟨hab, hb, _, hj, bl', off0, len', cap', hh', off', hvv, hoff⟩ := ha.2 f _ cs sp hl
            refine onto r k gs gc j bl' off0 cap' (hv.trans ?_) (fun f2 s2 cs2 sp2 hl2 _ => ?_) h
            · rw [hvv]
              simp only [Nat.sub_zero, Nat.zero_div, Nat.add_zero] at hoff ⊢
              rcases hoff with rfl | ⟨_, h⟩
              · rfl
              · exact absurd rfl h
            · rw [hl] at hl2; cases hl2
              exact ⟨hb, hj, len', hh'⟩
          · simp [Pr.run] at h1
        | _ => simp [Pr.run] at h1
      · simp [Pr.run] at h
    | _ => simp [Pr.run] at h

/-- The source of an append. -/
theorem src_of {str : Bool} {s : Nat} {v : PV} {u : Value} {new : List PV} {tu : TypeId} (hv : RdRep w O v u) (hrow : v.row str s = some new) (ht : if str = true then P.underlying tu = some .string else ∃ e, P.underlying tu = some (.slice e)) :
    ∃ n news, Src P s tu u n news w ∧ new.length = news.length ∧ ∀ (j : Nat) c y, new[j]? = some c → news[j]? = some y → c.isCell = true ∧ FRep (Frz w O) c y := by
  cases v with
  | nils =>
    simp only [PV.row] at hrow
    split at hrow
    · cases hrow
    · rename_i hstr
      cases hrow
      rw [if_neg hstr] at ht
      obtain ⟨e', ht⟩ := ht
      rw [rd_nils hv]
      exact ⟨0, [], Src.ofNil w ht 0, rfl, fun j c y h => by simp at h⟩
  | sl s' cs =>
    simp only [PV.row] at hrow
    split at hrow
    · cases hrow
    · rename_i hstr
      split at hrow
      · rename_i hs'
        subst hs'
        rw [Option.some.injEq] at hrow
        subst hrow
        rw [if_neg hstr] at ht
        obtain ⟨e', ht⟩ := ht
        obtain ⟨b, off, spt, len, cap, e1, hsp, hp, hl, h2, h3⟩ := hv
        subst e1
        let us : List Value := (List.range cs.length).map fun j => (cellAt w b (off + j)).getD undef
        have hul : us.length = cs.length := by simp [us]
        have huc : ∀ j c y, cs[j]? = some c → us[j]? = some y → cellAt w b (off + j) = some y ∧ c.isCell = true ∧ FRep (Frz w O) c y := by
          intro j c y hj hy
          have hjl := getElem?_lt hj
          obtain ⟨q1, u, q2, q3⟩ := h3 j c hj
          simp only [us, List.getElem?_map, List.getElem?_range hjl, Option.map_some, Option.some.injEq, q2, Option.getD_some] at hy
          subst hy
          exact ⟨q2, q1, q3⟩
        refine ⟨len, us, Src.ofSlice w ht ⟨b, off, spt⟩ len cap us (by rw [hul, hl]) (fun j y hy => ?_) (fun y hy => ?_), hul.symm, fun j c y hj hy => (huc j c y hj hy).2⟩
        · have hjl := getElem?_lt hy
          obtain rfl : spt = none := by
            rcases hsp with h | h
            · exact h
            · obtain rfl : len = 0 := by omega
              rw [hul, hl] at hjl; omega
          rw [Addr.add_mid]
          exact (huc j _ y (List.getElem?_eq_getElem (by omega)) hy).1
        · obtain ⟨j, hj⟩ := List.mem_iff_getElem?.1 hy
          have hjl := getElem?_lt hj
          obtain ⟨_, q1, q2⟩ := huc j _ y (List.getElem?_eq_getElem (by omega)) hj
          exact cell_one q1 q2
      · cases hrow
  | str b =>
    simp only [PV.row] at hrow
    split at hrow
    · rename_i hstr
      split at hrow
      · rename_i hs
        subst hs
        cases hrow
        rw [if_pos hstr] at ht
        rw [rd_str hv]
        refine ⟨b.size, byteCells b, Src.ofString w ht b, ?_, ?_⟩
        · rw [byteCells_length]; simp [bytesOf]
        · intro j c y hj hy
          unfold bytesOf at hj
          unfold byteCells at hy
          rw [List.getElem?_map, Option.map_eq_some_iff] at hj hy
          obtain ⟨q, hq, rfl⟩ := hj
          obtain ⟨q', hq', rfl⟩ := hy
          rw [hq] at hq'; cases hq'
          exact ⟨rfl, .int ..⟩
      · cases hrow
    · cases hrow
  | _ => cases hrow

theorem append_ok {F : Fns} {str : Bool} {t tu e : TypeId} {s bytes : Nat} {i : TypeInfo} {zero : List PV} {x y : Operand} {x' y' : Opd} (c : Call) (hcal : c.callee = .builtin .append) (hat : c.argTypes = #[t, tu]) (har : c.args = #[x, y])
    (ht : P.underlying t = some (.slice e)) (htu : if str = true then P.underlying tu = some .string else ∃ e, P.underlying tu = some (.slice e)) (hi : P.info? e = some i) (hs : sizeT P e = some s) (hb : i.bytes = bytes) (hb0 : bytes ≠ 0) (hz : zeroT P e = some zero)
    (ho : o.op = .call c) (hx : cOpd x = some x') (hy : cOpd y = some y') (inv : Inv env a.tmps w O) (h : (stepOp F o.dst (.append str s bytes x' y')).run env = some env') : OpVal P o a w env' O := by
  obtain ⟨i1, z, hi1, hzz, hsz, hzl, hc⟩ := zeroT_some hz
  rw [hi] at hi1; cases hi1
  obtain ⟨i', hi', hsi, hs0⟩ := sizeT_some hs
  rw [hi] at hi'; cases hi'
  subst hsi; subst hb
  simp only [stepOp] at h
  replace h := rd_run inv (cOpd_rep hy a) h
  obtain ⟨v, hv, h⟩ := h
  obtain ⟨q, hq, h⟩ := ofO_run h
  rw [Option.map_eq_some_iff] at hq
  obtain ⟨new, hnew, rfl⟩ := hq
  simp only at h
  obtain ⟨n, news, hsrc, hnl, hcell⟩ := src_of (P := P) (tu := tu) hv hnew htu
  have hinv : ∀ r : Result Value, (Builtin.append_ #[t, tu] o.type #[a.eval x, a.eval y]).run P w = r → (execOp a.eval o).run P w = r.andThen fun v w' => .ok (.value v) w' := by
    intro r hr
    simp [execOp, ho, resolve, hcal, hat, har, invoke, builtin, hr]
  have hone : ∀ q, q * i.bytes ≤ 140737488355328 → ((q : Nat) : Int) ≤ 9223372036854775807 := by
    intro q hq
    have : q ≤ q * i.bytes := Nat.le_mul_of_pos_right _ (by omega)
    omega
  have A : App P o a w i.size i.bytes z e (a.eval x) n news := by
    refine ⟨hsrc.newsLen, ?_, ?_, ?_⟩
    · intro b off sLen sCap hx1 hr hcc hf
      rw [hx1] at hinv
      rw [hinv _ (run_append_room_src (P := P) w t tu o.type e i ht hi b off sLen sCap _ n news hsrc hr hcc hf)]; rfl
    · intro hx1 hn0
      rw [hx1] at hinv
      subst hn0
      have h1 := hsrc.cells
      have h2 := hsrc.len
      rw [hinv (.ok (.slice none 0 0) w)]
      · rfl
      · rcases hsrc.kind with ⟨e', hk⟩ | hk <;> simp [Builtin.append_, run_underlying ht, run_underlying hk, sizeOf, typeInfo, hi, h2, h1]
    · intro base sLen sCap olds hx1 hold hg hfit
      rw [hx1] at hinv
      rw [hinv _ (run_append_grow_src (P := P) w t tu o.type e i z ht hi hzz base sLen sCap olds hold _ n news hsrc hg (hone _ hfit) (growslice_fits hg hfit))]; rfl
  exact appendTo_ok hx A hsz (by omega) hnl hcell inv h

theorem zeros_made (z : Array Value) (n : Nat) : Builtin.zeroCells z n = madeCells z (n * z.size) := rfl

theorem appendZ_ok {F : Fns} {t tu e : TypeId} {k : IntKind} {s bytes : Nat} {i : TypeInfo} {zero : List PV} {x y : Operand} {x' y' : Opd} (c : Call) (hcal : c.callee = .builtin .append) (hat : c.argTypes = #[t, tu]) (har : c.args = #[x, y])
    (ht : P.underlying t = some (.slice e)) (htu : P.underlying tu = some (.int k)) (hi : P.info? e = some i) (hs : sizeT P e = some s) (hb : i.bytes = bytes) (hb0 : bytes ≠ 0) (hz : zeroT P e = some zero)
    (ho : o.op = .call c) (hx : cOpd x = some x') (hy : cOpd y = some y') (inv : Inv env a.tmps w O) (h : (stepOp F o.dst (.appendZ s bytes zero x' y')).run env = some env') : OpVal P o a w env' O := by
  obtain ⟨i1, z, hi1, hzz, hsz, hzl, hc⟩ := zeroT_some hz
  rw [hi] at hi1; cases hi1
  obtain ⟨i', hi', hsi, hs0⟩ := sizeT_some hs
  rw [hi] at hi'; cases hi'
  subst hsi; subst hb
  simp only [stepOp] at h
  replace h := int_run hy inv h
  obtain ⟨kx, m', hm, h⟩ := h
  split at h
  case isFalse => simp [Pr.run] at h
  rename_i hm0
  split at h
  case isFalse => simp [Pr.run] at h
  rename_i hf
  obtain ⟨m, rfl⟩ : ∃ m : Nat, m' = m := ⟨m'.toNat, (Int.toNat_of_nonneg hm0).symm⟩
  simp only [Int.toNat_natCast] at h hf
  simp only [fits, decide_eq_true_eq] at hf
  rw [Nat.mul_div_cancel _ (by omega)] at hf
  obtain ⟨news, hnews⟩ : ∃ news, news = (Builtin.zeroCells z.cells m).toList := ⟨_, rfl⟩
  have hl : news.length = m * i.size := by rw [hnews, Array.length_toList, size_zeroCells, hsz]
  have hna : Builtin.zeroCells z.cells m = news.toArray := by rw [hnews]
  have hrl : (reps m zero).length = m * i.size := by rw [reps_len, hzl]
  have hcell : ∀ (j : Nat) c u, (reps m zero)[j]? = some c → news[j]? = some u → c.isCell = true ∧ FRep (Frz w O) c u := by
    intro j c u hj hu
    obtain ⟨q1, u', q2, q3⟩ := made_row (hsz.trans hzl.symm) (by omega) hc m (Frz w O) j c hj
    rw [hnews, zeros_made, hsz, ← hzl, Array.getElem?_toList, q2] at hu
    cases hu
    exact ⟨q1, q3⟩
  have hinv : ∀ r : Result Value, (Builtin.append_ #[t, tu] o.type #[a.eval x, .int kx m]).run P w = r → (execOp a.eval o).run P w = r.andThen fun v w' => .ok (.value v) w' := by
    intro r hr
    simp [execOp, ho, resolve, hcal, hat, har, invoke, builtin, hm, hr]
  have hone : ∀ q, q * i.bytes ≤ 140737488355328 → q ≤ 140737488355328 := by
    intro q hq
    have : q ≤ q * i.bytes := Nat.le_mul_of_pos_right _ (by omega)
    omega
  have hmle := hone _ hf
  have hw : IntKind.i64.wrap (m : Int) = m := by rw [IntKind.wrap_i64]; omega
  have hw0 : IntKind.i64.wrap 0 = 0 := by rw [IntKind.wrap_i64]; rfl
  have hneg : ¬ ((m : Int) < 0) := by omega
  have hbig : ¬ (281474976710656 < (m : Int) * (i.bytes : Int)) := by
    rw [← Int.natCast_mul]
    omega
  have hsn : i.size ≠ 0 := hs0
  have hone' : ∀ v ∈ news, v.oneCell' = true := by
    intro v hv
    obtain ⟨j, hj⟩ := List.mem_iff_getElem?.1 hv
    have hjl := getElem?_lt hj
    obtain ⟨q1, q2⟩ := hcell j _ v (List.getElem?_eq_getElem (by omega)) hj
    exact cell_one q1 q2
  have A : App P o a w i.size i.bytes z e (a.eval x) m news := by
    refine ⟨hl, ?_, ?_, ?_⟩
    · intro b off sLen sCap hx1 hr hcc hff
      rw [hx1] at hinv
      have hst := run_storeCells_cells (P := P) b (off + sLen * i.size) news 0 w (by simpa using hcc) (by simpa using hff) hone'
      simp only [Nat.add_zero] at hst
      rw [hinv (.ok (.slice (some ⟨b, off, none⟩) (sLen + m) sCap) (w.setCells b (off + sLen * i.size) news))]
      · rfl
      · by_cases hm : m = 0
        · subst hm
          have : news = [] := List.eq_nil_of_length_eq_zero (by rw [hl, Nat.zero_mul])
          subst this
          have hr' : sLen ≤ sCap := by omega
          simp [Builtin.append_, run_underlying ht, run_underlying htu, sizeOf, typeInfo, hi, Go.asInt, asIntOf, hw0, hr', Addr.add_lit, hst]
        · have hmz : ¬ (m * i.size = 0) := Nat.mul_ne_zero hm hsn
          simp [Builtin.append_, run_underlying ht, run_underlying htu, sizeOf, typeInfo, zeroValue, hi, hzz, Go.asInt, asIntOf, hw, hneg, hbig, hr, hmz, hna, Addr.add_lit, hst]
    · intro hx1 hn0
      subst hn0
      rw [hx1] at hinv
      rw [hinv (.ok (.slice none 0 0) w)]
      · rfl
      · simp [Builtin.append_, run_underlying ht, run_underlying htu, sizeOf, typeInfo, hi, Go.asInt, asIntOf, hw0]
    · intro base sLen sCap olds hx1 hold hg hfit
      rw [hx1] at hinv
      rw [hinv (.ok (.slice (some ⟨w.heap.size, 0, none⟩) (sLen + m) (grownCap w (sLen + m) sCap e)) (w.drew.alloc (.cells ((olds ++ news).toArray ++ Builtin.zeroCells z.cells (grownCap w (sLen + m) sCap e - (sLen + m))) e)))]
      · rfl
      · have hle := hone _ hfit
        have hn : ¬ (sLen + m ≤ sCap) := by omega
        have h63' : ¬ (9223372036854775807 < ((sLen : Int) + (m : Int))) := by omega
        have hfit' := growslice_fits hg hfit
        have h48' : ¬ (281474976710656 < Builtin.nextslicecap (sLen + m) sCap * i.bytes) := by omega
        by_cases hm : m = 0
        · have hnl : news = [] := List.eq_nil_of_length_eq_zero (by rw [hl, hm, Nat.zero_mul])
          subst hm
          rw [hnl]
          simp only [Nat.add_zero] at hn h63' h48' ⊢
          have h63'' : ¬ (9223372036854775807 < (sLen : Int)) := by omega
          simp [Builtin.append_, run_underlying ht, run_underlying htu, sizeOf, typeInfo, zeroValue, hi, hzz, Go.asInt, asIntOf, hw0, hn, h63'', h48', Question.forced, hold, newRow, grownCap]
        · have hmz : ¬ (m * i.size = 0) := Nat.mul_ne_zero hm hsn
          simp [Builtin.append_, run_underlying ht, run_underlying htu, sizeOf, typeInfo, zeroValue, hi, hzz, Go.asInt, asIntOf, hw, hneg, hbig, hn, h63', h48', Question.forced, hold, newRow, grownCap, hmz, hna]
          congr 2
          apply Array.ext'
          simp [List.append_assoc]
  exact appendTo_ok hx A hsz (by omega) (by rw [hrl, hl]) hcell inv h


/-- The row's block bears the run-time's mark: behind its last cell. -/
theorem cvSame_ok {F : Fns} {t e : TypeId} {x : Operand} {y : Opd} (ho : o.op = .convert t t x) (ht : P.underlying t = some (.slice e)) (he : P.underlying e = some (.int .u8)) (hx : cOpd x = some y)
    (inv : Inv env a.tmps w O) (h : (stepOp F o.dst (.cvSame y)).run env = some env') : OpVal P o a w env' O := by
  have hr := cOpd_rep hx a
  cases y with
  | con p => simp [stepOp, Pr.run] at h
  | tmp t' =>
    have hv : a.eval x = a.tmps.getD t' undef := hr
    have hmm := inv.mem t'
    have ha := inv.ali t'
    simp only [stepOp] at h
    split at h
    · simp [Pr.run] at h
    · rename_i hne
      simp only [Pr.run] at h
      split at h
      · rename_i s c cs sp he2
        simp only [Pr.run] at h
        have hm2 := hmm
        rw [he2] at hm2
        obtain ⟨bl, off, len, cap, e1, hr'⟩ := hm2
        obtain ⟨O', h1, h2⟩ := moveRoot inv t' o.dst hne _ (.inl (Nat.lt_succ_self _)) (by rw [he2]; exact h) ha
        have hroom := hr'.room
        have hpos : 0 < cap * s := by simp at hroom; omega
        obtain ⟨⟨u, hu⟩, hfz⟩ := hr'.cell 0 hpos
        have hown := hr'.mine 0 hpos (.inl rfl)
        -- the block
        obtain ⟨C, el, lo, hi, hblk⟩ : ∃ C el lo hi, w.heap[bl]? = some (.cells C el (lo, hi)) := by
          unfold cellAt World.cell? at hu
          split at hu
          · rename_i c1 e1 fr hb
            exact ⟨c1, e1, fr.1, fr.2, hb⟩
          · cases hu
        have hclear : lo = hi ∨ C.size ≤ lo := by
          unfold frozenAt at hfz
          rw [hblk] at hfz
          by_cases hlh : lo = hi
          · exact .inl hlh
          · right; simp [hlh] at hfz; exact hfz
        have hrun : (execOp a.eval o).run P w = .ok (.value (a.eval x)) (w.freeze ⟨bl, C.size, none⟩ 1) := by
          have hsh : w.shape? bl = some (el, C.size) := by unfold World.shape?; rw [hblk]
          simp [execOp, ho, convert, run_underlying ht, run_underlying he, hv, e1, markStringish, hsh]
        generalize hw' : w.freeze ⟨bl, C.size, none⟩ 1 = w' at hrun
        have hos : w'.os = w.os ∧ w'.tape = w.tape ∧ w'.output = w.output ∧ w'.heap.size = w.heap.size := by
          rw [← hw']; unfold World.freeze; rw [if_neg (by decide)]; simp
        have hother : ∀ b, b ≠ bl → w'.heap[b]? = w.heap[b]? := by
          intro b hb
          rw [← hw']; unfold World.freeze; rw [if_neg (by decide)]
          simp only [Array.getElem?_modify]
          rw [if_neg (fun e => hb e.symm)]
        have hsame : ∃ l h, w'.heap[bl]? = some (.cells C el (l, h)) ∧ (l = h ∨ C.size ≤ l) := by
          rw [← hw']; unfold World.freeze; rw [if_neg (by decide)]
          simp only [Array.getElem?_modify, if_true, hblk, Option.map_some]
          refine ⟨_, _, rfl, ?_⟩
          right
          have hF : ∀ b : Bool, (b = true ∨ C.size ≤ lo) → C.size ≤ (if b = true then (C.size, C.size + 1) else (min lo C.size, max hi (C.size + 1))).1 := by
            intro b h
            cases b with
            | true => exact Nat.le_refl _
            | false =>
              rcases h with h | h
              · cases h
              · show C.size ≤ min lo C.size
                omega
          exact hF (lo == hi) (hclear.imp (fun h => by simp [h]) id)
        have hcell : ∀ b o', cellAt w' b o' = cellAt w b o' ∧ frozenAt w' b o' = frozenAt w b o' := by
          intro b o'
          by_cases hb : b = bl
          · subst hb
            obtain ⟨l, h, hb', hcl⟩ := hsame
            unfold cellAt frozenAt World.cell?
            simp only [hb', hblk]
            refine ⟨trivial, ?_⟩
            rcases hcl with h | h <;> rcases hclear with h' | h' <;> simp [h, h']
          · unfold cellAt frozenAt World.cell?
            simp only [hother b hb]
            exact ⟨trivial, trivial⟩
        have hk : Keep (fun _ => False) w O' w' O' := fun b o' u hu _ => ⟨(hcell b o').1.trans hu, rfl, (hcell b o').2⟩
        have hinv' : Inv env' (putT a.tmps o.dst (a.tmps.getD t' undef)) w' O' :=
          h1.make (fun _ => False) _ h1.len (fun b o' q hq => by rw [hos.2.2.2]; exact h1.bnd b o' q hq) hk (fun _ _ _ _ h => h) (fun _ _ => ⟨rfl, rfl⟩) (fun _ h => h.elim) (fun _ h => h.elim) (fun _ h => h.elim)
        have hev : Evo w O w' O' := ⟨hos.1, hos.2.1, hos.2.2.1, by rw [hos.2.2.2]; exact Nat.le_refl _, fun b hb hn => hother b (fun e => by subst e; rw [hn] at hown; cases hown),
          fun b o' hb hn => ⟨(h2.cell b o' hb hn).1, (hcell b o').1, (hcell b o').2⟩,
          fun b o' u hu ho => ⟨(hcell b o').1.trans hu, (h2.ext b o' u hu ho).2.1, (hcell b o').2⟩⟩
        exact ⟨_, w', O', _, hrun, .inl rfl, by rw [hv]; exact hinv', hev⟩
      · simp [Pr.run] at h
end

section
/- Every compiled operation that is no call: what it yields is what the pure machine says. -/

variable {P : Program} {o : Oper} {a : Act} {w : World} {env env' : Env} {O : Owns}

def POp.isCall : POp → Bool
  | .call .. => true
  | _ => false

theorem mapM_build {α β : Type} {f : α → Option β} {l : List α} {r : List β} (h : l.mapM f = some r) : r.length = l.length ∧ ∀ (i : Nat) b, r[i]? = some b → ∃ a, l[i]? = some a ∧ f a = some b := mapM_some h

theorem mapM_conv {α β : Type} {f : α → Option β} : ∀ {l : List α} {r : List β}, l.mapM f = some r → ∀ (i : Nat) a, l[i]? = some a → ∃ b, r[i]? = some b ∧ f a = some b := by
  intro l r h i a ha
  obtain ⟨h1, h2⟩ := mapM_some h
  have hi := getElem?_lt ha
  have hb : r[i]? = some (r[i]'(by omega)) := List.getElem?_eq_getElem (by omega)
  obtain ⟨a', ha', hf⟩ := h2 i _ hb
  rw [ha] at ha'; cases ha'
  exact ⟨_, hb, hf⟩

theorem op_ok {F : Fns} {tk : List Bool} {p : POp} (hc : cOp P tk o.op = some p) (hn : p.isCall = false) (inv : Inv env a.tmps w O) (h : (stepOp F o.dst p).run env = some env') : OpVal P o a w env' O := by
  cases hop : o.op with
  | move x =>
    rw [hop] at hc
    simp only [cOp, Option.map_eq_some_iff] at hc
    obtain ⟨y, hy, rfl⟩ := hc
    exact mv_ok hop hy inv h
  | assign x =>
    rw [hop] at hc
    simp only [cOp, Option.map_eq_some_iff] at hc
    obtain ⟨y, hy, rfl⟩ := hc
    exact asg_ok hop hy inv h
  | pick c x y =>
    rw [hop] at hc
    simp only [cOp, Option.bind_eq_bind, Option.bind_eq_some_iff, Option.some.injEq] at hc
    obtain ⟨c', h1, x', h2, y', h3, rfl⟩ := hc
    exact pick_ok hop h1 h2 h3 inv h
  | alloc t =>
    rw [hop] at hc
    simp only [cOp, Option.bind_eq_bind, Option.bind_eq_some_iff] at hc
    obtain ⟨s, h1, hc⟩ := hc
    split at hc
    · cases hc
    · simp only [Option.bind_eq_some_iff, Option.some.injEq] at hc
      obtain ⟨z, h2, rfl⟩ := hc
      exact alloc_ok hop h2 inv h
  | box t x =>
    rw [hop] at hc
    simp only [cOp, Option.map_eq_some_iff] at hc
    obtain ⟨y, hy, rfl⟩ := hc
    exact box_ok hop hy inv h
  | build t parts =>
    rw [hop] at hc
    simp only [cOp, Option.bind_eq_bind, Option.bind_eq_some_iff] at hc
    obtain ⟨zero, hz, hc⟩ := hc
    split at hc
    · rename_i fs ht
      simp only [Option.bind_eq_some_iff, Option.some.injEq] at hc
      obtain ⟨infos, hinf, ps, hps, rfl⟩ := hc
      obtain ⟨q1, q2⟩ := mapM_some hps
      -- where the fields lie
      have hpl : fs.toList.mapM (fun f => (P.info? f.type).map fun i => (f.offset, i.size)) = some ((fs.toList.zip infos).map fun x => (x.1.offset, x.2.size)) := by
        clear hps q1 q2 h
        generalize fs.toList = l at hinf
        induction l generalizing infos with
        | nil => simp at hinf ⊢
        | cons f l ih =>
          simp only [List.mapM_cons, Option.bind_eq_bind, Option.bind_eq_some_iff, Option.pure_def, Option.some.injEq] at hinf
          obtain ⟨i, hi, is, his, rfl⟩ := hinf
          simp [List.mapM_cons, hi, ih _ his]
      refine build_ok (place := (((fs.toList.zip infos).map fun x => (x.1.offset, x.2.size)).toArray[·]?)) hop hz ⟨q1, fun i q hq => ?_⟩ (fun z i hi hz' X => ?_) inv h
      · obtain ⟨p, hp, hf⟩ := q2 i q hq
        simp only [Option.bind_eq_some_iff, Option.some.injEq] at hf
        obtain ⟨f, hf1, s, hs, y, hy, rfl⟩ := hf
        obtain ⟨i', hi', hsi, hs0⟩ := sizeT_some hs
        refine ⟨p, hp, ?_, hs0, hy⟩
        obtain ⟨inf, hinf', hinfe⟩ := mapM_conv hinf p.1 f (by simpa using hf1)
        rw [hi'] at hinfe; cases hinfe
        simp only [List.getElem?_toArray, List.getElem?_map]
        have : (fs.toList.zip infos)[p.1]? = some (f, i') := by
          rw [List.getElem?_zip_eq_some]; exact ⟨by simpa using hf1, hinf'⟩
        rw [this]; simp [hsi]
      · unfold Program.built
        simp only [hi, ht, hz', hpl]
    · rename_i n e ht
      simp only [Option.bind_eq_some_iff, Option.some.injEq] at hc
      obtain ⟨s, hs, ps, hps, rfl⟩ := hc
      obtain ⟨i', hi', hsi, hs0⟩ := sizeT_some hs
      obtain ⟨q1, q2⟩ := mapM_some hps
      refine build_ok (place := fun i => some (i * s, s)) hop hz ⟨q1, fun i q hq => ?_⟩ (fun z i hi hz' X => ?_) inv h
      · obtain ⟨p, hp, hf⟩ := q2 i q hq
        simp only [Option.bind_eq_some_iff, Option.some.injEq] at hf
        obtain ⟨y, hy, rfl⟩ := hf
        exact ⟨p, hp, rfl, hs0, hy⟩
      · unfold Program.built
        simp only [hi, ht, hz', hi', hsi]
    · cases hc
  | buildSlice t len parts =>
    rw [hop] at hc
    simp only [cOp] at hc
    split at hc
    · rename_i e ht
      simp only [Option.bind_eq_bind, Option.bind_eq_some_iff] at hc
      obtain ⟨s, hs, hc⟩ := hc
      split at hc
      · cases hc
      · rename_i hsm
        simp only [Option.bind_eq_some_iff, Option.some.injEq] at hc
        obtain ⟨ps, hps, z, hz, rfl⟩ := hc
        obtain ⟨q1, q2⟩ := mapM_some hps
        refine bsl_ok hop ht hs hsm hz ⟨by simpa using q1, fun i q hq => ?_⟩ inv h
        obtain ⟨p, hp, hf⟩ := q2 i q hq
        simp only [Option.bind_eq_some_iff, Option.some.injEq] at hf
        obtain ⟨y, hy, rfl⟩ := hf
        exact ⟨p, by simpa using hp, rfl, hy⟩
    · cases hc
  | load t x =>
    rw [hop] at hc
    simp only [cOp, Option.bind_eq_bind, Option.bind_eq_some_iff, Option.some.injEq] at hc
    obtain ⟨n, h1, y, h2, rfl⟩ := hc
    exact load_ok hop h1 h2 inv h
  | store t x y =>
    rw [hop] at hc
    simp only [cOp, Option.bind_eq_bind, Option.bind_eq_some_iff, Option.some.injEq] at hc
    obtain ⟨n, h1, x', h2, y', h3, rfl⟩ := hc
    exact store_ok hop h1 h2 h3 inv h
  | nilCheck x =>
    rw [hop] at hc
    simp only [cOp, Option.map_eq_some_iff] at hc
    obtain ⟨y, hy, rfl⟩ := hc
    exact nilck_ok hop hy inv h
  | binOp op t x y u =>
    rw [hop] at hc
    have eqs : ∀ neg, op = (if neg then .neq else .eql) → cEq P neg t x y = some p → OpVal P o a w env' O := by
      intro neg hneg hc
      unfold cEq at hc
      have hbin : ∀ x' y', cOpd x = some x' → cOpd y = some y' → POp.bin (if neg = true then .neq else .eql) x' y' = p → OpVal P o a w env' O := by
        intro x' y' h1 h2 e
        subst e
        rw [← hneg] at h
        exact bin_ok hop h1 h2 inv h
      split at hc
      · simp only [Option.bind_eq_bind, Option.bind_eq_some_iff, Option.some.injEq] at hc
        obtain ⟨x', h1, y', h2, e⟩ := hc
        exact hbin x' y' h1 h2 e
      · simp only [Option.bind_eq_bind, Option.bind_eq_some_iff, Option.some.injEq] at hc
        obtain ⟨x', h1, y', h2, e⟩ := hc
        exact hbin x' y' h1 h2 e
      · rename_i ht
        simp only [Option.bind_eq_bind, Option.bind_eq_some_iff, Option.some.injEq] at hc
        obtain ⟨x', h1, y', h2, rfl⟩ := hc
        exact eqB_ok hneg ht hop h1 h2 inv h
      · rename_i e ht
        split at hc
        · rename_i hnil
          simp only [Option.bind_eq_bind, Option.bind_eq_some_iff, Option.some.injEq] at hc
          obtain ⟨x', h1, rfl⟩ := hc
          exact eqNil_ok hneg ht hop h1 hnil inv h
        · cases hc
      · cases hc
    simp only [cOp] at hc
    split at hc
    · exact eqs false rfl hc
    · exact eqs true rfl hc
    · simp only [Option.bind_eq_bind, Option.bind_eq_some_iff, Option.some.injEq] at hc
      obtain ⟨x', h1, y', h2, rfl⟩ := hc
      exact bin_ok hop h1 h2 inv h
  | unOp op t x =>
    rw [hop] at hc
    simp only [cOp, Option.map_eq_some_iff] at hc
    obtain ⟨y, hy, rfl⟩ := hc
    exact un_ok hop hy inv h
  | convert src dst x =>
    rw [hop] at hc
    simp only [cOp] at hc
    split at hc
    · rename_i h1 h2
      simp only [Option.map_eq_some_iff] at hc
      obtain ⟨y, hy, rfl⟩ := hc
      exact cvInt_ok h1 h2 hop hy inv h
    · rename_i h1 h2
      simp only [Option.map_eq_some_iff] at hc
      obtain ⟨y, hy, rfl⟩ := hc
      exact cvStr_ok h1 h2 hop hy inv h
    · rename_i e h1 h2
      simp only [Option.ite_none_right_eq_some, Option.map_eq_some_iff] at hc
      obtain ⟨he, y, hy, rfl⟩ := hc
      simp only [Bool.and_eq_true] at he
      have he' : P.underlying e = some (.int .u8) := by
        have := he.1.1
        split at this
        · assumption
        · cases this
      exact cvBytes_ok hop h1 h2 he' hy inv h
    · rename_i e0 e h1 h2
      simp only [Option.ite_none_right_eq_some, Option.map_eq_some_iff] at hc
      obtain ⟨he, y, hy, rfl⟩ := hc
      simp only [Bool.and_eq_true, beq_iff_eq] at he
      obtain ⟨hsd, he⟩ := he
      subst hsd
      have he' : P.underlying e = some (.int .u8) := by
        split at he
        · assumption
        · cases he
      exact cvSame_ok hop h2 he' hy inv h
    · rename_i e h1 h2
      simp only [Option.ite_none_right_eq_some, Option.map_eq_some_iff] at hc
      obtain ⟨he, y, hy, rfl⟩ := hc
      have he' : P.underlying e = some (.int .u8) := by
        split at he
        · assumption
        · cases he
      exact cvText_ok h1 h2 he' hop hy inv h
    · cases hc
  | slice t x lo hi mx =>
    rw [hop] at hc
    simp only [cOp] at hc
    split at hc
    · cases hc
    · split at hc
      · rename_i ht
        simp only [Option.bind_eq_bind, Option.bind_eq_some_iff, Option.some.injEq] at hc
        obtain ⟨y, h1, lo', h2, hi', h3, rfl⟩ := hc
        exact sliceS_ok hop ht h1 h2 h3 inv h
      · rename_i e ht
        simp only [Option.bind_eq_bind, Option.bind_eq_some_iff, Option.some.injEq] at hc
        obtain ⟨s, hs, y, h1, lo', h2, hi', h3, rfl⟩ := hc
        exact slice_ok hop ht hs h1 h2 h3 inv h
      · cases hc
  | fieldAddr t x fi =>
    rw [hop] at hc
    simp only [cOp] at hc
    split at hc
    · rename_i fs ht
      simp only [Option.bind_eq_bind, Option.bind_eq_some_iff, Option.some.injEq] at hc
      obtain ⟨f, h1, s, h2, y, h3, rfl⟩ := hc
      exact faddr_ok hop ht h1 h2 h3 inv h
    · cases hc
  | field t x fi =>
    rw [hop] at hc
    simp only [cOp] at hc
    split at hc
    · rename_i fs ht
      simp only [Option.bind_eq_bind, Option.bind_eq_some_iff, Option.some.injEq] at hc
      obtain ⟨f, h1, n, h2, y, h3, rfl⟩ := hc
      exact field_ok hop ht h1 h2 h3 inv h
    · cases hc
  | indexAddr t x i =>
    rw [hop] at hc
    simp only [cOp] at hc
    split at hc
    · rename_i n e ht
      simp only [Option.bind_eq_bind, Option.bind_eq_some_iff, Option.some.injEq] at hc
      obtain ⟨s, h1, y, h2, j, h3, rfl⟩ := hc
      exact iaddrA_ok hop ht h1 h2 h3 inv h
    · rename_i e ht
      simp only [Option.bind_eq_bind, Option.bind_eq_some_iff, Option.some.injEq] at hc
      obtain ⟨s, h1, y, h2, j, h3, rfl⟩ := hc
      exact iaddrS_ok hop ht h1 h2 h3 inv h
    · cases hc
  | index t x i =>
    rw [hop] at hc
    simp only [cOp] at hc
    split at hc
    · rename_i ht
      simp only [Option.bind_eq_bind, Option.bind_eq_some_iff, Option.some.injEq] at hc
      obtain ⟨y, h2, j, h3, rfl⟩ := hc
      exact indexS_ok hop ht h2 h3 inv h
    · rename_i n e ht
      simp only [Option.bind_eq_bind, Option.bind_eq_some_iff, Option.some.injEq] at hc
      obtain ⟨s, h1, m, h4, y, h2, j, h3, rfl⟩ := hc
      exact indexA_ok hop ht h1 h4 h2 h3 inv h
    · cases hc
  | extract x i =>
    rw [hop] at hc
    simp only [cOp, Option.map_eq_some_iff] at hc
    obtain ⟨y, hy, rfl⟩ := hc
    exact extract_ok hop hy inv h
  | makeSlice t len cap =>
    rw [hop] at hc
    simp only [cOp] at hc
    split at hc
    · rename_i e ht
      simp only [Option.bind_eq_bind, Option.bind_eq_some_iff] at hc
      obtain ⟨i, hi, hc⟩ := hc
      split at hc
      · cases hc
      · rename_i hb
        simp only [Option.bind_eq_some_iff, Option.some.injEq] at hc
        obtain ⟨s, h1, z, h2, l, h3, c, h4, rfl⟩ := hc
        exact mkslice_ok hop ht hi rfl hb h1 h2 h3 h4 inv h
    · cases hc
  | call c =>
    rw [hop] at hc
    simp only [cOp] at hc
    split at hc
    · simp only [Option.map_eq_some_iff] at hc
      obtain ⟨_, _, rfl⟩ := hc
      cases hn
    · rename_i hcal
      split at hc
      · rename_i t x ht0 hx0
        split at hc
        · rename_i ht
          simp only [Option.map_eq_some_iff] at hc
          obtain ⟨y, hy, rfl⟩ := hc
          exact lenS_ok c hcal ht0 hx0 ht hop hy inv h
        · rename_i e ht
          simp only [Option.map_eq_some_iff] at hc
          obtain ⟨y, hy, rfl⟩ := hc
          exact len_ok c hcal ht0 hx0 ht hop hy inv h
        · rename_i n e ht
          simp only [Option.some.injEq] at hc
          subst hc
          exact lenC_ok c hcal ht0 hx0 ht hop inv h
        · cases hc
      · cases hc
    · rename_i hcal
      simp only [Option.bind_eq_bind, Option.bind_eq_some_iff] at hc
      obtain ⟨l, hl, hc⟩ := hc
      split at hc
      · simp only [Option.some.injEq] at hc
        subst hc
        exact minmax_ok (mx := false) c hcal hop hl (by simp) inv h
      · cases hc
    · rename_i hcal
      simp only [Option.bind_eq_bind, Option.bind_eq_some_iff] at hc
      obtain ⟨l, hl, hc⟩ := hc
      split at hc
      · simp only [Option.some.injEq] at hc
        subst hc
        exact minmax_ok (mx := true) c hcal hop hl (by simp) inv h
      · cases hc
    · rename_i hcal
      split at hc
      · rename_i t u x y hat har
        have hat' : c.argTypes = #[t, u] := Array.ext' hat
        have har' : c.args = #[x, y] := Array.ext' har
        split at hc
        · rename_i e ht
          split at hc
          · rename_i k hu
            simp only [Option.bind_eq_bind, Option.bind_eq_some_iff] at hc
            obtain ⟨i, hi, s, hs, hc⟩ := hc
            split at hc
            · cases hc
            · rename_i hb
              simp only [Option.bind_eq_some_iff, Option.some.injEq] at hc
              obtain ⟨z, hz, x', hx, y', hy, rfl⟩ := hc
              exact appendZ_ok c hcal hat' har' ht hu hi hs rfl hb hz hop hx hy inv h
          · rename_i hu
            simp only [Option.bind_eq_bind, Option.bind_eq_some_iff] at hc
            obtain ⟨i, hi, s, hs, z, hz, hc⟩ := hc
            split at hc
            · cases hc
            · rename_i hb
              simp only [Option.bind_eq_some_iff, Option.some.injEq] at hc
              obtain ⟨x', hx, y', hy, rfl⟩ := hc
              exact append_ok (str := true) c hcal hat' har' ht hu hi hs rfl hb hz hop hx hy inv h
          · rename_i e' hu
            simp only [Option.bind_eq_bind, Option.bind_eq_some_iff] at hc
            obtain ⟨i, hi, s, hs, z, hz, hc⟩ := hc
            split at hc
            · cases hc
            · rename_i hb
              simp only [Option.bind_eq_some_iff, Option.some.injEq] at hc
              obtain ⟨x', hx, y', hy, rfl⟩ := hc
              exact append_ok (str := false) c hcal hat' har' ht ⟨e', hu⟩ hi hs rfl hb hz hop hx hy inv h
          · cases hc
        · cases hc
      · cases hc
    · cases hc
  | _ => rw [hop] at hc; cases hc
end
end Go.Proofs.Ytcngkdickmahhaa
