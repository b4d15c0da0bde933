/- Calls, regions, code, functions. -/
import Derived.Test.YtcngkdickmahhaaL2
import Derived.Laws.Sem
namespace Go.Proofs.Ytcngkdickmahhaa
section
/- Calls: what is handed on. -/

variable {P : Program} {w : World} {env env' : Env} {O : Owns} {tmps : Array Value}

/-- What goes from one function to another: its value, the names of its owners. -/
structure Item where
  x : PX
  v : Value
  bx : Owner
  nm : Nat → Owner

/-- The cells that hold owned slices. -/
def PX.rowAt (x : PX) (i : Nat) : Prop :=
  match x with
  | .c y => PV.isRow y = true ∧ i = 0
  | .s cs => ∃ y, cs[i]? = some y ∧ PV.isRow y = true
  | .b cs => ∃ y, cs[i]? = some y ∧ PV.isRow y = true

def PX.isBox : PX → Bool
  | .b _ => true
  | _ => false

def IRep (w : World) (O : Owns) (x : PX) (v : Value) (bx : Owner) (nm : Nat → Owner) : Prop :=
  match x with
  | .c c => CRep w O (nm 0) c v
  | .s cs => ∃ vs : Array Value, v = .agg vs ∧ vs.size = cs.length ∧ ∀ (i : Nat) c, cs[i]? = some c → ∃ u, vs[i]? = some u ∧ CellRep w O (nm i) c u
  | .b cs => ∃ b, v = .pointer (some ⟨b, 0, none⟩) ∧ ∀ (i : Nat) c, cs[i]? = some c → O b i = some bx ∧ frozenAt w b i = false ∧ ∃ u, cellAt w b i = some u ∧ CellRep w O (nm i) c u

/-- The names that an item bears. -/
def INames (x : PX) (bx : Owner) (nm : Nat → Owner) (q : Owner) : Prop := (x.isBox = true ∧ q = bx) ∨ ∃ i, x.rowAt i ∧ q = nm i

structure ILoose (env : Env) (x : PX) (bx : Owner) (nm : Nat → Owner) : Prop where
  next : ∀ q, INames x bx nm q → q ≠ .ext
  free : ∀ q, INames x bx nm q → ∀ t, ¬ Uses t (env.at t).2 q
  inj : ∀ i j, x.rowAt i → x.rowAt j → nm i = nm j → i = j
  nobox : x.isBox = false

/-- The header in a place, told by the slot's value alone. -/
def hdrV (w : World) (v : Value) (j i : Nat) : Option Value :=
  match v with
  | .slice .. => some v
  | .tuple vs => vs[j]?
  | .pointer (some a) => cellAt w a.block i
  | _ => none

/-- A view of the place whose owner is (r, j, i). -/
def VRep (w : World) (O : Owns) (tmps : Array Value) (p : Nat × Nat × Nat) (x : PX) (v : Value) : Prop :=
  ∃ s cs bl off len cap, x = .c (.pv (.sl s cs)) ∧ v = .slice (some ⟨bl, off, none⟩) len cap ∧ 0 < s ∧ cs.length = len * s ∧ len ≤ cap ∧ RowAt (Frz w O) (cellAt w) bl off cs ∧
    (∀ k, k < cs.length → O bl (off + k) = none ∨ O bl (off + k) = some (.pl p.1 p.2.1 p.2.2)) ∧
    (cs = [] ∨ ∃ off0 len0 cap0, hdrV w (tmps.getD p.1 undef) p.2.1 p.2.2 = some (.slice (some ⟨bl, off0, none⟩) len0 cap0) ∧ off0 ≤ off ∧ off + cs.length ≤ off0 + len0 * s)

def ARg (env : Env) (w : World) (O : Owns) (tmps : Array Value) (g : GArg) (it : Item) : Prop :=
  match g with
  | .v x none => it.x = x ∧ IRep w O x it.v it.bx it.nm ∧ ILoose env x it.bx it.nm
  | .v x (some p) => it.x = x ∧ VRep w O tmps p x it.v
  | .b r => it.v = tmps.getD r undef ∧ it.bx = .box r ∧ it.nm = fun k => .pl r 0 k

theorem irep_slot {t : Nat} {x : PX} {v : Value} : IRep w O x v (.box t) (fun k => .pl t 0 k) ↔ MRep w O t x.slot.2 v := by
  cases x with
  | c c => exact Iff.rfl
  | s cs => exact Iff.rfl
  | b cs =>
    constructor
    · rintro ⟨b, hv, hc⟩
      refine ⟨b, hv, fun i p hp => ?_⟩
      rw [List.getElem?_map, Option.map_eq_some_iff] at hp
      obtain ⟨c, hc', rfl⟩ := hp
      exact hc i c hc'
    · rintro ⟨b, hv, hc⟩
      exact ⟨b, hv, fun i c hc' => hc i (0, c) (by rw [List.getElem?_map, hc']; rfl)⟩

theorem inames_slot {t : Nat} {x : PX} {q : Owner} : INames x (.box t) (fun k => .pl t 0 k) q ↔ Uses t x.slot.2 q := by
  cases x with
  | c c =>
    constructor
    · rintro (⟨h, _⟩ | ⟨i, ⟨h, rfl⟩, rfl⟩)
      · cases h
      · exact ⟨h, rfl⟩
    · rintro ⟨h, rfl⟩
      exact .inr ⟨0, ⟨h, rfl⟩, rfl⟩
  | s cs =>
    constructor
    · rintro (⟨h, _⟩ | ⟨i, ⟨c, h, h'⟩, rfl⟩)
      · cases h
      · exact ⟨i, c, h, h', rfl⟩
    · rintro ⟨i, c, h, h', rfl⟩
      exact .inr ⟨i, ⟨c, h, h'⟩, rfl⟩
  | b cs =>
    constructor
    · rintro (⟨_, rfl⟩ | ⟨i, ⟨c, h, h'⟩, rfl⟩)
      · exact .inl rfl
      · exact .inr ⟨i, (0, c), by rw [List.getElem?_map, h]; rfl, h', rfl⟩
    · rintro (rfl | ⟨i, p, h, h', rfl⟩)
      · exact .inl ⟨rfl, rfl⟩
      · rw [List.getElem?_map, Option.map_eq_some_iff] at h
        obtain ⟨c, hc, rfl⟩ := h
        exact .inr ⟨i, ⟨c, hc, h'⟩, rfl⟩

theorem IRep.keep {T : Owner → Prop} {w' : World} {O' : Owns} (h : Keep T w O w' O') {x : PX} {v : Value} {bx : Owner} {nm : Nat → Owner} (hp : ∀ q, INames x bx nm q → ¬ T q) (r : IRep w O x v bx nm) : IRep w' O' x v bx nm := by
  cases x with
  | c c => exact CRep.keep h (fun hr => hp _ (.inr ⟨0, ⟨hr, rfl⟩, rfl⟩)) r
  | s cs =>
    obtain ⟨vs, hv, hs, hc⟩ := r
    refine ⟨vs, hv, hs, fun i c hi => ?_⟩
    obtain ⟨u, hu, h1, h2⟩ := hc i c hi
    exact ⟨u, hu, h1, h2.keep h (fun hr => hp _ (.inr ⟨i, ⟨c, hi, hr⟩, rfl⟩))⟩
  | b cs =>
    obtain ⟨b, hv, hc⟩ := r
    refine ⟨b, hv, fun i c hi => ?_⟩
    obtain ⟨h1, h2, u, hu, h3, h4⟩ := hc i c hi
    obtain ⟨k1, k2, k3⟩ := h b i u hu (by rw [h1]; intro q hq; cases hq; exact hp _ (.inl ⟨rfl, rfl⟩))
    exact ⟨k2.trans h1, k3.trans h2, u, k1, h3, h4.keep h (fun hr => hp _ (.inr ⟨i, ⟨c, hi, hr⟩, rfl⟩))⟩

theorem VRep.gh {env1 : Env} {O1 : Owns} (g : Gh tmps w env O env1 O1) {p : Nat × Nat × Nat} {x : PX} {v : Value} (h : VRep w O tmps p x v) : VRep w O1 tmps p x v := by
  obtain ⟨s, cs, bl, off, len, cap, e1, e2, h0, h1, h2, h3, h4, h5⟩ := h
  refine ⟨s, cs, bl, off, len, cap, e1, e2, h0, h1, h2, h3.mono g.frz (fun _ _ _ h => h), fun k hk => ?_, h5⟩
  cases ho : O1 bl (off + k) with
  | none => exact .inl rfl
  | some q =>
    have := g.sub _ _ _ ho
    rcases h4 k hk with h | h
    · rw [h] at this; cases this
    · rw [h] at this; exact .inr this.symm

theorem ARg.gh {env1 : Env} {O1 : Owns} (gg : Gh tmps w env O env1 O1) {g : GArg} {it : Item} (h : ARg env w O tmps g it) : ARg env1 w O1 tmps g it := by
  cases g with
  | v x src =>
    cases src with
    | none =>
      obtain ⟨h1, h2, h3⟩ := h
      exact ⟨h1, h2.keep gg.keep (fun q hq ⟨t, ht⟩ => h3.free q hq t ht), ⟨h3.next, fun q hq t ht => h3.free q hq t (gg.uses t q ht), h3.inj, h3.nobox⟩⟩
    | some p => exact ⟨h.1, h.2.gh gg⟩
  | b r => exact h

theorem ILoose.pv {x : PV} {bx : Owner} {nm : Nat → Owner} : ILoose env (.c (.pv x)) bx nm := by
  have no : ∀ q, ¬ INames (.c (.pv x)) bx nm q := by
    rintro q (⟨h, _⟩ | ⟨i, ⟨h, _⟩, _⟩) <;> cases h
  exact ⟨fun q hq => (no q hq).elim, fun q hq => (no q hq).elim, fun i j hi => by (cases hi.1), rfl⟩

theorem own_row {p : Owner} {f : Bool} {s : Nat} {cs sp : List PV} {b off len cap : Nat} (r : OwnRep w O p f s cs sp b off len cap) : RowAt (Frz w O) (cellAt w) b off cs := by
  intro j c hj
  exact r.row j c (by rw [List.getElem?_append_left (getElem?_lt hj)]; exact hj)

theorem own_row_frz {p : Owner} {s : Nat} {cs sp : List PV} {b off len cap : Nat} (r : OwnRep w O p false s cs sp b off len cap) : RowAt (Frz w O) (Frz w O) b off cs := by
  intro j c hj
  obtain ⟨h1, u, h2, h3⟩ := own_row r j c hj
  refine ⟨h1, u, ?_, h3⟩
  unfold Frz
  rw [if_pos (r.free rfl j (getElem?_lt hj))]; exact h2

theorem own_loose {c : CV} {p : Owner} (hp : p ≠ .ext) (hl : ∀ t, ¬ Uses t (env.at t).2 p) : ILoose env (.c c) (.box 0) (fun _ => p) := by
  have nm : ∀ q, INames (.c c) (.box 0) (fun _ => p) q → q = p := by
    rintro q (⟨h, _⟩ | ⟨i, _, e⟩)
    · cases h
    · exact e
  exact ⟨fun q hq => by rw [nm q hq]; exact hp, fun q hq => by rw [nm q hq]; exact hl, fun i j hi hj _ => hi.2.trans hj.2.symm, rfl⟩

theorem src_owner {env : Env} {r k : Nat} {z : Nat × SV} (hz : PlaceX env r z) : Owner.pl (plSrc z.2 r k).1 (plSrc z.2 r k).2.1 (plSrc z.2 r k).2.2 = plOwner (env.at r).2 r k := by
  rcases hz.2 with h | h
  · rw [h.1]; cases (env.at r).2 <;> rfl
  · obtain ⟨cs, he⟩ := hd_tup h.2
    rw [h.1, he]; rfl

theorem ite_run {c : Bool} {p q : Pr} (h : (if c = true then p else q).run env = some env') : (p.run env = some env' ∧ c = true) ∨ q.run env = some env' := by
  cases c with
  | true => exact .inl ⟨h, rfl⟩
  | false => exact .inr h

/-- The header of a place, told both ways. -/
theorem hdrV_at (inv : Inv env tmps w O) {r k gs gc : Nat} {c : CV} {z : Nat × SV} (hl : live (env.at r) k gs gc = some c) (hz : PlaceX env r z) :
    hdrV w (tmps.getD r undef) (plSrc z.2 r k).2.1 (plSrc z.2 r k).2.2 = hdrAt w (env.at r).2 (tmps.getD r undef) k ∨ (∀ f s cs sp, c ≠ .own f s cs sp) := by
  cases c with
  | own f s cs sp =>
    left
    have hm := inv.mem r
    obtain ⟨b, off, len, cap, hh, _⟩ := live_own inv hl
    unfold live at hl
    split at hl
    case isFalse => cases hl
    obtain ⟨sv, he⟩ : ∃ sv, (env.at r).2 = sv := ⟨_, rfl⟩
    rw [he] at hl hm hh ⊢
    have hzs : (plSrc z.2 r k) = plSrc sv r k := by
      rcases hz.2 with h | h
      · rw [h.1, he]
      · obtain ⟨ms, he'⟩ := hd_tup h.2
        rw [h.1, ← he, he']; rfl
    rw [hzs]
    cases sv with
    | cv c' =>
      simp only [hdrAt, Option.some.injEq] at hh
      rw [hh]; rfl
    | box cs' =>
      obtain ⟨b', hb', _⟩ := hm
      rw [hb']; rfl
    | tup ms =>
      obtain ⟨vs, hv, _⟩ := hm
      rw [hv]; rfl
    | _ => cases hl
  | _ => right; intro _ _ _ _ e; cases e

theorem arg_run (inv : Inv env tmps w O) {take : Bool} {o : Opd} {v : Value} (ho : OpdRep tmps o v) {κ : GArg → Pr} (h : (Pr.arg take o κ).run env = some env') :
    ∃ g it env1 O1, Gh tmps w env O env1 O1 ∧ it.v = v ∧ ARg env1 w O1 tmps g it ∧ (∀ x, g = .v x none → ∀ q, INames x it.bx it.nm q → ∃ t, Uses t (env.at t).2 q) ∧ (κ g).run env1 = some env' := by
  have plain : ∀ (pv : PV) (env1 : Env) (O1 : Owns), Gh tmps w env O env1 O1 → FRep (Frz w O1) pv v → (κ (.v (.c (.pv pv)) none)).run env1 = some env' →
      ∃ g it env1 O1, Gh tmps w env O env1 O1 ∧ it.v = v ∧ ARg env1 w O1 tmps g it ∧ (∀ x, g = .v x none → ∀ q, INames x it.bx it.nm q → ∃ t, Uses t (env.at t).2 q) ∧ (κ g).run env1 = some env' := by
    intro pv env1 O1 g hf hk
    refine ⟨.v (.c (.pv pv)) none, ⟨.c (.pv pv), v, .box 0, fun _ => .box 0⟩, env1, O1, g, rfl, ⟨rfl, hf, ILoose.pv⟩, ?_, hk⟩
    rintro x e q hq
    cases e
    rcases hq with ⟨h, _⟩ | ⟨i, ⟨h, _⟩, _⟩ <;> cases h
  cases o with
  | con p => exact plain p env O (Gh.refl inv) (ho _) h
  | tmp t =>
    have hv : v = tmps.getD t undef := ho
    have hm := inv.mem t
    have ha := inv.ali t
    simp only [Pr.arg, Pr.run] at h
    obtain ⟨sv, he⟩ : ∃ sv, (env.at t).2 = sv := ⟨_, rfl⟩
    have ht : sv ≠ .dead → t < env.length := by
      intro hne
      rcases Nat.lt_or_ge t env.length with h | h
      · exact h
      · rw [at_out env h] at he; exact absurd he.symm hne
    rw [he] at h hm ha
    rw [← hv] at hm ha
    have viaEmb : (Pr.emb (.tmp t) fun v => κ (.v (.c (.pv v)) none)).run env = some env' →
        ∃ g it env1 O1, Gh tmps w env O env1 O1 ∧ it.v = v ∧ ARg env1 w O1 tmps g it ∧ (∀ x, g = .v x none → ∀ q, INames x it.bx it.nm q → ∃ t, Uses t (env.at t).2 q) ∧ (κ g).run env1 = some env' := by
      intro hh
      obtain ⟨pv, env1, O1, g, hf, hk⟩ := emb_run inv ho hh
      exact plain pv env1 O1 g hf hk
    cases sv with
    | cv c =>
      cases c with
      | pv p => exact plain p env O (Gh.refl inv) hm h
      | gone => simp [Pr.run] at h
      | own f s cs sp =>
        simp only at h
        split at h
        · simp only [Pr.run] at h
          obtain ⟨g, hno⟩ := kill_inv inv t ((env.at t).1 + 1) (.inl (Nat.lt_succ_self _))
          refine ⟨.v (.c (.own f s cs sp)) none, ⟨.c (.own f s cs sp), v, .box 0, fun _ => .pl t 0 0⟩, _, O, g, rfl, ⟨rfl, hm, own_loose (by simp) (hno _ rfl (ht (by simp)))⟩, ?_, h⟩
          rintro x e q hq
          cases e
          rcases hq with ⟨h, _⟩ | ⟨i, hi, rfl⟩
          · cases h
          · exact ⟨t, by rw [he]; exact ⟨rfl, rfl⟩⟩
        · obtain ⟨b, off, len, cap, e1, hr⟩ := hm
          cases f with
          | true =>
            refine ⟨.v (.c (.pv (.sl s cs))) (some (t, 0, 0)), ⟨.c (.pv (.sl s cs)), v, .box 0, fun _ => .box 0⟩, env, O, Gh.refl inv, rfl, ⟨rfl, s, cs, b, off, len, cap, rfl, e1, hr.pos, hr.len_eq, hr.le, own_row hr, fun k hk => .inr (hr.mine k (by have := hr.room; omega) (.inl rfl)), .inr ⟨off, len, cap, by rw [← hv, e1]; rfl, Nat.le_refl _, by rw [hr.len_eq]; exact Nat.le_refl _⟩⟩, ?_, h⟩
            intro x e; cases e
          | false => exact plain _ env O (Gh.refl inv) (frep_sl_mk ⟨b, off, len, cap, e1, hr.pos, hr.len_eq, hr.le, own_row_frz hr⟩) h
    | st cs =>
      simp only at h
      split at h
      · simp only [Pr.run] at h
        obtain ⟨g, hno⟩ := kill_inv inv t (env.at t).1 (.inr ⟨rfl, by rw [he]; rfl⟩)
        have hnm : ∀ q, INames (.s cs) (.box t) (fun k => .pl t 0 k) q → Uses t (env.at t).2 q := by
          intro q hq; rw [he]; exact inames_slot.1 hq
        refine ⟨.v (.s cs) none, ⟨.s cs, v, .box t, fun k => .pl t 0 k⟩, _, O, g, rfl, ⟨rfl, irep_slot.2 hm, fun q hq e => by subst e; exact (hnm _ hq).ext, fun q hq => hno _ (hnm q hq).slot (ht (by simp)), fun i j _ _ e => by injection e, rfl⟩, ?_, h⟩
        rintro x e q hq
        cases e
        exact ⟨t, hnm q hq⟩
      · exact viaEmb h
    | sref r k gs =>
      simp only at h
      split at h
      · obtain ⟨ms, cs, he', hms, hgs, h⟩ := comp_run h
        have hm := inv.mem r
        rw [he'] at hm
        obtain ⟨tv, htv, htsz, htc⟩ := hm
        obtain ⟨u0, hu0, hst⟩ := htc k _ hms
        have hvu : v = u0 := by
          have := (ha.2 hgs).2
          rw [he', htv] at this; simp only [hdrAt] at this
          rw [hu0, Option.some.injEq] at this
          exact this.symm
        subst hvu
        obtain ⟨env1, hk1, g, hno⟩ := updc_inv inv he' hms h (Keep.refl _ _ _) (fun _ _ _ h => h) (fun _ _ h => h) (fun _ _ e => by cases e) (fun _ _ _ _ _ => trivial) (fun _ h => h.elim)
        have hnm : ∀ q, INames (.s cs) (.box r) (fun i => .pl r k i) q → ∃ i c, cs[i]? = some c ∧ PV.isRow c = true ∧ q = .pl r k i := by
          rintro q (⟨h, _⟩ | ⟨i, ⟨c, h1, h2⟩, rfl⟩)
          · cases h
          · exact ⟨i, c, h1, h2, rfl⟩
        refine ⟨.v (.s cs) none, ⟨.s cs, v, .box r, fun i => .pl r k i⟩, env1, O, g, rfl, ⟨rfl, hst, fun q hq e => ?_, fun q hq t' ht' => ?_, fun i j _ _ e => by injection e, rfl⟩, ?_, hk1⟩
        · obtain ⟨i, c, _, _, e'⟩ := hnm q hq
          rw [e'] at e; cases e
        · obtain ⟨i, c, _, _, rfl⟩ := hnm q hq
          exact hno rfl i t' ht'
        · rintro x e q hq
          cases e
          obtain ⟨i, c, h1, h2, rfl⟩ := hnm q hq
          exact ⟨r, by rw [he']; exact ⟨k, _, hms, i, c, h1, h2, rfl⟩⟩
      · exact viaEmb h
    | box cs => exact ⟨.b t, ⟨.b [], v, .box t, fun k => .pl t 0 k⟩, env, O, Gh.refl inv, rfl, ⟨hv, rfl, rfl⟩, fun x e => by (cases e), h⟩
    | ptr r off gs =>
      simp only at h
      split at h
      · rename_i h0
        subst h0
        simp only [Pr.run] at h
        split at h
        · rename_i hg
          split at h
          · obtain ⟨_, b, hb, h2⟩ := ha
            refine ⟨.b r, ⟨.b [], v, .box r, fun k => .pl r 0 k⟩, env, O, Gh.refl inv, rfl, ⟨?_, rfl, rfl⟩, fun x e => by (cases e), h⟩
            exact hb.trans (h2 hg.symm).2.symm
          · simp [Pr.run] at h
        · simp [Pr.run] at h
      · simp [Pr.run] at h
    | ref r k gs gc =>
      simp only at h
      obtain ⟨z, c, hl, hg, hz, h⟩ := place_run h
      have hh := ha.2 _ hl
      cases c with
      | own f s cs sp =>
        simp only at h
        replace h := ite_run h
        rcases h with ⟨h, _⟩ | h
        · obtain ⟨env1, u, hk, g, hv', hL, _⟩ := takePlace inv hl hz h
          rw [hh, Option.some.injEq] at hv'
          subst hv'
          obtain ⟨_, _, _, hu⟩ := live_rep inv hl
          have hc := hL.cell _ (List.mem_singleton.2 rfl)
          refine ⟨.v (.c (.own f s cs sp)) none, ⟨.c (.own f s cs sp), v, .box 0, fun _ => plOwner (env.at r).2 r k⟩, env1, O, g, rfl, ⟨rfl, hc.2.1, own_loose plOwner_ne (hc.2.2 rfl)⟩, ?_, hk⟩
          rintro x e q hq
          cases e
          rcases hq with ⟨h, _⟩ | ⟨i, hi, rfl⟩
          · cases h
          · exact ⟨r, hu rfl⟩
        · obtain ⟨b, off, len, cap, e1, hr⟩ := live_own inv hl
          rw [hh, Option.some.injEq] at e1
          cases f with
          | true =>
            refine ⟨.v (.c (.pv (.sl s cs))) (some (plSrc z.2 r k)), ⟨.c (.pv (.sl s cs)), v, .box 0, fun _ => .box 0⟩, env, O, Gh.refl inv, rfl, ⟨rfl, s, cs, b, off, len, cap, rfl, e1, hr.pos, hr.len_eq, hr.le, own_row hr, fun k' hk => .inr ?_, .inr ⟨off, len, cap, ?_, Nat.le_refl _, by rw [hr.len_eq]; exact Nat.le_refl _⟩⟩, ?_, h⟩
            · rw [src_owner hz]; exact hr.mine k' (by have := hr.room; omega) (.inl rfl)
            · rw [show (plSrc z.2 r k).1 = r by unfold plSrc; split <;> rfl]
              exact ((hdrV_at inv hl hz).resolve_right (fun h => h _ _ _ _ rfl)).trans (hh.trans (congrArg some e1))
            · intro x e; cases e
          | false => exact plain _ env O (Gh.refl inv) (frep_sl_mk ⟨b, off, len, cap, e1, hr.pos, hr.len_eq, hr.le, own_row_frz hr⟩) h
      | _ => simp [Pr.run] at h
    | view r k gs gc i j =>
      simp only at h
      replace h := place_run h
      obtain ⟨z, c, hl, hg, hz, h⟩ := h
      cases c with
      | own f s cs sp =>
        simp only at h
        obtain ⟨hab, hb, hi, hj, bl, off0, len, cap, hh, off', hvv, hoff⟩ := ha.2 f s cs sp hl
        obtain ⟨b, off, len2, cap2, hh2, hr⟩ := live_own inv hl
        rw [hh, Option.some.injEq] at hh2
        cases hh2
        replace h := ite_run h
        rcases h with ⟨h, ht⟩ | h
        · simp only [Bool.and_eq_true, beq_iff_eq] at ht
          obtain ⟨⟨⟨_, hf⟩, hi0⟩, _⟩ := ht
          subst hf; subst hi0
          obtain ⟨env1, u, hk, g, hv', hL, _⟩ := takePlace inv hl hz h
          obtain ⟨_, _, _, hu⟩ := live_rep inv hl
          have hc := hL.cell _ (List.mem_singleton.2 rfl)
          refine ⟨.v (.c (.own true s (cs.take j) (cs.drop j ++ sp))) none, ⟨.c (.own true s (cs.take j) (cs.drop j ++ sp)), v, .box 0, fun _ => plOwner (env.at r).2 r k⟩, env1, O, g, rfl, ⟨rfl, ⟨bl, off0, j / s, cap, ?_, hr.trunc hb hj⟩, own_loose plOwner_ne (hc.2.2 rfl)⟩, ?_, hk⟩
          · rw [hvv]
            simp only [Nat.sub_zero, Nat.zero_div, Nat.add_zero] at hoff ⊢
            rcases hoff with rfl | ⟨_, h⟩
            · rfl
            · exact absurd rfl h
          · rintro x e q hq
            cases e
            rcases hq with ⟨h, _⟩ | ⟨i, hi, rfl⟩
            · cases h
            · exact ⟨r, hu rfl⟩
        · cases f with
          | true =>
            obtain ⟨e1, e2, e3⟩ := view_row hr.pos hr.len_eq hr.le hab hb hi hj (hoff.imp id And.left) (own_row hr)
            refine ⟨.v (.c (.pv (.sl s ((cs.take j).drop i)))) (some (plSrc z.2 r k)), ⟨.c (.pv (.sl s ((cs.take j).drop i))), v, .box 0, fun _ => .box 0⟩, env, O, Gh.refl inv, rfl, ⟨rfl, s, _, bl, off', _, _, rfl, hvv, hr.pos, e1, e2, e3, fun k' hk => .inr ?_, ?_⟩, ?_, h⟩
            · rw [src_owner hz]
              rw [List.length_drop, List.length_take, Nat.min_eq_left hb] at hk
              have : off' = off0 + i := by
                rcases hoff with h | ⟨h, _⟩
                · exact h
                · omega
              rw [this, Nat.add_assoc]
              exact hr.mine (i + k') (by have := hr.room; omega) (.inl rfl)
            · by_cases hne : i = j
              · left; subst hne; simp
              · right
                refine ⟨off0, len, cap, ?_, ?_, ?_⟩
                · rw [show (plSrc z.2 r k).1 = r by unfold plSrc; split <;> rfl]
                  exact ((hdrV_at inv hl hz).resolve_right (fun h => h _ _ _ _ rfl)).trans hh
                · rcases hoff with h | ⟨h, _⟩
                  · omega
                  · omega
                · rw [List.length_drop, List.length_take, Nat.min_eq_left hb, ← hr.len_eq]
                  rcases hoff with h | ⟨h, _⟩ <;> omega
            · intro x e; cases e
          | false =>
            obtain ⟨e1, e2, e3⟩ := view_row hr.pos hr.len_eq hr.le hab hb hi hj (hoff.imp id And.left) (own_row_frz hr)
            exact plain _ env O (Gh.refl inv) (frep_sl_mk ⟨bl, off', _, _, hvv, hr.pos, e1, e2, e3⟩) h
      | _ => simp [Pr.run] at h
    | _ => simp [Pr.run] at h
end

section
/- Calls: all that is handed on. -/

variable {P : Program} {w : World} {env env' : Env} {O : Owns} {tmps : Array Value}

/-- What was given away bears different names. -/
def Apart (gs : List GArg) (its : List Item) : Prop :=
  ∀ (i j : Nat) x y it jt, gs[i]? = some (.v x none) → gs[j]? = some (.v y none) → its[i]? = some it → its[j]? = some jt → ∀ q, INames x it.bx it.nm q → INames y jt.bx jt.nm q → i = j

theorem args_run : ∀ (os : List (Bool × Opd)) (vs : List Value) (κ : List GArg → Pr) (env : Env) (O : Owns), Inv env tmps w O → OpdReps tmps (os.map (·.2)) vs → (Pr.args κ os).run env = some env' →
    ∃ gs its env1 O1, Gh tmps w env O env1 O1 ∧ its.map (·.v) = vs ∧ All2 (ARg env1 w O1 tmps) gs its ∧ Apart gs its ∧
      (∀ (i : Nat) x it, gs[i]? = some (.v x none) → its[i]? = some it → ∀ q, INames x it.bx it.nm q → ∃ t, Uses t (env.at t).2 q) ∧ (κ gs).run env1 = some env'
  | [], vs, κ, env, O, inv, ho, h => ⟨[], [], env, O, Gh.refl inv, by rw [ho.nil]; rfl, trivial, fun i j x y it jt h => by simp at h, fun i x it h => by simp at h, h⟩
  | o :: os, vs, κ, env, O, inv, ho, h => by
    rw [List.map_cons] at ho
    obtain ⟨v, vs', rfl, h1, h2⟩ := ho.cons
    simp only [Pr.args] at h
    obtain ⟨g, it, env1, O1, g1, hv, ha, hu, h⟩ := arg_run inv h1 h
    obtain ⟨gs, its, env2, O2, g2, hvs, has, hap, hus, h⟩ := args_run os vs' _ env1 O1 g1.inv h2 h
    refine ⟨g :: gs, it :: its, env2, O2, g1.trans g2, by rw [List.map_cons, hv, hvs], ⟨ha.gh g2, has⟩, ?_, ?_, h⟩
    · have head : ∀ x, g = .v x none → ∀ (j : Nat) y jt, gs[j]? = some (.v y none) → its[j]? = some jt → ∀ q, INames x it.bx it.nm q → INames y jt.bx jt.nm q → False := by
        intro x hx j y jt hy hj q hq hq'
        subst hx
        obtain ⟨t, ht⟩ := hus j y jt hy hj q hq'
        exact ha.2.2.free q hq t ht
      intro i j x y it' jt hx hy hi hj q hq hq'
      cases i with
      | zero =>
        cases j with
        | zero => rfl
        | succ j =>
          simp at hx hi hy hj
          subst hi
          exact (head x hx j y jt hy hj q hq hq').elim
      | succ i =>
        cases j with
        | zero =>
          simp at hx hi hy hj
          subst hj
          exact (head y hy i x it' hx hi q hq' hq).elim
        | succ j =>
          simp at hx hi hy hj
          rw [hap i j x y it' jt hx hy hi hj q hq hq']
    · intro i x it' hx hi q hq
      cases i with
      | zero =>
        simp at hx hi
        subst hi
        exact hu x hx q hq
      | succ i =>
        simp at hx hi
        obtain ⟨t, ht⟩ := hus i x it' hx hi q hq
        exact ⟨t, g1.uses t q ht⟩

/-- What the callee is handed, of one argument. -/
def FinR (env : Env) (g : GArg) (x : PX) : Prop :=
  match g with
  | .v y none => x = y
  | .v y (some p) => x = y ∧ Uses p.1 (env.at p.1).2 (.pl p.1 p.2.1 p.2.2)
  | .b r => ∃ cs, (env.at r).2 = .box cs ∧ x = .b (cs.map (·.2))

theorem owned_run {r j i : Nat} {κ : Pr} (h : (Pr.owned r j i κ).run env = some env') : Uses r (env.at r).2 (.pl r j i) ∧ κ.run env = some env' := by
  simp only [Pr.owned, Pr.run] at h
  obtain ⟨sv, he⟩ : ∃ sv, (env.at r).2 = sv := ⟨_, rfl⟩
  rw [he] at h ⊢
  cases sv with
  | cv c =>
    cases c with
    | own f s cs sp =>
      simp only [SV.hd] at h
      split at h
      · rename_i h1
        split at h
        · rename_i h2
          subst h1; subst h2
          exact ⟨⟨rfl, rfl⟩, h⟩
        · simp [Pr.run] at h
      · simp [Pr.run] at h
    | pv x => simp [SV.hd, Pr.run] at h
    | gone => simp [SV.hd, Pr.run] at h
  | box cs =>
    simp only [SV.hd] at h
    split at h
    · rename_i h1
      subst h1
      simp only [Pr.run, he] at h
      split at h
      · rename_i g f s c sp hk
        exact ⟨.inr ⟨i, _, hk, rfl, rfl⟩, h⟩
      · simp [Pr.run] at h
    · simp [Pr.run] at h
  | tup ms =>
    simp only [SV.hd] at h
    split at h
    · rename_i h1
      subst h1
      simp only [Pr.run, he, SV.cmp, SV.cmps] at h
      split at h
      · rename_i g f s c sp hk
        exact ⟨⟨j, _, hk, rfl, rfl⟩, h⟩
      · simp [Pr.run] at h
    · simp [Pr.run] at h
  | _ => simp [SV.hd, Pr.run] at h

theorem fins_run : ∀ (gs : List GArg) (κ : List PX → Pr), (Pr.fins κ gs).run env = some env' → ∃ xs, All2 (FinR env) gs xs ∧ (κ xs).run env = some env'
  | [], κ, h => ⟨[], trivial, h⟩
  | .v x none :: l, κ, h => by
    simp only [Pr.fins] at h
    obtain ⟨xs, h1, h2⟩ := fins_run l _ h
    exact ⟨x :: xs, ⟨rfl, h1⟩, h2⟩
  | .v x (some (r, j, i)) :: l, κ, h => by
    simp only [Pr.fins] at h
    obtain ⟨hu, h⟩ := owned_run h
    obtain ⟨xs, h1, h2⟩ := fins_run l _ h
    exact ⟨x :: xs, ⟨⟨rfl, hu⟩, h1⟩, h2⟩
  | .b r :: l, κ, h => by
    simp only [Pr.fins, Pr.run] at h
    split at h
    · rename_i cs hcs
      obtain ⟨xs, h1, h2⟩ := fins_run l _ h
      exact ⟨.b (cs.map (·.2)) :: xs, ⟨⟨cs, hcs, rfl⟩, h1⟩, h2⟩
    · simp [Pr.run] at h

/-- The cells that are seen through a view. -/
def ViewAt (gs : List GArg) (its : List Item) (b o : Nat) : Prop :=
  ∃ (i : Nat) (s : Nat) (cs : List PV) (p : Nat × Nat × Nat) (it : Item) (off len cap : Nat), gs[i]? = some (.v (.c (.pv (.sl s cs))) (some p)) ∧ its[i]? = some it ∧ it.v = .slice (some ⟨b, off, none⟩) len cap ∧ off ≤ o ∧ o < off + cs.length

theorem less_run2 (inv : Inv env tmps w O) {r k gs gc : Nat} {f : Bool} {s : Nat} {cs sp : List PV} {x : Nat × SV} {κ : Pr}
    (hl : live (env.at r) k gs gc = some (.own f s cs sp)) (hx : PlaceX env r x) (h : (Pr.chPl r k gc x false (.own false s cs sp) κ).run env = some env') :
    ∃ env1 O1 b off len cap, Gh tmps w env O env1 O1 ∧ κ.run env1 = some env' ∧ hdrAt w (env.at r).2 (tmps.getD r undef) k = some (.slice (some ⟨b, off, none⟩) len cap) ∧ cs.length = len * s ∧
      (∀ j, j < cs.length → O1 b (off + j) = none) ∧ (∀ t, t ≠ r → env1.at t = env.at t) := by
  obtain ⟨b, off, len, cap, hv, hr⟩ := live_own inv hl
  obtain ⟨_, _, _, hu⟩ := live_rep inv hl
  obtain ⟨O1, k1, k2, k3, k4, k5⟩ := hr.share
  obtain ⟨env1, e1, e2, e3, e4⟩ := chPl_inv inv hl rfl hx h k2 (fun b o q hq => inv.bnd b o q (k4 b o q hq))
    (fun v hv' => by rw [hv] at hv'; cases hv'; exact ⟨b, off, len, cap, rfl, k1⟩) rfl (fun _ => ⟨_, _, _, _, _, _, _, rfl, rfl, rfl⟩)
  exact ⟨env1, O1, b, off, len, cap, Gh.of_chPl (hu rfl) rfl k2 e2 (fun t q hq => (e3 t q hq).1) k3 k4, e1, hv, hr.len_eq, k1.free rfl, e4⟩

/-- The places that are seen are shared. -/
theorem demote_run : ∀ (gs : List GArg) (its : List Item) (κ : Pr) (env : Env) (O : Owns), Inv env tmps w O → All2 (ARg env w O tmps) gs its → (Pr.demote κ gs).run env = some env' →
    ∃ env1 O1, Gh tmps w env O env1 O1 ∧ κ.run env1 = some env' ∧ (∀ b o, ViewAt gs its b o → O1 b o = none) ∧ (∀ t, (∀ (i : Nat) x p, gs[i]? = some (.v x (some p)) → p.1 ≠ t) → env1.at t = env.at t)
  | [], its, κ, env, O, inv, ha, h => ⟨env, O, Gh.refl inv, h, fun b o ⟨i, s, cs, p, it, off, len, cap, h, _⟩ => by simp at h, fun t _ => rfl⟩
  | g :: gs, [], κ, env, O, inv, ha, h => ha.elim
  | g :: gs, it :: its, κ, env, O, inv, ha, h => by
    -- the rest of the list, behind a ghost step
    have rest : ∀ env1 O1, Gh tmps w env O env1 O1 → (Pr.demote κ gs).run env1 = some env' → (∀ b o, (∃ s cs p off len cap, g = .v (.c (.pv (.sl s cs))) (some p) ∧ it.v = .slice (some ⟨b, off, none⟩) len cap ∧ off ≤ o ∧ o < off + cs.length) → O1 b o = none) →
        (∀ t, (∀ x p, g = .v x (some p) → p.1 ≠ t) → env1.at t = env.at t) →
        ∃ env1 O1, Gh tmps w env O env1 O1 ∧ κ.run env1 = some env' ∧ (∀ b o, ViewAt (g :: gs) (it :: its) b o → O1 b o = none) ∧ (∀ t, (∀ (i : Nat) x p, (g :: gs)[i]? = some (.v x (some p)) → p.1 ≠ t) → env1.at t = env.at t) := by
      intro env1 O1 g1 h hv hs
      have ha' : All2 (ARg env1 w O1 tmps) gs its := ha.2.imp (fun _ _ h => h.gh g1)
      obtain ⟨env2, O2, g2, hk, hv2, hs2⟩ := demote_run gs its κ env1 O1 g1.inv ha' h
      refine ⟨env2, O2, g1.trans g2, hk, ?_, ?_⟩
      · rintro b o ⟨i, s, cs, p, it', off, len, cap, h1, h2, h3⟩
        cases i with
        | zero =>
          simp at h1 h2
          subst h2
          exact g2.free _ _ (hv b o ⟨s, cs, p, off, len, cap, h1, h3⟩)
        | succ i => exact hv2 b o ⟨i, s, cs, p, it', off, len, cap, by simpa using h1, by simpa using h2, h3⟩
      · intro t ht
        rw [hs2 t (fun i x p hi => ht (i + 1) x p (by simpa using hi)), hs t (fun x p e => ht 0 x p (by simp [e]))]
    cases g with
    | b r => exact rest env O (Gh.refl inv) h (fun b o ⟨s, cs, p, off, len, cap, e, _⟩ => by cases e) (fun t _ => rfl)
    | v x src =>
      cases src with
      | none =>
        have h' : (Pr.demote κ gs).run env = some env' := by
          cases x with
          | c c => cases c with
            | pv p => cases p <;> exact h
            | _ => exact h
          | _ => exact h
        exact rest env O (Gh.refl inv) h' (fun b o ⟨s, cs, p, off, len, cap, e, _⟩ => by cases e) (fun t _ => rfl)
      | some p =>
        obtain ⟨r, j, i⟩ := p
        obtain ⟨hitx, s0, cs0, bl, off, len, cap, rfl, hv, h0, hlen, hle, hrow, hown, hin⟩ := ha.1
        simp only [Pr.demote, Pr.run] at h
        have fin : ∀ (k gs' gc : Nat) (z : Nat × SV) (f : Bool) (s : Nat) (c sp : List PV), live (env.at r) k gs' gc = some (.own f s c sp) → PlaceX env r z → plSrc z.2 r k = (r, j, i) → s = s0 →
            (Pr.chPl r k gc z false (.own false s c sp) (Pr.demote κ gs)).run env = some env' →
            ∃ env1 O1, Gh tmps w env O env1 O1 ∧ κ.run env1 = some env' ∧ (∀ b o, ViewAt (.v (.c (.pv (.sl s0 cs0))) (some (r, j, i)) :: gs) (it :: its) b o → O1 b o = none) ∧
              (∀ t, (∀ (i' : Nat) x p, (GArg.v (.c (.pv (.sl s0 cs0))) (some (r, j, i)) :: gs)[i']? = some (.v x (some p)) → p.1 ≠ t) → env1.at t = env.at t) := by
          clear h
          intro k gs' gc z f s c sp hl hz hp hs h
          subst hs
          have hhd := (hdrV_at inv hl hz).resolve_right (fun h => h _ _ _ _ rfl)
          rw [hp] at hhd
          obtain ⟨env1, O1, b1, off1, len1, cap1, g1, hk, hh, hcl, hfree, hsame⟩ := less_run2 inv hl hz h
          refine rest env1 O1 g1 hk ?_ (fun t ht => hsame t (fun e => ht _ _ rfl e.symm))
          rintro b o ⟨s', cs', p', off', len', cap', e, hv', ho1, ho2⟩
          cases e
          rw [hv] at hv'
          cases hv'
          rcases hin with hin | ⟨off0, len0, cap0, hh0, hin1, hin2⟩
          · subst hin; simp at ho2; omega
          · rw [hhd, hh, Option.some.injEq] at hh0
            cases hh0
            have := hfree (o - off1) (by omega)
            rwa [show off1 + (o - off1) = o by omega] at this
        obtain ⟨sv, he⟩ : ∃ sv, (env.at r).2 = sv := ⟨_, rfl⟩
        rw [he] at h
        cases sv with
        | cv c =>
          cases c with
          | own f s c sp =>
            simp only [SV.hd] at h
            split at h
            · rename_i hji
              obtain ⟨rfl, rfl⟩ := hji
              simp only [Pr.run, he] at h
              split at h
              · rename_i hs
                exact fin 0 (env.at r).1 0 (env.at r) f s c sp (by unfold live; rw [if_pos rfl, he]; rfl) ⟨rfl, .inl ⟨rfl, by rw [he]; simp [SV.hd]⟩⟩ (by rw [he]; rfl) hs h
              · simp [Pr.run] at h
            · simp [Pr.run] at h
          | pv x => simp [SV.hd, Pr.run] at h
          | gone => simp [SV.hd, Pr.run] at h
        | box cs =>
          simp only [SV.hd] at h
          split at h
          · rename_i hj
            subst hj
            simp only [Pr.run, he] at h
            split at h
            · rename_i g f s c sp hk
              split at h
              · rename_i hs
                exact fin i (env.at r).1 g (env.at r) f s c sp (by unfold live; rw [if_pos rfl, he]; simp [hk]) ⟨rfl, .inl ⟨rfl, by rw [he]; simp [SV.hd]⟩⟩ (by rw [he]; rfl) hs h
              · simp [Pr.run] at h
            · simp [Pr.run] at h
          · simp [Pr.run] at h
        | tup ms =>
          simp only [SV.hd] at h
          split at h
          · rename_i hi
            subst hi
            simp only [Pr.run, he, SV.cmp, SV.cmps] at h
            split at h
            · rename_i g f s c sp hk
              split at h
              · rename_i hs
                exact fin j (env.at r).1 g ((env.at r).1, .tup []) f s c sp (by unfold live; rw [if_pos rfl, he]; simp [hk]) ⟨rfl, .inr ⟨rfl, by rw [he]; rfl⟩⟩ rfl hs h
              · simp [Pr.run] at h
            · simp [Pr.run] at h
          · simp [Pr.run] at h
        | _ => simp [SV.hd, Pr.run] at h
end

section
/- Calls: names turned. -/

variable {P : Program} {w : World} {env env' : Env} {O O' : Owns} {tmps : Array Value}

theorem noSls_all : ∀ {cs : List PV}, PV.noSls cs = true → ∀ c ∈ cs, c.noSl = true
  | [], _, c, hc => (List.not_mem_nil hc).elim
  | x :: cs, h, c, hc => by
    simp only [PV.noSls, Bool.and_eq_true] at h
    rcases List.mem_cons.1 hc with rfl | hc
    · exact h.1
    · exact noSls_all h.2 c hc

/-- What holds no slice means the same everywhere. -/
theorem noSl_rep {H H' : Look} {p : PV} {v : Value} (h : FRep H p v) : p.noSl = true → FRep H' p v := by
  induction h with
  | int k n => exact fun _ => .int k n
  | bool b => exact fun _ => .bool b
  | str s => exact fun _ => .str s
  | undef => exact fun _ => .undef
  | nils => exact fun _ => .nils
  | sl s cs b off sp len cap vs h0 hsp hl hc hv hr hi ih => intro h; simp [PV.noSl] at h
  | agg cs vs hl hr hi ih =>
    intro h
    simp only [PV.noSl] at h
    exact .agg cs vs hl (fun j c v hc hv => ih j c v hc hv (noSls_all h c (List.mem_of_getElem? hc))) hi
  | fn f => exact fun _ => .fn f
  | nilp => exact fun _ => .nilp
  | nilf => exact fun _ => .nilf
  | nili => exact fun _ => .nili

/-- Nobody's cells stay nobody's, or there is no slice in it. -/
def Safe (O O' : Owns) (b : Bool) : Prop := (∀ b o, O b o = none → O' b o = none) ∨ b = true

theorem Safe.frep {p : PV} {v : Value} (h : Safe O O' p.noSl) (r : FRep (Frz w O) p v) : FRep (Frz w O') p v := by
  rcases h with h | h
  · refine r.mono fun b o v hv => ?_
    unfold Frz at hv ⊢
    split at hv
    · rename_i ho; rw [if_pos (h b o ho)]; exact hv
    · cases hv
  · exact noSl_rep r h

theorem CRep.rename {p p' : Owner} {c : CV} {v : Value} (hs : Safe O O' c.noSl) (hp : PV.isRow c = true → ∀ b o, O b o = some p → O' b o = some p') (r : CRep w O p c v) : CRep w O' p' c v := by
  cases c with
  | pv x => exact Safe.frep (p := x) hs r
  | gone => trivial
  | own f s cs sp =>
    obtain ⟨b, off, len, cap, hv, k⟩ := r
    refine ⟨b, off, len, cap, hv, k.pos, k.len_eq, k.le, k.room, k.cell, fun j hj hh => hp rfl _ _ (k.mine j hj hh), fun hf j hj => ?_, fun j c hj => ?_⟩
    · rcases hs with hs | hs
      · exact hs _ _ (k.free hf j hj)
      · rw [hf] at hs; simp [CV.noSl] at hs
    · obtain ⟨q1, u, q2, q3⟩ := k.row j c hj
      refine ⟨q1, u, q2, Safe.frep (hs.imp id fun h => ?_) q3⟩
      simp only [CV.noSl, Bool.and_eq_true] at h
      rcases List.mem_append.1 (List.mem_of_getElem? hj) with hm | hm
      · exact noSls_all h.1.2 c hm
      · exact noSls_all h.2 c hm

theorem IRep.rename {x : PX} {v : Value} {bx bx' : Owner} {nm nm' : Nat → Owner} (hs : Safe O O' x.noSl) (hb : x.isBox = true → ∀ b o, O b o = some bx → O' b o = some bx') (hr : ∀ k, x.rowAt k → ∀ b o, O b o = some (nm k) → O' b o = some (nm' k))
    (r : IRep w O x v bx nm) : IRep w O' x v bx' nm' := by
  cases x with
  | c c => exact CRep.rename hs (fun h => hr 0 ⟨h, rfl⟩) r
  | s cs =>
    obtain ⟨vs, hv, hz, hc⟩ := r
    refine ⟨vs, hv, hz, fun i c hi => ?_⟩
    obtain ⟨u, hu, h1, h2⟩ := hc i c hi
    exact ⟨u, hu, h1, h2.rename (hs.imp id fun h => List.all_eq_true.1 h c (List.mem_of_getElem? hi)) (fun h => hr i ⟨c, hi, h⟩)⟩
  | b cs =>
    obtain ⟨b, hv, hc⟩ := r
    refine ⟨b, hv, fun i c hi => ?_⟩
    obtain ⟨h1, h2, u, hu, h3, h4⟩ := hc i c hi
    exact ⟨hb rfl _ _ h1, h2, u, hu, h3, h4.rename (hs.imp id fun h => List.all_eq_true.1 h c (List.mem_of_getElem? hi)) (fun h => hr i ⟨c, hi, h⟩)⟩

/-- Items whose names are apart. -/
structure Ents (L : List (Option Item)) : Prop where
  apart : ∀ (i j : Nat) a b q, L[i]? = some (some a) → L[j]? = some (some b) → INames a.x a.bx a.nm q → INames b.x b.bx b.nm q → i = j
  inj : ∀ (i : Nat) a k l, L[i]? = some (some a) → a.x.rowAt k → a.x.rowAt l → a.nm k = a.nm l → k = l
  bx : ∀ (i : Nat) a k, L[i]? = some (some a) → a.x.isBox = true → a.x.rowAt k → a.bx ≠ a.nm k
  next : ∀ (i : Nat) a q, L[i]? = some (some a) → INames a.x a.bx a.nm q → q ≠ .ext

def Ren (L : List (Option Item)) (T : Nat → Owner × (Nat → Owner)) (q q' : Owner) : Prop :=
  ∃ (i : Nat) (a : Item), L[i]? = some (some a) ∧ ((a.x.isBox = true ∧ q = a.bx ∧ q' = (T i).1) ∨ ∃ k, a.x.rowAt k ∧ q = a.nm k ∧ q' = (T i).2 k)

theorem Ren.fn {L : List (Option Item)} (hL : Ents L) {T : Nat → Owner × (Nat → Owner)} {q a b : Owner} (h : Ren L T q a) (h' : Ren L T q b) : a = b := by
  obtain ⟨i, x, hi, hx⟩ := h
  obtain ⟨j, y, hj, hy⟩ := h'
  have n1 : INames x.x x.bx x.nm q := by
    rcases hx with ⟨h1, h2, _⟩ | ⟨k, h1, h2, _⟩
    · exact .inl ⟨h1, h2⟩
    · exact .inr ⟨k, h1, h2⟩
  have n2 : INames y.x y.bx y.nm q := by
    rcases hy with ⟨h1, h2, _⟩ | ⟨k, h1, h2, _⟩
    · exact .inl ⟨h1, h2⟩
    · exact .inr ⟨k, h1, h2⟩
  have := hL.apart i j x y q hi hj n1 n2
  subst this
  rw [hi] at hj
  cases hj
  rcases hx with ⟨h1, h2, h3⟩ | ⟨k, h1, h2, h3⟩ <;> rcases hy with ⟨h1', h2', h3'⟩ | ⟨l, h1', h2', h3'⟩
  · rw [h3, h3']
  · exact absurd (h2.symm.trans h2') (hL.bx i x l hi h1 h1')
  · exact absurd (h2'.symm.trans h2) (hL.bx i x k hi h1' h1)
  · have := hL.inj i x k l hi h1 h1' (h2.symm.trans h2')
    subst this
    rw [h3, h3']

/-- The new name of an owner. -/
noncomputable def renF (L : List (Option Item)) (T : Nat → Owner × (Nat → Owner)) (other : Option Owner) (q : Owner) : Option Owner :=
  match Classical.propDecidable (∃ q', Ren L T q q') with
  | .isTrue h => some h.choose
  | .isFalse _ => other

theorem renF_of {L : List (Option Item)} (hL : Ents L) {T : Nat → Owner × (Nat → Owner)} {other : Option Owner} {q q' : Owner} (h : Ren L T q q') : renF L T other q = some q' := by
  unfold renF
  split
  · rename_i h' _
    rw [Ren.fn hL h'.choose_spec h]
  · rename_i h' _
    exact absurd ⟨q', h⟩ h'

theorem renF_not {L : List (Option Item)} {T : Nat → Owner × (Nat → Owner)} {other : Option Owner} {q : Owner} (h : ∀ (i : Nat) a, L[i]? = some (some a) → ¬ INames a.x a.bx a.nm q) : renF L T other q = other := by
  unfold renF
  split
  · rename_i h' _
    obtain ⟨q', i, a, hi, ha⟩ := h'
    exfalso
    refine h i a hi ?_
    rcases ha with ⟨h1, h2, _⟩ | ⟨k, h1, h2, _⟩
    · exact .inl ⟨h1, h2⟩
    · exact .inr ⟨k, h1, h2⟩
  · rfl

theorem renF_cases {L : List (Option Item)} {T : Nat → Owner × (Nat → Owner)} {other : Option Owner} (q : Owner) : (∃ q', Ren L T q q' ∧ renF L T other q = some q') ∨ renF L T other q = other := by
  unfold renF
  split
  · rename_i h' _
    exact .inl ⟨_, h'.choose_spec, rfl⟩
  · exact .inr rfl

/-- What the callee sees: the viewed cells are nobody's, the items bear their new names, all else is foreign. -/
noncomputable def enterO (O : Owns) (V : Nat → Nat → Prop) (L : List (Option Item)) : Owns := fun b o =>
  match Classical.propDecidable (V b o) with
  | .isTrue _ => none
  | .isFalse _ => (O b o).bind (renF L (fun i => (.box i, fun k => .pl i 0 k)) (some .ext))

theorem enterO_none {V : Nat → Nat → Prop} {L : List (Option Item)} {b o : Nat} (h : O b o = none) : enterO O V L b o = none := by
  unfold enterO; split
  · rfl
  · rw [h]; rfl

theorem enterO_view {V : Nat → Nat → Prop} {L : List (Option Item)} {b o : Nat} (h : V b o) : enterO O V L b o = none := by
  unfold enterO; split
  · rfl
  · contradiction

theorem enterO_back {V : Nat → Nat → Prop} {L : List (Option Item)} {b o : Nat} (h : enterO O V L b o = none) : V b o ∨ O b o = none := by
  unfold enterO at h; split at h
  · rename_i hv _; exact .inl hv
  · cases ho : O b o with
    | none => exact .inr rfl
    | some q =>
      rw [ho] at h
      simp only [Option.bind_some] at h
      rcases renF_cases (L := L) (T := fun i => (.box i, fun k => .pl i 0 k)) (other := some .ext) q with ⟨q', _, e⟩ | e
      · rw [e] at h; cases h
      · rw [e] at h; cases h

theorem enterO_other {V : Nat → Nat → Prop} {L : List (Option Item)} {b o : Nat} {q : Owner} (hq : O b o = some q) (hn : ∀ (i : Nat) a, L[i]? = some (some a) → ¬ INames a.x a.bx a.nm q) : enterO O V L b o = none ∨ enterO O V L b o = some .ext := by
  unfold enterO; split
  · exact .inl rfl
  · right
    rw [hq]
    exact renF_not hn

theorem enterO_name {V : Nat → Nat → Prop} {L : List (Option Item)} (hL : Ents L) {b o : Nat} {q q' : Owner} (hv : ¬ V b o) (hq : O b o = some q) (h : Ren L (fun i => (.box i, fun k => .pl i 0 k)) q q') : enterO O V L b o = some q' := by
  unfold enterO; split
  · contradiction
  · rw [hq]; exact renF_of hL h
end

section
/- Calls: into the callee. -/

variable {P : Program} {w : World} {env env' : Env} {O O' : Owns} {tmps : Array Value}

/-- The items that are named. -/
def handL : List GArg → List Item → List PX → List (Option Item)
  | g :: gs, it :: its, x :: xs => (match g with | .v _ (some _) => none | _ => some { it with x := x }) :: handL gs its xs
  | _, _, _ => []

theorem handL_get : ∀ {gs : List GArg} {its : List Item} {xs : List PX} {i : Nat} {a : Item}, (handL gs its xs)[i]? = some (some a) →
    ∃ g it x, gs[i]? = some g ∧ its[i]? = some it ∧ xs[i]? = some x ∧ a = { it with x := x } ∧ ∀ y p, g ≠ .v y (some p)
  | [], its, xs, i, a, h => by simp [handL] at h
  | g :: gs, [], xs, i, a, h => by simp [handL] at h
  | g :: gs, it :: its, [], i, a, h => by simp [handL] at h
  | g :: gs, it :: its, x :: xs, 0, a, h => by
    simp only [handL, List.getElem?_cons_zero, Option.some.injEq] at h
    refine ⟨g, it, x, rfl, rfl, rfl, ?_, ?_⟩
    · split at h
      · cases h
      · cases h; rfl
    · intro y p e
      subst e
      simp at h
  | g :: gs, it :: its, x :: xs, i + 1, a, h => by
    simp only [handL, List.getElem?_cons_succ] at h
    obtain ⟨g', it', x', h1, h2, h3, h4, h5⟩ := handL_get h
    exact ⟨g', it', x', by simpa using h1, by simpa using h2, by simpa using h3, h4, h5⟩

theorem handL_of : ∀ {gs : List GArg} {its : List Item} {xs : List PX} {i : Nat} {g : GArg} {it : Item} {x : PX}, gs[i]? = some g → its[i]? = some it → xs[i]? = some x → (∀ y p, g ≠ .v y (some p)) →
    (handL gs its xs)[i]? = some (some { it with x := x })
  | [], its, xs, i, g, it, x, h, _, _, _ => by simp at h
  | g :: gs, [], xs, i, _, it, x, _, h, _, _ => by simp at h
  | g :: gs, it :: its, [], i, _, _, x, _, _, h, _ => by simp at h
  | g :: gs, it :: its, x :: xs, 0, g', it', x', h1, h2, h3, h4 => by
    simp at h1 h2 h3
    subst h1; subst h2; subst h3
    cases g with
    | v y src =>
      cases src with
      | some p => exact absurd rfl (h4 y p)
      | none => rfl
    | b r => rfl
  | g :: gs, it :: its, x :: xs, i + 1, g', it', x', h1, h2, h3, h4 => by
    simp at h1 h2 h3
    simp only [handL, List.getElem?_cons_succ]
    exact handL_of h1 h2 h3 h4

theorem boxes_mem : ∀ {gs : List GArg} {i r : Nat}, gs[i]? = some (.b r) → r ∈ GArg.boxes gs
  | [], i, r, h => by simp at h
  | .v x s :: gs, 0, r, h => by simp at h
  | .b t :: gs, 0, r, h => by simp at h; subst h; exact List.mem_cons_self
  | .v x s :: gs, i + 1, r, h => by simp at h; exact boxes_mem (gs := gs) h
  | .b t :: gs, i + 1, r, h => by simp at h; exact List.mem_cons_of_mem _ (boxes_mem (gs := gs) h)

theorem boxes_once : ∀ {gs : List GArg} {i j r : Nat}, once (GArg.boxes gs) = true → gs[i]? = some (.b r) → gs[j]? = some (.b r) → i = j
  | [], i, j, r, _, h, _ => by simp at h
  | .v x s :: gs, 0, j, r, _, h, _ => by simp at h
  | .v x s :: gs, i + 1, 0, r, _, _, h => by simp at h
  | .v x s :: gs, i + 1, j + 1, r, ho, h, h' => by
    simp at h h'
    rw [boxes_once (gs := gs) ho h h']
  | .b t :: gs, 0, 0, r, _, _, _ => rfl
  | .b t :: gs, 0, j + 1, r, ho, h, h' => by
    simp at h h'
    subst h
    simp only [GArg.boxes, once, Bool.and_eq_true, Bool.not_eq_true'] at ho
    have := boxes_mem h'
    rw [← List.contains_iff_mem, ho.1] at this; cases this
  | .b t :: gs, i + 1, 0, r, ho, h, h' => by
    simp at h h'
    subst h'
    simp only [GArg.boxes, once, Bool.and_eq_true, Bool.not_eq_true'] at ho
    have := boxes_mem h
    rw [← List.contains_iff_mem, ho.1] at this; cases this
  | .b t :: gs, i + 1, j + 1, r, ho, h, h' => by
    simp at h h'
    simp only [GArg.boxes, once, Bool.and_eq_true] at ho
    rw [boxes_once (gs := gs) ho.2 h h']

theorem all2_at {α β : Type} {R : α → β → Prop} {l : List α} {m : List β} (h : All2 R l m) {i : Nat} {a : α} {b : β} (ha : l[i]? = some a) (hb : m[i]? = some b) : R a b := (all2_get h).2 i a b ha hb

theorem all2_some {α β : Type} {R : α → β → Prop} {l : List α} {m : List β} (h : All2 R l m) {i : Nat} {a : α} (ha : l[i]? = some a) : ∃ b, m[i]? = some b ∧ R a b := by
  have hl := getElem?_lt ha
  have hm : m[i]? = some (m[i]'(by rw [← (all2_get h).1]; exact hl)) := List.getElem?_eq_getElem _
  exact ⟨_, hm, all2_at h ha hm⟩

def FinX (env : Env) (g : GArg) (x : PX) : Prop :=
  match g with
  | .v y _ => x = y
  | .b r => ∃ cs, (env.at r).2 = .box cs ∧ x = .b (cs.map (·.2))

theorem FinR.x {g : GArg} {x : PX} (h : FinR env g x) : FinX env g x := by
  cases g with
  | v y s => cases s with
    | none => exact h
    | some p => exact h.1
  | b r => exact h

/-- All that is known when a call begins. -/
structure Hand (env : Env) (tmps : Array Value) (w : World) (O : Owns) (gs : List GArg) (its : List Item) (xs : List PX) : Prop where
  inv : Inv env tmps w O
  arg : All2 (ARg env w O tmps) gs its
  fin : All2 (FinX env) gs xs
  apart : Apart gs its
  clear : GArg.clear gs = true
  vw : ∀ b o, ViewAt gs its b o → O b o = none ∨ ∃ q t, O b o = some q ∧ Uses t (env.at t).2 q ∧ t ∉ GArg.boxes gs

variable {gs : List GArg} {its : List Item} {xs : List PX}

theorem Hand.once (h : Hand env tmps w O gs its xs) : Go.Proofs.Ytcngkdickmahhaa.once (GArg.boxes gs) = true := by
  have := h.clear
  simp only [GArg.clear, Bool.and_eq_true] at this
  exact this.1

theorem Hand.item (h : Hand env tmps w O gs its xs) {i : Nat} {a : Item} (ha : (handL gs its xs)[i]? = some (some a)) :
    IRep w O a.x a.v a.bx a.nm ∧ ((∃ y, gs[i]? = some (.v y none) ∧ a.x = y ∧ ILoose env a.x a.bx a.nm) ∨ ∃ r, gs[i]? = some (.b r) ∧ a.bx = .box r ∧ a.nm = (fun k => .pl r 0 k) ∧ a.v = tmps.getD r undef ∧ ∃ cs, (env.at r).2 = .box cs ∧ a.x = .b (cs.map (·.2))) := by
  obtain ⟨g, it, x, h1, h2, h3, rfl, h5⟩ := handL_get ha
  have hA := all2_at h.arg h1 h2
  have hF := all2_at h.fin h1 h3
  cases g with
  | v y src =>
    cases src with
    | some p => exact absurd rfl (h5 y p)
    | none =>
      obtain ⟨e, hi, hl⟩ := hA
      have hF : x = y := hF
      subst hF
      exact ⟨hi, .inl ⟨x, h1, rfl, hl⟩⟩
  | b r =>
    obtain ⟨e1, e2, e3⟩ := hA
    obtain ⟨cs, hcs, hx⟩ := hF
    simp only
    refine ⟨?_, .inr ⟨r, h1, e2, e3, e1, cs, hcs, hx⟩⟩
    subst hx
    have hm := h.inv.mem r
    rw [hcs] at hm
    obtain ⟨b, hb, hc⟩ := hm
    refine ⟨b, e1.trans hb, fun i c hi => ?_⟩
    rw [List.getElem?_map, Option.map_eq_some_iff] at hi
    obtain ⟨p, hp, rfl⟩ := hi
    rw [e2, e3]
    exact hc i p hp

theorem Hand.boxNames (_h : Hand env tmps w O gs its xs) {r : Nat} {cs : List (Nat × CV)} (hcs : (env.at r).2 = .box cs) {q : Owner} (hq : INames (.b (cs.map (·.2))) (.box r) (fun k => .pl r 0 k) q) : Uses r (env.at r).2 q := by
  rw [hcs]
  rcases hq with ⟨_, rfl⟩ | ⟨k, ⟨c, hc, hr⟩, rfl⟩
  · exact .inl rfl
  · rw [List.getElem?_map, Option.map_eq_some_iff] at hc
    obtain ⟨p, hp, rfl⟩ := hc
    exact .inr ⟨k, p, hp, hr, rfl⟩

theorem Hand.ents (h : Hand env tmps w O gs its xs) : Ents (handL gs its xs) := by
  refine ⟨fun i j a b q ha hb hq hq' => ?_, fun i a k l ha hk hl e => ?_, fun i a k ha hbx hk => ?_, fun i a q ha hq => ?_⟩
  · obtain ⟨_, hA⟩ := h.item ha
    obtain ⟨_, hB⟩ := h.item hb
    rcases hA with ⟨y, hy, ey, hl⟩ | ⟨r, hr, e1, e2, _, cs, hcs, ex⟩ <;> rcases hB with ⟨y', hy', ey', hl'⟩ | ⟨r', hr', e1', e2', _, cs', hcs', ex'⟩
    · obtain ⟨g, it, x, k1, k2, k3, rfl, _⟩ := handL_get ha
      obtain ⟨g', it', x', k1', k2', k3', rfl, _⟩ := handL_get hb
      simp only at ey ey' hq hq'
      subst ey; subst ey'
      exact h.apart i j x x' it it' hy hy' k2 k2' q hq hq'
    · rw [ex', e1', e2'] at hq'
      exact absurd (h.boxNames hcs' hq') (hl.free q hq r')
    · rw [ex, e1, e2] at hq
      exact absurd (h.boxNames hcs hq) (hl'.free q hq' r)
    · rw [ex, e1, e2] at hq
      rw [ex', e1', e2'] at hq'
      have s1 := (h.boxNames hcs hq).slot
      have s2 := (h.boxNames hcs' hq').slot
      have : r = r' := s1.symm.trans s2
      subst this
      exact boxes_once h.once hr hr'
  · obtain ⟨_, hA⟩ := h.item ha
    rcases hA with ⟨y, hy, ey, hlo⟩ | ⟨r, hr, e1, e2, _, cs, hcs, ex⟩
    · exact hlo.inj k l hk hl e
    · rw [e2] at e; injection e
  · obtain ⟨_, hA⟩ := h.item ha
    rcases hA with ⟨y, hy, ey, hlo⟩ | ⟨r, hr, e1, e2, _, cs, hcs, ex⟩
    · have := hlo.nobox; rw [hbx] at this; cases this
    · rw [e1, e2]; simp
  · obtain ⟨_, hA⟩ := h.item ha
    rcases hA with ⟨y, hy, ey, hlo⟩ | ⟨r, hr, e1, e2, _, cs, hcs, ex⟩
    · exact hlo.next q hq
    · rw [ex, e1, e2] at hq
      intro e
      subst e
      exact (h.boxNames hcs hq).ext

/-- No item's cell is seen through a view. -/
theorem Hand.view (h : Hand env tmps w O gs its xs) {b o : Nat} (hv : ViewAt gs its b o) : O b o = none ∨ ∃ q, O b o = some q ∧ ∀ (i : Nat) a, (handL gs its xs)[i]? = some (some a) → ¬ INames a.x a.bx a.nm q := by
  rcases h.vw b o hv with h0 | ⟨q, t, hq, hu, ht⟩
  · exact .inl h0
  · refine .inr ⟨q, hq, fun j a ha hn => ?_⟩
    obtain ⟨_, hB⟩ := h.item ha
    rcases hB with ⟨y, hy, ey, hlo⟩ | ⟨r, hr, e1, e2, _, cs2, hcs2, ex2⟩
    · exact hlo.free _ hn _ hu
    · rw [ex2, e1, e2] at hn
      have s1 := (h.boxNames hcs2 hn).slot
      have s2 := hu.slot
      have : t = r := s2.symm.trans s1
      exact ht (this ▸ boxes_mem hr)

/-- The places that are seen own their slices still. -/
theorem view_used (arg : All2 (ARg env w O tmps) gs its) (fin : All2 (FinR env) gs xs) (clear : GArg.clear gs = true) (b o : Nat) (hv : ViewAt gs its b o) :
    O b o = none ∨ ∃ q t, O b o = some q ∧ Uses t (env.at t).2 q ∧ t ∉ GArg.boxes gs := by
  obtain ⟨i, s, cs, p, it, off, len, cap, h1, h2, hval, ho1, ho2⟩ := hv
  have hA := all2_at arg h1 h2
  obtain ⟨x, hx, hF⟩ := all2_some fin h1
  obtain ⟨_, s', cs', bl, off', len', cap', ex, ev, _, _, _, _, hown, _⟩ := hA
  cases ex
  rw [ev] at hval
  cases hval
  rcases hown (o - off) (by omega) with hn | hs
  · left; rwa [show off + (o - off) = o by omega] at hn
  · right
    rw [show off + (o - off) = o by omega] at hs
    refine ⟨_, p.1, hs, hF.2, fun hm => ?_⟩
    simp only [GArg.clear, Bool.and_eq_true, List.all_eq_true] at clear
    have := clear.2 _ (List.mem_of_getElem? h1)
    obtain ⟨p1, p2, p3⟩ := p
    simp only [Bool.not_eq_true'] at this
    rw [← List.contains_iff_mem, this] at hm; cases hm
end

section
/- Calls: the contract. -/

variable {P : Program} {w : World} {env env' : Env} {O O' : Owns} {tmps : Array Value} {gs : List GArg} {its : List Item} {xs : List PX}

def retV (vs : List Value) : Value := if h : vs.length = 1 then vs[0] else .tuple vs.toArray

/-- What a call leaves behind. -/
structure Left (w : World) (O : Owns) (xs : List PX) (vals : List Value) (rs : List PX) (os : List (List CV)) (w' : World) (O' : Owns) (rvs : List Value) : Prop where
  evo : Evo w O w' O'
  bnd : ∀ b o q, O' b o = some q → b < w'.heap.size
  rlen : rvs.length = rs.length
  olen : os.length = xs.length
  res : ∀ (j : Nat) x v, rs[j]? = some x → rvs[j]? = some v → MRep w' O' (xs.length + j) x.slot.2 v
  out : ∀ (i : Nat) cs o v, xs[i]? = some (.b cs) → os[i]? = some o → vals[i]? = some v → MRep w' O' i (PX.b o).slot.2 v

/-- The function does what the pure machine says. -/
def CallOK (P : Program) (f : FuncId) (xs : List PX) (rs : List PX) (os : List (List CV)) : Prop :=
  ∀ (vals : List Value) (w : World) (O : Owns), vals.length = xs.length → (∀ (i : Nat) x v, xs[i]? = some x → vals[i]? = some v → MRep w O i x.slot.2 v) → (∀ b o q, O b o = some q → b < w.heap.size) →
    Calls P f vals.toArray w fun e w' => ∃ O' rvs, e = .returned (retV rvs) ∧ Left w O xs vals rs os w' O' rvs

noncomputable abbrev Hand.Oc (_ : Hand env tmps w O gs its xs) : Owns := enterO O (ViewAt gs its) (handL gs its xs)

theorem Hand.noname (h : Hand env tmps w O gs its xs) {i : Nat} {a : Item} (ha : (handL gs its xs)[i]? = some (some a)) {q : Owner} (hq : INames a.x a.bx a.nm q) {b o : Nat} (hO : O b o = some q) : ¬ ViewAt gs its b o := by
  intro hv
  rcases h.view hv with h0 | ⟨q', hq', hn⟩
  · rw [h0] at hO; cases hO
  · rw [hq'] at hO; cases hO
    exact hn i a ha hq

theorem Hand.enter (h : Hand env tmps w O gs its xs) {i : Nat} {x : PX} {v : Value} (hx : xs[i]? = some x) (hv : (its.map (·.v))[i]? = some v) : MRep w h.Oc i x.slot.2 v := by
  rw [List.getElem?_map, Option.map_eq_some_iff] at hv
  obtain ⟨it, hit, rfl⟩ := hv
  obtain ⟨g, hg⟩ : ∃ g, gs[i]? = some g := ⟨_, List.getElem?_eq_getElem (by rw [(all2_get h.arg).1]; exact getElem?_lt hit)⟩
  have hA := all2_at h.arg hg hit
  have hF := all2_at h.fin hg hx
  have named : (∀ y p, g ≠ .v y (some p)) → MRep w h.Oc i x.slot.2 it.v := by
    intro hn
    have ha := handL_of hg hit hx hn
    obtain ⟨hr, _⟩ := h.item ha
    simp only at hr
    refine irep_slot.1 (hr.rename (.inl fun b o ho => enterO_none ho) (fun hb b o ho => ?_) (fun k hk b o ho => ?_))
    · exact enterO_name h.ents (h.noname ha (.inl ⟨hb, rfl⟩) ho) ho ⟨i, _, ha, .inl ⟨hb, rfl, rfl⟩⟩
    · exact enterO_name h.ents (h.noname ha (.inr ⟨k, hk, rfl⟩) ho) ho ⟨i, _, ha, .inr ⟨k, hk, rfl, rfl⟩⟩
  cases g with
  | b r => exact named (fun _ _ e => by cases e)
  | v y src =>
    cases src with
    | none => exact named (fun _ _ e => by cases e)
    | some p =>
      obtain ⟨_, s, cs, bl, off, len, cap, rfl, ev, h0, h1, h2, hrow, _, _⟩ := hA
      have hx' : x = .c (.pv (.sl s cs)) := hF
      subst hx'
      refine frep_sl_mk ⟨bl, off, len, cap, ev, h0, h1, h2, fun j c hj => ?_⟩
      obtain ⟨q1, u, q2, q3⟩ := hrow j c hj
      refine ⟨q1, u, ?_, q3.mono fun b o u hu => ?_⟩
      · unfold Frz
        rw [if_pos (enterO_view ⟨i, s, cs, p, it, off, len, cap, hg, hit, ev, Nat.le_add_right _ _, by have := getElem?_lt hj; omega⟩)]
        exact q2
      · unfold Frz at hu ⊢
        split at hu
        · rename_i ho; rw [if_pos (enterO_none ho)]; exact hu
        · cases hu

theorem Hand.bnd (h : Hand env tmps w O gs its xs) {b o : Nat} {q : Owner} (hq : h.Oc b o = some q) : b < w.heap.size := by
  cases ho : O b o with
  | none => rw [Hand.Oc, enterO_none ho] at hq; cases hq
  | some q' => exact h.inv.bnd b o q' ho

/-- Whose cells the callee may turn. -/
def Hand.T (_ : Hand env tmps w O gs its xs) (q : Owner) : Prop := ∃ (i : Nat) (a : Item), (handL gs its xs)[i]? = some (some a) ∧ INames a.x a.bx a.nm q

theorem Hand.T_ext (h : Hand env tmps w O gs its xs) : ¬ h.T .ext := fun ⟨i, a, ha, hq⟩ => h.ents.next i a _ ha hq rfl

theorem Hand.hidden (h : Hand env tmps w O gs its xs) {b o : Nat} {q : Owner} (hq : O b o = some q) (hT : ¬ h.T q) : h.Oc b o = none ∨ h.Oc b o = some .ext :=
  enterO_other hq fun i a ha hn => hT ⟨i, a, ha, hn⟩

/-- Behind the call: the owners, by their names here. -/
noncomputable def leaveO (w : World) (O Oc Oc' : Owns) (L : List (Option Item)) (T : Nat → Owner × (Nat → Owner)) : Owns := fun b o =>
  match Oc' b o with
  | none => if b < w.heap.size then (match Oc b o with | none => O b o | _ => none) else none
  | some .ext => O b o
  | some q => renF L T none q
end

section
/- Calls: back from the callee. -/

variable {P : Program} {w w' : World} {env env' : Env} {O Oc' : Owns} {tmps : Array Value} {gs : List GArg} {its : List Item} {xs : List PX}

theorem outs_run : ∀ (gs : List GArg) (os : List (List CV)) (κ : Pr) (env : Env), once (GArg.boxes gs) = true → (Pr.outs κ gs os).run env = some env' →
    ∃ env3, κ.run env3 = some env' ∧ env3.length = env.length ∧ (∀ t, t ∉ GArg.boxes gs → env3.at t = env.at t) ∧
      ∀ (i r : Nat), gs[i]? = some (.b r) → ∃ o cs, os[i]? = some o ∧ (env.at r).2 = .box cs ∧ o.length = cs.length ∧ env3.at r = ((env.at r).1, .box ((cs.zip o).map fun p => (p.1.1 + 1, p.2))) ∧ r < env.length
  | [], os, κ, env, ho, h => ⟨env, by cases os <;> exact h, rfl, fun _ _ => rfl, fun i r h => by simp at h⟩
  | .v x s :: gs, [], κ, env, ho, h => by simp [Pr.outs, Pr.run] at h
  | .v x s :: gs, o :: os, κ, env, ho, h => by
    simp only [Pr.outs] at h
    obtain ⟨env3, h1, h2, h3, h4⟩ := outs_run gs os κ env ho h
    refine ⟨env3, h1, h2, h3, fun i r hi => ?_⟩
    cases i with
    | zero => simp at hi
    | succ i => simpa using h4 i r (by simpa using hi)
  | .b t :: gs, [], κ, env, ho, h => by simp [Pr.outs, Pr.run] at h
  | .b t :: gs, o :: os, κ, env, ho, h => by
    simp only [Pr.outs, Pr.run] at h
    simp only [GArg.boxes, once, Bool.and_eq_true, Bool.not_eq_true'] at ho
    have hnm : t ∉ GArg.boxes gs := fun hm => by rw [← List.contains_iff_mem, ho.1] at hm; cases hm
    split at h
    case h_2 => simp [Pr.run] at h
    rename_i cs hcs
    split at h
    case isFalse => simp [Pr.run] at h
    rename_i hlen
    simp only [Pr.run] at h
    rw [if_pos trivial, if_pos (by rw [hcs]; rfl)] at h
    have ht : t < env.length := by
      rcases Nat.lt_or_ge t env.length with h | h
      · exact h
      · rw [at_out env h] at hcs; cases hcs
    obtain ⟨env3, h1, h2, h3, h4⟩ := outs_run gs os κ _ ho.2 h
    refine ⟨env3, h1, by rw [h2]; simp, fun t' ht' => ?_, fun i r hi => ?_⟩
    · rw [h3 t' (fun hm => ht' (List.mem_cons_of_mem _ hm)), at_set_ne _ _ (fun e => ht' (by rw [e]; exact List.mem_cons_self))]
    · cases i with
      | zero =>
        simp at hi
        subst hi
        refine ⟨o, cs, rfl, hcs, hlen, ?_, ht⟩
        rw [h3 t hnm, at_set_same _ _ ht]
      | succ i =>
        have hi' : gs[i]? = some (.b r) := by simpa using hi
        obtain ⟨o', cs', e1, e2, e3, e4, e5⟩ := h4 i r hi'
        have hne : r ≠ t := fun e => hnm (e ▸ boxes_mem hi')
        rw [at_set_ne _ _ hne] at e2 e4
        exact ⟨o', cs', by simpa using e1, e2, e3, e4, by simpa using e5⟩

/-- What the results' slot holds. -/
def ResSV (rs : List PX) (x : SV) : Prop :=
  (∃ c, rs = [.c c] ∧ x = .cv c) ∨ (∃ cs, rs = [.s cs] ∧ x = .st cs) ∨ (∃ cs, rs = [.b cs] ∧ x = .box (cs.map fun c => (0, c))) ∨ (rs.length ≠ 1 ∧ ∃ ms, rs.mapM PX.cmp = some ms ∧ x = .tup ms)

theorem results_run {d : Option Nat} {rs : List PX} (h : (Pr.results d rs).run env = some env') : ∃ x, (Pr.put d x).run env = some env' ∧ ResSV rs x := by
  unfold Pr.results at h
  split at h
  · exact ⟨_, h, .inl ⟨_, rfl, rfl⟩⟩
  · exact ⟨_, h, .inr (.inl ⟨_, rfl, rfl⟩)⟩
  · exact ⟨_, h, .inr (.inr (.inl ⟨_, rfl, rfl⟩))⟩
  · rename_i h1 h2 h3
    split at h
    · rename_i ms hms
      refine ⟨_, h, .inr (.inr (.inr ⟨?_, ms, hms, rfl⟩))⟩
      intro hl
      match rs, hl with
      | [.c c], _ => exact h1 c rfl
      | [.s c], _ => exact h2 c rfl
      | [.b c], _ => exact h3 c rfl
    · simp [Pr.run] at h

def backItem (i : Nat) (g : GArg × List CV × Value) : Option Item :=
  match g.1 with
  | .b _ => some ⟨.b g.2.1, g.2.2, .box i, fun k => .pl i 0 k⟩
  | _ => none

/-- The items that come back: the boxes handed on, the results. -/
def backL (gs : List GArg) (os : List (List CV)) (vals : List Value) (rs : List PX) (rvs : List Value) : List (Option Item) :=
  (gs.zip (os.zip vals)).mapIdx backItem ++
  (rs.zip rvs).mapIdx (fun j r => some ⟨r.1, r.2, .box (gs.length + j), fun k => .pl (gs.length + j) 0 k⟩)

theorem backL_slot {os : List (List CV)} {vals : List Value} {rs : List PX} {rvs : List Value} (h1 : os.length = gs.length) (h2 : vals.length = gs.length) {i : Nat} {a : Item} (h : (backL gs os vals rs rvs)[i]? = some (some a)) : a.bx = .box i ∧ a.nm = fun k => .pl i 0 k := by
  unfold backL at h
  rw [List.getElem?_append] at h
  split at h
  · rw [List.getElem?_mapIdx, Option.map_eq_some_iff] at h
    obtain ⟨⟨g, o, v⟩, _, e⟩ := h
    cases g with
    | b r => simp only [backItem, Option.some.injEq] at e; subst e; exact ⟨rfl, rfl⟩
    | v x s => simp [backItem] at e
  · rename_i hge
    rw [List.getElem?_mapIdx, Option.map_eq_some_iff] at h
    obtain ⟨⟨r, v⟩, _, e⟩ := h
    simp only [Option.some.injEq] at e
    have hl : ((gs.zip (os.zip vals)).mapIdx backItem).length = gs.length := by simp [h1, h2]
    rw [hl] at hge e
    subst e
    have : gs.length + (i - gs.length) = i := by omega
    simp [this]

theorem backL_ents {os : List (List CV)} {vals : List Value} {rs : List PX} {rvs : List Value} (h1 : os.length = gs.length) (h2 : vals.length = gs.length) : Ents (backL gs os vals rs rvs) := by
  have nm : ∀ i a q, (backL gs os vals rs rvs)[i]? = some (some a) → INames a.x a.bx a.nm q → q.slot = i ∧ q ≠ .ext := by
    intro i a q ha hq
    obtain ⟨e1, e2⟩ := backL_slot h1 h2 ha
    rw [e1, e2] at hq
    rcases hq with ⟨_, rfl⟩ | ⟨k, _, rfl⟩
    · exact ⟨rfl, by simp⟩
    · exact ⟨rfl, by simp⟩
  refine ⟨fun i j a b q ha hb hq hq' => (nm i a q ha hq).1.symm.trans (nm j b q hb hq').1, fun i a k l ha _ _ e => ?_, fun i a k ha _ _ => ?_, fun i a q ha hq => (nm i a q ha hq).2⟩
  · rw [(backL_slot h1 h2 ha).2] at e; injection e
  · rw [(backL_slot h1 h2 ha).1, (backL_slot h1 h2 ha).2]; simp
end

section
/- Calls: back from the callee, joined. -/

variable {P : Program} {w w' : World} {env env' : Env} {O Oc' : Owns} {tmps : Array Value} {gs : List GArg} {its : List Item} {xs : List PX}

def backT (gs : List GArg) (d : Nat) (i : Nat) : Owner × (Nat → Owner) :=
  match gs[i]? with
  | some (.b r) => (.box r, fun k => .pl r 0 k)
  | some (.v _ _) => (.box 0, fun k => .pl 0 0 k)
  | none => (.box d, fun k => .pl d (i - gs.length) k)

theorem leaveO_ext {w : World} {O Oc Oc' : Owns} {L : List (Option Item)} {T : Nat → Owner × (Nat → Owner)} {b o : Nat} (h : Oc' b o = some .ext) : leaveO w O Oc Oc' L T b o = O b o := by
  unfold leaveO; rw [h]
theorem leaveO_old {w : World} {O Oc Oc' : Owns} {L : List (Option Item)} {T : Nat → Owner × (Nat → Owner)} {b o : Nat} (h : Oc' b o = none) (hb : b < w.heap.size) (hc : Oc b o = none) : leaveO w O Oc Oc' L T b o = O b o := by
  unfold leaveO; rw [h]; simp only; rw [if_pos hb, hc]
theorem leaveO_none {w : World} {O Oc Oc' : Owns} {L : List (Option Item)} {T : Nat → Owner × (Nat → Owner)} {b o : Nat} (h : Oc' b o = none) (hs : Oc b o = none → O b o = none) : leaveO w O Oc Oc' L T b o = none := by
  unfold leaveO; rw [h]; simp only
  split
  · cases hc : Oc b o with
    | none => exact hs hc
    | some q => rfl
  · rfl
theorem leaveO_name {w : World} {O Oc Oc' : Owns} {L : List (Option Item)} (hL : Ents L) {T : Nat → Owner × (Nat → Owner)} {b o : Nat} {q q' : Owner} (h : Oc' b o = some q) (hr : Ren L T q q') : leaveO w O Oc Oc' L T b o = some q' := by
  have hq : q ≠ .ext := by
    obtain ⟨i, a, hi, ha⟩ := hr
    refine hL.next i a q hi ?_
    rcases ha with ⟨h1, h2, _⟩ | ⟨k, h1, h2, _⟩
    · exact .inl ⟨h1, h2⟩
    · exact .inr ⟨k, h1, h2⟩
  unfold leaveO; rw [h]
  cases q with
  | ext => exact absurd rfl hq
  | box t => exact renF_of hL hr
  | pl t j i => exact renF_of hL hr

theorem boxes_at : ∀ {gs : List GArg} {r : Nat}, r ∈ GArg.boxes gs → ∃ i : Nat, gs[i]? = some (GArg.b r)
  | [], r, h => by simp [GArg.boxes] at h
  | .v x s :: gs, r, h => by
    obtain ⟨i, hi⟩ := boxes_at (gs := gs) h
    exact ⟨i + 1, by simpa using hi⟩
  | .b t :: gs, r, h => by
    simp only [GArg.boxes, List.mem_cons] at h
    rcases h with rfl | h
    · exact ⟨0, rfl⟩
    · obtain ⟨i, hi⟩ := boxes_at (gs := gs) h
      exact ⟨i + 1, by simpa using hi⟩

theorem call_back (h : Hand env tmps w O gs its xs) {rs : List PX} {os : List (List CV)} {rvs : List Value} (L : Left w h.Oc xs (its.map (·.v)) rs os w' Oc' rvs)
    (hsafe : (∀ b o, h.Oc b o = none → O b o = none) ∨ (GArg.boxes gs = [] ∧ rs.all PX.noSl = true)) {d : Option Nat} {env3 : Env} (hrun : (Pr.results d rs).run env3 = some env') (hlen3 : env3.length = env.length)
    (hsame3 : ∀ t, t ∉ GArg.boxes gs → env3.at t = env.at t)
    (hbox3 : ∀ (i r : Nat), gs[i]? = some (.b r) → ∃ o cs, os[i]? = some o ∧ (env.at r).2 = .box cs ∧ o.length = cs.length ∧ env3.at r = ((env.at r).1, .box ((cs.zip o).map fun p => (p.1.1 + 1, p.2))) ∧ r < env.length) :
    ∃ O', Inv env' (putT tmps d (retV rvs)) w' O' ∧ Evo w O w' O' := by
  have hgx : xs.length = gs.length := (all2_get h.fin).1.symm
  have hgi : its.length = gs.length := (all2_get h.arg).1.symm
  have hol : os.length = gs.length := L.olen.trans hgx
  have hvl : (its.map (·.v)).length = gs.length := by simp [hgi]
  obtain ⟨B, hB⟩ : ∃ B, B = backL gs os (its.map (·.v)) rs rvs := ⟨_, rfl⟩
  have hE : Ents B := by rw [hB]; exact backL_ents hol hvl
  obtain ⟨O', hO'⟩ : ∃ O', O' = leaveO w O h.Oc Oc' B (backT gs (d.getD 0)) := ⟨_, rfl⟩
  -- what is hidden stands
  have hkeep : Keep h.T w O w' O' := by
    intro b o u hu hq
    have hb := cellAt_lt hu
    have hnone : h.Oc b o = none → cellAt w' b o = some u ∧ O' b o = O b o ∧ frozenAt w' b o = frozenAt w b o := by
      intro hc
      obtain ⟨e1, e2, e3⟩ := L.evo.cell b o hb hc
      exact ⟨e2.trans hu, by rw [hO']; exact leaveO_old e1 hb hc, e3⟩
    cases ho : O b o with
    | none => rw [← ho]; exact hnone (enterO_none ho)
    | some q =>
      rw [← ho]
      rcases h.hidden ho (hq q ho) with hc | hc
      · exact hnone hc
      · obtain ⟨e1, e2, e3⟩ := L.evo.ext b o u hu hc
        exact ⟨e1, by rw [hO']; exact leaveO_ext e2, e3⟩
  have hevo : Evo w O w' O' := by
    refine ⟨L.evo.os, L.evo.tape, L.evo.output, L.evo.size, fun b hb hn => L.evo.block b hb fun o => enterO_none (hn o), fun b o hb hn => ?_, hkeep.ext h.T_ext⟩
    obtain ⟨e1, e2, e3⟩ := L.evo.cell b o hb (enterO_none hn)
    exact ⟨by rw [hO']; exact (leaveO_old e1 hb (enterO_none hn)).trans hn, e2, e3⟩
  have hbnd : ∀ b o q, O' b o = some q → b < w'.heap.size := by
    intro b o q hq
    rw [hO'] at hq
    unfold leaveO at hq
    split at hq
    · split at hq
      · rename_i hb; exact Nat.lt_of_lt_of_le hb L.evo.size
      · cases hq
    · exact Nat.lt_of_lt_of_le (h.inv.bnd b o q hq) L.evo.size
    · exact L.bnd b o _ (by assumption)
  have hsf : ∀ x : PX, (x ∈ rs ∨ ∃ r, r ∈ GArg.boxes gs) → Safe Oc' O' x.noSl := by
    intro x hx
    rcases hsafe with hs | ⟨hs1, hs2⟩
    · left
      intro b o hn
      rw [hO']; exact leaveO_none hn (hs b o)
    · right
      rcases hx with hx | ⟨r, hr⟩
      · exact List.all_eq_true.1 hs2 x hx
      · rw [hs1] at hr; cases hr
  -- an item that comes back
  have hback : ∀ (i : Nat) (a : Item), B[i]? = some (some a) → Safe Oc' O' a.x.noSl → MRep w' Oc' i a.x.slot.2 a.v → IRep w' O' a.x a.v (backT gs (d.getD 0) i).1 (backT gs (d.getD 0) i).2 := by
    intro i a ha hs hm
    obtain ⟨e1, e2⟩ := backL_slot hol hvl (hB ▸ ha)
    refine IRep.rename hs (fun hb b o ho => ?_) (fun k hk b o ho => ?_) (irep_slot.2 hm)
    · rw [hO']; exact leaveO_name hE ho ⟨i, a, ha, .inl ⟨hb, e1.symm, rfl⟩⟩
    · rw [hO']; exact leaveO_name hE ho ⟨i, a, ha, .inr ⟨k, hk, by rw [e2], rfl⟩⟩
  have hboxes : ∀ (i r : Nat), gs[i]? = some (.b r) → ∀ o, os[i]? = some o → MRep w' O' r (PX.b o).slot.2 (tmps.getD r undef) := by
    intro i r hi o ho
    have hil := getElem?_lt hi
    obtain ⟨it, hit⟩ : ∃ it, its[i]? = some it := ⟨_, List.getElem?_eq_getElem (by omega)⟩
    have hA := all2_at h.arg hi hit
    obtain ⟨x, hx, hF⟩ := all2_some h.fin hi
    obtain ⟨cs, hcs, ex⟩ := hF
    have hv : (its.map (·.v))[i]? = some it.v := by rw [List.getElem?_map, hit]; rfl
    have hm := L.out i _ o it.v (ex ▸ hx) ho hv
    have ha : B[i]? = some (some ⟨.b o, it.v, .box i, fun k => .pl i 0 k⟩) := by
      rw [hB]; unfold backL
      rw [List.getElem?_append_left (by simp; omega), List.getElem?_mapIdx]
      have : (gs.zip (os.zip (its.map (·.v))))[i]? = some (.b r, o, it.v) := by
        rw [List.getElem?_zip_eq_some, List.getElem?_zip_eq_some]; exact ⟨hi, ho, hv⟩
      rw [this]; rfl
    have := hback i _ ha (hsf _ (.inr ⟨r, boxes_mem hi⟩)) hm
    have e : backT gs (d.getD 0) i = (.box r, fun k => .pl r 0 k) := by unfold backT; rw [hi]
    rw [e] at this
    rw [← hA.1]
    exact irep_slot.1 this
  have hres : ∀ (j : Nat) x v, rs[j]? = some x → rvs[j]? = some v → IRep w' O' x v (.box (d.getD 0)) (fun k => .pl (d.getD 0) j k) := by
    intro j x v hx hv
    have hm := L.res j x v hx hv
    rw [hgx] at hm
    have ha : B[gs.length + j]? = some (some ⟨x, v, .box (gs.length + j), fun k => .pl (gs.length + j) 0 k⟩) := by
      rw [hB]; unfold backL
      have hl : ((gs.zip (os.zip (its.map (·.v)))).mapIdx backItem).length = gs.length := by simp [hol, hgi]
      rw [List.getElem?_append_right (by rw [hl]; omega), hl, List.getElem?_mapIdx]
      rw [show gs.length + j - gs.length = j by omega]
      have : (rs.zip rvs)[j]? = some (x, v) := by rw [List.getElem?_zip_eq_some]; exact ⟨hx, hv⟩
      rw [this]; rfl
    have := hback _ _ ha (hsf _ (.inl (List.mem_of_getElem? hx))) hm
    have e : backT gs (d.getD 0) (gs.length + j) = (.box (d.getD 0), fun k => .pl (d.getD 0) j k) := by
      unfold backT
      rw [List.getElem?_eq_none (by omega)]
      simp
    rw [e] at this
    exact this
  obtain ⟨x, hput, hsv⟩ := results_run hrun
  -- what stands in the results' slot
  have hmx : ∀ d', d = some d' → MRep w' O' d' x (retV rvs) := by
    intro d' hd
    subst hd
    simp only [Option.getD_some] at hres
    have hone : ∀ y, rs = [y] → ∃ v, rvs = [v] ∧ retV rvs = v := by
      intro y hy
      have := L.rlen
      rw [hy] at this
      match rvs, this with
      | [v], _ => exact ⟨v, rfl, rfl⟩
    rcases hsv with ⟨c, h1, h2⟩ | ⟨c, h1, h2⟩ | ⟨c, h1, h2⟩ | ⟨h0, ms, h1, h2⟩
    · obtain ⟨v, hv1, hv2⟩ := hone _ h1
      rw [h2, hv2]
      exact (irep_slot (t := d')).1 (hres 0 (.c c) v (by rw [h1]; rfl) (by rw [hv1]; rfl))
    · obtain ⟨v, hv1, hv2⟩ := hone _ h1
      rw [h2, hv2]
      exact (irep_slot (t := d')).1 (hres 0 (.s c) v (by rw [h1]; rfl) (by rw [hv1]; rfl))
    · obtain ⟨v, hv1, hv2⟩ := hone _ h1
      rw [h2, hv2]
      exact (irep_slot (t := d')).1 (hres 0 (.b c) v (by rw [h1]; rfl) (by rw [hv1]; rfl))
    · rw [h2]
      have hl0 : rvs.length ≠ 1 := by rw [L.rlen]; exact h0
      have : retV rvs = .tuple rvs.toArray := by unfold retV; rw [dif_neg hl0]
      rw [this]
      obtain ⟨m1, m2⟩ := mapM_some h1
      refine ⟨_, rfl, by simp [m1, L.rlen], fun j m hm => ?_⟩
      obtain ⟨y, hy, hc⟩ := m2 j m hm
      have hjl := getElem?_lt hy
      have hvj : rvs[j]? = some (rvs[j]'(by rw [L.rlen]; exact hjl)) := List.getElem?_eq_getElem _
      refine ⟨rvs[j]'(by rw [L.rlen]; exact hjl), by rw [List.getElem?_toArray]; exact hvj, ?_⟩
      have hr := hres j y _ hy hvj
      cases y with
      | c c => simp only [PX.cmp, Option.some.injEq] at hc; subst hc; exact hr
      | s cs => simp only [PX.cmp, Option.some.injEq] at hc; subst hc; exact hr
      | b cs => cases hc
  have hax : ARep env tmps w x (retV rvs) := by
    rcases hsv with ⟨c, _, h2⟩ | ⟨c, _, h2⟩ | ⟨c, _, h2⟩ | ⟨_, ms, _, h2⟩ <;> subst h2 <;> trivial
  refine ⟨O', ?_, hevo⟩
  -- the row of slots
  have hg3 : ∀ t, (env3.at t).1 = (env.at t).1 ∧ ((env.at t).2.hd = .plain → (env3.at t).2.hd = .plain) ∧ ((env3.at t).2.hd = .plain → (env.at t).2.hd = .plain) := by
    intro t
    by_cases ht : t ∈ GArg.boxes gs
    · obtain ⟨i, hi⟩ := boxes_at ht
      obtain ⟨o, cs, _, e2, _, e4, _⟩ := hbox3 i t hi
      rw [e4, e2]
      refine ⟨rfl, fun e => ?_, fun e => ?_⟩
      · cases e
      · cases e
    · rw [hsame3 t ht]; exact ⟨rfl, id, id⟩
  have hd3 : ∀ t, (∀ d', d = some d' → t ≠ d') → env'.at t = env3.at t ∧ (putT tmps d (retV rvs)).getD t undef = tmps.getD t undef := by
    intro t ht
    cases d with
    | none => simp only [Pr.put, Pr.run, Option.some.injEq] at hput; subst hput; exact ⟨rfl, rfl⟩
    | some d =>
      simp only [Pr.put, Pr.run, Option.some.injEq] at hput
      subst hput
      refine ⟨at_set_ne _ _ (ht d rfl), ?_⟩
      show (tmps.setIfInBounds d _).getD t undef = _
      rw [tmp_set, if_neg (fun e => ht d rfl e.1)]
  have hdd : ∀ d', d = some d' → d' < env.length → (∃ g, env'.at d' = (g, x) ∧ ((env.at d').1 < g ∨ ((env.at d').1 = g ∧ (env.at d').2.hd = .plain))) ∧ (putT tmps d (retV rvs)).getD d' undef = retV rvs := by
    intro d' hd hlt
    subst hd
    simp only [Pr.put, Pr.run, Option.some.injEq] at hput
    subst hput
    refine ⟨⟨_, at_set_same _ _ (by rw [hlen3]; exact hlt), ?_⟩, ?_⟩
    · obtain ⟨e1, e2, e3⟩ := hg3 d'
      rw [e1]
      split
      · rename_i hp; exact .inr ⟨rfl, e3 hp⟩
      · exact .inl (Nat.lt_succ_self _)
    · show (tmps.setIfInBounds d' _).getD d' undef = _
      rw [tmp_set, if_pos ⟨rfl, h.inv.len ▸ hlt⟩]
  have hlen' : env'.length = (putT tmps d (retV rvs)).size := by
    cases d with
    | none => simp only [Pr.put, Pr.run, Option.some.injEq] at hput; subst hput; rw [hlen3]; exact h.inv.len
    | some d => simp only [Pr.put, Pr.run, Option.some.injEq] at hput; subst hput; simp [hlen3, h.inv.len, putT]
  refine h.inv.make (fun t => t ∈ GArg.boxes gs ∨ (d = some t ∧ t < env.length)) h.T hlen' hbnd hkeep ?_ ?_ ?_ ?_ ?_
  · rintro t ht q hq ⟨i, a, ha, hn⟩
    obtain ⟨_, hA⟩ := h.item ha
    rcases hA with ⟨y, _, _, hlo⟩ | ⟨r, hr, e1, e2, _, cs, hcs, ex⟩
    · exact hlo.free q hn t hq
    · rw [ex, e1, e2] at hn
      have s1 := (h.boxNames hcs hn).slot
      have : r = t := s1.symm.trans hq.slot
      subst this
      exact ht (.inl (boxes_mem hr))
  · intro t ht
    by_cases hdt : d = some t
    · have hge : env.length ≤ t := by
        rcases Nat.lt_or_ge t env.length with hlt | hge
        · exact absurd (.inr ⟨hdt, hlt⟩) ht
        · exact hge
      subst hdt
      simp only [Pr.put, Pr.run, Option.some.injEq] at hput
      subst hput
      refine ⟨?_, ?_⟩
      · rw [at_out _ (by simp [hlen3]; exact hge), at_out env hge]
      · show (tmps.setIfInBounds t _).getD t undef = _
        rw [tmp_set, if_neg (fun e => by have := h.inv.len; omega)]
    · obtain ⟨e1, e2⟩ := hd3 t (fun d' hd e => hdt (by rw [hd, e]))
      rw [e1, e2]
      exact ⟨hsame3 t (fun hm => ht (.inl hm)), rfl⟩
  · intro t ht
    by_cases hdt : d = some t ∧ t < env.length
    · obtain ⟨⟨g, e1, _⟩, e2⟩ := hdd t hdt.1 hdt.2
      rw [e1, e2]
      exact hmx t hdt.1
    · have htb := ht.resolve_right hdt
      obtain ⟨i, hi⟩ := boxes_at htb
      obtain ⟨o, cs, ho, e2, e3, e4, e5⟩ := hbox3 i t hi
      obtain ⟨k1, k2⟩ := hd3 t (fun d' hd e => hdt ⟨by rw [hd, e], e5⟩)
      rw [k1, k2, e4]
      obtain ⟨b, hb, hc⟩ := hboxes i t hi o ho
      refine ⟨b, hb, fun j p hp => ?_⟩
      rw [List.getElem?_map, Option.map_eq_some_iff] at hp
      obtain ⟨⟨⟨g, c0⟩, c1⟩, hz, rfl⟩ := hp
      rw [List.getElem?_zip_eq_some] at hz
      exact hc j (0, c1) (by rw [List.getElem?_map, hz.2]; rfl)
  · intro t ht
    by_cases hdt : d = some t ∧ t < env.length
    · obtain ⟨⟨g, e1, e3⟩, _⟩ := hdd t hdt.1 hdt.2
      rw [e1]
      exact RootStep.new e3
    · have htb := ht.resolve_right hdt
      obtain ⟨i, hi⟩ := boxes_at htb
      obtain ⟨o, cs, ho, e2, e3, e4, e5⟩ := hbox3 i t hi
      obtain ⟨k1, k2⟩ := hd3 t (fun d' hd e => hdt ⟨by rw [hd, e], e5⟩)
      rw [k1, k2, e4]
      have he : env.at t = ((env.at t).1, .box cs) := by rw [← e2]
      refine ⟨Nat.le_refl _, fun _ _ => ⟨by rw [e2]; rfl, rfl⟩, fun k gs' gc ho' => ?_, fun k gs' gc c' ho' hl => ?_⟩
      · refine ⟨ho'.1, fun e => ?_⟩
        have h2 := ho'.2 e
        rw [e2] at h2
        obtain ⟨p, hp, hle, _⟩ := h2
        have hk := getElem?_lt hp
        refine ⟨(p.1 + 1, o[k]'(by omega)), ?_, by simp only; omega, fun e' => by simp only at e'; omega⟩
        rw [List.getElem?_map]
        have : (cs.zip o)[k]? = some (p, o[k]'(by omega)) := by rw [List.getElem?_zip_eq_some]; exact ⟨hp, List.getElem?_eq_getElem _⟩
        rw [this]; rfl
      · exfalso
        unfold live at hl
        simp only at hl
        split at hl
        · rename_i e
          have h2 := ho'.2 e.symm
          rw [e2] at h2
          obtain ⟨p, hp, hle, _⟩ := h2
          have hk := getElem?_lt hp
          rw [List.getElem?_map] at hl
          have : (cs.zip o)[k]? = some (p, o[k]'(by omega)) := by rw [List.getElem?_zip_eq_some]; exact ⟨hp, List.getElem?_eq_getElem _⟩
          rw [this] at hl
          simp only [Option.map_some] at hl
          split at hl
          · rename_i e'; omega
          · cases hl
        · cases hl
  · intro t ht
    by_cases hdt : d = some t ∧ t < env.length
    · obtain ⟨⟨g, e1, _⟩, e2⟩ := hdd t hdt.1 hdt.2
      rw [e1, e2]; exact hax
    · have htb := ht.resolve_right hdt
      obtain ⟨i, hi⟩ := boxes_at htb
      obtain ⟨o, cs, ho, e2, e3, e4, e5⟩ := hbox3 i t hi
      obtain ⟨k1, k2⟩ := hd3 t (fun d' hd e => hdt ⟨by rw [hd, e], e5⟩)
      rw [k1, e4]; trivial
end

section
/- Calls: the operation. Every compiled operation, as the walk meets it. -/

variable {P : Program} {o : Oper} {a : Act} {w : World} {env env' : Env} {O : Owns}

def IsFn (P : Program) (f : FuncId) : Prop := ∃ fn c, P.funcs[f]? = some fn ∧ (fn.name == "runtime.NumGoroutine") = false ∧ fn.body = some c

/-- The table of functions keeps its word. -/
def TableOK (P : Program) (F : Fns) : Prop := ∀ f xs rs os, F f xs = some (rs, os) → IsFn P f ∧ CallOK P f xs rs os

theorem call_run {c : Call} {f : FuncId} (hf : IsFn P f) (ho : o.op = .call c) (hcal : c.callee = .value (.func f)) : (execOp a.eval o).run P w = .ok (.enter f (c.args.map a.eval)) w := by
  obtain ⟨fn, cd, h1, h2, h3⟩ := hf
  have hname : ¬ fn.name = "runtime.NumGoroutine" := by simpa using h2
  simp [execOp, ho, resolve, hcal, Deferred.ofValue, invoke, Act.eval, callFunc, h1, hname, h3]

theorem act_put (a : Act) (d : Option Nat) (v : Value) : (a.put d v).tmps = putT a.tmps d v ∧ (a.put d v).defers = a.defers := by
  cases d <;> exact ⟨rfl, rfl⟩

/-- An operation, as the walk meets it: whatever holds of every state that the pure machine's stands for. -/
def OpWp (P : Program) (o : Oper) (a : Act) (w : World) (env' : Env) (O : Owns) : Prop :=
  ∀ (K : Act → World → Prop) (Q : Exit → Act → World → Prop), (∀ v w' O', Inv env' (putT a.tmps o.dst v) w' O' → Evo w O w' O' → K (a.put o.dst v) w') → o.wp P a w K Q

theorem OpVal.wp (h : OpVal P o a w env' O) : OpWp P o a w env' O := by
  intro K Q hK
  obtain ⟨v, w', O', n, hr, hn, hi, he⟩ := h
  unfold Oper.wp
  rw [hr]
  rcases hn with rfl | ⟨rfl, rfl⟩
  · rw [Oper.upon_value]; exact hK v w' O' hi he
  · rw [Oper.upon_skip]; exact hK undef w' O' hi he

theorem call_wp {F : Fns} (hF : TableOK P F) {c : Call} {f : FuncId} {ys : List (Bool × Opd)} {zs : List Opd} (ho : o.op = .call c) (hcal : c.callee = .value (.func f)) (hx : cOpds c.args = some zs) (hz : ys.map (·.2) = zs) (inv : Inv env a.tmps w O)
    (h : (stepOp F o.dst (.call f ys)).run env = some env') : OpWp P o a w env' O := by
  intro K Q hK
  have hreps : OpdReps a.tmps (ys.map (·.2)) (c.args.toList.map a.eval) := by
    rw [hz]
    obtain ⟨m1, m2⟩ := mapM_some hx
    refine ⟨by simp [m1], fun i o v hi hv => ?_⟩
    obtain ⟨y, hy, hc⟩ := m2 i o hi
    rw [List.getElem?_map, hy] at hv
    simp only [Option.map_some, Option.some.injEq] at hv
    subst hv
    exact cOpd_rep hc a
  simp only [stepOp] at h
  obtain ⟨gs, its, env1, O1, g1, hvs, harg, hap, _, h⟩ := args_run ys _ _ env O inv hreps h
  split at h
  case isFalse => simp [Pr.run] at h
  rename_i hclear
  obtain ⟨xs, hfin, h⟩ := fins_run gs _ h
  split at h
  case h_2 => simp [Pr.run] at h
  rename_i rs os hres
  obtain ⟨hfn, hcall⟩ := hF f xs rs os hres
  have hvals : (c.args.map a.eval) = (its.map (·.v)).toArray := by
    rw [hvs]; apply Array.ext'; simp
  -- the call itself, under what is handed on
  have main : ∀ (env2 : Env) (O2 : Owns), Gh a.tmps w env O env2 O2 → ∀ hh : Hand env2 a.tmps w O2 gs its xs,
      (∀ w' Oc' rvs, Left w hh.Oc xs (its.map (·.v)) rs os w' Oc' rvs → ∃ O', Inv env' (putT a.tmps o.dst (retV rvs)) w' O' ∧ Evo w O2 w' O') → o.wp P a w K Q := by
    intro env2 O2 g2 hh hb
    unfold Oper.wp
    rw [call_run hfn ho hcal, Oper.upon_enter, hvals]
    refine (hcall (its.map (·.v)) w hh.Oc ?_ (fun i x v hx hv => hh.enter hx hv) (fun b o q hq => hh.bnd hq)).mono ?_
    · rw [List.length_map, ← (all2_get harg).1, (all2_get hfin).1]
    · rintro e w' ⟨Oc', rvs, rfl, L⟩
      obtain ⟨O', h1, h2⟩ := hb w' Oc' rvs L
      exact hK _ _ _ h1 (g2.evo.trans h2)
  split at h
  · rename_i hcond
    simp only [Bool.and_eq_true, List.isEmpty_iff] at hcond
    have hh : Hand env1 a.tmps w O1 gs its xs := ⟨g1.inv, harg, hfin.imp (fun _ _ h => h.x), hap, hclear, view_used harg hfin hclear⟩
    refine main env1 O1 g1 hh fun w' Oc' rvs L => ?_
    refine call_back hh L (.inr hcond) h rfl (fun _ _ => rfl) (fun i r hi => ?_)
    have := boxes_mem hi
    rw [hcond.1] at this; cases this
  · obtain ⟨env2, O2, g2, hk, hview, hsame⟩ := demote_run gs its _ env1 O1 g1.inv harg h
    have hboxsame : ∀ (i r : Nat), gs[i]? = some (.b r) → env2.at r = env1.at r := by
      intro i r hi
      refine hsame r fun j x p hj e => ?_
      simp only [GArg.clear, Bool.and_eq_true, List.all_eq_true] at hclear
      have := hclear.2 _ (List.mem_of_getElem? hj)
      obtain ⟨p1, p2, p3⟩ := p
      simp only [Bool.not_eq_true'] at this
      have hm := boxes_mem hi
      simp only at e
      rw [← List.contains_iff_mem, ← e, this] at hm; cases hm
    have harg2 : All2 (ARg env2 w O2 a.tmps) gs its := harg.imp fun _ _ h => h.gh g2
    have hfin2 : All2 (FinX env2) gs xs := by
      refine all2_of (all2_get hfin).1 fun i g x hg hx => ?_
      have := (all2_at hfin hg hx).x
      cases g with
      | v y s => exact this
      | b r =>
        obtain ⟨cs, hcs, ex⟩ := this
        exact ⟨cs, by rw [hboxsame i r hg]; exact hcs, ex⟩
    have hh : Hand env2 a.tmps w O2 gs its xs := ⟨g2.inv, harg2, hfin2, hap, hclear, fun b o hv => .inl (hview b o hv)⟩
    refine main env2 O2 (g1.trans g2) hh fun w' Oc' rvs L => ?_
    obtain ⟨env3, k1, k2, k3, k4⟩ := outs_run gs os _ env2 hh.once hk
    refine call_back hh L (.inl fun b o hn => ?_) k1 k2 k3 k4
    rcases enterO_back hn with hv | hn
    · exact hview b o hv
    · exact hn

theorem cOp_call {tk : List Bool} {f : FuncId} {ys : List (Bool × Opd)} {op : Op} (hc : cOp P tk op = some (.call f ys)) : ∃ c zs, op = .call c ∧ c.callee = .value (.func f) ∧ cOpds c.args = some zs ∧ ys.map (·.2) = zs := by
  cases op with
  | call c =>
    simp only [cOp] at hc
    split at hc
    · rename_i g hcal
      simp only [Option.map_eq_some_iff] at hc
      obtain ⟨zs, hz, e⟩ := hc
      simp only [POp.call.injEq] at e
      obtain ⟨rfl, rfl⟩ := e
      refine ⟨c, zs, rfl, hcal, hz, ?_⟩
      apply List.ext_getElem?
      intro i
      simp
      cases zs[i]? <;> rfl
    all_goals (exfalso; revert hc; (repeat' split) <;> simp [Option.map_eq_some_iff, Option.bind_eq_some_iff] <;> (repeat' split) <;> intros <;> (try contradiction) <;> (try split) <;> simp)
  | binOp op t x y u =>
    exfalso; revert hc; simp only [cOp, cEq]; (repeat' split) <;> simp [Option.bind_eq_some_iff]
  | _ => exfalso; revert hc; simp only [cOp]; (repeat' split) <;> simp [Option.map_eq_some_iff, Option.bind_eq_some_iff] <;> (repeat' split) <;> simp [Option.bind_eq_some_iff]

/-- Every compiled operation. -/
theorem op_wp {F : Fns} (hF : TableOK P F) {tk : List Bool} {p : POp} (hc : cOp P tk o.op = some p) (inv : Inv env a.tmps w O) (h : (stepOp F o.dst p).run env = some env') : OpWp P o a w env' O := by
  by_cases hn : p.isCall = true
  · cases p with
    | call f ys =>
      obtain ⟨c, zs, h1, h2, h3, h4⟩ := cOp_call hc
      exact call_wp hF h1 h2 h3 h4 inv h
    | _ => cases hn
  · exact (op_ok hc (by simpa using hn) inv h).wp
end

section
/- Regions: one step, guards; the list in its order. -/

variable {P : Program} {a : Act} {w : World} {env env' : Env} {O : Owns}

/-- The first n temporaries are as they were. -/
def Low (n : Nat) (a a' : Act) : Prop := ∀ t, t < n → a'.tmps.getD t undef = a.tmps.getD t undef

theorem Low.refl (n : Nat) (a : Act) : Low n a a := fun _ _ => rfl
theorem Low.trans {n : Nat} {a b c : Act} (h : Low n a b) (k : Low n b c) : Low n a c := fun t ht => (k t ht).trans (h t ht)
theorem Low.put {n : Nat} (a : Act) (d : Option Nat) (v : Value) (h : ∀ t, d = some t → n ≤ t) : Low n a (a.put d v) := by
  intro t ht
  cases d with
  | none => rfl
  | some d =>
    have := h d rfl
    show (a.tmps.setIfInBounds d v).getD t undef = _
    rw [tmp_set, if_neg (fun e => by omega)]

/-- What may follow a step. -/
abbrev Goes (n : Nat) (K : Act → World → Prop) (a : Act) (w : World) (env' : Env) (O : Owns) : Prop :=
  ∀ a' w' O', a'.tmps.size = a.tmps.size → a'.defers = a.defers → Low n a a' → Inv env' a'.tmps w' O' → Evo w O w' O' → K a' w'

theorem put_size (a : Act) (d : Option Nat) (v : Value) : (a.put d v).tmps.size = a.tmps.size := by
  cases d <;> simp [Act.put]

theorem frep_bool {H : Look} {q : Bool} {v : Value} (h : FRep H (.bool q) v) : v = .bool q := by cases h; rfl
theorem frep_undef {H : Look} {v : Value} (h : FRep H .undef v) : v = undef := by cases h; rfl

theorem step_wp {F : Fns} (hF : TableOK P F) {tks : List (Nat × List Bool)} {ops : Array Oper} {i : Nat} {o : Oper} {po : POper} (hi : ops[i]? = some o) (hc : cOper P tks ops o = some po) (inv : Inv env a.tmps w O) (h : (step F po).run env = some env')
    {K : Act → World → Prop} {Q : Exit → Act → World → Prop} {n : Nat} (hd : ∀ d, o.dst = some d → n ≤ d) (hK : Goes n K a w env' O) : wpOp P ops Q i K a w := by
  unfold wpOp
  rw [hi]
  simp only [cOper, Option.bind_eq_bind, Option.bind_eq_some_iff, Option.some.injEq] at hc
  obtain ⟨p, hp, g, hg, rfl⟩ := hc
  have go : (stepOp F o.dst p).run env = some env' → o.wp P a w K Q := fun h =>
    op_wp hF hp inv h K Q fun v w' O' h1 h2 => hK _ w' O' (put_size a o.dst v) (act_put a o.dst v).2 (Low.put a o.dst v hd) (by rw [(act_put a o.dst v).1]; exact h1) h2
  have skip : (Pr.put o.dst (.cv (.pv .undef))).run env = some env' → K (a.put o.dst undef) w := fun h =>
    hK _ w O (put_size a o.dst undef) (act_put a o.dst undef).2 (Low.put a o.dst undef hd) (by rw [(act_put a o.dst undef).1]; exact inv.putD undef h (fun _ _ => .undef) trivial) (Evo.refl _ _)
  unfold cGuard at hg
  cases hgo : o.guard with
  | none =>
    rw [hgo] at hg
    simp only [Option.some.injEq] at hg
    subst hg
    have hw : Region.wanted o (yielded ops a.tmps) = true := by unfold Region.wanted; rw [hgo]
    simp only [hw, if_true]
    exact .inl (go h)
  | some gb =>
    obtain ⟨j, b⟩ := gb
    rw [hgo] at hg
    simp only [Option.map_eq_some_iff] at hg
    obtain ⟨t, ht, rfl⟩ := hg
    simp only [step, Pr.run] at h
    have hy : yielded ops a.tmps j = match a.tmps[t]? with | some (.bool b) => some b | _ => none := by
      unfold yielded; rw [ht]; rfl
    have hm := inv.mem t
    obtain ⟨sv, he⟩ : ∃ sv, (env.at t).2 = sv := ⟨_, rfl⟩
    have hin : sv ≠ .dead → a.tmps[t]? = some (a.tmps.getD t undef) := by
      intro hne
      have hlt : t < env.length := by
        rcases Nat.lt_or_ge t env.length with h | h
        · exact h
        · rw [at_out env h] at he; exact absurd he.symm hne
      rw [inv.len] at hlt
      rw [Array.getElem?_eq_getElem hlt, Array.getD_eq_getD_getElem?, Array.getElem?_eq_getElem hlt]; rfl
    rw [he] at h hm
    have hyes : Region.wanted o (yielded ops a.tmps) = (yielded ops a.tmps j == some b) := by unfold Region.wanted; rw [hgo]
    split at h
    · rename_i q
      have hv : a.tmps.getD t undef = .bool q := frep_bool hm
      have hyq : yielded ops a.tmps j = some q := by rw [hy, hin (by simp), hv]
      split at h
      · rename_i hq
        subst hq
        have hw : Region.wanted o (yielded ops a.tmps) = true := by rw [hyes, hyq]; simp
        simp only [hw, if_true]
        exact .inl (go h)
      · rename_i hq
        have hw : Region.wanted o (yielded ops a.tmps) = false := by rw [hyes, hyq]; simp [hq]
        simp only [hw, Bool.false_eq_true, if_false]
        exact skip h
    · have hv : a.tmps.getD t undef = undef := frep_undef hm
      have hyq : yielded ops a.tmps j = none := by rw [hy, hin (by simp), hv]; rfl
      have hw : Region.wanted o (yielded ops a.tmps) = false := by rw [hyes, hyq]; rfl
      simp only [hw, Bool.false_eq_true, if_false]
      exact skip h
    · simp [Pr.run] at h

/-- The operations in their order. -/
theorem ops_wp {F : Fns} (hF : TableOK P F) {tks : List (Nat × List Bool)} {ops : Array Oper} {Q : Exit → Act → World → Prop} {n : Nat} (hlow : ∀ (i : Nat) o d, ops[i]? = some o → o.dst = some d → n ≤ d) : ∀ (is : List Nat) (pos : List POper) (a : Act) (w : World) (env : Env) (O : Owns), All2 (fun i po => ∃ o, ops[i]? = some o ∧ cOper P tks ops o = some po) is pos →
    Inv env a.tmps w O → ∀ env', runOps F pos env = some env' → Goes n (Q .normal) a w env' O → wpOps P ops Q is a w
  | [], [], a, w, env, O, _, inv, env', h, hK => by
    simp only [runOps, Option.some.injEq] at h
    subst h
    exact hK a w O rfl rfl (Low.refl _ _) inv (Evo.refl _ _)
  | i :: is, po :: pos, a, w, env, O, hc, inv, env', h, hK => by
    obtain ⟨⟨o, hi, hco⟩, hc'⟩ := hc
    simp only [runOps] at h
    split at h
    · rename_i e1 he1
      rw [wpOps_cons]
      refine step_wp hF hi hco inv he1 (fun d => hlow i o d hi) fun a' w' O' hs hd hlo hinv hevo => ?_
      exact ops_wp hF hlow is pos a' w' e1 O' hc' hinv env' h fun a2 w2 O2 hs2 hd2 hlo2 hinv2 hevo2 => hK a2 w2 O2 (hs2.trans hs) (hd2.trans hd) (hlo.trans hlo2) hinv2 (hevo.trans hevo2)
    · cases h
  | [], _ :: _, _, _, _, _, hc, _, _, _, _ => hc.elim
  | _ :: _, [], _, _, _, _, hc, _, _, _, _ => hc.elim
end

section
/- Behind a region the generations begin anew. -/

variable {P : Program} {w : World} {env env' : Env} {O : Owns} {tmps : Array Value}

theorem at_norm {e : Env} (t : Nat) : (norm e).at t = (0, (e.at t).2.still e) := by
  unfold norm Env.at
  simp only [List.getD_eq_getElem?_getD, List.getElem?_map]
  cases e[t]? <;> rfl

theorem still_mrep {t : Nat} {x : SV} {v : Value} {e : Env} (h : MRep w O t x v) : MRep w O t (x.still e) v := by
  cases x with
  | cv c => exact h
  | st cs => exact h
  | box cs =>
    obtain ⟨b, hb, hc⟩ := h
    refine ⟨b, hb, fun i p hp => ?_⟩
    rw [List.getElem?_map, Option.map_eq_some_iff] at hp
    obtain ⟨p0, hp0, rfl⟩ := hp
    exact hc i p0 hp0
  | tup ms =>
    obtain ⟨vs, hv, hs, hc⟩ := h
    refine ⟨vs, hv, by simpa using hs, fun j m hm => ?_⟩
    rw [List.getElem?_map, Option.map_eq_some_iff] at hm
    obtain ⟨m0, hm0, rfl⟩ := hm
    obtain ⟨u, hu, hr⟩ := hc j m0 hm0
    refine ⟨u, hu, ?_⟩
    cases m0 with
    | c g x => exact hr
    | s cs => exact hr
    | gone => exact hr
  | fptr cs o => exact h
  | dead => trivial
  | ref r k gs gc => simp only [SV.still]; (repeat' split) <;> trivial
  | view r k gs gc a b => simp only [SV.still]; (repeat' split) <;> trivial
  | sref r k gs => simp only [SV.still]; (repeat' split) <;> trivial
  | ptr r off gs => simp only [SV.still]; (repeat' split) <;> trivial
  | eptr r k gs gc o => simp only [SV.still]; (repeat' split) <;> trivial

theorem live_norm {x : Nat × SV} {k gs gc : Nat} {c : CV} {e : Env} (h : live x k gs gc = some c) : live (0, x.2.still e) k 0 0 = some c ∧ (∀ w v, hdrAt w (x.2.still e) v k = hdrAt w x.2 v k) := by
  unfold live at h ⊢
  rw [if_pos rfl]
  split at h
  case isFalse => cases h
  obtain ⟨g, sv⟩ := x
  cases sv with
  | cv c0 =>
    simp only at h ⊢
    split at h
    · rename_i hk
      split at h
      · rename_i hg
        refine ⟨?_, fun _ _ => rfl⟩
        simp only [SV.still, hk, if_true]; exact h
      · cases h
    · cases h
  | box cs =>
    simp only at h ⊢
    split at h
    · rename_i p hp
      split at h
      · simp only [SV.still, List.getElem?_map, hp, Option.map_some, if_true]
        exact ⟨h, fun _ _ => rfl⟩
      · cases h
    · cases h
  | tup ms =>
    simp only at h ⊢
    split at h
    · rename_i g' c' hp
      split at h
      · simp only [SV.still, List.getElem?_map, hp, Option.map_some, if_true]
        exact ⟨h, fun _ _ => rfl⟩
      · cases h
    · cases h
  | _ => cases h

theorem refok_norm {x : Nat × SV} {k gs gc : Nat} {c : CV} {e : Env} (h : live x k gs gc = some c) (hr : RefOK x k gs gc) : RefOK (0, x.2.still e) k 0 0 := by
  obtain ⟨g, sv⟩ := x
  unfold live at h
  split at h
  case isFalse => cases h
  rename_i hg
  have h2 := hr.2 hg.symm
  refine ⟨Nat.le_refl _, fun _ => ?_⟩
  cases sv with
  | cv c0 => exact h2
  | box cs =>
    simp only at h h2 ⊢
    obtain ⟨p, hp, _, hi⟩ := h2
    rw [hp] at h
    simp only at h
    split at h
    · rename_i e'
      exact ⟨(0, p.2), by rw [List.getElem?_map, hp]; rfl, Nat.le_refl _, fun _ => hi e'.symm⟩
    · cases h
  | tup ms =>
    simp only at h h2 ⊢
    obtain ⟨m, hm, hi⟩ := h2
    rw [hm] at h
    cases m with
    | c g' c' =>
      simp only at h hi
      split at h
      · rename_i e'
        exact ⟨.c 0 c', by simp only [List.getElem?_map, hm]; rfl, Nat.le_refl _, fun _ => hi.2 e'.symm⟩
      · cases h
    | s cs => cases h
    | gone => cases h
  | _ => cases h

theorem still_ref {e : Env} {r k gs gc : Nat} : (SV.ref r k gs gc).still e = if (live (e.at r) k gs gc).isSome then .ref r k 0 0 else .dead := by
  simp only [SV.still, live]
  obtain ⟨g, sv⟩ := e.at r
  cases sv <;> simp only <;> (by_cases hg : g = gs <;> simp [hg])
  · by_cases hk : k = 0 <;> by_cases hc : gc = 0 <;> simp [hk, hc]
  · split
    · split <;> simp_all
    · simp_all
  · split
    · split <;> simp_all
    · split <;> simp_all

theorem still_view {e : Env} {r k gs gc a b : Nat} : (SV.view r k gs gc a b).still e = if (live (e.at r) k gs gc).isSome then .view r k 0 0 a b else .dead := by
  simp only [SV.still, live]
  obtain ⟨g, sv⟩ := e.at r
  cases sv <;> simp only <;> (by_cases hg : g = gs <;> simp [hg])
  · by_cases hk : k = 0 <;> by_cases hc : gc = 0 <;> simp [hk, hc]
  · split
    · split <;> simp_all
    · simp_all
  · split
    · split <;> simp_all
    · split <;> simp_all

theorem still_eptr {e : Env} {r k gs gc o : Nat} : (SV.eptr r k gs gc o).still e = if (live (e.at r) k gs gc).isSome then .eptr r k 0 0 o else .dead := by
  simp only [SV.still, live]
  obtain ⟨g, sv⟩ := e.at r
  cases sv <;> simp only <;> (by_cases hg : g = gs <;> simp [hg])
  · by_cases hk : k = 0 <;> by_cases hc : gc = 0 <;> simp [hk, hc]
  · split
    · split <;> simp_all
    · simp_all
  · split
    · split <;> simp_all
    · split <;> simp_all

/-- Behind a region. -/
theorem norm_inv (inv : Inv env tmps w O) : Inv (norm env) tmps w O := by
  · refine ⟨?_, inv.bnd, fun t => ?_, fun t => ?_⟩
    · unfold norm; simpa using inv.len
    · rw [at_norm]; exact still_mrep (inv.mem t)
    · rw [at_norm]
      have ha := inv.ali t
      obtain ⟨sv, he⟩ : ∃ sv, (env.at t).2 = sv := ⟨_, rfl⟩
      rw [he] at ha
      simp only [he]
      cases sv with
      | ref r k gs gc =>
        rw [still_ref]
        cases hl : live (env.at r) k gs gc with
        | none => simp; trivial
        | some c =>
          simp only [Option.isSome_some, if_true]
          obtain ⟨h1, h2⟩ := live_norm (e := env) hl
          refine ⟨by rw [at_norm]; exact refok_norm hl ha.1, fun c' hc' => ?_⟩
          rw [at_norm] at hc' ⊢
          rw [h2]; exact ha.2 c hl
      | view r k gs gc i j =>
        rw [still_view]
        cases hl : live (env.at r) k gs gc with
        | none => simp; trivial
        | some c =>
          simp only [Option.isSome_some, if_true]
          obtain ⟨h1, h2⟩ := live_norm (e := env) hl
          refine ⟨by rw [at_norm]; exact refok_norm hl ha.1, fun f s cs sp hc' => ?_⟩
          rw [at_norm] at hc' ⊢
          rw [h1] at hc'; cases hc'
          rw [h2]; exact ha.2 f s cs sp hl
      | eptr r k gs gc o =>
        rw [still_eptr]
        cases hl : live (env.at r) k gs gc with
        | none => simp; trivial
        | some c =>
          simp only [Option.isSome_some, if_true]
          obtain ⟨h1, h2⟩ := live_norm (e := env) hl
          obtain ⟨a1, bl, off, hv, a2⟩ := ha
          refine ⟨by rw [at_norm]; exact refok_norm hl a1, bl, off, hv, fun c' hc' => ?_⟩
          rw [at_norm] at hc' ⊢
          rw [h2]; exact a2 c hl
      | sref r k gs =>
        simp only [SV.still]
        split
        · rename_i g ms hg
          split
          · rename_i e
            have h2 := ha.2 (by rw [hg]; exact e.symm)
            refine ⟨Nat.zero_le _, fun _ => ?_⟩
            rw [at_norm, hg]
            rw [hg] at h2
            exact ⟨rfl, h2.2⟩
          · trivial
        · trivial
      | ptr r off gs =>
        simp only [SV.still]
        split
        · rename_i g ms hg
          split
          · rename_i e
            obtain ⟨a1, b, hv, a2⟩ := ha
            have h2 := a2 (by rw [hg]; exact e.symm)
            refine ⟨Nat.zero_le _, b, hv, fun _ => ?_⟩
            rw [at_norm, hg]
            exact ⟨rfl, h2.2⟩
          · trivial
        · trivial
      | _ => trivial

theorem clean_inv (inv : Inv env tmps w O) (l : List Nat) : Inv (clean l env) tmps w O := by
  refine norm_inv ?_
  have hat : ∀ t, Env.at (env.mapIdx fun i x => if l.contains i then x else (x.1 + 1, .dead)) t = if t < env.length then (if l.contains t then env.at t else ((env.at t).1 + 1, .dead)) else (0, .dead) := by
    intro t
    unfold Env.at
    simp only [List.getD_eq_getElem?_getD, List.getElem?_mapIdx]
    by_cases ht : t < env.length
    · rw [if_pos ht, List.getElem?_eq_getElem ht]; rfl
    · rw [if_neg ht, List.getElem?_eq_none (by omega)]; rfl
  refine inv.make (fun t => t < env.length ∧ l.contains t = false) (fun _ => False) (by simpa using inv.len) inv.bnd (Keep.refl _ _ _) (fun _ _ _ _ h => h) ?_ ?_ ?_ ?_
  · intro t ht
    rw [hat]
    refine ⟨?_, rfl⟩
    by_cases h1 : t < env.length
    · rw [if_pos h1]
      cases h2 : l.contains t with
      | true => rfl
      | false => exact absurd ⟨h1, h2⟩ ht
    · rw [if_neg h1, at_out env (by omega)]
  · rintro t ⟨h1, h2⟩; rw [hat, if_pos h1, h2]; trivial
  · rintro t ⟨h1, h2⟩; rw [hat, if_pos h1, h2]; exact RootStep.new (.inl (Nat.lt_succ_self _))
  · rintro t ⟨h1, h2⟩; rw [hat, if_pos h1, h2]; trivial
end

section
/- Steps that touch nothing in common may change places. -/

/-- What of slot t is the same on both sides although W may have been written on one. -/
structure Same (W : List (Nat × Acc)) (t : Nat) (x y : Nat × SV) : Prop where
  all : (∀ a, (t, a) ∉ W) → x = y
  head : (∀ a, (t, a) ∈ W → Acc.apart .head a = true) → x.1 = y.1 ∧ x.2.hd = y.2.hd
  comp : (∀ a, (t, a) ∈ W → ∃ i, a = .comp i) → x = y ∨ ∃ g cs ds, x = (g, .tup cs) ∧ y = (g, .tup ds) ∧ cs.length = ds.length ∧ ∀ j, (t, Acc.comp j) ∉ W → cs[j]? = ds[j]?

theorem Same.refl (W : List (Nat × Acc)) (t : Nat) (x : Nat × SV) : Same W t x x := ⟨fun _ => rfl, fun _ => ⟨rfl, rfl⟩, fun _ => .inl rfl⟩
theorem Same.symm {W : List (Nat × Acc)} {t : Nat} {x y : Nat × SV} (h : Same W t x y) : Same W t y x := by
  refine ⟨fun k => (h.all k).symm, fun k => ⟨(h.head k).1.symm, (h.head k).2.symm⟩, fun k => ?_⟩
  rcases h.comp k with h | ⟨g, cs, ds, h1, h2, h3, h4⟩
  · exact .inl h.symm
  · exact .inr ⟨g, ds, cs, h2, h1, h3.symm, fun j hj => (h4 j hj).symm⟩
theorem Same.trans {W : List (Nat × Acc)} {t : Nat} {x y z : Nat × SV} (h : Same W t x y) (k : Same W t y z) : Same W t x z := by
  refine ⟨fun a => (h.all a).trans (k.all a), fun a => ⟨(h.head a).1.trans (k.head a).1, (h.head a).2.trans (k.head a).2⟩, fun a => ?_⟩
  rcases h.comp a with e | ⟨g, cs, ds, h1, h2, h3, h4⟩
  · rw [e]; exact k.comp a
  · rcases k.comp a with e | ⟨g', cs', ds', k1, k2, k3, k4⟩
    · rw [← e]; exact .inr ⟨g, cs, ds, h1, h2, h3, h4⟩
    · rw [h2] at k1; cases k1
      exact .inr ⟨g, cs, ds', h1, k2, h3.trans k3, fun j hj => (h4 j hj).trans (k4 j hj)⟩

def Agree (W : List (Nat × Acc)) (e e' : Env) : Prop := e.length = e'.length ∧ ∀ t, Same W t (e.at t) (e'.at t)

theorem Agree.refl (W : List (Nat × Acc)) (e : Env) : Agree W e e := ⟨rfl, fun _ => Same.refl _ _ _⟩
theorem Agree.symm {W : List (Nat × Acc)} {e e' : Env} (h : Agree W e e') : Agree W e' e := ⟨h.1.symm, fun t => (h.2 t).symm⟩
theorem Agree.trans {W : List (Nat × Acc)} {e e' e'' : Env} (h : Agree W e e') (k : Agree W e' e'') : Agree W e e'' := ⟨h.1.trans k.1, fun t => (h.2 t).trans (k.2 t)⟩
theorem Agree.set {W : List (Nat × Acc)} {e e' : Env} (h : Agree W e e') (t : Nat) (x : Nat × SV) : Agree W (e.set t x) (e'.set t x) := by
  refine ⟨by simpa using h.1, fun r => ?_⟩
  rw [at_set, at_set, ← h.1]
  split
  · exact Same.refl _ _ _
  · exact h.2 r

theorem cmp_tup {x : SV} {j : Nat} (h : j < x.cmps.length) : x = .tup x.cmps := by
  cases x <;> simp_all [SV.cmps]

/-- What a step does not write stays. -/
theorem frame_run (W : List (Nat × Acc)) : ∀ (p : Pr) (e e1 : Env), p.run e = some e1 → (∀ w ∈ (p.foot e).2, w ∈ W) → Agree W e e1
  | .done, e, e1, h, _ => by simp only [Pr.run, Option.some.injEq] at h; subst h; exact Agree.refl _ _
  | .fail, _, _, h, _ => by simp [Pr.run] at h
  | .get t k, e, e1, h, hw => frame_run W (k (e.at t)) e e1 h hw
  | .hd t k, e, e1, h, hw => frame_run W (k ((e.at t).1, (e.at t).2.hd)) e e1 h hw
  | .getc t j k, e, e1, h, hw => frame_run W (k ((e.at t).1, (e.at t).2.cmp j)) e e1 h hw
  | .chk c i k, e, e1, h, hw => by
    simp only [Pr.run] at h
    split at h
    · exact frame_run W k e e1 h hw
    · cases h
  | .br b p q, e, e1, h, hw => by
    cases b with
    | true => exact frame_run W p e e1 h hw
    | false => exact frame_run W q e e1 h hw
  | .opt o k, e, e1, h, hw => by
    cases o with
    | none => simp [Pr.run] at h
    | some v => exact frame_run W (k v) e e1 h hw
  | .ans o k, e, e1, h, hw => by
    cases o with
    | none => simp [Pr.run] at h
    | some v => exact frame_run W (k v) e e1 h hw
  | .set t x k, e, e1, h, hw => by
    simp only [Pr.run] at h
    simp only [Pr.foot, List.mem_cons] at hw
    have hm : (t, Acc.all) ∈ W := hw _ (.inl rfl)
    refine Agree.trans (e' := e.set t x) ⟨by simp, fun r => ?_⟩ (frame_run W k _ e1 h fun w hk => hw w (.inr hk))
    rw [at_set]
    split
    · rename_i hr
      obtain ⟨rfl, _⟩ := hr
      exact ⟨fun h => absurd hm (h _), fun h => by have := h _ hm; simp [Acc.apart] at this, fun h => by have := h _ hm; simp at this⟩
    · exact Same.refl _ _ _
  | .upd t x k, e, e1, h, hw => by
    simp only [Pr.run] at h
    simp only [Pr.foot, List.mem_cons] at hw
    have hm : (t, Acc.body) ∈ W := hw _ (.inl rfl)
    split at h
    case isFalse => cases h
    rename_i h1
    split at h
    case isFalse => cases h
    rename_i h2
    refine Agree.trans (e' := e.set t x) ⟨by simp, fun r => ?_⟩ (frame_run W k _ e1 h fun w hk => hw w (.inr hk))
    rw [at_set]
    split
    · rename_i hr
      obtain ⟨rfl, _⟩ := hr
      exact ⟨fun h => absurd hm (h _), fun _ => ⟨h1.symm, h2.symm⟩, fun h => by have := h _ hm; simp at this⟩
    · exact Same.refl _ _ _
  | .updc t j c k, e, e1, h, hw => by
    simp only [Pr.run] at h
    simp only [Pr.foot, List.mem_cons] at hw
    have hm : (t, Acc.comp j) ∈ W := hw _ (.inl rfl)
    split at h
    case isFalse => cases h
    rename_i h1
    refine Agree.trans (e' := e.set t _) ⟨by simp, fun r => ?_⟩ (frame_run W k _ e1 h fun w hk => hw w (.inr hk))
    rw [at_set]
    split
    · rename_i hr
      obtain ⟨rfl, _⟩ := hr
      have ht := cmp_tup h1
      refine ⟨fun h => absurd hm (h _), fun _ => ⟨rfl, by rw [ht]; rfl⟩, fun _ => .inr ⟨(e.at r).1, (e.at r).2.cmps, (e.at r).2.cmps.set j c, ?_, rfl, by simp, fun i hi => ?_⟩⟩
      · rw [← ht]
      · rw [List.getElem?_set_ne]
        rintro rfl
        exact hi hm
    · exact Same.refl _ _ _

def Far (W R : List (Nat × Acc)) : Prop := ∀ w ∈ W, ∀ r ∈ R, w.1 = r.1 → r.2.apart w.2 = true

/-- A step that reads nothing of W does the same on both sides. -/
theorem sim_run (W : List (Nat × Acc)) : ∀ (q : Pr) (e e' e1 : Env), Agree W e e' → Far W (q.foot e).1 → q.run e = some e1 → ∃ e1', q.run e' = some e1' ∧ Agree W e1 e1' ∧ q.foot e' = q.foot e
  | .done, e, e', e1, ha, _, h => by simp only [Pr.run, Option.some.injEq] at h; subst h; exact ⟨e', rfl, ha, rfl⟩
  | .fail, _, _, _, _, _, h => by simp [Pr.run] at h
  | .get t k, e, e', e1, ha, hf, h => by
    have he : e.at t = e'.at t := (ha.2 t).all fun a hm => by
      have := hf _ hm (t, .all) (List.mem_cons_self ..) rfl
      simp [Acc.apart] at this
    simp only [Pr.run, Pr.foot, ← he] at h hf ⊢
    obtain ⟨e1', h1, h2, h3⟩ := sim_run W (k (e.at t)) e e' e1 ha (fun w hw r hr => hf w hw r (List.mem_cons_of_mem _ hr)) h
    exact ⟨e1', h1, h2, by rw [h3]⟩
  | .hd t k, e, e', e1, ha, hf, h => by
    obtain ⟨g1, g2⟩ := (ha.2 t).head fun a hm => hf _ hm (t, .head) (List.mem_cons_self ..) rfl
    simp only [Pr.run, Pr.foot, ← g1, ← g2] at h hf ⊢
    obtain ⟨e1', h1, h2, h3⟩ := sim_run W (k ((e.at t).1, (e.at t).2.hd)) e e' e1 ha (fun w hw r hr => hf w hw r (List.mem_cons_of_mem _ hr)) h
    exact ⟨e1', h1, h2, by rw [h3]⟩
  | .getc t j k, e, e', e1, ha, hf, h => by
    have hj : (t, Acc.comp j) ∉ W := fun hm => by have := hf _ hm (t, .comp j) (List.mem_cons_self ..) rfl; simp [Acc.apart] at this
    have hc := (ha.2 t).comp fun a hm => by
      have := hf _ hm (t, .comp j) (List.mem_cons_self ..) rfl
      cases a <;> simp [Acc.apart] at this ⊢
    have he : ((e.at t).1, (e.at t).2.cmp j) = ((e'.at t).1, (e'.at t).2.cmp j) := by
      rcases hc with hc | ⟨g, cs, ds, c1, c2, c3, c4⟩
      · rw [hc]
      · rw [c1, c2]; simp only [SV.cmp, SV.cmps, c4 j hj]
    simp only [Pr.run, Pr.foot, ← he] at h hf ⊢
    obtain ⟨e1', h1, h2, h3⟩ := sim_run W (k ((e.at t).1, (e.at t).2.cmp j)) e e' e1 ha (fun w hw r hr => hf w hw r (List.mem_cons_of_mem _ hr)) h
    exact ⟨e1', h1, h2, by rw [h3]⟩
  | .chk c i k, e, e', e1, ha, hf, h => by
    simp only [Pr.run, Pr.foot] at h hf ⊢
    split at h
    · rename_i hc
      obtain ⟨e1', h1, h2, h3⟩ := sim_run W k e e' e1 ha hf h
      exact ⟨e1', by rw [if_pos hc]; exact h1, h2, h3⟩
    · cases h
  | .br b p q, e, e', e1, ha, hf, h => by
    cases b with
    | true => exact sim_run W p e e' e1 ha hf h
    | false => exact sim_run W q e e' e1 ha hf h
  | .opt o k, e, e', e1, ha, hf, h => by
    cases o with
    | none => simp [Pr.run] at h
    | some v => exact sim_run W (k v) e e' e1 ha hf h
  | .ans o k, e, e', e1, ha, hf, h => by
    cases o with
    | none => simp [Pr.run] at h
    | some v => exact sim_run W (k v) e e' e1 ha hf h
  | .set t x k, e, e', e1, ha, hf, h => by
    simp only [Pr.run, Pr.foot] at h hf ⊢
    obtain ⟨e1', h1, h2, h3⟩ := sim_run W k (e.set t x) (e'.set t x) e1 (ha.set t x) hf h
    exact ⟨e1', h1, h2, by rw [h3]⟩
  | .upd t x k, e, e', e1, ha, hf, h => by
    obtain ⟨g1, g2⟩ := (ha.2 t).head fun a hm => hf _ hm (t, .head) (List.mem_cons_self ..) rfl
    simp only [Pr.run, Pr.foot, ← g1, ← g2] at h hf ⊢
    split at h
    case isFalse => cases h
    rename_i k1
    split at h
    case isFalse => cases h
    rename_i k2
    obtain ⟨e1', h1, h2, h3⟩ := sim_run W k (e.set t x) (e'.set t x) e1 (ha.set t x) (fun w hw r hr => hf w hw r (List.mem_cons_of_mem _ hr)) h
    exact ⟨e1', by rw [if_pos k1, if_pos k2]; exact h1, h2, by rw [h3]⟩
  | .updc t j c k, e, e', e1, ha, hf, h => by
    have hj : (t, Acc.comp j) ∉ W := fun hm => by have := hf _ hm (t, .comp j) (List.mem_cons_self ..) rfl; simp [Acc.apart] at this
    have hc := (ha.2 t).comp fun a hm => by
      have := hf _ hm (t, .comp j) (List.mem_cons_self ..) rfl
      cases a <;> simp [Acc.apart] at this ⊢
    simp only [Pr.run, Pr.foot] at h hf ⊢
    split at h
    case isFalse => cases h
    rename_i k1
    have key : j < (e'.at t).2.cmps.length ∧ Agree W (e.set t ((e.at t).1, .tup ((e.at t).2.cmps.set j c))) (e'.set t ((e'.at t).1, .tup ((e'.at t).2.cmps.set j c))) := by
      rcases hc with hc | ⟨g, cs, ds, c1, c2, c3, c4⟩
      · rw [← hc]; exact ⟨k1, ha.set t _⟩
      · rw [c1] at k1 ⊢
        rw [c2]
        simp only [SV.cmps] at k1 ⊢
        refine ⟨c3 ▸ k1, by simpa using ha.1, fun r => ?_⟩
        rw [at_set, at_set, ← ha.1]
        split
        · rename_i hr
          obtain ⟨rfl, _⟩ := hr
          refine ⟨fun hn => ?_, fun _ => ⟨rfl, rfl⟩, fun hn => .inr ⟨g, _, _, rfl, rfl, by simpa using c3, fun i hi => ?_⟩⟩
          · have := (ha.2 r).all hn
            rw [c1, c2] at this; cases this; rfl
          · by_cases hij : j = i
            · subst hij
              rw [List.getElem?_set_self k1, List.getElem?_set_self (c3 ▸ k1)]
            · rw [List.getElem?_set_ne hij, List.getElem?_set_ne hij]; exact c4 i hi
        · exact ha.2 r
    obtain ⟨e1', h1, h2, h3⟩ := sim_run W k _ _ e1 key.2 (fun w hw r hr => hf w hw r (List.mem_cons_of_mem _ hr)) h
    exact ⟨e1', by rw [if_pos key.1]; exact h1, h2, by rw [h3]⟩

theorem env_ext {e e' : Env} (hl : e.length = e'.length) (h : ∀ t, e.at t = e'.at t) : e = e' := by
  apply List.ext_getElem hl
  intro i h1 h2
  have := h i
  unfold Env.at at this
  simpa [List.getD_eq_getElem?_getD, List.getElem?_eq_getElem h1, List.getElem?_eq_getElem h2] using this

theorem apart_far {f g : Foot} (h : apart f g = true) : Far f.2 g.1 ∧ Far f.2 g.2 ∧ Far g.2 f.1 ∧ Far g.2 f.2 := by
  simp only [apart, Bool.and_eq_true, List.all_eq_true, Bool.or_eq_true, bne_iff_ne] at h
  obtain ⟨h1, h2⟩ := h
  refine ⟨fun w hw r hr e => ((h1 w hw).1 r hr).resolve_left (fun n => n e), fun w hw r hr e => ((h1 w hw).2 r hr).resolve_left (fun n => n e),
    fun w hw r hr e => ((h2 w hw).1 r hr).resolve_left (fun n => n e), fun w hw r hr e => ((h2 w hw).2 r hr).resolve_left (fun n => n e)⟩

/-- Two steps change places. -/
theorem swap_run {p q : Pr} {e e1 e2 : Env} (hp : p.run e = some e1) (hq : q.run e1 = some e2) (ha : apart (p.foot e) (q.foot e1) = true) :
    ∃ e', q.run e = some e' ∧ p.run e' = some e2 ∧ q.foot e = q.foot e1 ∧ p.foot e' = p.foot e := by
  obtain ⟨f1, f2, f3, f4⟩ := apart_far ha
  have A1 : Agree (p.foot e).2 e e1 := frame_run _ p e e1 hp fun _ h => h
  obtain ⟨e', k1, k2, k3⟩ := sim_run _ q e1 e e2 A1.symm f1 hq
  have A2 : Agree (q.foot e1).2 e e' := frame_run _ q e e' k1 fun _ h => k3 ▸ h
  have A3 : Agree (q.foot e1).2 e1 e2 := frame_run _ q e1 e2 hq fun _ h => h
  obtain ⟨e2', m1, m2, m3⟩ := sim_run _ p e e' e1 A2 f3 hp
  have A4 : Agree (p.foot e).2 e' e2' := frame_run _ p e' e2' m1 fun _ h => m3 ▸ h
  have B1 : Agree (p.foot e).2 e2' e2 := A4.symm.trans k2.symm
  have B2 : Agree (q.foot e1).2 e2' e2 := m2.symm.trans A3
  have hE : e2' = e2 := by
    refine env_ext B1.1 fun t => ?_
    by_cases h1 : ∀ a, (t, a) ∉ (p.foot e).2
    · exact (B1.2 t).all h1
    by_cases h2 : ∀ a, (t, a) ∉ (q.foot e1).2
    · exact (B2.2 t).all h2
    have h1' : ∃ a, (t, a) ∈ (p.foot e).2 := Classical.byContradiction fun hn => h1 fun a ha => hn ⟨a, ha⟩
    have h2' : ∃ a, (t, a) ∈ (q.foot e1).2 := Classical.byContradiction fun hn => h2 fun a ha => hn ⟨a, ha⟩
    obtain ⟨a0, ha0⟩ := h1'
    obtain ⟨b0, hb0⟩ := h2'
    have cmpOf : ∀ a b : Acc, a.apart b = true → b.apart a = true → ∃ i j, a = .comp i ∧ b = .comp j ∧ i ≠ j := by
      intro a b h h'
      cases a <;> cases b <;> simp [Acc.apart] at h h'
      exact ⟨_, _, rfl, rfl, h⟩
    have hP : ∀ a, (t, a) ∈ (p.foot e).2 → ∃ i, a = .comp i := fun a ha => by
      obtain ⟨i, _, h, _⟩ := cmpOf a b0 (f4 _ hb0 _ ha rfl) (f2 _ ha _ hb0 rfl)
      exact ⟨i, h⟩
    have hQ : ∀ a, (t, a) ∈ (q.foot e1).2 → ∃ i, a = .comp i := fun a ha => by
      obtain ⟨i, _, h, _⟩ := cmpOf a a0 (f2 _ ha0 _ ha rfl) (f4 _ ha _ ha0 rfl)
      exact ⟨i, h⟩
    rcases (B1.2 t).comp hP with h | ⟨g, cs, ds, c1, c2, c3, c4⟩
    · exact h
    rcases (B2.2 t).comp hQ with h | ⟨g', cs', ds', d1, d2, d3, d4⟩
    · exact h
    rw [c1] at d1; rw [c2] at d2
    cases d1; cases d2
    rw [c1, c2]
    have : cs = ds := by
      apply List.ext_getElem?
      intro j
      by_cases hj : (t, Acc.comp j) ∈ (p.foot e).2
      · refine d4 j fun hj' => ?_
        have := f2 _ hj _ hj' rfl
        simp [Acc.apart] at this
      · exact c4 j hj
    rw [this]
  exact ⟨e', k1, hE ▸ m1, k3, m3⟩
end

section
/- Regions whose order is left open. -/

variable {P : Program} {a : Act} {w : World} {env env' : Env} {O : Owns}

abbrev pOf (pos : List POper) (i : Nat) : POper := pos.getD i default

/-- A run in the order of l, with what each step met. -/
def Trace (F : Fns) (pos : List POper) : List Nat → Env → List (Nat × Foot) → Env → Prop
  | [], e, fs, e' => fs = [] ∧ e = e'
  | i :: l, e, fs, e' => ∃ e1 fs', (step F (pOf pos i)).run e = some e1 ∧ fs = (i, (step F (pOf pos i)).foot e) :: fs' ∧ Trace F pos l e1 fs' e'

theorem trace_of {F : Fns} {pos : List POper} : ∀ (l : List Nat) (e e' : Env), runOps F (l.map (pOf pos)) e = some e' → Trace F pos l e (l.zip (feet F (l.map (pOf pos)) e)) e'
  | [], e, e', h => by simp only [List.map_nil, runOps, Option.some.injEq] at h; exact ⟨by simp [feet], h⟩
  | i :: l, e, e', h => by
    simp only [List.map_cons, runOps] at h
    split at h
    · rename_i e1 he1
      refine ⟨e1, _, he1, ?_, trace_of l e1 e' h⟩
      simp only [List.map_cons, feet, he1, List.zip_cons_cons]
    · cases h

theorem Trace.fst {F : Fns} {pos : List POper} : ∀ {l : List Nat} {e e' : Env} {fs : List (Nat × Foot)}, Trace F pos l e fs e' → fs.map (·.1) = l
  | [], _, _, _, h => by rw [h.1]; rfl
  | i :: l, _, _, _, h => by
    obtain ⟨e1, fs', _, rfl, ht⟩ := h
    simp [Trace.fst ht]

/-- Ordered by an edge, or apart. -/
def Okay (pre : List Nat) (x y : Nat × Foot) : Prop := (pre.getD y.1 0).testBit x.1 = true ∨ apart x.2 y.2 = true

theorem pull {F : Fns} {pos : List POper} {pre : List Nat} {i : Nat} {l2 : List Nat} : ∀ (l1 : List Nat) (e e' : Env) (fs : List (Nat × Foot)), Trace F pos (l1 ++ i :: l2) e fs e' →
    fs.Pairwise (Okay pre) → (∀ k ∈ l1, (pre.getD i 0).testBit k = false) →
    ∃ e1 f fs', (step F (pOf pos i)).run e = some e1 ∧ f = (step F (pOf pos i)).foot e ∧ (i, f) ∈ fs ∧ Trace F pos (l1 ++ l2) e1 fs' e' ∧ fs'.Sublist fs
  | [], e, e', fs, h, hp, hn => by
    obtain ⟨e1, fs', h1, rfl, ht⟩ := h
    exact ⟨e1, _, fs', h1, rfl, List.mem_cons_self .., ht, List.sublist_cons_self ..⟩
  | k :: l1, e, e', fs, h, hp, hn => by
    obtain ⟨ek, fs', h1, rfl, ht⟩ := h
    obtain ⟨hk, hp'⟩ := List.pairwise_cons.1 hp
    obtain ⟨e1, f, fs1, g1, g2, g3, g4, g5⟩ := pull l1 ek e' fs' ht hp' fun k hk => hn k (List.mem_cons_of_mem _ hk)
    have hap : apart ((step F (pOf pos k)).foot e) ((step F (pOf pos i)).foot ek) = true := by
      have := hk _ g3
      rw [Okay] at this
      simp only [hn k (List.mem_cons_self ..)] at this
      rw [← g2]
      simpa using this
    obtain ⟨e0, s1, s2, s3, s4⟩ := swap_run h1 g1 hap
    refine ⟨e0, f, (k, (step F (pOf pos k)).foot e) :: fs1, s1, by rw [g2, s3], List.mem_cons_of_mem _ g3, ⟨e1, fs1, s2, by rw [s4], g4⟩, g5.cons_cons _⟩

theorem foldl_after {md : Region.Mode} {look : Nat → Nat} {k : Nat} : ∀ (l : List Edge) (s : Nat), (l.foldl (fun s e => if Region.binds md e then s ||| 2 ^ e.on ||| look e.on else s) s).testBit k = true →
    s.testBit k = true ∨ ∃ e ∈ l, Region.binds md e = true ∧ (k = e.on ∨ (look e.on).testBit k = true)
  | [], s, h => .inl h
  | e :: l, s, h => by
    rw [List.foldl_cons] at h
    rcases foldl_after l _ h with h | ⟨e', h1, h2, h3⟩
    · split at h
      · rename_i hb
        simp only [Nat.testBit_or, Nat.testBit_two_pow, Bool.or_eq_true, decide_eq_true_eq] at h
        rcases h with (h | h) | h
        · exact .inl h
        · exact .inr ⟨e, List.mem_cons_self .., hb, .inl h.symm⟩
        · exact .inr ⟨e, List.mem_cons_self .., hb, .inr h⟩
      · exact .inl h
    · exact .inr ⟨e', List.mem_cons_of_mem _ h1, h2, h3⟩

theorem foldl_push {α : Type} (g : Array Nat → α → Nat) : ∀ (l : List α) (A : Array Nat), (∀ i, i < A.size → (l.foldl (fun acc o => acc.push (g acc o)) A).getD i 0 = A.getD i 0) ∧
    (∀ i o, l[i]? = some o → ∃ B : Array Nat, (l.foldl (fun acc o => acc.push (g acc o)) A).getD (A.size + i) 0 = g B o ∧ ∀ j, B.getD j 0 = (l.foldl (fun acc o => acc.push (g acc o)) A).getD j 0 ∨ B.getD j 0 = 0)
  | [], A => ⟨fun _ _ => rfl, fun i o h => by simp at h⟩
  | x :: l, A => by
    obtain ⟨h1, h2⟩ := foldl_push g l (A.push (g A x))
    simp only [List.foldl_cons]
    have ext : ∀ i, i < A.size → (l.foldl (fun acc o => acc.push (g acc o)) (A.push (g A x))).getD i 0 = A.getD i 0 := by
      intro i hi
      rw [h1 i (by simp; omega)]
      simp [Array.getD_eq_getD_getElem?, Array.getElem?_push, Nat.ne_of_lt hi]
    refine ⟨ext, fun i o h => ?_⟩
    cases i with
    | zero =>
      simp only [List.getElem?_cons_zero, Option.some.injEq] at h
      subst h
      refine ⟨A, ?_, fun j => ?_⟩
      · rw [Nat.add_zero, h1 A.size (by simp)]
        simp [Array.getD_eq_getD_getElem?]
      · by_cases hj : j < A.size
        · exact .inl (ext j hj).symm
        · exact .inr (by simp [Array.getD_eq_getD_getElem?, Array.getElem?_eq_none (Nat.le_of_not_lt hj)])
    | succ i =>
      simp only [List.getElem?_cons_succ] at h
      obtain ⟨B, b1, b2⟩ := h2 i o h
      refine ⟨B, ?_, b2⟩
      rw [← b1, Array.size_push]; congr 1; omega

/-- What must lie ahead of a step lies there by an edge, or ahead of the step that the edge leads to. -/
theorem before_bit {ops : Array Oper} {i k : Nat} {o : Oper} (ho : ops[i]? = some o) (h : ((Region.before ops).getD i 0).testBit k = true) :
    ∃ e ∈ o.after, Region.binds .any e = true ∧ (k = e.on ∨ ((Region.before ops).getD e.on 0).testBit k = true) := by
  unfold Region.before at h ⊢
  rw [← Array.foldl_toList] at h ⊢
  obtain ⟨B, b1, b2⟩ := (foldl_push (fun acc (o : Oper) => o.after.foldl (fun s e => if Region.binds .any e then s ||| 2 ^ e.on ||| acc.getD e.on 0 else s) 0) ops.toList #[]).2 i o (by simpa using ho)
  simp only [List.size_toArray, List.length_nil, Nat.zero_add] at b1
  rw [b1, ← Array.foldl_toList] at h
  rcases foldl_after (look := fun j => B.getD j 0) o.after.toList 0 h with h | ⟨e, h1, h2, h3⟩
  · simp at h
  · refine ⟨e, by simpa using h1, h2, ?_⟩
    rcases h3 with h3 | h3
    · exact .inl h3
    · rcases b2 e.on with hb | hb
      · rw [hb] at h3; exact .inr h3
      · rw [hb] at h3; simp at h3

theorem edgesOk_spec {ops : Array Oper} (h : edgesOk ops = true) {i : Nat} {o : Oper} (ho : ops[i]? = some o) {e : Edge} (he : e ∈ o.after) (hb : Region.binds .any e = true) : e.on < i := by
  simp only [edgesOk, List.all_eq_true] at h
  have := h (o, i) (by rw [List.mem_zipIdx_iff_getElem?]; simpa using ho) e (by simpa using he)
  simpa [hb] using this

def unlisted (n : Nat) (listed : Array Bool) : List Nat := (List.range n).filter fun j => !listed.getD j true

theorem region_any {F : Fns} (hF : TableOK P F) {tks : List (Nat × List Bool)} {ops : Array Oper} {pos : List POper} (hcomp : ∀ (i : Nat) o, ops[i]? = some o → ∃ po, pos[i]? = some po ∧ cOper P tks ops o = some po)
    (hedge : edgesOk ops = true) {Q : Exit → Act → World → Prop} {n : Nat} (hlow : ∀ (i : Nat) o d, ops[i]? = some o → o.dst = some d → n ≤ d) : ∀ (fuel : Nat) (listed : Array Bool) (a : Act) (w : World) (env env' : Env) (O : Owns) (fs : List (Nat × Foot)), listed.size = ops.size →
      (unlisted ops.size listed).length ≤ fuel → (∀ j, listed.getD j false = true → ∀ k, ((Region.before ops).getD j 0).testBit k = true → listed.getD k false = true) →
      Trace F pos (unlisted ops.size listed) env fs env' → fs.Pairwise (Okay (Region.before ops).toList) → Inv env a.tmps w O → Goes n (Q .normal) a w env' O → wpAny P .any ops Q fuel listed a w := by
  have hready : ∀ (listed : Array Bool) (i : Nat), i ∈ Region.ready .any ops listed → i ∈ unlisted ops.size listed := by
    intro listed i hi
    obtain ⟨h0, o, ho, _⟩ := mem_ready.1 hi
    simp only [unlisted, List.mem_filter, List.mem_range, h0, Bool.not_false, and_true]
    exact (Array.getElem?_eq_some_iff.1 ho).1
  have hempty : ∀ (listed : Array Bool), listed.size = ops.size → Region.ready .any ops listed = [] → unlisted ops.size listed = [] := by
    intro listed hs hr
    have key : ∀ n j, j < n → j < ops.size → listed.getD j true = true := by
      intro n
      induction n with
      | zero => intro j hj; omega
      | succ n ih =>
        intro j hj hjs
        by_cases hjn : j < n
        · exact ih j hjn hjs
        · cases hl : listed.getD j true with
          | true => rfl
          | false =>
            exfalso
            have : j ∈ Region.ready .any ops listed := by
              refine mem_ready.2 ⟨hl, ops[j], Array.getElem?_eq_getElem hjs, fun e he hb => ?_⟩
              have hlt := edgesOk_spec hedge (Array.getElem?_eq_getElem hjs) he hb
              have := ih e.on (by omega) (by omega)
              simpa [Array.getD_eq_getD_getElem?, Array.getElem?_eq_getElem (show e.on < listed.size by omega)] using this
            rw [hr] at this; cases this
    simp only [unlisted, List.filter_eq_nil_iff, List.mem_range]
    intro j hj
    simp [key (j + 1) j (by omega) hj]
  intro fuel
  induction fuel with
  | zero =>
    intro listed a w env env' O fs hs hlen hcl ht hp inv hK
    have hnil : unlisted ops.size listed = [] := List.eq_nil_of_length_eq_zero (by omega)
    rw [hnil] at ht
    refine ⟨?_, ?_⟩
    · apply List.eq_nil_iff_forall_not_mem.2
      intro i hi
      have := hready listed i hi
      rw [hnil] at this; cases this
    · obtain ⟨_, rfl⟩ := ht
      exact hK a w O rfl rfl (Low.refl _ _) inv (Evo.refl _ _)
  | succ fuel ih =>
    intro listed a w env env' O fs hs hlen hcl ht hp inv hK
    refine ⟨fun hr => ?_, fun i hi => ?_⟩
    · rw [hempty listed hs hr] at ht
      obtain ⟨_, rfl⟩ := ht
      exact hK a w O rfl rfl (Low.refl _ _) inv (Evo.refl _ _)
    · have him := hready listed i hi
      obtain ⟨h0, o, ho, hall⟩ := mem_ready.1 hi
      have hil : i < ops.size := (Array.getElem?_eq_some_iff.1 ho).1
      obtain ⟨po, hpo, hco⟩ := hcomp i o ho
      obtain ⟨l1, l2, hl⟩ := List.append_of_mem him
      have hpre : ∀ k, ((Region.before ops).getD i 0).testBit k = true → listed.getD k false = true := by
        intro k hk
        obtain ⟨e, he, hb, h3⟩ := before_bit ho hk
        rcases h3 with rfl | h3
        · exact hall e he hb
        · exact hcl e.on (hall e he hb) k h3
      rw [hl] at ht
      have hgetD : ∀ j, (Region.before ops).toList.getD j 0 = (Region.before ops).getD j 0 := by
        intro j; simp [List.getD_eq_getElem?_getD, Array.getD_eq_getD_getElem?]
      obtain ⟨e1, f, fs', g1, g2, g3, g4, g5⟩ := pull l1 env env' fs ht hp fun k hk => by
        rw [hgetD]
        cases hb : ((Region.before ops).getD i 0).testBit k with
        | false => rfl
        | true =>
          have h1 := hpre k hb
          have h2 : k ∈ unlisted ops.size listed := by rw [hl]; exact List.mem_append_left _ hk
          simp only [unlisted, List.mem_filter, List.mem_range, Bool.not_eq_true'] at h2
          rw [Array.getD_eq_getD_getElem?, Array.getElem?_eq_getElem (show k < listed.size by omega)] at h1 h2
          simp only [Option.getD_some] at h1 h2
          rw [h1] at h2; cases h2.2
      have hpo' : pOf pos i = po := by simp [pOf, List.getD_eq_getElem?_getD, hpo]
      rw [hpo'] at g1
      have hset : unlisted ops.size (listed.setIfInBounds i true) = l1 ++ l2 := by
        have hnd : (l1 ++ i :: l2).Nodup := by rw [← hl]; exact List.Pairwise.filter _ List.nodup_range
        have h1 : unlisted ops.size (listed.setIfInBounds i true) = (unlisted ops.size listed).filter fun j => j != i := by
          unfold unlisted
          rw [List.filter_filter]
          apply List.filter_congr
          intro j hj
          by_cases hji : j = i
          · subst hji
            simp [Array.getD_eq_getD_getElem?, hs, hil]
          · rw [getD_set_ne true (Ne.symm hji)]; simp [hji]
        rw [h1, hl, List.filter_append, List.filter_cons]
        simp only [bne_self_eq_false, Bool.false_eq_true, if_false]
        rw [List.nodup_append, List.nodup_cons] at hnd
        obtain ⟨_, ⟨n1, _⟩, n2⟩ := hnd
        rw [List.filter_eq_self.2, List.filter_eq_self.2]
        · intro j hj
          have : j ≠ i := fun e => n1 (e ▸ hj)
          simp [this]
        · intro j hj
          have : j ≠ i := fun e => n2 j hj i (List.mem_cons_self ..) e
          simp [this]
      refine step_wp hF ho hco inv g1 (fun d => hlow i o d ho) fun a' w' O' hs' hd' hlo' hinv' hevo' => ?_
      refine ih (listed.setIfInBounds i true) a' w' e1 env' O' fs' (by simpa using hs) ?_ ?_ (hset ▸ g4) (hp.sublist g5) hinv' fun a2 w2 O2 hs2 hd2 hlo2 hinv2 hevo2 => hK a2 w2 O2 (hs2.trans hs') (hd2.trans hd') (hlo'.trans hlo2) hinv2 (hevo'.trans hevo2)
      · rw [hset]
        rw [hl] at hlen
        simp only [List.length_append, List.length_cons] at hlen ⊢
        omega
      · intro j hj k hk
        refine getD_set_true ?_
        by_cases hji : j = i
        · subst hji; exact hpre k hk
        · rw [getD_set_ne false (Ne.symm hji)] at hj
          exact hcl j hj k hk
end

section
/- The code of a body, as the pure machine has it. -/

variable {P : Program} {a : Act} {w : World} {env env' : Env} {O : Owns}

def exOf : Ex → Exit
  | .normal => .normal
  | .exit id => .exit id
  | .ret => .ret

/-- A loop, its rounds counted ahead. -/
theorem wp_loop_n {Q : Exit → Act → World → Prop} {c : Code} (I : Nat → Act → World → Prop)
    (round : ∀ n a w, I n a w → c.wp P (Exit.then (fun a' w' => ∃ m, m < n ∧ I m a' w') Q) a w) (n : Nat) (h₀ : I n a w) : (Code.loop c).wp P Q a w := by
  intro b k cs
  have key : ∀ n a w, I n a w → ∃ e a' w', Q e a' w' ∧ Arrives P (lone (b.at a (.code c :: .inLoop c :: k)) cs w) b k cs e a' w' := by
    intro n
    induction n using Nat.strongRecOn with
    | _ n ih =>
      intro a w hI
      obtain ⟨e, a₁, w₁, hq, harr⟩ := round n a w hI b (.inLoop c :: k) cs
      cases e with
      | normal =>
        obtain ⟨m, hlt, hI₁⟩ := hq
        obtain ⟨e₂, a₂, w₂, hq₂, harr₂⟩ := ih m hlt a₁ w₁ hI₁
        exact ⟨e₂, a₂, w₂, hq₂, .of_steps (Steps.trans harr (.one step_inLoop)) harr₂⟩
      | exit id => exact ⟨_, a₁, w₁, hq, .pass (x := .inLoop c) rfl (fun _ _ => .inl (by simp)) harr⟩
      | goto l => exact ⟨_, a₁, w₁, hq, .pass (x := .inLoop c) rfl (fun _ _ => .inl (by simp)) harr⟩
      | ret => exact ⟨_, a₁, w₁, hq, .pass (x := .inLoop c) rfl (fun _ _ => .inl (by simp)) harr⟩
      | panic ch => exact ⟨_, a₁, w₁, hq, .pass (x := .inLoop c) rfl (fun _ _ => .inl (by simp)) harr⟩
      | outgrown => exact ⟨_, a₁, w₁, hq, .pass (x := .inLoop c) rfl (fun _ _ => .inl (by simp)) harr⟩
  obtain ⟨e, a', w', hq, harr⟩ := key n a w h₀
  exact ⟨e, a', w', hq, .of_steps (.one step_loop) harr⟩

theorem inv_drawn {tmps : Array Value} (h : Inv env tmps w O) (k : Nat) : Inv env tmps { w with drawn := k } O :=
  h.make (fun _ => False) (fun _ => False) h.len h.bnd (fun _ _ _ hu _ => ⟨hu, rfl, rfl⟩) (fun _ _ _ _ h => h) (fun _ _ => ⟨rfl, rfl⟩) (fun _ h => h.elim) (fun _ h => h.elim) (fun _ h => h.elim)
theorem evo_drawn (O : Owns) (w : World) (k : Nat) : Evo w O { w with drawn := k } O := ⟨rfl, rfl, rfl, Nat.le_refl _, fun _ _ _ => rfl, fun _ _ _ h => ⟨h, rfl, rfl⟩, fun _ _ _ hu h => ⟨hu, h, rfl⟩⟩

theorem cond_rep {c : Operand} {o : Opd} {t : Bool} (hc : cOpd c = some o) (inv : Inv env a.tmps w O) (h : condOf o env = some t) : a.eval c = .bool t := by
  have hr := cOpd_rep hc a
  unfold condOf at h
  split at h
  · simp only [Option.some.injEq] at h; subst h
    exact frep_bool (hr (Frz w O))
  · cases h
  · rename_i t'
    split at h
    · rename_i b hb
      simp only [Option.some.injEq] at h; subst h
      have hm := inv.mem t'
      rw [hb] at hm
      exact hr.trans (frep_bool hm)
    · cases h

/-- What may follow a body. -/
abbrev Ends (n : Nat) (Q : Exit → Act → World → Prop) (e : Exit) (a : Act) (w : World) (env' : Env) (O : Owns) : Prop := Goes n (Q e) a w env' O

theorem reg_wp {F : Fns} (hF : TableOK P F) (hm : P.follows .mixedOrders = true) {tks : List (Nat × List Bool)} {n id : Nat} {ops : Array Oper} {dr : Bool} {h h' : List (List Nat)} {pc : PCode}
    (hl : lowOps n ops = true) (hc : cCode P tks (.region id ops dr) h = some (pc, h')) (inv : Inv env a.tmps w O) {L : Run → List Nat → Run} {ex : Ex} (he : evalC F L pc env = some (ex, env'))
    {Q : Exit → Act → World → Prop} (hK : Ends n Q (exOf ex) a w env' O) : (Code.region id ops dr).wp P Q a w := by
  cases h with
  | nil => simp [cCode] at hc
  | cons live h =>
  simp only [cCode, Option.bind_eq_bind, Option.bind_eq_some_iff] at hc
  obtain ⟨pos, hpos, hc⟩ := hc
  obtain ⟨m1, m2⟩ := mapM_some hpos
  have hlow : ∀ (i : Nat) o d, ops[i]? = some o → o.dst = some d → n ≤ d := by
    intro i o d ho hd
    simp only [lowOps, List.all_eq_true] at hl
    have := hl o (by simpa using Array.mem_of_getElem? ho)
    rw [hd] at this
    simpa using this
  have hcomp : ∀ (i : Nat) o, ops[i]? = some o → ∃ po, pos[i]? = some po ∧ cOper P tks ops o = some po := by
    intro i o ho
    have hi : i < pos.length := by rw [m1]; simpa using (Array.getElem?_eq_some_iff.1 ho).1
    obtain ⟨y, hy, hco⟩ := m2 i _ (List.getElem?_eq_getElem hi)
    have : y = o := by
      have : ops.toList[i]? = some o := by simpa using ho
      rw [this] at hy; exact (Option.some.inj hy).symm
    subst this
    exact ⟨_, List.getElem?_eq_getElem hi, hco⟩
  have hsz : pos.length = ops.size := by rw [m1]; simp
  have fin : ∀ a' w' O' e1, a'.tmps.size = a.tmps.size → a'.defers = a.defers → Low n a a' → Inv e1 a'.tmps w' O' → Evo w O w' O' → env' = clean live e1 → ex = .normal → Q .normal a' w' := by
    intro a' w' O' e1 h1 h2 h3 h4 h5 h6 h7
    subst h6 h7
    exact hK a' w' O' h1 h2 h3 (clean_inv h4 live) h5
  split at hc
  · rename_i hd
    subst hd
    split at hc
    case isFalse => cases hc
    rename_i hedge
    simp only [Option.some.injEq, Prod.mk.injEq] at hc
    obtain ⟨rfl, rfl⟩ := hc
    simp only [evalC] at he
    split at he
    case h_2 => cases he
    rename_i e1 he1
    split at he
    case isFalse => cases he
    rename_i hcalm
    simp only [Option.some.injEq, Prod.mk.injEq] at he
    obtain ⟨rfl, rfl⟩ := he
    refine wp_region_any hm ?_
    have hrange : (List.range ops.size).map (pOf pos) = pos := by
      apply List.ext_getElem
      · simp [hsz]
      · intro i h1 h2
        simp [pOf, List.getElem?_eq_getElem h2]
    have hun : unlisted ops.size (Array.replicate ops.size false) = List.range ops.size := by
      unfold unlisted
      rw [List.filter_eq_self]
      intro j hj
      simp only [List.mem_range] at hj
      simp [Array.getD_eq_getD_getElem?, hj]
    have htr := trace_of (F := F) (pos := pos) (List.range ops.size) env e1 (by rw [hrange]; exact he1)
    rw [hrange] at htr
    refine region_any hF hcomp hedge hlow ops.size _ a _ env e1 O ((List.range ops.size).zip (feet F pos env)) (by simp) (by rw [hun]; simp) ?_ (by rw [hun]; exact htr) ?_ (inv_drawn inv _) ?_
    · intro j hj
      simp only [Array.getD_eq_getD_getElem?, Array.getElem?_replicate] at hj
      split at hj <;> simp at hj
    · rw [List.pairwise_iff_getElem]
      intro i j hi hj hij
      simp only [List.length_zip, List.length_range] at hi hj
      simp only [List.getElem_zip, List.getElem_range]
      simp only [calmAt, List.all_eq_true, List.mem_range, Bool.or_eq_true] at hcalm
      have hlen : (feet F pos env).length ≤ pos.length := by
        have : ∀ (l : List POper) (e : Env), (feet F l e).length ≤ l.length := by
          intro l
          induction l with
          | nil => intro e; simp [feet]
          | cons o l ih =>
            intro e
            simp only [feet, List.length_cons]
            split
            · have := ih ‹Env›; omega
            · simp
        exact this pos env
      have := hcalm j (by omega) i hij
      rw [CheckFast.beforeF_eq] at this
      refine this.imp (fun h => h) fun h => ?_
      simpa [List.getD_eq_getElem?_getD, List.getElem?_eq_getElem (show i < (feet F pos env).length by omega), List.getElem?_eq_getElem (show j < (feet F pos env).length by omega)] using h
    · intro a' w' O' h1 h2 h3 h4 h5
      exact fin a' w' O' e1 h1 h2 h3 h4 ((evo_drawn O w _).trans h5) rfl rfl
  · rename_i hd
    have hd : dr = false := by simpa using hd
    subst hd
    simp only [Option.some.injEq, Prod.mk.injEq] at hc
    obtain ⟨rfl, rfl⟩ := hc
    simp only [evalC] at he
    split at he
    case h_2 => cases he
    rename_i e1 he1
    simp only [Option.some.injEq, Prod.mk.injEq] at he
    obtain ⟨rfl, rfl⟩ := he
    refine wp_region ?_
    refine ops_wp (tks := tks) hF hlow (List.range ops.size) pos a w env O (all2_of (by simp [hsz]) fun i x y hx hy => ?_) inv e1 he1 fun a' w' O' h1 h2 h3 h4 h5 => fin a' w' O' e1 h1 h2 h3 h4 h5 rfl rfl
    have hi := getElem?_lt hx
    simp only [List.length_range] at hi
    rw [List.getElem?_range hi] at hx
    simp only [Option.some.injEq] at hx
    subst hx
    obtain ⟨po, h1, h2⟩ := hcomp i ops[i] (Array.getElem?_eq_getElem hi)
    rw [h1] at hy
    simp only [Option.some.injEq] at hy
    subst hy
    exact ⟨ops[i], Array.getElem?_eq_getElem hi, h2⟩

/-- What a loop's word is worth: some number of rounds bears it out. -/
def LoopOK (L : Run → List Nat → Run) : Prop := ∀ b live e r, L b live e = some r → ∃ n, loopN b live n e = some r

theorem code_wp {F : Fns} (hF : TableOK P F) (hm : P.follows .mixedOrders = true) {tks : List (Nat × List Bool)} {n : Nat} {L : Run → List Nat → Run} (hL : LoopOK L) : ∀ (c : Code) (h h' : List (List Nat)) (pc : PCode) (a : Act) (w : World) (env env' : Env) (O : Owns) (ex : Ex) (Q : Exit → Act → World → Prop),
    lowCode n c = true → cCode P tks c h = some (pc, h') → Inv env a.tmps w O → evalC F L pc env = some (ex, env') → Ends n Q (exOf ex) a w env' O → c.wp P Q a w := by
  intro c
  induction c with
  | skip =>
    intro h h' pc a w env env' O ex Q hl hc inv he hK
    simp only [cCode, Option.some.injEq, Prod.mk.injEq] at hc
    obtain ⟨rfl, rfl⟩ := hc
    simp only [evalC, Option.some.injEq, Prod.mk.injEq] at he
    obtain ⟨rfl, rfl⟩ := he
    exact wp_skip (hK a w O rfl rfl (Low.refl _ _) inv (Evo.refl _ _))
  | region id ops dr =>
    intro h h' pc a w env env' O ex Q hl hc inv he hK
    exact reg_wp hF hm hl hc inv he hK
  | seq x y ihx ihy =>
    intro h h' pc a w env env' O ex Q hl hc inv he hK
    simp only [cCode, Option.bind_eq_bind, Option.bind_eq_some_iff] at hc
    obtain ⟨⟨px, h1⟩, hx, ⟨py, h2⟩, hy, hc⟩ := hc
    simp only [Option.some.injEq, Prod.mk.injEq] at hc
    obtain ⟨rfl, rfl⟩ := hc
    simp only [lowCode, Bool.and_eq_true] at hl
    simp only [evalC] at he
    refine wp_seq ?_
    split at he
    · rename_i e1 he1
      refine ihx _ _ _ a w env e1 O .normal _ hl.1 hx inv he1 fun a1 w1 O1 k1 k2 k3 k4 k5 => ?_
      exact ihy _ _ _ a1 w1 e1 env' O1 ex Q hl.2 hy k4 he fun a2 w2 O2 m1 m2 m3 m4 m5 => hK a2 w2 O2 (m1.trans k1) (m2.trans k2) (k3.trans m3) m4 (k5.trans m5)
    · rename_i hn
      refine ihx _ _ _ a w env env' O ex _ hl.1 hx inv he fun a1 w1 O1 k1 k2 k3 k4 k5 => ?_
      have := hK a1 w1 O1 k1 k2 k3 k4 k5
      cases ex with
      | normal => exact absurd he (hn env')
      | exit id => exact this
      | ret => exact this
  | cond c x y ihx ihy =>
    intro h h' pc a w env env' O ex Q hl hc inv he hK
    simp only [cCode, Option.bind_eq_bind, Option.bind_eq_some_iff] at hc
    obtain ⟨o, ho, ⟨px, h1⟩, hx, ⟨py, h2⟩, hy, hc⟩ := hc
    simp only [Option.some.injEq, Prod.mk.injEq] at hc
    obtain ⟨rfl, rfl⟩ := hc
    simp only [lowCode, Bool.and_eq_true] at hl
    simp only [evalC] at he
    split at he
    · rename_i ht
      exact wp_cond_true (cond_rep ho inv ht) (ihx _ _ _ a w env env' O ex Q hl.1 hx inv he hK)
    · rename_i ht
      exact wp_cond_false (cond_rep ho inv ht) (ihy _ _ _ a w env env' O ex Q hl.2 hy inv he hK)
    · cases he
  | block id b ih =>
    intro h h' pc a w env env' O ex Q hl hc inv he hK
    simp only [cCode, Option.bind_eq_bind, Option.bind_eq_some_iff] at hc
    obtain ⟨⟨pb, h1⟩, hb, hc⟩ := hc
    simp only [Option.some.injEq, Prod.mk.injEq] at hc
    obtain ⟨rfl, rfl⟩ := hc
    simp only [evalC] at he
    refine wp_block ?_
    split at he
    · rename_i i e1 he1
      simp only [Option.some.injEq, Prod.mk.injEq] at he
      obtain ⟨rfl, rfl⟩ := he
      refine ih _ _ _ a w env e1 O (.exit i) _ hl hb inv he1 fun a1 w1 O1 k1 k2 k3 k4 k5 => ?_
      have := hK a1 w1 O1 k1 k2 k3 k4 k5
      simp only [exOf, Exit.inBlock]
      split at this
      · rename_i e; rw [if_pos e]; exact this
      · rename_i e; rw [if_neg e]; exact this
    · rename_i hn
      refine ih _ _ _ a w env env' O ex _ hl hb inv he fun a1 w1 O1 k1 k2 k3 k4 k5 => ?_
      have := hK a1 w1 O1 k1 k2 k3 k4 k5
      cases ex with
      | normal => exact this
      | exit id => exact absurd he (hn id env')
      | ret => exact this
  | loop b ih =>
    intro h h' pc a w env env' O ex Q hl hc inv he hK
    cases h with
    | nil => simp [cCode] at hc
    | cons live h =>
    simp only [cCode, Option.bind_eq_bind, Option.bind_eq_some_iff] at hc
    obtain ⟨⟨pb, h1⟩, hb, hc⟩ := hc
    simp only [Option.some.injEq, Prod.mk.injEq] at hc
    obtain ⟨rfl, rfl⟩ := hc
    simp only [evalC] at he
    obtain ⟨k, hk⟩ := hL _ _ _ _ he
    refine wp_loop_n (fun m a1 w1 => ∃ e1 O1, a1.tmps.size = a.tmps.size ∧ a1.defers = a.defers ∧ Low n a a1 ∧ Inv e1 a1.tmps w1 O1 ∧ Evo w O w1 O1 ∧ loopN (evalC F L pb) live m e1 = some (ex, env')) ?_ k
      ⟨env, O, rfl, rfl, Low.refl _ _, inv, Evo.refl _ _, hk⟩
    rintro m a1 w1 ⟨e1, O1, k1, k2, k3, k4, k5, k6⟩
    cases m with
    | zero => simp [loopN] at k6
    | succ m =>
      simp only [loopN] at k6
      split at k6
      · rename_i e2 he2
        refine ih _ _ _ a1 w1 _ e2 O1 .normal _ hl hb (clean_inv k4 live) he2 fun a2 w2 O2 m1 m2 m3 m4 m5 => ?_
        exact ⟨m, Nat.lt_succ_self _, e2, O2, m1.trans k1, m2.trans k2, k3.trans m3, m4, k5.trans m5, k6⟩
      · rename_i hn
        refine ih _ _ _ a1 w1 _ env' O1 ex _ hl hb (clean_inv k4 live) k6 fun a2 w2 O2 m1 m2 m3 m4 m5 => ?_
        have := hK a2 w2 O2 (m1.trans k1) (m2.trans k2) (k3.trans m3) m4 (k5.trans m5)
        cases ex with
        | normal => exact absurd k6 (hn env')
        | exit id => exact this
        | ret => exact this
  | exit id =>
    intro h h' pc a w env env' O ex Q hl hc inv he hK
    simp only [cCode, Option.some.injEq, Prod.mk.injEq] at hc
    obtain ⟨rfl, rfl⟩ := hc
    simp only [evalC, Option.some.injEq, Prod.mk.injEq] at he
    obtain ⟨rfl, rfl⟩ := he
    exact wp_exit (hK a w O rfl rfl (Low.refl _ _) inv (Evo.refl _ _))
  | scope b ih =>
    intro h h' pc a w env env' O ex Q hl hc inv he hK
    simp only [cCode, Option.bind_eq_bind, Option.bind_eq_some_iff] at hc
    obtain ⟨⟨pb, h1⟩, hb, hc⟩ := hc
    simp only [Option.some.injEq, Prod.mk.injEq] at hc
    obtain ⟨rfl, rfl⟩ := hc
    simp only [evalC] at he
    refine wp_scope_straight (ih _ _ _ a w env env' O ex _ hl hb inv he fun a1 w1 O1 k1 k2 k3 k4 k5 => ?_)
    have := hK a1 w1 O1 k1 k2 k3 k4 k5
    cases ex <;> exact this
  | ret =>
    intro h h' pc a w env env' O ex Q hl hc inv he hK
    simp only [cCode, Option.some.injEq, Prod.mk.injEq] at hc
    obtain ⟨rfl, rfl⟩ := hc
    simp only [evalC, Option.some.injEq, Prod.mk.injEq] at he
    obtain ⟨rfl, rfl⟩ := he
    exact wp_ret (hK a w O rfl rfl (Low.refl _ _) inv (Evo.refl _ _))
  | _ =>
    intro h h' pc a w env env' O ex Q hl hc inv he hK
    simp [cCode] at hc
end

section
/- A function's end: what it hands back; the function's contract. -/

variable {P : Program} {a : Act} {w : World} {env env' : Env} {O : Owns} {tmps : Array Value}

theorem lowCode_zero : ∀ c : Code, lowCode 0 c = true := by
  intro c
  induction c with
  | region id ops dr =>
    simp only [lowCode, lowOps, List.all_eq_true]
    intro o _
    cases o.dst <;> simp
  | seq x y hx hy => simp [lowCode, hx, hy]
  | cond c x y hx hy => simp [lowCode, hx, hy]
  | block id b h => simp [lowCode, h]
  | loop b h => simp [lowCode, h]
  | scope b h => simp [lowCode, h]
  | _ => rfl

theorem px_slot (x : PX) : x.slot.2.px = some x := by
  cases x with
  | c c => rfl
  | s cs => rfl
  | b cs => simp only [PX.slot, SV.px, List.map_map]; congr 1; congr 1; exact (List.map_congr_left fun _ _ => rfl).trans (List.map_id cs)

theorem lay_run : ∀ (xs : List PX) (base : Nat) (e e' : Env), (Pr.lay base xs).run e = some e' → base + xs.length ≤ e.length →
    e'.length = e.length ∧ (∀ t, t < base → e'.at t = e.at t) ∧ ∀ (i : Nat) x, xs[i]? = some x → e'.at (base + i) = (0, x.slot.2)
  | [], base, e, e', h, _ => by
    simp only [Pr.lay, Pr.run, Option.some.injEq] at h
    subst h
    exact ⟨rfl, fun _ _ => rfl, fun i x h => by simp at h⟩
  | x :: xs, base, e, e', h, hl => by
    simp only [Pr.lay, Pr.run] at h
    simp only [List.length_cons] at hl
    obtain ⟨h1, h2, h3⟩ := lay_run xs (base + 1) _ e' h (by simp; omega)
    refine ⟨by simpa using h1, fun t ht => by rw [h2 t (by omega), at_set_ne _ _ (by omega)], fun i y hi => ?_⟩
    cases i with
    | zero =>
      simp only [List.getElem?_cons_zero, Option.some.injEq] at hi
      subst hi
      rw [Nat.add_zero, h2 base (by omega), at_set_same _ _ (by omega)]
    | succ i =>
      have := h3 i y (by simpa using hi)
      rw [show base + (i + 1) = base + 1 + i by omega]; exact this

theorem lay_back {xs ys : List PX} {base : Nat} {e e' : Env} (h : (Pr.lay base xs).run e = some e') (hl : base + xs.length = e.length) (hm : (e'.drop base).mapM (fun x => x.2.px) = some ys) : ys = xs := by
  obtain ⟨h1, _, h3⟩ := lay_run xs base e e' h (by omega)
  obtain ⟨m1, m2⟩ := mapM_some hm
  have hlen : ys.length = xs.length := by rw [m1, List.length_drop]; omega
  apply List.ext_getElem hlen
  intro i k1 k2
  obtain ⟨y, hy, hp⟩ := m2 i _ (List.getElem?_eq_getElem k1)
  have h4 := h3 i _ (List.getElem?_eq_getElem k2)
  rw [List.getElem?_drop] at hy
  unfold Env.at at h4
  rw [List.getD_eq_getElem?_getD, hy] at h4
  simp only [Option.getD_some] at h4
  rw [h4, px_slot] at hp
  exact (Option.some.inj hp).symm

/-- The value of an operand that is handed back. -/
def vEnd (tmps : Array Value) : Bool × Opd → Value
  | (_, .tmp t) => tmps.getD t undef
  | (_, .con _) => .pointer none

theorem finArgs_get {low : Nat} : ∀ (xs : List PX) (i : Nat) {as : List (Bool × Opd)}, finArgs low i xs = some as → as.length = xs.length ∧
    (∀ (j : Nat) x, xs[j]? = some x → (∃ cs, x = .b cs ∧ as[j]? = some (false, .tmp (i + j)) ∧ i + j < low) ∨ (x.isBox = false ∧ as[j]? = some (false, .con .nilp)))
  | [], i, as, h => by simp only [finArgs, Option.some.injEq] at h; subst h; exact ⟨rfl, fun j x h => by simp at h⟩
  | x :: xs, i, as, h => by
    have key : ∀ a, (finArgs low (i + 1) xs).map (a :: ·) = some as → (x.isBox = false ∧ a = (false, .con .nilp) ∨ ∃ cs, x = .b cs ∧ a = (false, .tmp i) ∧ i < low) → as.length = (x :: xs).length ∧
        (∀ (j : Nat) y, (x :: xs)[j]? = some y → (∃ cs, y = .b cs ∧ as[j]? = some (false, .tmp (i + j)) ∧ i + j < low) ∨ (y.isBox = false ∧ as[j]? = some (false, .con .nilp))) := by
      intro a ha hx
      rw [Option.map_eq_some_iff] at ha
      obtain ⟨l, hl, rfl⟩ := ha
      obtain ⟨h1, h2⟩ := finArgs_get xs (i + 1) hl
      refine ⟨by simp [h1], fun j y hy => ?_⟩
      cases j with
      | zero =>
        simp only [List.getElem?_cons_zero, Option.some.injEq] at hy
        subst hy
        rcases hx with ⟨hx, rfl⟩ | ⟨cs, hx, rfl, hlt⟩
        · exact .inr ⟨hx, rfl⟩
        · exact .inl ⟨cs, hx, rfl, hlt⟩
      | succ j =>
        simp only [List.getElem?_cons_succ] at hy ⊢
        rw [show i + (j + 1) = i + 1 + j by omega]
        exact h2 j y hy
    cases x with
    | b cs =>
      simp only [finArgs] at h
      split at h
      · rename_i hlt; exact key _ h (.inr ⟨cs, rfl, rfl, hlt⟩)
      · cases h
    | c c => exact key _ h (.inl ⟨rfl, rfl⟩)
    | s cs => exact key _ h (.inl ⟨rfl, rfl⟩)

theorem finRes_get {nt : Nat} : ∀ (rs : List RVar) (j : Nat), (finRes nt j rs).length = rs.length ∧ ∀ (i : Nat) r, rs[i]? = some r → (finRes nt j rs)[i]? = some (true, match r with | .tmp t => .tmp t | .cell _ _ => .tmp (nt + (j + i)))
  | [], j => ⟨rfl, fun i r h => by simp at h⟩
  | r :: rs, j => by
    obtain ⟨h1, h2⟩ := finRes_get (nt := nt) rs (j + 1)
    cases r with
    | tmp t =>
      refine ⟨by simp [finRes, h1], fun i r h => ?_⟩
      cases i with
      | zero => simp at h; subst h; rfl
      | succ i =>
        simp only [List.getElem?_cons_succ, finRes] at h ⊢
        rw [show j + (i + 1) = j + 1 + i by omega]; exact h2 i r h
    | cell t n =>
      refine ⟨by simp [finRes, h1], fun i r h => ?_⟩
      cases i with
      | zero => simp at h; subst h; simp [finRes]
      | succ i =>
        simp only [List.getElem?_cons_succ, finRes] at h ⊢
        rw [show j + (i + 1) = j + 1 + i by omega]; exact h2 i r h

theorem at_grow (env : Env) (k t : Nat) : Env.at (env ++ List.replicate k (0, SV.dead)) t = env.at t := by
  unfold Env.at
  simp only [List.getD_eq_getElem?_getD, List.getElem?_append]
  split
  · rfl
  · rename_i h
    rw [List.getElem?_eq_none (l := env) (by omega), List.getElem?_replicate]
    split <;> rfl

theorem tmp_grow (tmps : Array Value) (k t : Nat) : (tmps ++ Array.replicate k undef).getD t undef = tmps.getD t undef := by
  simp only [Array.getD_eq_getD_getElem?, Array.getElem?_append]
  split
  · rfl
  · rename_i h
    rw [Array.getElem?_eq_none (xs := tmps) (by omega), Array.getElem?_replicate]
    split <;> rfl

theorem Inv.grow (inv : Inv env tmps w O) (k : Nat) : Inv (env ++ List.replicate k (0, SV.dead)) (tmps ++ Array.replicate k undef) w O := by
  have hat := at_grow env k
  have hv := tmp_grow tmps k
  refine inv.make (fun _ => False) (fun _ => False) (by simp [inv.len]) inv.bnd (Keep.refl _ _ _) (fun _ _ _ _ h => h) (fun t _ => ⟨hat t, hv t⟩) (fun _ h => h.elim) (fun _ h => h.elim) (fun _ h => h.elim)

/-- A cell is read. -/
theorem cell_load {n : Option Nat} {ty : TypeId} {t d : Nat} (hn : aggOf P ty = some n) (inv : Inv env tmps w O) (h : (stepOp (fun _ _ => none) (some d) (.load true n (.tmp t))).run env = some env') (hb : ∃ cs, (env.at t).2 = .box cs) :
    ∃ v O', (do loadVar ty (← asAddr (tmps.getD t undef)) : Sem Value).run P w = .ok v w ∧ Inv env' (tmps.setIfInBounds d v) w O' ∧ Evo w O w O' := by
  obtain ⟨cs, hcs⟩ := hb
  have hm := inv.mem t
  rw [hcs] at hm
  obtain ⟨b, hv, hc⟩ := hm
  let o : Oper := { dst := some d, op := .load ty (.tmp t), type := 0, pos := default, after := #[], guard := none }
  have hrun : ∃ v, (Instr.loadAt ty (.pointer (some ⟨b, 0, none⟩))).run P w = .ok v w := by
    simp only [stepOp, Pr.run, hcs] at h
    unfold stepOp.loadBox at h
    cases n with
    | none =>
      simp only at h
      have : ∃ p, cs[0]? = some p := by
        cases hq : cs[0]? with
        | none => rw [hq] at h; simp [Pr.run] at h
        | some p => exact ⟨p, rfl⟩
      obtain ⟨p, hp⟩ := this
      obtain ⟨_, _, u, hu, _⟩ := hc 0 p hp
      exact ⟨u, load_one hn hu⟩
    | some n =>
      simp only at h
      split at h
      · rename_i hle
        obtain ⟨us, hl, hcell, _⟩ := box_vals hle hc
        exact ⟨_, load_many hn hl hcell⟩
      · simp [Pr.run] at h
  obtain ⟨v, hrun⟩ := hrun
  have hex : (execOp (Act.eval { tmps := tmps, defers := [] }) o).run P w = .ok (.value v) w := by
    have : (Instr.loadAt ty (Act.eval { tmps := tmps, defers := [] } (.tmp t))).run P w = .ok v w := by
      show (Instr.loadAt ty (tmps.getD t undef)).run P w = .ok v w
      rw [hv]; exact hrun
    simp [execOp, o, this]
  obtain ⟨v', w', O', n', k1, k2, k3, k4⟩ := load_ok (o := o) (a := { tmps := tmps, defers := [] }) (F := fun _ _ => none) (take := true) (y := .tmp t) rfl hn rfl inv h
  rw [hex] at k1
  simp only [Result.ok.injEq] at k1
  obtain ⟨rfl, rfl⟩ := k1
  have hvv : v' = v := by
    rcases k2 with k2 | ⟨k2, _⟩
    · cases k2; rfl
    · cases k2
  subst hvv
  refine ⟨v', O', ?_, k3, k4⟩
  rw [hv]
  simpa [Instr.loadAt, Instr.sureAddr, asAddr] using hrun

theorem load_heads {n : Option Nat} {t d : Nat} (h : (stepOp (fun _ _ => none) (some d) (.load true n (.tmp t))).run env = some env') (hb : (env.at t).2.hd = .box) (s : Nat) (hs : s ≠ d) : (env'.at s).2.hd = (env.at s).2.hd := by
  obtain ⟨cs, hcs⟩ := hd_box hb
  have put : ∀ (e : Env) x, (Pr.put (some d) x).run e = some env' → (env'.at s).2.hd = (e.at s).2.hd := by
    intro e x h
    simp only [Pr.put, Pr.run, Option.some.injEq] at h
    subst h
    rw [at_set_ne _ _ hs]
  have upd : ∀ y k, (Pr.upd t ((env.at t).1, .box y) k).run env = some env' → ∃ e, k.run e = some env' ∧ (e.at s).2.hd = (env.at s).2.hd := by
    intro y k h
    simp only [Pr.run, if_true] at h
    split at h
    · rename_i hh
      refine ⟨_, h, ?_⟩
      rw [at_set]
      split
      · rename_i e
        obtain ⟨rfl, _⟩ := e
        exact hh
      · rfl
    · cases h
  simp only [stepOp, Pr.run, hcs] at h
  unfold stepOp.loadBox at h
  cases n with
  | none =>
    simp only at h
    split at h
    · exact put _ _ h
    · exact put _ _ h
    · simp [Pr.run] at h
  | some n =>
    simp only at h
    split at h
    · split at h
      · obtain ⟨e, h1, h2⟩ := upd _ _ h
        exact (put e _ h1).trans h2
      · split at h
        · exact put _ _ h
        · simp [Pr.run] at h
    · simp [Pr.run] at h

theorem loads_run {nt : Nat} : ∀ (rs : List RVar) (crs : List ResultVar) (j : Nat) (env env' : Env) (tmps : Array Value) (O : Owns), All2 (fun r c => cRes P c = some r) rs crs → Inv env tmps w O → nt + j + rs.length ≤ tmps.size →
    runOps (fun _ _ => none) (finLoads nt j rs) env = some env' → rs.all (RVar.ok nt env) = true →
    ∃ tmps' O', Inv env' tmps' w O' ∧ Evo w O w O' ∧ tmps'.size = tmps.size ∧ (∀ i, i < nt + j → tmps'.getD i undef = tmps.getD i undef) ∧
      ∀ (i : Nat) t ty, crs[i]? = some (ResultVar.cell t ty) → (do loadVar ty (← asAddr (tmps.getD t undef)) : Sem Value).run P w = .ok (tmps'.getD (nt + (j + i)) undef) w
  | [], [], j, env, env', tmps, O, _, inv, _, h, _ => by
    simp only [finLoads, runOps, Option.some.injEq] at h
    subst h
    exact ⟨tmps, O, inv, Evo.refl _ _, rfl, fun _ _ => rfl, fun i t ty h => by simp at h⟩
  | r :: rs, c :: crs, j, env, env', tmps, O, hc, inv, hsz, h, hok => by
    simp only [List.length_cons] at hsz
    simp only [List.all_cons, Bool.and_eq_true] at hok
    obtain ⟨hr, hok⟩ := hok
    obtain ⟨hc, hcs⟩ := hc
    cases r with
    | tmp t =>
      obtain ⟨tmps', O', k1, k2, k3, k4, k5⟩ := loads_run rs crs (j + 1) env env' tmps O hcs inv (by omega) h hok
      refine ⟨tmps', O', k1, k2, k3, fun i hi => k4 i (by omega), fun i t' ty hi => ?_⟩
      cases i with
      | zero =>
        simp only [List.getElem?_cons_zero, Option.some.injEq] at hi
        subst hi
        simp [cRes, Option.map_eq_some_iff] at hc
      | succ i =>
        rw [show nt + (j + (i + 1)) = nt + (j + 1 + i) by omega]
        exact k5 i t' ty (by simpa using hi)
    | cell t n =>
      simp only [RVar.ok, Bool.and_eq_true, decide_eq_true_eq, beq_iff_eq] at hr
      cases c with
      | tmp t' => simp [cRes] at hc
      | cell t' ty =>
        simp only [cRes, Option.map_eq_some_iff, RVar.cell.injEq] at hc
        obtain ⟨n', hn, rfl, rfl⟩ := hc
        simp only [finLoads, runOps] at h
        split at h
        case h_2 => cases h
        rename_i e1 he1
        have he1' : (stepOp (fun _ _ => none) (some (nt + j)) (.load true n' (.tmp t'))).run env = some e1 := he1
        obtain ⟨v, O1, m1, m2, m3⟩ := cell_load hn inv he1' (hd_box hr.2)
        have hok1 : rs.all (RVar.ok nt e1) = true := by
          rw [List.all_eq_true] at hok ⊢
          intro r hrm
          have := hok r hrm
          cases r with
          | tmp t => exact this
          | cell t n =>
            simp only [RVar.ok, Bool.and_eq_true, decide_eq_true_eq, beq_iff_eq] at this ⊢
            exact ⟨this.1, by rw [load_heads he1' hr.2 t (by omega)]; exact this.2⟩
        obtain ⟨tmps', O', k1, k2, k3, k4, k5⟩ := loads_run rs crs (j + 1) e1 env' _ O1 hcs m2 (by simp; omega) h hok1
        have hold : ∀ i, i < nt + j → (tmps.setIfInBounds (nt + j) v).getD i undef = tmps.getD i undef := by
          intro i hi
          rw [tmp_set, if_neg (fun e => by omega)]
        refine ⟨tmps', O', k1, m3.trans k2, by simpa using k3, fun i hi => (k4 i (by omega)).trans (hold i hi), fun i t2 ty2 hi => ?_⟩
        cases i with
        | zero =>
          simp only [List.getElem?_cons_zero, Option.some.injEq, ResultVar.cell.injEq] at hi
          obtain ⟨rfl, rfl⟩ := hi
          rw [Nat.add_zero, k4 _ (by omega), tmp_set, if_pos ⟨rfl, by omega⟩]
          exact m1
        | succ i =>
          have hi' : crs[i]? = some (ResultVar.cell t2 ty2) := by simpa using hi
          have := k5 i t2 ty2 hi'
          obtain ⟨r, hr1, hr2⟩ : ∃ r, rs[i]? = some r ∧ cRes P (.cell t2 ty2) = some r := by
            have hl := getElem?_lt hi'
            have hl' : i < rs.length := by rw [(all2_get hcs).1]; exact hl
            exact ⟨rs[i], List.getElem?_eq_getElem hl', (all2_get hcs).2 i _ _ (List.getElem?_eq_getElem hl') hi'⟩
          have hro := List.all_eq_true.1 hok r (List.mem_of_getElem? hr1)
          have ht2 : t2 < nt := by
            simp only [cRes, Option.map_eq_some_iff] at hr2
            obtain ⟨n2, _, rfl⟩ := hr2
            simp only [RVar.ok, Bool.and_eq_true, decide_eq_true_eq] at hro
            exact hro.1
          rw [hold t2 (Nat.lt_of_lt_of_le ht2 (Nat.le_add_right _ _))] at this
          rw [show nt + (j + (i + 1)) = nt + (j + 1 + i) by omega]
          exact this
  | [], _ :: _, _, _, _, _, _, hc, _, _, _, _ => hc.elim
  | _ :: _, [], _, _, _, _, _, hc, _, _, _, _ => hc.elim

theorem list_mapM_run {α : Type} (f : α → Sem Value) : ∀ (l : List α) (vs : List Value), All2 (fun a v => (f a).run P w = .ok v w) l vs → (l.mapM f).run P w = .ok vs w
  | [], [], _ => by simp
  | x :: l, v :: vs, h => by simp [List.mapM_cons, h.1, list_mapM_run f l vs h.2]
  | [], _ :: _, h => h.elim
  | _ :: _, [], h => h.elim

theorem results_ok {fn : Func} {vs : List Value} (hl : vs.length = fn.results.size)
    (h1 : ∀ (i : Nat) (t : Nat), fn.results[i]? = some (ResultVar.tmp t) → vs[i]? = some (tmps.getD t undef))
    (h2 : ∀ (i : Nat) t ty, fn.results[i]? = some (ResultVar.cell t ty) → ∃ v, vs[i]? = some v ∧ (do loadVar ty (← asAddr (tmps.getD t undef)) : Sem Value).run P w = .ok v w) :
    (results fn tmps).run P w = .ok (retV vs) w := by
  unfold results
  rw [Array.mapM_eq_mapM_toList]
  simp only [map_eq_pure_bind, bind_assoc, pure_bind, Sem.run_bind]
  rw [list_mapM_run _ fn.results.toList vs (all2_of (by simpa using hl.symm) fun i c v hc hv => ?_)]
  · unfold retV
    simp
  · have hc' : fn.results[i]? = some c := by simpa using hc
    cases c with
    | tmp t => rw [h1 i t hc'] at hv; cases hv; simp
    | cell t ty =>
      obtain ⟨v', e, hr⟩ := h2 i t ty hc'
      rw [e] at hv; cases hv
      exact hr

/-- What a function hands back. -/
theorem end_ok {pf : PFn} {fn : Func} {xs rs : List PX} {os : List (List CV)} {vals : List Value} {w0 : World} {O0 : Owns} (he : evalEnd pf xs env = some (rs, os)) (inv : Inv env tmps w O) (hevo : Evo w0 O0 w O)
    (hlen : vals.length = xs.length) (hxn : xs.length ≤ tmps.size) (hlow : ∀ (i : Nat) v, i < pf.low → vals[i]? = some v → tmps.getD i undef = v) (hres : fn.results.toList.mapM (cRes P) = some pf.results) :
    ∃ O' rvs, (results fn tmps).run P w = .ok (retV rvs) w ∧ Left w0 O0 xs vals rs os w O' rvs := by
  unfold evalEnd at he
  split at he
  · cases he
  rename_i as has
  split at he
  case isFalse => cases he
  rename_i hcond
  obtain ⟨hel, hok⟩ := hcond
  split at he
  · cases he
  rename_i e1 he1
  split at he
  · cases he
  rename_i e2 he2
  split at he
  case h_2 => cases he
  rename_i ys hys
  split at he
  case h_2 => cases he
  rename_i os' hos
  simp only [Option.some.injEq, Prod.mk.injEq] at he
  obtain ⟨rfl, rfl⟩ := he
  obtain ⟨c1, c2⟩ := mapM_some hres
  have hall : All2 (fun r c => cRes P c = some r) pf.results fn.results.toList := by
    refine all2_of c1 fun i r c hr hc => ?_
    obtain ⟨c', h1, h2⟩ := c2 i r hr
    rw [hc] at h1; cases h1; exact h2
  obtain ⟨tmps1, O1, inv1, evo1, hsz1, hold1, hcell⟩ := loads_run pf.results fn.results.toList 0 _ e1 _ O hall (inv.grow _) (by have := inv.len; simp; omega) he1 (by
    rw [List.all_eq_true] at hok ⊢
    intro r hr
    have := hok r hr
    cases r with
    | tmp t => exact this
    | cell t n => simpa only [RVar.ok, at_grow] using this)
  obtain ⟨a1, a2⟩ := finArgs_get xs 0 has
  obtain ⟨r1, r2⟩ := finRes_get (nt := pf.ntmps) pf.results 0
  have hcon : ∀ o ∈ as ++ finRes pf.ntmps 0 pf.results, ∀ v, o.2 = .con v → v = .nilp := by
    intro o ho v hv
    rcases List.mem_append.1 ho with ho | ho
    · obtain ⟨i, hi, rfl⟩ := List.getElem_of_mem ho
      have hix : i < xs.length := by omega
      rcases a2 i xs[i] (List.getElem?_eq_getElem hix) with ⟨cs, _, h, _⟩ | ⟨_, h⟩
      · rw [List.getElem?_eq_getElem hi] at h; simp only [Option.some.injEq] at h; rw [h] at hv; cases hv
      · rw [List.getElem?_eq_getElem hi] at h; simp only [Option.some.injEq] at h; rw [h] at hv; cases hv; rfl
    · obtain ⟨i, hi, rfl⟩ := List.getElem_of_mem ho
      have hix : i < pf.results.length := by omega
      have h := r2 i pf.results[i] (List.getElem?_eq_getElem hix)
      rw [List.getElem?_eq_getElem hi] at h
      simp only [Option.some.injEq] at h
      rw [h] at hv
      simp only at hv
      split at hv <;> cases hv
  have hreps : OpdReps tmps1 ((as ++ finRes pf.ntmps 0 pf.results).map (·.2)) ((as ++ finRes pf.ntmps 0 pf.results).map (vEnd tmps1)) := by
    refine ⟨by simp, fun i o v ho hv => ?_⟩
    rw [List.getElem?_map, Option.map_eq_some_iff] at ho hv
    obtain ⟨p, hp, rfl⟩ := ho
    obtain ⟨p', hp', rfl⟩ := hv
    rw [hp] at hp'; cases hp'
    obtain ⟨bb, op⟩ := p
    cases op with
    | tmp t => rfl
    | con v =>
      have := hcon _ (List.mem_of_getElem? hp) v rfl
      subst this
      exact fun H => .nilp
  obtain ⟨gs, its, env1, O2, g1, hvs, harg, hap, _, hk⟩ := args_run _ _ _ e1 O1 inv1 hreps he2
  split at hk
  case isFalse => simp [Pr.run] at hk
  rename_i hclear
  obtain ⟨xa, hfin, hlay⟩ := fins_run gs _ hk
  have hgl : its.length = as.length + pf.results.length := by
    have := congrArg List.length hvs
    simpa [r1] using this
  have hxl : xa.length = as.length + pf.results.length := by rw [← (all2_get hfin).1, (all2_get harg).1, hgl]
  have hyx : ys = xa := by
    refine lay_back hlay ?_ hys
    have h1 := g1.inv.len
    have h2 := inv.len
    rw [h1, hsz1, hxl]
    simp; omega
  subst hyx
  have hh : Hand env1 tmps1 w O2 gs its ys := ⟨g1.inv, harg, hfin.imp (fun _ _ h => h.x), hap, hclear, view_used harg hfin hclear⟩
  have hval : ∀ (i : Nat), (its.map (·.v))[i]? = ((as ++ finRes pf.ntmps 0 pf.results)[i]?).map (vEnd tmps1) := by
    intro i; rw [hvs, List.getElem?_map]
  refine ⟨hh.Oc, (its.drop xs.length).map (·.v), ?_, ?_, ?_, ?_, ?_, ?_, ?_⟩
  · have hrv : ∀ (i : Nat) r, pf.results[i]? = some r → ((its.drop xs.length).map (·.v))[i]? = some (vEnd tmps1 (true, match r with | .tmp t => .tmp t | .cell _ _ => .tmp (pf.ntmps + (0 + i)))) := by
      intro i r hr
      rw [List.map_drop, List.getElem?_drop, hval, List.getElem?_append_right (by omega), show xs.length + i - as.length = i by omega, r2 i r hr]
      rfl
    have hcr : ∀ (i : Nat) c, fn.results[i]? = some c → ∃ r, pf.results[i]? = some r ∧ cRes P c = some r := by
      intro i c hc
      have hc' : fn.results.toList[i]? = some c := by simpa using hc
      have hl := getElem?_lt hc'
      have hl' : i < pf.results.length := by rw [c1]; exact hl
      exact ⟨pf.results[i], List.getElem?_eq_getElem hl', (all2_get hall).2 i _ _ (List.getElem?_eq_getElem hl') hc'⟩
    refine results_ok ?_ ?_ ?_
    · rw [List.length_map, List.length_drop, hgl, c1]; simp; omega
    · intro i t hi
      obtain ⟨r, hr, hc⟩ := hcr i _ hi
      simp only [cRes, Option.some.injEq] at hc
      subst hc
      rw [hrv i _ hr]
      have := List.all_eq_true.1 hok _ (List.mem_of_getElem? hr)
      simp only [RVar.ok, decide_eq_true_eq] at this
      show some (tmps1.getD t undef) = _
      rw [hold1 t (by omega), tmp_grow]
    · intro i t ty hi
      obtain ⟨r, hr, hc⟩ := hcr i _ hi
      have hcc := hcell i t ty (by simpa using hi)
      rw [tmp_grow] at hcc
      simp only [cRes, Option.map_eq_some_iff] at hc
      obtain ⟨n, _, rfl⟩ := hc
      exact ⟨_, hrv i _ hr, hcc⟩
  · refine ((hevo.trans evo1).trans g1.evo).trans (Evo.ghost (fun b o h => enterO_none h) fun b o u hu ho => ?_)
    rcases hh.hidden ho hh.T_ext with h | h
    · rcases enterO_back h with hv | hn
      · rcases hh.vw b o hv with hn | ⟨q, t, hq, hu', _⟩
        · rw [hn] at ho; cases ho
        · rw [hq] at ho; cases ho; exact (Uses.ext hu').elim
      · rw [hn] at ho; cases ho
    · exact h
  · exact fun b o q hq => hh.bnd hq
  · simp only [List.length_map, List.length_drop, hgl, hxl]
  · have := (mapM_some hos).1
    rw [this, List.length_zip, hxl]; omega
  · intro j x v hx hv
    rw [List.getElem?_drop] at hx
    rw [List.map_drop, List.getElem?_drop] at hv
    exact hh.enter hx hv
  · intro i cs o v hx ho hv
    obtain ⟨p, hp, hpo⟩ := (mapM_some hos).2 i o ho
    rw [List.getElem?_zip_eq_some] at hp
    obtain ⟨p1, p2⟩ := hp
    obtain ⟨x1, x2⟩ := p
    simp only at p1 p2
    rw [hx] at p1
    simp only [Option.some.injEq] at p1
    subst p1
    cases x2 with
    | b o' =>
      simp only [outOf, Option.some.injEq] at hpo
      subst hpo
      refine hh.enter p2 ?_
      rcases a2 i _ hx with ⟨_, _, h, hlt⟩ | ⟨h, _⟩
      · rw [hval, List.getElem?_append_left (getElem?_lt h), h]
        simp only [Option.map_some, vEnd, Nat.zero_add, Option.some.injEq]
        simp only [Nat.zero_add] at hlt
        have hil := getElem?_lt hx
        rw [hold1 i (by have := inv.len; omega), tmp_grow]
        exact hlow i v hlt hv
      · cases h
    | c c => cases hpo
    | s cs => cases hpo

/-- A compiled function does what the pure machine says. -/
theorem fn_ok {F : Fns} (hF : TableOK P F) (hm : P.follows .mixedOrders = true) {tks : List (Nat × List Bool)} {h : List (List Nat)} {f : FuncId} {fn : Func} {pf : PFn} (hfn : P.funcs[f]? = some fn) (hc : cFn P tks h fn = some pf) {L : Run → List Nat → Run} (hL : LoopOK L)
    {xs rs : List PX} {os : List (List CV)} (he : evalFn F L pf xs = some (rs, os)) : IsFn P f ∧ CallOK P f xs rs os := by
  unfold cFn at hc
  simp only [Option.bind_eq_bind, Option.bind_eq_some_iff] at hc
  obtain ⟨body, hbody, hc⟩ := hc
  split at hc
  case isFalse => cases hc
  rename_i hname
  simp only [Option.bind_eq_some_iff] at hc
  obtain ⟨⟨pc, h'⟩, hcode, hc⟩ := hc
  cases h' with
  | cons x l => simp at hc
  | nil =>
  simp only [if_true, Option.bind_eq_some_iff, Option.some.injEq] at hc
  obtain ⟨rvs, hres, rfl⟩ := hc
  have hname' : (fn.name == "runtime.NumGoroutine") = false := by
    simp only [bne_iff_ne, ne_eq] at hname
    simpa using hname
  refine ⟨⟨fn, body, hfn, hname', hbody⟩, fun vals w O hlen hrep hbnd => ?_⟩
  refine calls_of_wp hfn hbody ?_
  obtain ⟨low, hlow⟩ : ∃ low, low = (if lowCode fn.params.size body = true then fn.params.size else 0) := ⟨_, rfl⟩
  have hlc : lowCode low body = true := by
    rw [hlow]
    split
    · assumption
    · exact lowCode_zero _
  simp only [← hlow] at he
  unfold evalFn at he
  have hinv : Inv (entry fn.ntmps xs) (vals.toArray ++ Array.replicate (fn.ntmps - vals.toArray.size) undef) w O := by
    have hsl : ∀ t, (Env.at (entry fn.ntmps xs) t).2 = (match xs[t]? with | some x => x.slot.2 | none => .dead) := by
      intro t
      unfold entry Env.at
      simp only [List.getD_eq_getElem?_getD, List.getElem?_append, List.length_map, List.getElem?_map]
      split
      · rename_i ht
        rw [List.getElem?_eq_getElem ht]; rfl
      · rename_i ht
        rw [List.getElem?_eq_none (l := xs) (by omega), List.getElem?_replicate]
        split <;> rfl
    refine ⟨?_, hbnd, fun t => ?_, fun t => ?_⟩
    · simp [entry, hlen]
    · rw [hsl]
      cases hx : xs[t]? with
      | none => trivial
      | some x =>
        have ht := getElem?_lt hx
        have hv : vals[t]? = some (vals[t]'(by omega)) := List.getElem?_eq_getElem _
        have := hrep t x _ hx hv
        rw [tmp_grow]
        simpa [Array.getD_eq_getD_getElem?, hv] using this
    · rw [hsl]
      cases hx : xs[t]? with
      | none => trivial
      | some x => cases x <;> trivial
  have fin : ∀ e1, evalEnd { ntmps := fn.ntmps, low := low, results := rvs, body := pc } xs e1 = some (rs, os) → Goes low (fun a' w' => a'.defers = [] ∧ ∃ v, (results fn a'.tmps).run P w' = .ok v w' ∧
      (∃ O' rvs, Ending.returned v = .returned (retV rvs) ∧ Left w O xs vals rs os w' O' rvs)) { tmps := vals.toArray ++ Array.replicate (fn.ntmps - vals.toArray.size) undef, defers := [] } w e1 O := by
    intro e1 he1 a' w' O' k1 k2 k3 k4 k5
    refine ⟨k2, ?_⟩
    have hlw : ∀ (i : Nat) v, i < low → vals[i]? = some v → a'.tmps.getD i undef = v := by
      intro i v hi hv
      rw [k3 i hi, tmp_grow]
      simp [Array.getD_eq_getD_getElem?, hv]
    obtain ⟨O2, rv, m1, m2⟩ := end_ok he1 k4 k5 hlen (by rw [k1]; simp [hlen]) hlw hres
    exact ⟨_, m1, O2, rv, rfl, m2⟩
  split at he
  · cases he
  · rename_i ex e1 hne hev
    refine code_wp (n := low) hF hm hL body h [] pc _ w _ e1 O ex _ hlc hcode hinv hev ?_
    cases ex with
    | normal => exact fin e1 he
    | ret => exact fin e1 he
    | exit id => exact absurd rfl (hne id)
  · cases he

/-- Closed runs: the table of all functions, so many calls deep. -/
theorem evalN_ok (hm : P.follows .mixedOrders = true) {T : FuncId → Option PFn} (hT : ∀ f pf, T f = some pf → ∃ fn tks h, P.funcs[f]? = some fn ∧ cFn P tks h fn = some pf) : ∀ n, TableOK P (evalN T n)
  | 0 => fun f xs rs os h => by simp [evalN] at h
  | n + 1 => fun f xs rs os h => by
    simp only [evalN] at h
    split at h
    · rename_i pf hpf
      obtain ⟨fn, tks, hh, h1, h2⟩ := hT f pf hpf
      exact fn_ok (evalN_ok hm hT n) hm h1 h2 (L := fun b live => loopN b live n) (fun b live e r hr => ⟨n, hr⟩) h
    · cases h
end
end Go.Proofs.Ytcngkdickmahhaa
