/- A deck's packet. -/
import Derived.Test.YtcngkdickmahhaaP4
namespace Go.Proofs.Ytcngkdickmahhaa
set_option maxRecDepth 100000
set_option linter.unusedVariables false
set_option linter.unusedSimpArgs false

theorem callN {F : Fns} {p : PV} {l : List Int} {k : Nat} {m : Int} {K : Ans → Prop} (h : H25 F) (hp : IsI p l) (hl : l.length ≤ 9223372036854775807) (hk : k ≤ l.length) (h1 : 0 < m) (h2 : m ≤ 4294967296) (c : ∀ (v : Int) (k' : Nat), k' ≤ l.length → 0 ≤ v → v < m → K ([pI v], [[.pv p, .pv (.int .i64 k')], []])) : ∃ r, F 25 [deck p k, pI m] = some r ∧ K r := by
  obtain ⟨v, k', e, g1, g2, g3⟩ := h p l k m hp hl hk h1 h2
  exact ⟨_, e, c v k' g1 g2 g3⟩
def allK (k : IntKind) (cs : List PV) : Bool := cs.all fun | .int k' _ => k' == k | _ => false
theorem loadK (k : IntKind) {cs : List PV} {i : Nat} {K : PV → Prop} (ha : allK k cs = true) (h : i < cs.length) (c : ∀ n, K (.int k n)) : ∃ v, cs[i]? = some v ∧ K v := by
  refine ⟨cs[i], List.getElem?_eq_getElem h, ?_⟩
  have := List.all_eq_true.mp ha cs[i] (List.getElem_mem h)
  split at this
  · rename_i k' n e
    rw [e, beq_iff_eq.mp this]; exact c n
  · cases this
theorem loadP (k : IntKind) (P : Int → Prop) {cs : List PV} {i : Nat} {K : PV → Prop} (ns : List Int) (hc : cs = ns.map (PV.int k)) (hP : ∀ n ∈ ns, P n) (h : i < ns.length) (c : ∀ n, P n → K (.int k n)) : ∃ v, cs[i]? = some v ∧ K v := by
  subst hc
  exact ⟨_, by rw [List.getElem?_map, List.getElem?_eq_getElem h]; rfl, c _ (hP _ (List.getElem_mem h))⟩
/-- A packet, as a function gives it. -/
inductive IsPk : PX → Prop
  | nil (ch : Int) (first : Bool) (cmd len seq : Int) (hc : 0 ≤ ch ∧ ch ≤ 4294967295) : IsPk (pP (pkt ch first cmd len seq .nils))
  | own (ch : Int) (first : Bool) (cmd len seq : Int) (l sp : List Int) (hl : Bytes l) (hc : 0 ≤ ch ∧ ch ≤ 4294967295) : IsPk (.s [.pv (.int .u32 ch), .pv (.bool first), .pv (.int .i64 cmd), .pv (.int .i64 len), .pv (.int .i64 seq), .own true 1 (B l) (B sp)])
structure IsP30 (p : PV) (n : Nat) (rs : List PX) (os : List (List CV)) : Prop where
  ex : ∃ (x : PX) (k' : Nat), rs = [x] ∧ IsPk x ∧ os = [[.pv p, .pv (.int .i64 k')]] ∧ k' ≤ n
set_option maxHeartbeats 4000000 in
theorem packet_ok (F : Fns) (h24 : H24 F) (h25 : H25 F) (p : PV) (l : List Int) (k : Nat) (hp : IsI p l) (hl : l.length ≤ 9223372036854775807) (hk : k ≤ l.length) : ∃ (x : PX) (k' : Nat), evalFn F Llim pf30 [deck p k] = some ([x], [[.pv p, .pv (.int .i64 k')]]) ∧ IsPk x ∧ k' ≤ l.length := by
  have : ∃ rs os, evalFn F Llim pf30 [deck p k] = some (rs, os) ∧ IsP30 p l.length rs os := by
    refine fnE _ rfl ?_
    repeat' ((conv => whnf); first
      | (refine Both.true ?_ ?_; (first | rfl | assumption | (focus (simp; done)) | (focus (simp [IntKind.wrap, IntKind.signed, IntKind.bits]; done)) | (focus (refine decide_eq_true ?_; omega)) | (focus (refine decide_eq_true ?_; (focus (simp [reps, PV.cells, B_length] <;> omega))))))
      | (refine Both.false ?_ ?_; (first | rfl | assumption | (focus (simp; done)) | (focus (simp [IntKind.wrap, IntKind.signed, IntKind.bits]; done)) | (focus (refine decide_eq_false ?_; omega)) | (focus (refine decide_eq_false ?_; (focus (simp [reps, PV.cells, B_length] <;> omega))))))
      | (refine callN h25 hp hl (by assumption) (by decide) (by decide) (fun v k' hk' hv1 hv2 => ?_))
      | (refine callBC (h24 _ _) (fun l x hx hl => ?_); rcases hx with _ | ⟨l, sp, hbl⟩)
      | (refine loadK .i64 rfl (by simp; omega) (fun n => ?_))
      | (refine loadP .u32 (fun n => 0 ≤ n ∧ n ≤ 4294967295) [1, 2, 1, 3, 0, 4294967295, 33, 1] rfl (by decide) (by simp; omega) (fun n hn => ?_))
      | (refine And.intro ?_ ?_; (first | rfl | assumption | (focus decide) | omega | (focus (simp; done)) | (focus (simp [IntKind.wrap, IntKind.signed, IntKind.bits]; done)) | (focus (simp [reps, PV.cells, B_length] <;> omega))))
      | refine Exists.intro _ (And.intro rfl ?_)
      | refine Both.mk (fun _ => ?_) (fun _ => ?_))
    all_goals (conv => whnf)
    · exact ⟨_, _, rfl, .nil _ _ _ _ _ hn, rfl, ‹_›⟩
    · exact ⟨_, _, rfl, .own _ _ _ _ _ _ _ ‹_› hn, rfl, ‹_›⟩
    · exact ⟨_, _, rfl, .nil _ _ _ _ _ hn, rfl, ‹_›⟩
    · exact ⟨_, _, rfl, .own _ _ _ _ _ _ _ ‹_› hn, rfl, ‹_›⟩
  obtain ⟨rs, os, h, ⟨x, k', rfl, g1, rfl, g2⟩⟩ := this
  exact ⟨x, k', h, g1, g2⟩

theorem textOf_B : ∀ l : List Int, textOf (B l) = some (l.map fun n => UInt8.ofNat n.toNat)
  | [] => rfl
  | n :: l => by
    show (textOf (B l)).map _ = _
    rw [textOf_B l]; rfl
theorem text_B (l : List Int) : ∃ s, textPV (.sl 1 (B l)) = some (.str s) := by
  unfold textPV
  simp only [textOf_B]
  exact ⟨_, rfl⟩
def H29 (F : Fns) : Prop := ∀ ch first cmd len seq data l, IsB data l → F 29 [pP (pkt ch first cmd len seq data)] = some ([pB true], [[]])
theorem encodes_ok (F : Fns) (h31 : H31 F) (h46 : H46 F) (ch : Int) (first : Bool) (cmd len seq : Int) (data : PV) (l : List Int) (hd : IsB data l) : evalFn F Llim pf29 [pP (pkt ch first cmd len seq data)] = some ([pB true], [[]]) := by
  have e31 := h31 ch first cmd len seq data l hd
  have e46 := h46 ch first cmd len seq data l hd
  unfold encA at e31 e46
  split at e31
  · rename_i h0
    rw [if_pos h0] at e46
    obtain ⟨s, hs⟩ := text_B (encL ch first cmd len seq l)
    refine fnK rfl ?_
    repeat' ((conv => whnf); first
      | (refine Both.true ?_ ?_; (first | rfl | assumption | (focus (simp; done)) | (focus (simp [IntKind.wrap, IntKind.signed, IntKind.bits]; done)) | (focus (refine decide_eq_true ?_; omega)) | (focus (refine decide_eq_true ?_; (focus (simp [reps, PV.cells, B_length] <;> omega))))))
      | (refine Both.false ?_ ?_; (first | rfl | assumption | (focus (simp; done)) | (focus (simp [IntKind.wrap, IntKind.signed, IntKind.bits]; done)) | (focus (refine decide_eq_false ?_; omega)) | (focus (refine decide_eq_false ?_; (focus (simp [reps, PV.cells, B_length] <;> omega))))))
      | refine Exists.intro _ (And.intro (e31) ?_)
      | refine Exists.intro _ (And.intro (e46) ?_)
      | refine Exists.intro _ (And.intro (hs) ?_)
      | (refine Both.true ?_ ?_; (focus (exact beq_self_eq_true _)))
      | (refine And.intro ?_ ?_; (first | rfl | assumption | (focus decide) | omega | (focus (simp; done)) | (focus (simp [IntKind.wrap, IntKind.signed, IntKind.bits]; done)) | (focus (simp [reps, PV.cells, B_length] <;> omega))))
      | refine Exists.intro _ (And.intro rfl ?_)
      | refine Both.mk (fun _ => ?_) (fun _ => ?_))
    exact ⟨rfl, rfl⟩
  · rename_i h0
    rw [if_neg h0] at e46
    refine fnK rfl ?_
    repeat' ((conv => whnf); first
      | (refine Both.true ?_ ?_; (first | rfl | assumption | (focus (simp; done)) | (focus (simp [IntKind.wrap, IntKind.signed, IntKind.bits]; done)) | (focus (refine decide_eq_true ?_; omega)) | (focus (refine decide_eq_true ?_; (focus (simp [reps, PV.cells, B_length] <;> omega))))))
      | (refine Both.false ?_ ?_; (first | rfl | assumption | (focus (simp; done)) | (focus (simp [IntKind.wrap, IntKind.signed, IntKind.bits]; done)) | (focus (refine decide_eq_false ?_; omega)) | (focus (refine decide_eq_false ?_; (focus (simp [reps, PV.cells, B_length] <;> omega))))))
      | refine Exists.intro _ (And.intro (e31) ?_)
      | refine Exists.intro _ (And.intro (e46) ?_)
      | (refine And.intro ?_ ?_; (first | rfl | assumption | (focus decide) | omega | (focus (simp; done)) | (focus (simp [IntKind.wrap, IntKind.signed, IntKind.bits]; done)) | (focus (simp [reps, PV.cells, B_length] <;> omega))))
      | refine Exists.intro _ (And.intro rfl ?_)
      | refine Both.mk (fun _ => ?_) (fun _ => ?_))
    refine ⟨?_, rfl⟩
    rw [beq_self_eq_true]
end Go.Proofs.Ytcngkdickmahhaa
