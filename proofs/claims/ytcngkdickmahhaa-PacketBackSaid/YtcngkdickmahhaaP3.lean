/- What need not be known: the numbers that a deck deals. -/
import Derived.Test.YtcngkdickmahhaaP2
import Derived.Test.YtcngkdickmahhaaA1
namespace Go.Proofs.Ytcngkdickmahhaa
set_option maxRecDepth 100000
set_option linter.unusedVariables false
set_option linter.unusedSimpArgs false

abbrev pU (n : Int) : PX := .c (.pv (.int .u64 n))
theorem pshl (k k' : IntKind) (a b : Int) (h : 0 ≤ b) : pbin .shl (.int k a) (.int k' b) = some (.int k (k.wrap (a * 2 ^ (min b.toNat k.bits)))) := by
  simp only [pbin, BinOp.isShift, if_true, pshift]
  rw [if_neg (by omega)]
theorem pshr (k k' : IntKind) (a b : Int) (h : 0 ≤ b) : pbin .shr (.int k a) (.int k' b) = some (.int k (a.fdiv (2 ^ (min b.toNat k.bits)))) := by
  simp only [pbin, BinOp.isShift, if_true, pshift]
  rw [if_neg (by omega)]
structure Is62 (rs : List PX) (os : List (List CV)) : Prop where
  ex : ∃ r, rs = [pU r] ∧ os = [[], []]
def H62 (F : Fns) : Prop := ∀ a b, 0 ≤ b → b ≤ 64 → ∃ r, F 62 [pU a, pU b] = some ([pU r], [[], []])
theorem rotl_ok (F : Fns) (a b : Int) (h1 : 0 ≤ b) (h2 : b ≤ 64) : ∃ r, evalFn F Llim pf62 [pU a, pU b] = some ([pU r], [[], []]) := by
  have : ∃ rs os, evalFn F Llim pf62 [pU a, pU b] = some (rs, os) ∧ Is62 rs os := by
    refine fnE _ rfl ?_
    repeat' ((conv => whnf); first
      | (refine Both.true ?_ ?_; (first | rfl | assumption | (focus (simp; done)) | (focus (simp [IntKind.wrap, IntKind.signed, IntKind.bits]; done)) | (focus (refine decide_eq_true ?_; omega)) | (focus (refine decide_eq_true ?_; (focus (simp [reps, PV.cells, B_length] <;> omega))))))
      | (refine Both.false ?_ ?_; (first | rfl | assumption | (focus (simp; done)) | (focus (simp [IntKind.wrap, IntKind.signed, IntKind.bits]; done)) | (focus (refine decide_eq_false ?_; omega)) | (focus (refine decide_eq_false ?_; (focus (simp [reps, PV.cells, B_length] <;> omega))))))
      | refine Exists.intro _ (And.intro (pshl _ _ _ _ h1) ?_)
      | refine Exists.intro _ (And.intro (pshr _ _ _ _ (by rw [wrapU64]; omega)) ?_)
      | (refine And.intro ?_ ?_; (first | rfl | assumption | (focus decide) | omega | (focus (simp; done)) | (focus (simp [IntKind.wrap, IntKind.signed, IntKind.bits]; done)) | (focus (simp [reps, PV.cells, B_length] <;> omega))))
      | refine Exists.intro _ (And.intro rfl ?_)
      | refine Both.mk (fun _ => ?_) (fun _ => ?_))
    exact ⟨_, rfl, rfl⟩
  obtain ⟨rs, os, h, ⟨r, rfl, rfl⟩⟩ := this
  exact ⟨r, h⟩
abbrev st4 (a b c d : Int) : PX := .c (.pv (.agg [.int .u64 a, .int .u64 b, .int .u64 c, .int .u64 d]))
def H61 (F : Fns) : Prop := ∀ a b c d, ∃ a' b' c' d', F 61 [st4 a b c d] = some ([st4 a' b' c' d'], [[]])
structure Is61 (rs : List PX) (os : List (List CV)) : Prop where
  ex : ∃ a b c d, rs = [st4 a b c d] ∧ os = [[]]
theorem round_ok (F : Fns) (h62 : H62 F) (a b c d : Int) : ∃ a' b' c' d', evalFn F Llim pf61 [st4 a b c d] = some ([st4 a' b' c' d'], [[]]) := by
  have : ∃ rs os, evalFn F Llim pf61 [st4 a b c d] = some (rs, os) ∧ Is61 rs os := by
    refine fnE _ rfl ?_
    repeat' ((conv => whnf); first
      | (refine Both.true ?_ ?_; (first | rfl | assumption | (focus (simp; done)) | (focus (simp [IntKind.wrap, IntKind.signed, IntKind.bits]; done)) | (focus (refine decide_eq_true ?_; omega)) | (focus (refine decide_eq_true ?_; (focus (simp [reps, PV.cells, B_length] <;> omega))))))
      | (refine Both.false ?_ ?_; (first | rfl | assumption | (focus (simp; done)) | (focus (simp [IntKind.wrap, IntKind.signed, IntKind.bits]; done)) | (focus (refine decide_eq_false ?_; omega)) | (focus (refine decide_eq_false ?_; (focus (simp [reps, PV.cells, B_length] <;> omega))))))
      | refine Exists.intro _ (And.intro ((h62 _ _ (by decide) (by decide)).choose_spec) ?_)
      | (refine And.intro ?_ ?_; (first | rfl | assumption | (focus decide) | omega | (focus (simp; done)) | (focus (simp [IntKind.wrap, IntKind.signed, IntKind.bits]; done)) | (focus (simp [reps, PV.cells, B_length] <;> omega))))
      | refine Exists.intro _ (And.intro rfl ?_)
      | refine Both.mk (fun _ => ?_) (fun _ => ?_))
    exact ⟨_, _, _, _, rfl, rfl⟩
  obtain ⟨rs, os, h, ⟨a', b', c', d', rfl, rfl⟩⟩ := this
  exact ⟨a', b', c', d', h⟩
theorem H61.get {F : Fns} (h : H61 F) (a b c d : Int) : ∃ f : Int × Int × Int × Int, F 61 [st4 a b c d] = some ([st4 f.1 f.2.1 f.2.2.1 f.2.2.2], [[]]) := by
  obtain ⟨a', b', c', d', e⟩ := h a b c d
  exact ⟨(a', b', c', d'), e⟩

def H60 (F : Fns) : Prop := ∀ a b (l : List Int), l.length ≤ 1000000 → ∃ r, F 60 [pU a, pU b, pP (.sl 1 (B l))] = some ([pU r], [[], [], []])
structure Is60 (rs : List PX) (os : List (List CV)) : Prop where
  ex : ∃ r, rs = [pU r] ∧ os = [[], [], []]
set_option maxHeartbeats 4000000 in
theorem sum_ok (F : Fns) (h61 : H61 F) (a b : Int) (l : List Int) (hl : l.length ≤ 1000000) : ∃ r, evalFn F Llim pf60 [pU a, pU b, pP (.sl 1 (B l))] = some ([pU r], [[], [], []]) := by
  have hB : (B l).length / 1 = l.length := by simp [B_length]
  have : ∃ rs os, evalFn F Llim pf60 [pU a, pU b, pP (.sl 1 (B l))] = some (rs, os) ∧ Is60 rs os := by
    refine fnE _ rfl ?_
    repeat' ((conv => whnf); first
      | (refine Both.true ?_ ?_; (first | rfl | assumption | (focus (simp; done)) | (focus (simp [IntKind.wrap, IntKind.signed, IntKind.bits]; done)) | (focus (refine decide_eq_true ?_; omega)) | (focus (refine decide_eq_true ?_; (focus (simp [reps, PV.cells, B_length] <;> omega))))))
      | (refine Both.false ?_ ?_; (first | rfl | assumption | (focus (simp; done)) | (focus (simp [IntKind.wrap, IntKind.signed, IntKind.bits]; done)) | (focus (refine decide_eq_false ?_; omega)) | (focus (refine decide_eq_false ?_; (focus (simp [reps, PV.cells, B_length] <;> omega))))))
      | refine Exists.intro _ (And.intro ((h61.get _ _ _ _).choose_spec) ?_)
      | (refine And.intro ?_ ?_; (first | rfl | assumption | (focus decide) | omega | (focus (simp; done)) | (focus (simp [IntKind.wrap, IntKind.signed, IntKind.bits]; done)) | (focus (simp [reps, PV.cells, B_length] <;> omega))))
      | refine Exists.intro _ (And.intro rfl ?_)
      | refine Both.mk (fun _ => ?_) (fun _ => ?_))
    refine loop_rule (fun s : Nat × Int × Int × Int × Int => [(2, 0, .cv (.pv (.sl 1 (B l)))), (7, 0, .box [(0, .pv (.int .u64 s.2.1)), (0, .pv (.int .u64 s.2.2.1)), (0, .pv (.int .u64 s.2.2.2.1)), (0, .pv (.int .u64 s.2.2.2.2))]), (8, 0, .cv (.pv (.int .i64 s.1)))]) (fun s => s.1 ≤ l.length + 8) (fun s => l.length + 16 - s.1) ?_ ?_
    · exact ⟨(0, _, _, _, _), Nat.zero_le _, rfl⟩
    · rintro ⟨i, a, b, c, d⟩ hi
      simp only at hi
      repeat' ((conv => whnf); first
        | (refine Both.true ?_ ?_; (first | rfl | assumption | (focus (simp; done)) | (focus (simp [IntKind.wrap, IntKind.signed, IntKind.bits]; done)) | (focus (refine decide_eq_true ?_; omega)) | (focus (refine decide_eq_true ?_; (focus (simp [reps, PV.cells, B_length] <;> omega))))))
        | (refine Both.false ?_ ?_; (first | rfl | assumption | (focus (simp; done)) | (focus (simp [IntKind.wrap, IntKind.signed, IntKind.bits]; done)) | (focus (refine decide_eq_false ?_; omega)) | (focus (refine decide_eq_false ?_; (focus (simp [reps, PV.cells, B_length] <;> omega))))))
        | refine Exists.intro _ (And.intro ((h61.get _ _ _ _).choose_spec) ?_)
        | (refine And.intro ?_ ?_; (first | rfl | assumption | (focus decide) | omega | (focus (simp; done)) | (focus (simp [IntKind.wrap, IntKind.signed, IntKind.bits]; done)) | (focus (simp [reps, PV.cells, B_length] <;> omega))))
        | refine Exists.intro _ (And.intro rfl ?_)
        | refine Both.mk (fun _ => ?_) (fun _ => ?_))
      · have g := of_decide_eq_true ‹decide ((i : Int) ≤ _) = true›
        rw [hB] at g
        refine loop_rule (fun s : Nat × Int => [(2, 0, .cv (.pv (.sl 1 (B l)))), (7, 0, .box [(0, .pv (.int .u64 a)), (0, .pv (.int .u64 b)), (0, .pv (.int .u64 c)), (0, .pv (.int .u64 d))]), (8, 0, .cv (.pv (.int .i64 i))), (9, 0, .cv (.pv (.int .u64 s.2))), (10, 0, .cv (.pv (.int .i64 ((s.1 : Int) - 1))))]) (fun s => s.1 ≤ 8) (fun s => s.1) ?_ ?_
        · exact ⟨(8, _), by decide, rfl⟩
        · rintro ⟨k, w⟩ hk
          simp only at hk
          dsimp only
          have hw : IntKind.i64.wrap ((i : Int) + ((k : Int) - 1)) = (i : Int) + ((k : Int) - 1) := wrap64_id (by omega) (by omega)
          have hk1 : 1 ≤ k → IntKind.i64.wrap ((k : Int) - 1 - 1) = ((k - 1 : Nat) : Int) - 1 := fun h => by rw [wrap64_id (by omega) (by omega)]; omega
          have hi8 : IntKind.i64.wrap ((i : Int) + 8) = ((i + 8 : Nat) : Int) := by rw [wrap64_id (by omega) (by omega)]; omega
          repeat' ((conv => whnf); first
            | (refine Both.true ?_ ?_; (first | rfl | assumption | (focus (simp; done)) | (focus (simp [IntKind.wrap, IntKind.signed, IntKind.bits]; done)) | (focus (refine decide_eq_true ?_; omega)) | (focus (refine decide_eq_true ?_; (focus (simp [reps, PV.cells, B_length] <;> omega))))))
            | (refine Both.false ?_ ?_; (first | rfl | assumption | (focus (simp; done)) | (focus (simp [IntKind.wrap, IntKind.signed, IntKind.bits]; done)) | (focus (refine decide_eq_false ?_; omega)) | (focus (refine decide_eq_false ?_; (focus (simp [reps, PV.cells, B_length] <;> omega))))))
            | refine Exists.intro _ (And.intro ((h61.get _ _ _ _).choose_spec) ?_)
            | refine And.intro (by have g1 := of_decide_eq_true ‹decide (IntKind.i64.wrap _ < _) = true›; have g2 := of_decide_eq_true ‹decide ((k : Int) - 1 ≥ 0) = true›; rw [hw, hB] at g1; rw [hw, hB]; omega) ?_
            | refine Exists.intro _ (And.intro (B_get (by have g1 := of_decide_eq_true ‹decide (IntKind.i64.wrap _ < _) = true›; have g2 := of_decide_eq_true ‹decide ((k : Int) - 1 ≥ 0) = true›; rw [hw, hB] at g1; rw [hw]; omega)) ?_)
            | (refine And.intro ?_ ?_; (first | rfl | assumption | (focus decide) | omega | (focus (simp; done)) | (focus (simp [IntKind.wrap, IntKind.signed, IntKind.bits]; done)) | (focus (simp [reps, PV.cells, B_length] <;> omega))))
            | refine Exists.intro _ (And.intro rfl ?_)
            | refine Both.mk (fun _ => ?_) (fun _ => ?_))
          · have g2 := of_decide_eq_true ‹decide ((k : Int) - 1 ≥ 0) = true›
            refine ⟨(k - 1, _), ?_, ?_, (by rw [hk1 (by omega)])⟩ <;> (simp only; omega)
          · have g2 := of_decide_eq_true ‹decide ((k : Int) - 1 ≥ 0) = true›
            refine ⟨(k - 1, _), ?_, ?_, (by rw [hk1 (by omega)])⟩ <;> (simp only; omega)
          · have g2 := of_decide_eq_true ‹decide ((k : Int) - 1 ≥ 0) = true›
            refine ⟨(k - 1, _), ?_, ?_, (by rw [hk1 (by omega)])⟩ <;> (simp only; omega)
          · refine ⟨(i + 8, _, _, _, _), ?_, ?_, (by rw [hi8])⟩ <;> (simp only; omega)
      · exact ⟨_, rfl, rfl⟩
  obtain ⟨rs, os, h, ⟨r, rfl, rfl⟩⟩ := this
  exact ⟨r, h⟩

def H58 (F : Fns) : Prop := ∀ a b (l : List Int), l.length ≤ 1000000 → ∃ r, F 58 [pU a, pI b, pP (.sl 1 (B l))] = some ([pU r], [[], [], []])
theorem mac_ok (F : Fns) (h60 : H60 F) (a b : Int) (l : List Int) (hl : l.length ≤ 1000000) : ∃ r, evalFn F Llim pf58 [pU a, pI b, pP (.sl 1 (B l))] = some ([pU r], [[], [], []]) := by
  have : ∃ rs os, evalFn F Llim pf58 [pU a, pI b, pP (.sl 1 (B l))] = some (rs, os) ∧ Is60 rs os := by
    refine fnE _ rfl ?_
    repeat' ((conv => whnf); first
      | (refine Both.true ?_ ?_; (first | rfl | assumption | (focus (simp; done)) | (focus (simp [IntKind.wrap, IntKind.signed, IntKind.bits]; done)) | (focus (refine decide_eq_true ?_; omega)) | (focus (refine decide_eq_true ?_; (focus (simp [reps, PV.cells, B_length] <;> omega))))))
      | (refine Both.false ?_ ?_; (first | rfl | assumption | (focus (simp; done)) | (focus (simp [IntKind.wrap, IntKind.signed, IntKind.bits]; done)) | (focus (refine decide_eq_false ?_; omega)) | (focus (refine decide_eq_false ?_; (focus (simp [reps, PV.cells, B_length] <;> omega))))))
      | refine Exists.intro _ (And.intro ((h60 _ _ _ hl).choose_spec) ?_)
      | (refine And.intro ?_ ?_; (first | rfl | assumption | (focus decide) | omega | (focus (simp; done)) | (focus (simp [IntKind.wrap, IntKind.signed, IntKind.bits]; done)) | (focus (simp [reps, PV.cells, B_length] <;> omega))))
      | refine Exists.intro _ (And.intro rfl ?_)
      | refine Both.mk (fun _ => ?_) (fun _ => ?_))
    exact ⟨_, rfl, rfl⟩
  obtain ⟨rs, os, h, ⟨r, rfl, rfl⟩⟩ := this
  exact ⟨r, h⟩

def U (l : List Int) : List PV := l.map (PV.int .u64)
structure IsBs (n : Nat) (rs : List PX) (os : List (List CV)) (os' : List (List CV)) : Prop where
  ex : ∃ l, rs = [.c (.own true 1 (B l) [])] ∧ l.length = n ∧ Bytes l ∧ os = os'
def H57 (F : Fns) : Prop := ∀ l, l.length = 1 ∨ l.length = 2 → ∃ bs, F 57 [pP (.sl 1 (U l))] = some ([.c (.own true 1 (B bs) [])], [[]]) ∧ bs.length = 8 * l.length ∧ Bytes bs
set_option maxHeartbeats 4000000 in
theorem words_ok (F : Fns) (l : List Int) (hl : l.length = 1 ∨ l.length = 2) : ∃ bs, evalFn F Llim pf57 [pP (.sl 1 (U l))] = some ([.c (.own true 1 (B bs) [])], [[]]) ∧ bs.length = 8 * l.length ∧ Bytes bs := by
  have : ∃ rs os, evalFn F Llim pf57 [pP (.sl 1 (U l))] = some (rs, os) ∧ IsBs (8 * l.length) rs os [[]] := by
    match l, hl with
    | [x], _ =>
      change ∃ rs os, evalFn F Llim pf57 [pP (.sl 1 [.int .u64 x])] = some (rs, os) ∧ IsBs 8 rs os [[]]
      refine fnE _ rfl ?_
      repeat' ((conv => whnf); first
        | (refine Both.true ?_ ?_; (first | rfl | assumption | (focus (simp; done)) | (focus (simp [IntKind.wrap, IntKind.signed, IntKind.bits]; done)) | (focus (refine decide_eq_true ?_; omega)) | (focus (refine decide_eq_true ?_; (focus (simp [reps, PV.cells, B_length] <;> omega))))))
        | (refine Both.false ?_ ?_; (first | rfl | assumption | (focus (simp; done)) | (focus (simp [IntKind.wrap, IntKind.signed, IntKind.bits]; done)) | (focus (refine decide_eq_false ?_; omega)) | (focus (refine decide_eq_false ?_; (focus (simp [reps, PV.cells, B_length] <;> omega))))))
        | refine loop_once ?_
        | refine And.intro (by first | (simp [fits]; done) | (simp [IntKind.wrap, IntKind.signed, IntKind.bits]; done)) ?_
        | (refine And.intro ?_ ?_; (first | rfl | assumption | (focus decide) | omega | (focus (simp; done)) | (focus (simp [IntKind.wrap, IntKind.signed, IntKind.bits]; done)) | (focus (simp [reps, PV.cells, B_length] <;> omega))))
        | refine Exists.intro _ (And.intro rfl ?_)
        | refine Both.mk (fun _ => ?_) (fun _ => ?_))
      exact ⟨[_, _, _, _, _, _, _, _], rfl, rfl, by simp only [Bytes, List.mem_cons, List.not_mem_nil, or_false, w_u8]; intro x hx; omega, rfl⟩
    | [x, y], _ =>
      change ∃ rs os, evalFn F Llim pf57 [pP (.sl 1 [.int .u64 x, .int .u64 y])] = some (rs, os) ∧ IsBs 16 rs os [[]]
      refine fnE _ rfl ?_
      repeat' ((conv => whnf); first
        | (refine Both.true ?_ ?_; (first | rfl | assumption | (focus (simp; done)) | (focus (simp [IntKind.wrap, IntKind.signed, IntKind.bits]; done)) | (focus (refine decide_eq_true ?_; omega)) | (focus (refine decide_eq_true ?_; (focus (simp [reps, PV.cells, B_length] <;> omega))))))
        | (refine Both.false ?_ ?_; (first | rfl | assumption | (focus (simp; done)) | (focus (simp [IntKind.wrap, IntKind.signed, IntKind.bits]; done)) | (focus (refine decide_eq_false ?_; omega)) | (focus (refine decide_eq_false ?_; (focus (simp [reps, PV.cells, B_length] <;> omega))))))
        | refine loop_once ?_
        | refine And.intro (by first | (simp [fits]; done) | (simp [IntKind.wrap, IntKind.signed, IntKind.bits]; done)) ?_
        | (refine And.intro ?_ ?_; (first | rfl | assumption | (focus decide) | omega | (focus (simp; done)) | (focus (simp [IntKind.wrap, IntKind.signed, IntKind.bits]; done)) | (focus (simp [reps, PV.cells, B_length] <;> omega))))
        | refine Exists.intro _ (And.intro rfl ?_)
        | refine Both.mk (fun _ => ?_) (fun _ => ?_))
      exact ⟨[_, _, _, _, _, _, _, _, _, _, _, _, _, _, _, _], rfl, rfl, by simp only [Bytes, List.mem_cons, List.not_mem_nil, or_false, w_u8]; intro x hx; omega, rfl⟩
  obtain ⟨rs, os, h, ⟨bs, rfl, h2, h3, rfl⟩⟩ := this
  exact ⟨bs, h, h2, h3⟩

end Go.Proofs.Ytcngkdickmahhaa
