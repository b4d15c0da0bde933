/- Bytes that a deck deals: their number is known. -/
import Derived.Test.YtcngkdickmahhaaP3
import Derived.Test.YtcngkdickmahhaaA1
namespace Go.Proofs.Ytcngkdickmahhaa
set_option maxRecDepth 100000
set_option linter.unusedVariables false
set_option linter.unusedSimpArgs false

theorem rec_ite {p : Prop} (d : Decidable p) (a b : Int) : (@Decidable.rec p (fun _ => Int) (fun _ => a) (fun _ => b) d) = @ite Int p d b a := by cases d <;> rfl
/-- A slice of bytes, laid down or owned. -/
inductive IsBC : CV → List Int → Prop
  | nil : IsBC (.pv .nils) []
  | own (l sp : List Int) (hl : Bytes l) : IsBC (.own true 1 (B l) (B sp)) l
structure IsBR (n : Nat) (rs : List PX) (os : List (List CV)) (os' : List (List CV)) : Prop where
  ex : ∃ l x, rs = [.c x] ∧ IsBC x l ∧ l.length = n ∧ os = os'
def H45 (F : Fns) : Prop := ∀ a b (n : Nat), n ≤ 1024 → ∃ l x, F 45 [pU a, pU b, pI n] = some ([.c x], [[], [], []]) ∧ IsBC x l ∧ l.length = n
theorem noSls_B : ∀ l : List Int, PV.noSls (B l) = true
  | [] => rfl
  | x :: l => by
    show (true && PV.noSls (B l)) = true
    rw [noSls_B l]; rfl
theorem noSls_nil : PV.noSls [] = true := rfl
inductive OB : SV → Nat → Prop
  | nil : OB (.cv (.pv .nils)) 0
  | own (l : List Int) (hl : Bytes l) : OB (.cv (.own true 1 (B l) [])) l.length
set_option maxHeartbeats 4000000 in
theorem stream_ok (F : Fns) (h57 : H57 F) (h58 : H58 F) (a b : Int) (n : Nat) (hn : n ≤ 1024) : ∃ l x, evalFn F Llim pf45 [pU a, pU b, pI n] = some ([.c x], [[], [], []]) ∧ IsBC x l ∧ l.length = n := by
  have w1 : ∀ x : Int, ∃ f : List Int, F 57 [pP (.sl 1 [.int .u64 x])] = some ([.c (.own true 1 (B f) [])], [[]]) ∧ f.length = 8 ∧ Bytes f := fun x => by
    obtain ⟨bs, h1, h2⟩ := h57 [x] (.inl rfl)
    exact ⟨bs, h1, h2⟩
  have w2 : ∀ x : Int × Int, ∃ f : List Int, F 57 [pP (.sl 1 [.int .u64 x.1, .int .u64 x.2])] = some ([.c (.own true 1 (B f) [])], [[]]) ∧ f.length = 16 ∧ Bytes f := fun x => by
    obtain ⟨bs, h1, h2⟩ := h57 [x.1, x.2] (.inr rfl)
    exact ⟨bs, h1, h2⟩
  obtain ⟨f1, hf1⟩ := Classical.axiomOfChoice w1
  obtain ⟨f2, hf2⟩ := Classical.axiomOfChoice w2
  have : ∃ rs os, evalFn F Llim pf45 [pU a, pU b, pI n] = some (rs, os) ∧ IsBR n rs os [[], [], []] := by
    refine fnE _ rfl ?_
    repeat' ((conv => whnf); first
      | (refine Both.true ?_ ?_; (first | rfl | assumption | (focus (simp; done)) | (focus (simp [IntKind.wrap, IntKind.signed, IntKind.bits]; done)) | (focus (refine decide_eq_true ?_; omega)) | (focus (refine decide_eq_true ?_; (focus (simp [reps, PV.cells, B_length] <;> omega))))))
      | (refine Both.false ?_ ?_; (first | rfl | assumption | (focus (simp; done)) | (focus (simp [IntKind.wrap, IntKind.signed, IntKind.bits]; done)) | (focus (refine decide_eq_false ?_; omega)) | (focus (refine decide_eq_false ?_; (focus (simp [reps, PV.cells, B_length] <;> omega))))))
      | (refine And.intro ?_ ?_; (first | rfl | assumption | (focus decide) | omega | (focus (simp; done)) | (focus (simp [IntKind.wrap, IntKind.signed, IntKind.bits]; done)) | (focus (simp [reps, PV.cells, B_length] <;> omega))))
      | refine Exists.intro _ (And.intro rfl ?_)
      | refine Both.mk (fun _ => ?_) (fun _ => ?_))
    refine loop_rule (fun s : SV × Nat × Int => [(0, 0, .cv (.pv (.int .u64 a))), (1, 0, .cv (.pv (.int .u64 b))), (2, 0, .cv (.pv (.int .i64 s.2.2))), (7, 0, s.1), (8, 0, .cv (.pv (.int .i64 s.2.1)))]) (fun s => OB s.1 (8 * s.2.1) ∧ s.2.1 ≤ 200 ∧ s.2.2 = n) (fun s => 200 - s.2.1) ?_ ?_
    · conv => whnf
      refine ⟨(_, 0, _), ⟨.nil, Nat.zero_le _, ?_⟩, rfl⟩
      simp only [rec_ite]
      simp only [if_true]
      (repeat' split) <;> omega
    · rintro ⟨x, i, N⟩ ⟨hx, hi, rfl⟩
      simp only at hx hi
      generalize hm : 8 * i = m at hx
      cases hx
      all_goals dsimp only
      · have e : i = 0 := by omega
        subst e
        repeat' ((conv => whnf); first
          | (refine Both.true ?_ ?_; (first | rfl | assumption | (focus (simp; done)) | (focus (simp [IntKind.wrap, IntKind.signed, IntKind.bits]; done)) | (focus (refine decide_eq_true ?_; omega)) | (focus (refine decide_eq_true ?_; (focus (simp [reps, PV.cells, B_length] <;> omega))))))
          | (refine Both.false ?_ ?_; (first | rfl | assumption | (focus (simp; done)) | (focus (simp [IntKind.wrap, IntKind.signed, IntKind.bits]; done)) | (focus (refine decide_eq_false ?_; omega)) | (focus (refine decide_eq_false ?_; (focus (simp [reps, PV.cells, B_length] <;> omega))))))
          | refine Exists.intro _ (And.intro ((hf1 _).1) ?_)
          | refine Exists.intro _ (And.intro ((hf2 (_, _)).1) ?_)
          | refine Exists.intro _ (And.intro ((h58 _ _ _ (by rw [(hf2 _).2.1]; decide)).choose_spec) ?_)
          | (refine Both.true ?_ ?_; (focus (simp [GArg.boxes, PX.noSl, CV.noSl, noSls_B, noSls_nil]; done)))
          | (refine Both.false ?_ ?_; (focus (simp [B_length, (hf1 _).2.1]; done)))
          | (refine And.intro (by have := of_decide_eq_false ‹decide ((0 : Int) < _) = false›; simp; omega) ?_)
          | (refine And.intro (by simp [fits, B_length, (hf1 _).2.1]; done) ?_)
          | (refine And.intro ?_ ?_; (first | rfl | assumption | (focus decide) | omega | (focus (simp; done)) | (focus (simp [IntKind.wrap, IntKind.signed, IntKind.bits]; done)) | (focus (simp [reps, PV.cells, B_length] <;> omega))))
          | refine Exists.intro _ (And.intro rfl ?_)
          | refine Both.mk (fun _ => ?_) (fun _ => ?_))
        · conv => whnf
          refine ⟨(_, 1, _), ⟨?_, by dsimp only; omega, rfl⟩, by dsimp only; omega, rfl⟩
          have := fun x => OB.own (f1 x) (hf1 x).2.2
          simp only [(hf1 _).2.1] at this
          exact this _
        · conv => whnf
          have := of_decide_eq_false ‹decide ((0 : Int) < _) = false›
          obtain rfl : n = 0 := by omega
          exact ⟨[], _, rfl, .nil, rfl, rfl⟩
      · rename_i l hbl
        repeat' ((conv => whnf); first
          | (refine Both.true ?_ ?_; (first | rfl | assumption | (focus (simp; done)) | (focus (simp [IntKind.wrap, IntKind.signed, IntKind.bits]; done)) | (focus (refine decide_eq_true ?_; omega)) | (focus (refine decide_eq_true ?_; (focus (simp [reps, PV.cells, B_length] <;> omega))))))
          | (refine Both.false ?_ ?_; (first | rfl | assumption | (focus (simp; done)) | (focus (simp [IntKind.wrap, IntKind.signed, IntKind.bits]; done)) | (focus (refine decide_eq_false ?_; omega)) | (focus (refine decide_eq_false ?_; (focus (simp [reps, PV.cells, B_length] <;> omega))))))
          | refine Exists.intro _ (And.intro ((hf1 _).1) ?_)
          | refine Exists.intro _ (And.intro ((hf2 (_, _)).1) ?_)
          | refine Exists.intro _ (And.intro ((h58 _ _ _ (by rw [(hf2 _).2.1]; decide)).choose_spec) ?_)
          | (refine Both.true ?_ ?_; (focus (simp [GArg.boxes, PX.noSl, CV.noSl, noSls_B, noSls_nil]; done)))
          | (refine Both.false ?_ ?_; (focus (simp [B_length, (hf1 _).2.1]; done)))
          | (refine And.intro (by simp [fits, B_length, (hf1 _).2.1]; omega) ?_)
          | (refine And.intro (by have := of_decide_eq_false ‹decide (_ < (n : Int)) = false›; simp [B_length] at *; omega) ?_)
          | (refine And.intro ?_ ?_; (first | rfl | assumption | (focus decide) | omega | (focus (simp; done)) | (focus (simp [IntKind.wrap, IntKind.signed, IntKind.bits]; done)) | (focus (simp [reps, PV.cells, B_length] <;> omega))))
          | refine Exists.intro _ (And.intro rfl ?_)
          | refine Both.mk (fun _ => ?_) (fun _ => ?_))
        · conv => whnf
          have g := of_decide_eq_true ‹decide (_ < (n : Int)) = true›
          simp only [B_length, Nat.div_one] at g
          refine ⟨(_, i + 1, _), ⟨?_, by dsimp only; omega, rfl⟩, by dsimp only; omega, (by rw [wrap64_id (by omega) (by omega)]; rfl)⟩
          have := fun x => OB.own (l ++ f1 x) (fun y hy => (List.mem_append.mp hy).elim (hbl y) ((hf1 x).2.2 y))
          simp only [List.length_append, (hf1 _).2.1, B_append, ← hm] at this
          exact this _
        · exfalso
          have g1 := of_decide_eq_false ‹decide (_ < (n : Int)) = false›
          have g2 := of_decide_eq_true ‹decide (_ ∧ _) = true›
          exact g1 g2.1
        · conv => whnf
          have g := of_decide_eq_false ‹decide (_ < (n : Int)) = false›
          simp only [B_length, Nat.div_one] at g
          have e : List.take (0 + ((some (n : Int)).getD ↑(((B l).length - 0) / 1)).toNat * 1) (B l) = B (l.take n) := by simp [B_take]
          have e2 : List.drop (0 + ((some (n : Int)).getD ↑(((B l).length - 0) / 1)).toNat * 1) (B l) ++ [] = B (l.drop n) := by simp [B_drop]
          rw [e, e2]
          exact ⟨l.take n, _, rfl, .own _ _ (fun y hy => hbl y (List.mem_of_mem_take hy)), by simp; omega, rfl⟩
  obtain ⟨rs, os, h, ⟨l, x, rfl, h1, h2, rfl⟩⟩ := this
  exact ⟨l, x, h, h1, h2⟩

def H24 (F : Fns) : Prop := ∀ s n, ∃ l x, F 24 [pI s, pI n] = some ([.c x], [[], []]) ∧ IsBC x l ∧ (l.length : Int) = max (min n 1024) 0
theorem callBC {n : Int} {o : Option Ans} {os : List (List CV)} {K : Ans → Prop} (h : ∃ l x, o = some ([.c x], os) ∧ IsBC x l ∧ (l.length : Int) = max (min n 1024) 0) (k : ∀ l x, IsBC x l → (l.length : Int) = max (min n 1024) 0 → K ([.c x], os)) : ∃ v, o = some v ∧ K v := by
  obtain ⟨l, x, e, h1, h2⟩ := h
  exact ⟨_, e, k l x h1 h2⟩
structure IsBR2 (n : Int) (rs : List PX) (os : List (List CV)) (os' : List (List CV)) : Prop where
  ex : ∃ l x, rs = [.c x] ∧ IsBC x l ∧ (l.length : Int) = max (min n 1024) 0 ∧ os = os'
theorem bytes_ok (F : Fns) (h45 : H45 F) (s n : Int) : ∃ l x, evalFn F Llim pf24 [pI s, pI n] = some ([.c x], [[], []]) ∧ IsBC x l ∧ (l.length : Int) = max (min n 1024) 0 := by
  have hb : ∀ a b (n : Int), 0 ≤ n ∧ n ≤ 1024 → ∃ l x, F 45 [pU a, pU b, pI n] = some ([.c x], [[], [], []]) ∧ IsBC x l ∧ (l.length : Int) = max (min n 1024) 0 := fun a b n h => by
    obtain ⟨l, x, h1, h2, h3⟩ := h45 a b n.toNat (by omega)
    rw [show ((n.toNat : Nat) : Int) = n by omega] at h1
    exact ⟨l, x, h1, h2, by omega⟩
  have : ∃ rs os, evalFn F Llim pf24 [pI s, pI n] = some (rs, os) ∧ IsBR2 n rs os [[], []] := by
    refine fnE _ rfl ?_
    repeat' ((conv => whnf); first
      | (refine Both.true ?_ ?_; (first | rfl | assumption | (focus (simp only [decide_eq_true_eq, bne_self_eq_false, beq_self_eq_true, bne_iff_ne, decide_eq_false_iff_not, beq_iff_eq, beq_eq_false_iff_ne, ne_eq, Nat.div_one, Nat.mul_one, Nat.zero_add, Int.toNat_natCast, Option.getD_some, Option.getD_none, List.length_map, List.length_append, List.length_take, List.length_drop, List.length_replicate, List.length_cons, List.length_nil, Bool.not_eq_true, Bool.not_eq_false, Bool.not_eq_true', Bool.not_eq_false', Bool.and_eq_true, Bool.or_eq_true, Bool.and_eq_false_iff, Bool.or_eq_false_iff, Int.reduceToNat, Nat.reduceMul, List.append_nil, List.nil_append, Nat.sub_zero, Int.not_lt, Int.not_le, gt_iff_lt, ge_iff_le, w_i64, w_u64, w_u32, w_u8, w_u16, w_i32, PV.cells, fits, if_true, if_false, Bool.false_eq_true]; done)) | (focus (simp only [decide_eq_true_eq, bne_self_eq_false, beq_self_eq_true, bne_iff_ne, decide_eq_false_iff_not, beq_iff_eq, beq_eq_false_iff_ne, ne_eq, Nat.div_one, Nat.mul_one, Nat.zero_add, Int.toNat_natCast, Option.getD_some, Option.getD_none, List.length_map, List.length_append, List.length_take, List.length_drop, List.length_replicate, List.length_cons, List.length_nil, Bool.not_eq_true, Bool.not_eq_false, Bool.not_eq_true', Bool.not_eq_false', Bool.and_eq_true, Bool.or_eq_true, Bool.and_eq_false_iff, Bool.or_eq_false_iff, Int.reduceToNat, Nat.reduceMul, List.append_nil, List.nil_append, Nat.sub_zero, Int.not_lt, Int.not_le, gt_iff_lt, ge_iff_le, w_i64, w_u64, w_u32, w_u8, w_u16, w_i32, PV.cells, fits, if_true, if_false, Bool.false_eq_true]; omega))))
      | (refine Both.false ?_ ?_; (first | rfl | assumption | (focus (simp only [decide_eq_true_eq, bne_self_eq_false, beq_self_eq_true, bne_iff_ne, decide_eq_false_iff_not, beq_iff_eq, beq_eq_false_iff_ne, ne_eq, Nat.div_one, Nat.mul_one, Nat.zero_add, Int.toNat_natCast, Option.getD_some, Option.getD_none, List.length_map, List.length_append, List.length_take, List.length_drop, List.length_replicate, List.length_cons, List.length_nil, Bool.not_eq_true, Bool.not_eq_false, Bool.not_eq_true', Bool.not_eq_false', Bool.and_eq_true, Bool.or_eq_true, Bool.and_eq_false_iff, Bool.or_eq_false_iff, Int.reduceToNat, Nat.reduceMul, List.append_nil, List.nil_append, Nat.sub_zero, Int.not_lt, Int.not_le, gt_iff_lt, ge_iff_le, w_i64, w_u64, w_u32, w_u8, w_u16, w_i32, PV.cells, fits, if_true, if_false, Bool.false_eq_true]; done)) | (focus (simp only [decide_eq_true_eq, bne_self_eq_false, beq_self_eq_true, bne_iff_ne, decide_eq_false_iff_not, beq_iff_eq, beq_eq_false_iff_ne, ne_eq, Nat.div_one, Nat.mul_one, Nat.zero_add, Int.toNat_natCast, Option.getD_some, Option.getD_none, List.length_map, List.length_append, List.length_take, List.length_drop, List.length_replicate, List.length_cons, List.length_nil, Bool.not_eq_true, Bool.not_eq_false, Bool.not_eq_true', Bool.not_eq_false', Bool.and_eq_true, Bool.or_eq_true, Bool.and_eq_false_iff, Bool.or_eq_false_iff, Int.reduceToNat, Nat.reduceMul, List.append_nil, List.nil_append, Nat.sub_zero, Int.not_lt, Int.not_le, gt_iff_lt, ge_iff_le, w_i64, w_u64, w_u32, w_u8, w_u16, w_i32, PV.cells, fits, if_true, if_false, Bool.false_eq_true]; omega))))
      | (refine callBC (hb _ _ _ (by omega)) (fun l x hx hl => ?_); rcases hx with _ | ⟨l, sp, hbl⟩)
      | (refine And.intro ?_ ?_; (first | rfl | assumption | omega | (focus (simp only [decide_eq_true_eq, bne_self_eq_false, beq_self_eq_true, bne_iff_ne, decide_eq_false_iff_not, beq_iff_eq, beq_eq_false_iff_ne, ne_eq, Nat.div_one, Nat.mul_one, Nat.zero_add, Int.toNat_natCast, Option.getD_some, Option.getD_none, List.length_map, List.length_append, List.length_take, List.length_drop, List.length_replicate, List.length_cons, List.length_nil, Bool.not_eq_true, Bool.not_eq_false, Bool.not_eq_true', Bool.not_eq_false', Bool.and_eq_true, Bool.or_eq_true, Bool.and_eq_false_iff, Bool.or_eq_false_iff, Int.reduceToNat, Nat.reduceMul, List.append_nil, List.nil_append, Nat.sub_zero, Int.not_lt, Int.not_le, gt_iff_lt, ge_iff_le, w_i64, w_u64, w_u32, w_u8, w_u16, w_i32, PV.cells, fits, if_true, if_false, Bool.false_eq_true]; done)) | (focus (simp only [decide_eq_true_eq, bne_self_eq_false, beq_self_eq_true, bne_iff_ne, decide_eq_false_iff_not, beq_iff_eq, beq_eq_false_iff_ne, ne_eq, Nat.div_one, Nat.mul_one, Nat.zero_add, Int.toNat_natCast, Option.getD_some, Option.getD_none, List.length_map, List.length_append, List.length_take, List.length_drop, List.length_replicate, List.length_cons, List.length_nil, Bool.not_eq_true, Bool.not_eq_false, Bool.not_eq_true', Bool.not_eq_false', Bool.and_eq_true, Bool.or_eq_true, Bool.and_eq_false_iff, Bool.or_eq_false_iff, Int.reduceToNat, Nat.reduceMul, List.append_nil, List.nil_append, Nat.sub_zero, Int.not_lt, Int.not_le, gt_iff_lt, ge_iff_le, w_i64, w_u64, w_u32, w_u8, w_u16, w_i32, PV.cells, fits, if_true, if_false, Bool.false_eq_true]; omega)) | (focus (simp [decide_eq_true_eq, bne_self_eq_false, beq_self_eq_true, bne_iff_ne, decide_eq_false_iff_not, beq_iff_eq, beq_eq_false_iff_ne, ne_eq, Nat.div_one, Nat.mul_one, Nat.zero_add, Int.toNat_natCast, Option.getD_some, Option.getD_none, List.length_map, List.length_append, List.length_take, List.length_drop, List.length_replicate, List.length_cons, List.length_nil, Bool.not_eq_true, Bool.not_eq_false, Bool.not_eq_true', Bool.not_eq_false', Bool.and_eq_true, Bool.or_eq_true, Bool.and_eq_false_iff, Bool.or_eq_false_iff, Int.reduceToNat, Nat.reduceMul, List.append_nil, List.nil_append, Nat.sub_zero, Int.not_lt, Int.not_le, gt_iff_lt, ge_iff_le, w_i64, w_u64, w_u32, w_u8, w_u16, w_i32, PV.cells, fits, if_true, if_false, Bool.false_eq_true]; done)) | (focus (simp [decide_eq_true_eq, bne_self_eq_false, beq_self_eq_true, bne_iff_ne, decide_eq_false_iff_not, beq_iff_eq, beq_eq_false_iff_ne, ne_eq, Nat.div_one, Nat.mul_one, Nat.zero_add, Int.toNat_natCast, Option.getD_some, Option.getD_none, List.length_map, List.length_append, List.length_take, List.length_drop, List.length_replicate, List.length_cons, List.length_nil, Bool.not_eq_true, Bool.not_eq_false, Bool.not_eq_true', Bool.not_eq_false', Bool.and_eq_true, Bool.or_eq_true, Bool.and_eq_false_iff, Bool.or_eq_false_iff, Int.reduceToNat, Nat.reduceMul, List.append_nil, List.nil_append, Nat.sub_zero, Int.not_lt, Int.not_le, gt_iff_lt, ge_iff_le, w_i64, w_u64, w_u32, w_u8, w_u16, w_i32, PV.cells, fits, if_true, if_false, Bool.false_eq_true] <;> omega))))
      | refine Exists.intro _ (And.intro (by ((try simp (disch := omega) only [wi64, wu64, wu32, wu8, wu16, Int.toNat_natCast, Int.reduceToNat, Int.reduceAdd, Int.reduceSub, List.length_cons, List.length_nil, Nat.reduceAdd, Int.cast_ofNat_Int, Nat.mul_one, Nat.reduceMul, Nat.zero_add, Nat.add_zero, Nat.sub_zero, Nat.div_one, Option.getD_some, Option.getD_none, Bool.false_eq_true, if_false, if_true, minL, maxL, mn_u64, mn_i64, mn_u32, mn_u8, mn_u16, minc, mincr, Int.reducePow, Int.reduceMul, or_u32_24, or_u32_16, or_u32_8, or_i64_8, or_u64_8, List.drop_zero, PV.cells, List.append_nil, List.nil_append]); exact rfl)) ?_)
      | (refine Both.mk (fun hb => ?_) (fun hb => ?_) <;> (try simp only [decide_eq_true_eq, bne_self_eq_false, beq_self_eq_true, bne_iff_ne, decide_eq_false_iff_not, beq_iff_eq, beq_eq_false_iff_ne, ne_eq, Nat.div_one, Nat.mul_one, Nat.zero_add, Int.toNat_natCast, Option.getD_some, Option.getD_none, List.length_map, List.length_append, List.length_take, List.length_drop, List.length_replicate, List.length_cons, List.length_nil, Bool.not_eq_true, Bool.not_eq_false, Bool.not_eq_true', Bool.not_eq_false', Bool.and_eq_true, Bool.or_eq_true, Bool.and_eq_false_iff, Bool.or_eq_false_iff, Int.reduceToNat, Nat.reduceMul, List.append_nil, List.nil_append, Nat.sub_zero, Int.not_lt, Int.not_le, gt_iff_lt, ge_iff_le, w_i64, w_u64, w_u32, w_u8, w_u16, w_i32, PV.cells, fits, if_true, if_false, Bool.false_eq_true] at hb)))
    all_goals (try (conv => whnf))
    · exact ⟨_, _, rfl, .nil, by omega, rfl⟩
    · exact ⟨_, _, rfl, .own _ _ ‹_›, by omega, rfl⟩
  obtain ⟨rs, os, h, ⟨l, x, rfl, h1, h2, rfl⟩⟩ := this
  exact ⟨l, x, h, h1, h2⟩

def I (l : List Int) : List PV := l.map (PV.int .i64)
theorem I_length (l : List Int) : (I l).length = l.length := by simp [I]
theorem I_get {l : List Int} {i : Nat} (h : i < l.length) : (I l)[i]? = some (.int .i64 (l.getD i 0)) := map_get _ _ _ _ h
inductive IsI : PV → List Int → Prop
  | sl (l : List Int) : IsI (.sl 1 (I l)) l
  | nil : IsI .nils []
abbrev deck (p : PV) (k : Int) : PX := .b [.pv p, .pv (.int .i64 k)]
def H23 (F : Fns) : Prop := ∀ p l, IsI p l → F 23 [pP p] = some ([deck p 0], [[]])
theorem new_ok (F : Fns) (p : PV) (l : List Int) (hp : IsI p l) : evalFn F Llim pf23 [pP p] = some ([deck p 0], [[]]) := by
  cases hp
  all_goals refine fnK rfl ?_
  · repeat' ((conv => whnf); first
      | (refine Both.true ?_ ?_; (first | rfl | assumption | (focus (simp; done)) | (focus (simp [IntKind.wrap, IntKind.signed, IntKind.bits]; done)) | (focus (refine decide_eq_true ?_; omega)) | (focus (refine decide_eq_true ?_; (focus (simp [reps, PV.cells, B_length] <;> omega))))))
      | (refine Both.false ?_ ?_; (first | rfl | assumption | (focus (simp; done)) | (focus (simp [IntKind.wrap, IntKind.signed, IntKind.bits]; done)) | (focus (refine decide_eq_false ?_; omega)) | (focus (refine decide_eq_false ?_; (focus (simp [reps, PV.cells, B_length] <;> omega))))))
      | (refine And.intro ?_ ?_; (first | rfl | assumption | (focus decide) | omega | (focus (simp; done)) | (focus (simp [IntKind.wrap, IntKind.signed, IntKind.bits]; done)) | (focus (simp [reps, PV.cells, B_length] <;> omega))))
      | refine Exists.intro _ (And.intro rfl ?_)
      | refine Both.mk (fun _ => ?_) (fun _ => ?_))
    exact ⟨rfl, rfl⟩
  · repeat' ((conv => whnf); first
      | (refine Both.true ?_ ?_; (first | rfl | assumption | (focus (simp; done)) | (focus (simp [IntKind.wrap, IntKind.signed, IntKind.bits]; done)) | (focus (refine decide_eq_true ?_; omega)) | (focus (refine decide_eq_true ?_; (focus (simp [reps, PV.cells, B_length] <;> omega))))))
      | (refine Both.false ?_ ?_; (first | rfl | assumption | (focus (simp; done)) | (focus (simp [IntKind.wrap, IntKind.signed, IntKind.bits]; done)) | (focus (refine decide_eq_false ?_; omega)) | (focus (refine decide_eq_false ?_; (focus (simp [reps, PV.cells, B_length] <;> omega))))))
      | (refine And.intro ?_ ?_; (first | rfl | assumption | (focus decide) | omega | (focus (simp; done)) | (focus (simp [IntKind.wrap, IntKind.signed, IntKind.bits]; done)) | (focus (simp [reps, PV.cells, B_length] <;> omega))))
      | refine Exists.intro _ (And.intro rfl ?_)
      | refine Both.mk (fun _ => ?_) (fun _ => ?_))
    exact ⟨rfl, rfl⟩
def H25 (F : Fns) : Prop := ∀ p l (k : Nat) m, IsI p l → l.length ≤ 9223372036854775807 → k ≤ l.length → 0 < m → m ≤ 4294967296 → ∃ (v : Int) (k' : Nat), F 25 [deck p k, pI m] = some ([pI v], [[.pv p, .pv (.int .i64 k')], []]) ∧ k' ≤ l.length ∧ 0 ≤ v ∧ v < m
structure IsN (p : PV) (n : Nat) (m : Int) (rs : List PX) (os : List (List CV)) : Prop where
  ex : ∃ (v : Int) (k' : Nat), rs = [pI v] ∧ os = [[.pv p, .pv (.int .i64 k')], []] ∧ k' ≤ n ∧ 0 ≤ v ∧ v < m
theorem next_ok (F : Fns) (h14 : H14 F) (p : PV) (l : List Int) (k : Nat) (m : Int) (hp : IsI p l) (hl : l.length ≤ 9223372036854775807) (hk : k ≤ l.length) (h1 : 0 < m) (h2 : m ≤ 4294967296) : ∃ (v : Int) (k' : Nat), evalFn F Llim pf25 [deck p k, pI m] = some ([pI v], [[.pv p, .pv (.int .i64 k')], []]) ∧ k' ≤ l.length ∧ 0 ≤ v ∧ v < m := by
  have : ∃ rs os, evalFn F Llim pf25 [deck p k, pI m] = some (rs, os) ∧ IsN p l.length m rs os := by
    have mb := fun n => modS_bound (n := n) h1
    cases hp
    · have hI : (I l).length / 1 = l.length := by simp [I_length]
      have hw2 : IntKind.i64.wrap (((k + 1 : Nat) : Int) - 1) = k := by rw [wrap64_id (by omega) (by omega)]; omega
      have hw : k < l.length → IntKind.i64.wrap ((k : Int) + 1) = ((k + 1 : Nat) : Int) := fun h => by rw [wrap64_id (by omega) (by omega)]; omega
      refine fnE _ rfl ?_
      repeat' ((conv => whnf); first
        | (refine Both.true ?_ ?_; (first | rfl | assumption | (focus (simp; done)) | (focus (simp [IntKind.wrap, IntKind.signed, IntKind.bits]; done)) | (focus (refine decide_eq_true ?_; omega)) | (focus (refine decide_eq_true ?_; (focus (simp [reps, PV.cells, B_length] <;> omega))))))
        | (refine Both.false ?_ ?_; (first | rfl | assumption | (focus (simp; done)) | (focus (simp [IntKind.wrap, IntKind.signed, IntKind.bits]; done)) | (focus (refine decide_eq_false ?_; omega)) | (focus (refine decide_eq_false ?_; (focus (simp [reps, PV.cells, B_length] <;> omega))))))
        | refine Exists.intro _ (And.intro (h14 _ _ h1 h2) ?_)
        | (refine And.intro (by have g := of_decide_eq_false ‹decide ((k : Int) ≥ _) = false›; rw [hI] at g; rw [hw (by omega), hw2, hI]; omega) ?_)
        | refine Exists.intro _ (And.intro (I_get (by have g := of_decide_eq_false ‹decide ((k : Int) ≥ _) = false›; rw [hI] at g; rw [hw (by omega), hw2]; omega)) ?_)
        | (refine And.intro ?_ ?_; (first | rfl | assumption | (focus decide) | omega | (focus (simp; done)) | (focus (simp [IntKind.wrap, IntKind.signed, IntKind.bits]; done)) | (focus (simp [reps, PV.cells, B_length] <;> omega))))
        | refine Exists.intro _ (And.intro rfl ?_)
        | refine Both.mk (fun _ => ?_) (fun _ => ?_))
      · exact ⟨0, k, rfl, rfl, hk, by omega, by omega⟩
      · have g := of_decide_eq_false ‹decide ((k : Int) ≥ _) = false›; rw [hI] at g
        exact ⟨_, k + 1, rfl, by rw [hw (by omega)], by omega, (mb _).1, (mb _).2⟩
    · refine fnE _ rfl ?_
      repeat' ((conv => whnf); first
        | (refine Both.true ?_ ?_; (first | rfl | assumption | (focus (simp; done)) | (focus (simp [IntKind.wrap, IntKind.signed, IntKind.bits]; done)) | (focus (refine decide_eq_true ?_; omega)) | (focus (refine decide_eq_true ?_; (focus (simp [reps, PV.cells, B_length] <;> omega))))))
        | (refine Both.false ?_ ?_; (first | rfl | assumption | (focus (simp; done)) | (focus (simp [IntKind.wrap, IntKind.signed, IntKind.bits]; done)) | (focus (refine decide_eq_false ?_; omega)) | (focus (refine decide_eq_false ?_; (focus (simp [reps, PV.cells, B_length] <;> omega))))))
        | refine Exists.intro _ (And.intro (h14 _ _ h1 h2) ?_)
        | (refine Both.true ?_ ?_; (focus (refine decide_eq_true ?_; simp; omega)))
        | (refine And.intro ?_ ?_; (first | rfl | assumption | (focus decide) | omega | (focus (simp; done)) | (focus (simp [IntKind.wrap, IntKind.signed, IntKind.bits]; done)) | (focus (simp [reps, PV.cells, B_length] <;> omega))))
        | refine Exists.intro _ (And.intro rfl ?_)
        | refine Both.mk (fun _ => ?_) (fun _ => ?_))
      exact ⟨0, k, rfl, rfl, hk, by omega, by omega⟩
  obtain ⟨rs, os, h, ⟨v, k', rfl, rfl, g⟩⟩ := this
  exact ⟨v, k', h, g⟩
end Go.Proofs.Ytcngkdickmahhaa
