/- What the helpers compute: a number modulo, a size, the number of packets. -/
import Derived.Test.YtcngkdickmahhaaF
namespace Go.Proofs.Ytcngkdickmahhaa
set_option maxRecDepth 100000
set_option linter.unusedVariables false
set_option linter.unusedSimpArgs false

abbrev pI (n : Int) : PX := .c (.pv (.int .i64 n))
abbrev pB (b : Bool) : PX := .c (.pv (.bool b))

def modS (n m : Int) : Int := (n % 18446744073709551616) % m
theorem modS_bound {n m : Int} (h : 0 < m) : 0 ≤ modS n m ∧ modS n m < m := ⟨Int.emod_nonneg _ (by omega), Int.emod_lt_of_pos _ h⟩
theorem wrap64_id {n : Int} (h1 : -9223372036854775808 ≤ n) (h2 : n ≤ 9223372036854775807) : IntKind.i64.wrap n = n := by
  simp [IntKind.wrap, IntKind.bits, IntKind.signed]; omega
theorem wrapU64 (n : Int) : IntKind.u64.wrap n = n % 18446744073709551616 := by
  simp [IntKind.wrap, IntKind.bits, IntKind.signed]

def H14 (F : Fns) : Prop := ∀ n m, 0 < m → m ≤ 4294967296 → F 14 [pI n, pI m] = some ([pI (modS n m)], [[], []])
theorem mod_ok (F : Fns) (n m : Int) (h1 : 0 < m) (h2 : m ≤ 4294967296) : evalFn F Llim pf14 [pI n, pI m] = some ([pI (modS n m)], [[], []]) := by
  refine fnK rfl ?_
  have e1 : IntKind.u64.wrap m = m := by rw [wrapU64]; omega
  have hp : pbin .rem (.int .u64 (IntKind.u64.wrap n)) (.int .u64 (IntKind.u64.wrap m)) = some (.int .u64 (modS n m)) := by
    rw [e1, wrapU64]
    simp only [pbin, BinOp.isShift, pint, Bool.false_eq_true, if_false, if_true]
    rw [if_neg (by omega), Int.tmod_eq_emod_of_nonneg (by omega)]; rfl
  repeat' ((conv => whnf); first
    | (refine Both.true ?_ ?_; (first | rfl | assumption | (focus (simp; done)) | (focus (simp [IntKind.wrap, IntKind.signed, IntKind.bits]; done)) | (focus (refine decide_eq_true ?_; omega)) | (focus (refine decide_eq_true ?_; (focus (simp [reps, PV.cells] <;> omega))))))
    | (refine Both.false ?_ ?_; (first | rfl | assumption | (focus (simp; done)) | (focus (simp [IntKind.wrap, IntKind.signed, IntKind.bits]; done)) | (focus (refine decide_eq_false ?_; omega)) | (focus (refine decide_eq_false ?_; (focus (simp [reps, PV.cells] <;> omega))))))
    | refine Exists.intro _ (And.intro (hp) ?_)
    | (refine And.intro ?_ ?_; (first | rfl | assumption | (focus decide) | omega | (focus (simp; done)) | (focus (simp [IntKind.wrap, IntKind.signed, IntKind.bits]; done)) | (focus (simp [reps, PV.cells] <;> omega))))
    | refine Exists.intro _ (And.intro rfl ?_)
    | refine Both.mk (fun _ => ?_) (fun _ => ?_))
  refine ⟨?_, rfl⟩
  have := modS_bound (n := n) h1
  rw [wrap64_id (by omega) (by omega)]

def sizes : List Int := [0, 1, 8, 56, 57, 58, 115, 116, 117, 175, 176, 300, 4095, 4096, 4097, 60]
def sizeS (n : Int) : Int := sizes.getD (modS n 16).toNat 0
theorem sizeS_bound (n : Int) : 0 ≤ sizeS n ∧ sizeS n ≤ 4097 := by
  have h := modS_bound (n := n) (m := 16) (by decide)
  unfold sizeS
  generalize hk : (modS n 16).toNat = k
  have hk : k < 16 := by omega
  have : ∀ k, k < 16 → 0 ≤ sizes.getD k 0 ∧ sizes.getD k 0 ≤ 4097 := by decide
  exact this k hk
theorem map_get {α β : Type} (f : α → β) (l : List α) (i : Nat) (d : α) (h : i < l.length) : (l.map f)[i]? = some (f (l.getD i d)) := by
  simp [List.getElem?_eq_getElem h]
def H15 (F : Fns) : Prop := ∀ n, F 15 [pI n] = some ([pI (sizeS n)], [[]])
theorem size_ok (F : Fns) (h14 : H14 F) (n : Int) : evalFn F Llim pf15 [pI n] = some ([pI (sizeS n)], [[]]) := by
  refine fnK rfl ?_
  have h := modS_bound (n := n) (m := 16) (by decide)
  repeat' ((conv => whnf); first
    | (refine Both.true ?_ ?_; (first | rfl | assumption | (focus (simp; done)) | (focus (simp [IntKind.wrap, IntKind.signed, IntKind.bits]; done)) | (focus (refine decide_eq_true ?_; omega)) | (focus (refine decide_eq_true ?_; (focus (simp [reps, PV.cells] <;> omega))))))
    | (refine Both.false ?_ ?_; (first | rfl | assumption | (focus (simp; done)) | (focus (simp [IntKind.wrap, IntKind.signed, IntKind.bits]; done)) | (focus (refine decide_eq_false ?_; omega)) | (focus (refine decide_eq_false ?_; (focus (simp [reps, PV.cells] <;> omega))))))
    | refine Exists.intro _ (And.intro (h14 n 16 (by decide) (by decide)) ?_)
    | refine And.intro (by simpa using h) ?_
    | refine Exists.intro _ (And.intro (map_get (PV.int .i64) sizes ((modS n 16).toNat * 1) 0 (by simp [sizes]; omega)) ?_)
    | (refine And.intro ?_ ?_; (first | rfl | assumption | (focus decide) | omega | (focus (simp; done)) | (focus (simp [IntKind.wrap, IntKind.signed, IntKind.bits]; done)) | (focus (simp [reps, PV.cells] <;> omega))))
    | refine Exists.intro _ (And.intro rfl ?_)
    | refine Both.mk (fun _ => ?_) (fun _ => ?_))
  refine ⟨?_, rfl⟩
  simp [sizeS]

def countS (n : Int) : Int := if n < 0 ∨ n > 4096 then -1 else if n ≤ 57 then 1 else 1 + (n + 1) / 59
def H16 (F : Fns) : Prop := ∀ n, -9223372036854775808 ≤ n → n ≤ 9223372036854775807 → F 16 [pI n] = some ([pI (countS n)], [[]])
theorem count_ok (F : Fns) (n : Int) (h1 : -9223372036854775808 ≤ n) (h2 : n ≤ 9223372036854775807) : evalFn F Llim pf16 [pI n] = some ([pI (countS n)], [[]]) := by
  refine fnK rfl ?_
  repeat' ((conv => whnf); first
    | (refine Both.true ?_ ?_; (first | rfl | assumption | (focus (simp; done)) | (focus (simp [IntKind.wrap, IntKind.signed, IntKind.bits]; done)) | (focus (refine decide_eq_true ?_; omega)) | (focus (refine decide_eq_true ?_; (focus (simp [reps, PV.cells] <;> omega))))))
    | (refine Both.false ?_ ?_; (first | rfl | assumption | (focus (simp; done)) | (focus (simp [IntKind.wrap, IntKind.signed, IntKind.bits]; done)) | (focus (refine decide_eq_false ?_; omega)) | (focus (refine decide_eq_false ?_; (focus (simp [reps, PV.cells] <;> omega))))))
    | (refine And.intro ?_ ?_; (first | rfl | assumption | (focus decide) | omega | (focus (simp; done)) | (focus (simp [IntKind.wrap, IntKind.signed, IntKind.bits]; done)) | (focus (simp [reps, PV.cells] <;> omega))))
    | refine Exists.intro _ (And.intro rfl ?_)
    | refine Both.mk (fun _ => ?_) (fun _ => ?_))
  · refine ⟨?_, rfl⟩
    have h := of_decide_eq_true ‹_›
    simp [countS, h]
  · refine ⟨?_, rfl⟩
    have h := of_decide_eq_true ‹decide (n > 4096) = true›
    simp [countS, h]
  · have g1 := of_decide_eq_false ‹decide (n < 0) = false›
    have g2 := of_decide_eq_false ‹decide (n > 4096) = false›
    refine loop_rule (fun a : Int × Int => [(0, 0, .cv (.pv (.int .i64 a.1))), (3, 0, .cv (.pv (.int .i64 a.2)))])
      (fun a => 1 ≤ a.2 ∧ a.2 ≤ 100 ∧ -100 ≤ a.1 ∧ a.1 ≤ 59 * (100 - a.2) ∧ a.2 + (if a.1 ≤ 0 then 0 else (a.1 + 58) / 59) = countS n) (fun a => a.1.toNat) ?_ ?_
    · refine ⟨(IntKind.i64.wrap (n - 57), 1), ?_, rfl⟩
      rw [wrap64_id (by omega) (by omega)]
      simp only [countS]
      refine ⟨by omega, by omega, by omega, by omega, ?_⟩
      split <;> split <;> (try split) <;> omega
    · rintro ⟨m, c⟩ ⟨k1, k2, k3, k4, k5⟩
      simp only at k1 k2 k3 k4 k5
      repeat' ((conv => whnf); first
        | (refine Both.true ?_ ?_; (first | rfl | assumption | (focus (simp; done)) | (focus (simp [IntKind.wrap, IntKind.signed, IntKind.bits]; done)) | (focus (refine decide_eq_true ?_; omega)) | (focus (refine decide_eq_true ?_; (focus (simp [reps, PV.cells] <;> omega))))))
        | (refine Both.false ?_ ?_; (first | rfl | assumption | (focus (simp; done)) | (focus (simp [IntKind.wrap, IntKind.signed, IntKind.bits]; done)) | (focus (refine decide_eq_false ?_; omega)) | (focus (refine decide_eq_false ?_; (focus (simp [reps, PV.cells] <;> omega))))))
        | (refine And.intro ?_ ?_; (first | rfl | assumption | (focus decide) | omega | (focus (simp; done)) | (focus (simp [IntKind.wrap, IntKind.signed, IntKind.bits]; done)) | (focus (simp [reps, PV.cells] <;> omega))))
        | refine Exists.intro _ (And.intro rfl ?_)
        | refine Both.mk (fun _ => ?_) (fun _ => ?_))
      · have g3 := of_decide_eq_true ‹decide (m > 0) = true›
        refine ⟨(IntKind.i64.wrap (m - 59), IntKind.i64.wrap (c + 1)), ?_, ?_, rfl⟩
        · rw [wrap64_id (by omega) (by omega), wrap64_id (by omega) (by omega), ← k5]
          refine ⟨by omega, by omega, by omega, by omega, ?_⟩
          simp only
          split <;> split <;> omega
        · simp only; rw [wrap64_id (by omega) (by omega)]; omega
      · have g3 := of_decide_eq_false ‹decide (m > 0) = false›
        refine ⟨?_, rfl⟩
        rw [if_pos (by omega)] at k5
        rw [← k5, Int.add_zero]
def H17 (F : Fns) : Prop := ∀ n, -9223372036854775808 ≤ n → n ≤ 9223372036854775807 → F 17 [pI n] = some ([pI (countS n)], [[]])
theorem count2_ok (F : Fns) (n : Int) (h1 : -9223372036854775808 ≤ n) (h2 : n ≤ 9223372036854775807) : evalFn F Llim pf17 [pI n] = some ([pI (countS n)], [[]]) := by
  refine fnK rfl ?_
  repeat' ((conv => whnf); first
    | (refine Both.true ?_ ?_; (first | rfl | assumption | (focus (simp; done)) | (focus (simp [IntKind.wrap, IntKind.signed, IntKind.bits]; done)) | (focus (refine decide_eq_true ?_; omega)) | (focus (refine decide_eq_true ?_; (focus (simp [reps, PV.cells] <;> omega))))))
    | (refine Both.false ?_ ?_; (first | rfl | assumption | (focus (simp; done)) | (focus (simp [IntKind.wrap, IntKind.signed, IntKind.bits]; done)) | (focus (refine decide_eq_false ?_; omega)) | (focus (refine decide_eq_false ?_; (focus (simp [reps, PV.cells] <;> omega))))))
    | (refine And.intro ?_ ?_; (first | rfl | assumption | (focus decide) | omega | (focus (simp; done)) | (focus (simp [IntKind.wrap, IntKind.signed, IntKind.bits]; done)) | (focus (simp [reps, PV.cells] <;> omega))))
    | refine Exists.intro _ (And.intro rfl ?_)
    | refine Both.mk (fun _ => ?_) (fun _ => ?_))
  · refine ⟨?_, rfl⟩
    have h := of_decide_eq_true ‹_›
    simp [countS, h]
  · refine ⟨?_, rfl⟩
    have h := of_decide_eq_true ‹decide (n > 4096) = true›
    simp [countS, h]
  · have g1 := of_decide_eq_false ‹decide (n < 0) = false›
    have g2 := of_decide_eq_false ‹decide (n > 4096) = false›
    refine loop_rule (fun a : Int × Int => [(3, 0, .cv (.pv (.int .i64 a.2))), (4, 0, .cv (.pv (.int .i64 a.1)))])
      (fun a => 1 ≤ a.2 ∧ a.2 ≤ 100 ∧ -100 ≤ a.1 ∧ a.1 ≤ 59 * (100 - a.2) ∧ a.2 + (if a.1 ≤ 0 then 0 else (a.1 + 58) / 59) = countS n) (fun a => a.1.toNat) ?_ ?_
    · refine ⟨(IntKind.i64.wrap (n - 57), 1), ?_, rfl⟩
      rw [wrap64_id (by omega) (by omega)]
      simp only [countS]
      refine ⟨by omega, by omega, by omega, by omega, ?_⟩
      split <;> split <;> (try split) <;> omega
    · rintro ⟨m, c⟩ ⟨k1, k2, k3, k4, k5⟩
      simp only at k1 k2 k3 k4 k5
      repeat' ((conv => whnf); first
        | (refine Both.true ?_ ?_; (first | rfl | assumption | (focus (simp; done)) | (focus (simp [IntKind.wrap, IntKind.signed, IntKind.bits]; done)) | (focus (refine decide_eq_true ?_; omega)) | (focus (refine decide_eq_true ?_; (focus (simp [reps, PV.cells] <;> omega))))))
        | (refine Both.false ?_ ?_; (first | rfl | assumption | (focus (simp; done)) | (focus (simp [IntKind.wrap, IntKind.signed, IntKind.bits]; done)) | (focus (refine decide_eq_false ?_; omega)) | (focus (refine decide_eq_false ?_; (focus (simp [reps, PV.cells] <;> omega))))))
        | (refine And.intro ?_ ?_; (first | rfl | assumption | (focus decide) | omega | (focus (simp; done)) | (focus (simp [IntKind.wrap, IntKind.signed, IntKind.bits]; done)) | (focus (simp [reps, PV.cells] <;> omega))))
        | refine Exists.intro _ (And.intro rfl ?_)
        | refine Both.mk (fun _ => ?_) (fun _ => ?_))
      · have g3 := of_decide_eq_true ‹decide (m > 0) = true›
        refine ⟨(IntKind.i64.wrap (m - 59), IntKind.i64.wrap (c + 1)), ?_, ?_, rfl⟩
        · rw [wrap64_id (by omega) (by omega), wrap64_id (by omega) (by omega), ← k5]
          refine ⟨by omega, by omega, by omega, by omega, ?_⟩
          simp only
          split <;> split <;> omega
        · simp only; rw [wrap64_id (by omega) (by omega)]; omega
      · have g3 := of_decide_eq_false ‹decide (m > 0) = false›
        refine ⟨?_, rfl⟩
        rw [if_pos (by omega)] at k5
        rw [← k5, Int.add_zero]

/-- The law. -/
theorem counts_ok (F : Fns) (h14 : H14 F) (h15 : H15 F) (h16 : H16 F) (h17 : H17 F) (h18 : F 18 [] = some ([pB true], [])) (n : Int) (h1 : -9223372036854775808 ≤ n) (h2 : n ≤ 9223372036854775807) : evalFn F Llim pf3 [pI n] = some ([pB true], [[]]) := by
  refine fnK rfl ?_
  have b1 := modS_bound (n := n) (m := 4099) (by decide)
  have b2 := sizeS_bound n
  repeat' ((conv => whnf); first
    | (refine Both.true ?_ ?_; (first | rfl | assumption | (focus (simp; done)) | (focus (simp [IntKind.wrap, IntKind.signed, IntKind.bits]; done)) | (focus (refine decide_eq_true ?_; omega)) | (focus (refine decide_eq_true ?_; (focus (simp [reps, PV.cells] <;> omega))))))
    | (refine Both.false ?_ ?_; (first | rfl | assumption | (focus (simp; done)) | (focus (simp [IntKind.wrap, IntKind.signed, IntKind.bits]; done)) | (focus (refine decide_eq_false ?_; omega)) | (focus (refine decide_eq_false ?_; (focus (simp [reps, PV.cells] <;> omega))))))
    | refine Exists.intro _ (And.intro (h14 n 4099 (by decide) (by decide)) ?_)
    | refine Exists.intro _ (And.intro (h15 n) ?_)
    | refine Exists.intro _ (And.intro (h16 n h1 h2) ?_)
    | refine Exists.intro _ (And.intro (h17 n h1 h2) ?_)
    | refine Exists.intro _ (And.intro (h16 (modS n 4099) (by omega) (by omega)) ?_)
    | refine Exists.intro _ (And.intro (h17 (modS n 4099) (by omega) (by omega)) ?_)
    | refine Exists.intro _ (And.intro (h16 (sizeS n) (by omega) (by omega)) ?_)
    | refine Exists.intro _ (And.intro (h17 (sizeS n) (by omega) (by omega)) ?_)
    | refine Exists.intro _ (And.intro (h18) ?_)
    | refine loop_once ?_
    | (refine And.intro ?_ ?_; (first | decide | (focus (simp [IntKind.wrap, IntKind.signed, IntKind.bits]; done))))
    | (refine And.intro ?_ ?_; (first | rfl | assumption | (focus decide) | omega | (focus (simp; done)) | (focus (simp [IntKind.wrap, IntKind.signed, IntKind.bits]; done)) | (focus (simp [reps, PV.cells] <;> omega))))
    | refine Exists.intro _ (And.intro rfl ?_)
    | refine Both.mk (fun _ => ?_) (fun _ => ?_))
  exact ⟨rfl, rfl⟩
end Go.Proofs.Ytcngkdickmahhaa
