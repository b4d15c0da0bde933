/- The law of PacketEncodes, on the pure machine. -/
import Derived.Test.YtcngkdickmahhaaP5
namespace Go.Proofs.Ytcngkdickmahhaa
set_option maxRecDepth 100000
set_option linter.unusedVariables false
set_option linter.unusedSimpArgs false

theorem callP {F : Fns} {p : PV} {l : List Int} {k : Nat} {K : Ans → Prop} (h : ∃ (x : PX) (k' : Nat), F 30 [deck p k] = some ([x], [[.pv p, .pv (.int .i64 k')]]) ∧ IsPk x ∧ k' ≤ l.length) (c : ∀ (x : PX) (k' : Nat), IsPk x → k' ≤ l.length → K ([x], [[.pv p, .pv (.int .i64 k')]])) : ∃ r, F 30 [deck p k] = some r ∧ K r := by
  obtain ⟨x, k', e, g1, g2⟩ := h
  exact ⟨_, e, c x k' g1 g2⟩
def H30 (F : Fns) : Prop := ∀ p l (k : Nat), IsI p l → l.length ≤ 9223372036854775807 → k ≤ l.length → ∃ (x : PX) (k' : Nat), F 30 [deck p k] = some ([x], [[.pv p, .pv (.int .i64 k')]]) ∧ IsPk x ∧ k' ≤ l.length
theorem packetEncodes_ok (F : Fns) (h18 : F 18 [] = some ([pB true], [])) (h29 : H29 F) (h23 : H23 F) (h30 : H30 F) (ch : Int) (first : Bool) (cmd len seq : Int) (data : PV) (l : List Int) (hd : IsB data l) (p : PV) (ds : List Int) (hp : IsI p ds) (hl : ds.length ≤ 9223372036854775807) : evalFn F Llim pf6 [pP (pkt ch first cmd len seq data), pP p] = some ([pB true], [[], []]) := by
  refine fnK rfl ?_
  repeat' ((conv => whnf); first
    | (refine Both.true ?_ ?_; (first | rfl | assumption | (focus (simp; done)) | (focus (simp [IntKind.wrap, IntKind.signed, IntKind.bits]; done)) | (focus (refine decide_eq_true ?_; omega)) | (focus (refine decide_eq_true ?_; (focus (simp [reps, PV.cells, B_length] <;> omega))))))
    | (refine Both.false ?_ ?_; (first | rfl | assumption | (focus (simp; done)) | (focus (simp [IntKind.wrap, IntKind.signed, IntKind.bits]; done)) | (focus (refine decide_eq_false ?_; omega)) | (focus (refine decide_eq_false ?_; (focus (simp [reps, PV.cells, B_length] <;> omega))))))
    | refine Exists.intro _ (And.intro (hd.len) ?_)
    | refine Exists.intro _ (And.intro (h18) ?_)
    | refine Exists.intro _ (And.intro (h29 _ _ _ _ _ _ _ hd) ?_)
    | refine Exists.intro _ (And.intro (h23 _ _ hp) ?_)
    | (refine callP (h30 p ds 0 hp hl (Nat.zero_le _)) (fun x k' hx hk' => ?_); rcases hx with _ | _)
    | refine Exists.intro _ (And.intro (h29 _ _ _ _ _ _ _ .nil) ?_)
    | refine Exists.intro _ (And.intro (h29 _ _ _ _ _ _ _ (.sl _)) ?_)
    | (refine And.intro ?_ ?_; (first | rfl | assumption | (focus decide) | omega | (focus (simp; done)) | (focus (simp [IntKind.wrap, IntKind.signed, IntKind.bits]; done)) | (focus (simp [reps, PV.cells, B_length] <;> omega))))
    | refine Exists.intro _ (And.intro rfl ?_)
    | refine Both.mk (fun _ => ?_) (fun _ => ?_))
  all_goals exact ⟨rfl, rfl⟩
end Go.Proofs.Ytcngkdickmahhaa
