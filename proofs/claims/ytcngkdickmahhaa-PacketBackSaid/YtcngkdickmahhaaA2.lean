/- What comes in to a law, read; tables by definition. -/
import Derived.Test.YtcngkdickmahhaaP4
import Derived.Test.YtcngkdickmahhaaK
namespace Go.Proofs.Ytcngkdickmahhaa
set_option maxRecDepth 100000
set_option linter.unusedVariables false
set_option linter.unusedSimpArgs false

theorem tab_def {P : Program} {F : Fns} {f : FuncId} {fn : Func} {pf : PFn} {tks : List (Nat × List Bool)} {h : List (List Nat)} (hF : TableOK P F) (hm : P.follows .mixedOrders = true) (hfn : P.funcs[f]? = some fn) (hc : cFn P tks h fn = some pf) :
    TableOK P (upd F f (fun xs => evalFn F Llim pf xs)) := by
  intro g xs rs os hg
  unfold upd at hg
  split at hg
  · rename_i hb
    obtain rfl := Nat.eq_of_beq_eq_true hb
    exact fn_ok hF hm hfn hc Llim_ok hg
  · exact hF g xs rs os hg

theorem all2_1 {α β : Type} {R : α → β → Prop} {a : α} {l : List β} (h : All2 R [a] l) : ∃ x, l = [x] ∧ R a x := by
  cases l with
  | nil => exact h.elim
  | cons x l => cases l with
    | nil => exact ⟨x, rfl, h.1⟩
    | cons y l => exact h.2.elim

theorem all2_2 {α β : Type} {R : α → β → Prop} {a b : α} {l : List β} (h : All2 R [a, b] l) : ∃ x y, l = [x, y] ∧ R a x ∧ R b y := by
  cases l with
  | nil => exact h.elim
  | cons x l => cases l with
    | nil => exact h.2.elim
    | cons y l => cases l with
      | nil => exact ⟨x, y, rfl, h.1, h.2.1⟩
      | cons z l => exact h.2.2.elim
theorem rows_int (k : IntKind) : ∀ rows : List (List PV), (∀ r ∈ rows, WTy (.int k) r) → ∃ l : List Int, rows.flatten = l.map (PV.int k) ∧ l.length = rows.length ∧ ∀ x ∈ l, k.min ≤ x ∧ x ≤ k.max
  | [], _ => ⟨[], rfl, rfl, fun x h => by cases h⟩
  | r :: rows, h => by
    obtain ⟨l, h1, h2, h3⟩ := rows_int k rows fun r hr => h r (List.mem_cons_of_mem _ hr)
    have h4 := h r (List.mem_cons_self ..)
    simp only [WTy] at h4
    obtain ⟨n, rfl, h5, h6⟩ := h4
    refine ⟨n :: l, by rw [List.flatten_cons, h1]; rfl, by simp [h2], fun x hx => ?_⟩
    rcases List.mem_cons.mp hx with rfl | hx
    · exact ⟨h5, h6⟩
    · exact h3 x hx
theorem slice_u8 {cs : List PV} (h : WTy (.slice (.int .u8)) cs) : ∃ p l, cs = [p] ∧ IsB p l ∧ l.length ≤ 9223372036854775807 ∧ Bytes l := by
  simp only [WTy] at h
  rcases h with rfl | ⟨rows, rfl, h1, h2⟩
  · exact ⟨_, [], rfl, .nil, by simp, fun x h => by cases h⟩
  · obtain ⟨l, h3, h4, h5⟩ := rows_int .u8 rows (by simpa only [WTy] using h2)
    rw [h3]
    exact ⟨_, l, rfl, .sl l, by omega, fun x hx => h5 x hx⟩
theorem slice_i64 {cs : List PV} (h : WTy (.slice (.int .i64)) cs) : ∃ p l, cs = [p] ∧ IsI p l ∧ l.length ≤ 9223372036854775807 := by
  simp only [WTy] at h
  rcases h with rfl | ⟨rows, rfl, h1, h2⟩
  · exact ⟨_, [], rfl, .nil, by simp⟩
  · obtain ⟨l, h3, h4, h5⟩ := rows_int .i64 rows (by simpa only [WTy] using h2)
    rw [h3]
    exact ⟨_, l, rfl, .sl l, by omega⟩

theorem all2_3 {α β : Type} {R : α → β → Prop} {a b c : α} {l : List β} (h : All2 R [a, b, c] l) : ∃ x y z, l = [x, y, z] ∧ R a x ∧ R b y ∧ R c z := by
  match l, h with
  | [x, y, z], h => exact ⟨x, y, z, rfl, h.1, h.2.1, h.2.2.1⟩
  | [], h => exact h.elim
  | [_], h => exact h.2.elim
  | [_, _], h => exact h.2.2.elim
  | _ :: _ :: _ :: _ :: _, h => exact h.2.2.2.elim
theorem all2_4 {α β : Type} {R : α → β → Prop} {a b c d : α} {l : List β} (h : All2 R [a, b, c, d] l) : ∃ x y z w, l = [x, y, z, w] ∧ R a x ∧ R b y ∧ R c z ∧ R d w := by
  match l, h with
  | [x, y, z, w], h => exact ⟨x, y, z, w, rfl, h.1, h.2.1, h.2.2.1, h.2.2.2.1⟩
  | [], h => exact h.elim
  | [_], h => exact h.2.elim
  | [_, _], h => exact h.2.2.elim
  | [_, _, _], h => exact h.2.2.2.elim
  | _ :: _ :: _ :: _ :: _ :: _, h => exact h.2.2.2.2.elim
theorem all2_5 {α β : Type} {R : α → β → Prop} {a b c d e : α} {l : List β} (h : All2 R [a, b, c, d, e] l) : ∃ x y z w v, l = [x, y, z, w, v] ∧ R a x ∧ R b y ∧ R c z ∧ R d w ∧ R e v := by
  match l, h with
  | [x, y, z, w, v], h => exact ⟨x, y, z, w, v, rfl, h.1, h.2.1, h.2.2.1, h.2.2.2.1, h.2.2.2.2.1⟩
  | [], h => exact h.elim
  | [_], h => exact h.2.elim
  | [_, _], h => exact h.2.2.elim
  | [_, _, _], h => exact h.2.2.2.elim
  | [_, _, _, _], h => exact h.2.2.2.2.elim
  | _ :: _ :: _ :: _ :: _ :: _ :: _, h => exact h.2.2.2.2.2.elim
end Go.Proofs.Ytcngkdickmahhaa
