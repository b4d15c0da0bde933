/- PacketCounts: for any number, the program's Count and the reference's agree on the three numbers that are made of it, and a message of two packets is split and joined again: the call returns true and leaves its argument as it was. No conditions. -/
import Derived.Test.YtcngkdickmahhaaP1
import Derived.Test.YtcngkdickmahhaaK
namespace Go.Proofs.Ytcngkdickmahhaa
set_option maxRecDepth 100000

def tbl18 : FuncId → Option PFn
  | 18 => some pf18
  | 20 => some pf20
  | 32 => some pf32
  | 16 => some pf16
  | _ => none
theorem tbl18_ok : ∀ f pf, tbl18 f = some pf → ∃ fn tks h, Try.prog.funcs[f]? = some fn ∧ cFn Try.prog tks h fn = some pf := by
  intro f pf h
  unfold tbl18 at h
  split at h <;> cases h
  · exact ⟨_, _, _, Try.func18, pf18_ok⟩
  · exact ⟨_, _, _, Try.func20, pf20_ok⟩
  · exact ⟨_, _, _, Try.func32, pf32_ok⟩
  · exact ⟨_, _, _, Try.func16, pf16_ok⟩
def F0 : Fns := evalN tbl18 100
theorem F0_ok : TableOK Try.prog F0 := evalN_ok progMixed tbl18_ok 100
theorem F0_18 : F0 18 [] = some ([pB true], []) := by kernel_rfl

inductive R14 : List PX → Ans → Prop
  | mk (n m : Int) (h1 : 0 < m) (h2 : m ≤ 4294967296) : R14 [pI n, pI m] ([pI (modS n m)], [[], []])
inductive R15 : List PX → Ans → Prop
  | mk (n : Int) : R15 [pI n] ([pI (sizeS n)], [[]])
inductive R16 : List PX → Ans → Prop
  | mk (n : Int) (h1 : -9223372036854775808 ≤ n) (h2 : n ≤ 9223372036854775807) : R16 [pI n] ([pI (countS n)], [[]])

noncomputable def F14 : Fns := upd F0 14 (ofRel R14)
theorem F14_ok : TableOK Try.prog F14 := tab_step F0_ok progMixed Try.func14 pf14_ok fun xs r h => by
  cases h with | mk n m h1 h2 => exact mod_ok _ n m h1 h2
theorem F14_14 : H14 F14 := fun n m h1 h2 => upd_same.trans (ofRel_eq (fun r h => by cases h; rfl) (.mk n m h1 h2))
noncomputable def F15 : Fns := upd F14 15 (ofRel R15)
theorem F15_ok : TableOK Try.prog F15 := tab_step F14_ok progMixed Try.func15 pf15_ok fun xs r h => by
  cases h with | mk n => exact size_ok _ F14_14 n
noncomputable def F16 : Fns := upd F15 16 (ofRel R16)
theorem F16_ok : TableOK Try.prog F16 := tab_step F15_ok progMixed Try.func16 pf16_ok fun xs r h => by
  cases h with | mk n h1 h2 => exact count_ok _ n h1 h2
noncomputable def F17 : Fns := upd F16 17 (ofRel R16)
theorem F17_ok : TableOK Try.prog F17 := tab_step F16_ok progMixed Try.func17 pf17_ok fun xs r h => by
  cases h with | mk n h1 h2 => exact count2_ok _ n h1 h2
theorem F17_14 : H14 F17 := F14_14
theorem F17_15 : H15 F17 := fun n => (upd_same (F := F14) (f := 15)).trans (ofRel_eq (fun r h => by cases h; rfl) (.mk n))
theorem F17_16 : H16 F17 := fun n h1 h2 => (upd_same (F := F15) (f := 16)).trans (ofRel_eq (fun r h => by cases h; rfl) (.mk n h1 h2))
theorem F17_17 : H17 F17 := fun n h1 h2 => (upd_same (F := F16) (f := 17)).trans (ofRel_eq (fun r h => by cases h; rfl) (.mk n h1 h2))

theorem F17_18 : F17 18 [] = some ([pB true], []) :=
  (upd_other (F := F16) rfl).trans ((upd_other (F := F15) rfl).trans ((upd_other (F := F14) rfl).trans ((upd_other (F := F0) rfl).trans F0_18)))

theorem counts_run (n : Int) (h2 : -9223372036854775808 ≤ n) (h3 : n ≤ 9223372036854775807) : CallOK Try.prog 3 [pI n] [pB true] [[]] :=
  (fn_ok F17_ok progMixed Try.func3 pf3_ok Llim_ok (counts_ok F17 F17_14 F17_15 F17_16 F17_17 F17_18 n h2 h3)).2

theorem all2_1 {α β : Type} {R : α → β → Prop} {a : α} {l : List β} (h : All2 R [a] l) : ∃ x, l = [x] ∧ R a x := by
  cases l with
  | nil => exact h.elim
  | cons x l => cases l with
    | nil => exact ⟨x, rfl, h.1⟩
    | cons y l => exact h.2.elim

theorem counts_law : LawOK Try.prog 3 [.int .i64] := by
  intro css h
  obtain ⟨cs, rfl, h1⟩ := all2_1 h
  simp only [WTy] at h1
  obtain ⟨n, rfl, h2, h3⟩ := h1
  exact ⟨[[]], counts_run n h2 h3⟩
set_option maxRecDepth 100000 in
theorem packetCounts_lifted (law : LawOK Try.prog 3 [.int .i64]) (os : Os) (started : os.Started) (H : Type) (enc : TypeId × Value → H) :
    ReturnsInHanded {} Try.checked os 3 .any (Rows.packetCountsSpec.pre6 enc Try.prog Try.f3 Rows.packetCountsRow.domain false) (Rows.packetCountsSpec.post enc Try.prog Try.f3 false true false false) :=
  law_lifted (C := Try.checked) (k := 8) (tys := [.int .i64]) progOwn started (by kernel_rfl) Try.func3 progLaid progMaps progSlices (by kernel_rfl) rfl
    (fun ds hd => by
      match ds, hd with
      | [d0], _ => exact ⟨rfl, rfl, rfl⟩)
    rfl (by kernel_rfl) (by kernel_rfl) law
    (ChangeSpec.witness6 (enc := enc) (C := Try.checked) false ⟨#[], #[.int .i64 0], []⟩ 8 (by kernel_rfl) (by kernel_rfl) (by kernel_rfl) (by kernel_rfl))

set_option maxRecDepth 100000 in
theorem packetCounts_holds (law : LawOK Try.prog 3 [.int .i64]) : Rows.PacketCountsSaid :=
  OpenClaim.holds_of_wide 3 Try.f3 rfl rfl rfl rfl rfl rfl rfl ⟨rfl, rfl, rfl, rfl, rfl⟩ rfl rfl rfl rfl rfl (by kernel_rfl) Try.func3 (by kernel_rfl)
    (of_decide_eq_true (by kernel_rfl)) (by unfold Func.isWrapper; first | (rw [if_pos (by decide +kernel)]; kernel_rfl) | (rw [if_neg (by decide +kernel)]; exact ⟨rfl, rfl⟩))
    (fun os started H enc _ => packetCounts_lifted law os started H enc)

/-- The statement. -/
theorem packetCounts_proved : Rows.PacketCountsSaid := packetCounts_holds counts_law
#print axioms packetCounts_proved
end Go.Proofs.Ytcngkdickmahhaa
