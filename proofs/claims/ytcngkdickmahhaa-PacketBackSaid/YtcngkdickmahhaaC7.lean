/- PacketBack: for any deck of numbers and any number, what the program encodes it decodes again, with zero bytes behind it, and what it decodes it encodes again: the call returns true and leaves its arguments as they were. No conditions. -/
import Derived.Test.YtcngkdickmahhaaT2
namespace Go.Proofs.Ytcngkdickmahhaa
set_option maxRecDepth 100000
set_option linter.unusedSimpArgs false
set_option linter.unusedVariables false

theorem back_law : LawOK Try.prog 7 [.slice (.int .i64), .int .i64] := by
  intro css h
  obtain ⟨a, b, rfl, h1, h2⟩ := all2_2 h
  obtain ⟨p, ds, rfl, hp, hl⟩ := slice_i64 h1
  simp only [WTy] at h2
  obtain ⟨n, rfl, _⟩ := h2
  exact ⟨[[], []], (fn_ok GT_ok progMixed Try.func7 pf7_ok Llim_ok (packetBack_ok GT GT_c18 GT_14 GT_23 GT_24 GT_26 GT_30 GT_31 n p ds hp hl)).2⟩
set_option maxRecDepth 100000 in
theorem packetBack_lifted (law : LawOK Try.prog 7 [.slice (.int .i64), .int .i64]) (os : Os) (started : os.Started) (H : Type) (enc : TypeId × Value → H) :
    ReturnsInHanded {} Try.checked os 7 .any (Rows.packetBackSpec.pre6 enc Try.prog Try.f7 Rows.packetBackRow.domain false) (Rows.packetBackSpec.post enc Try.prog Try.f7 false true false false) :=
  law_lifted (C := Try.checked) (k := 8) (tys := [.slice (.int .i64), .int .i64]) progOwn started (by kernel_rfl) Try.func7 progLaid progMaps progSlices (by kernel_rfl) rfl
    (fun ds hd => by
      match ds, hd with
      | [d0, d1], _ => exact ⟨rfl, rfl, rfl⟩)
    rfl (by kernel_rfl) (by kernel_rfl) law
    (ChangeSpec.witness6 (enc := enc) (C := Try.checked) false ⟨#[], #[.slice none 0 0, .int .i64 0], []⟩ 8 (by kernel_rfl) (by kernel_rfl) (by kernel_rfl) (by kernel_rfl))

set_option maxRecDepth 100000 in
theorem packetBack_holds (law : LawOK Try.prog 7 [.slice (.int .i64), .int .i64]) : Rows.PacketBackSaid :=
  OpenClaim.holds_of_wide 7 Try.f7 rfl rfl rfl rfl rfl rfl rfl ⟨rfl, rfl, rfl, rfl, rfl⟩ rfl rfl rfl rfl rfl (by kernel_rfl) Try.func7 (by kernel_rfl)
    (of_decide_eq_true (by kernel_rfl)) (by unfold Func.isWrapper; first | (rw [if_pos (by decide +kernel)]; kernel_rfl) | (rw [if_neg (by decide +kernel)]; exact ⟨rfl, rfl⟩))
    (fun os started H enc _ => packetBack_lifted law os started H enc)


/-- The statement. -/
theorem packetBack_proved : Rows.PacketBackSaid := packetBack_holds back_law
#print axioms packetBack_proved
end Go.Proofs.Ytcngkdickmahhaa
