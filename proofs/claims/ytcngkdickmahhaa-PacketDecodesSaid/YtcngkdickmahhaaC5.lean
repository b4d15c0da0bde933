/- PacketDecodes: for any bytes and any deck of numbers, the program's Decode and the reference's agree, on the bytes and on some that the deck makes: the call returns true and leaves its arguments as they were. No conditions. -/
import Derived.Test.YtcngkdickmahhaaT2
namespace Go.Proofs.Ytcngkdickmahhaa
set_option maxRecDepth 100000
set_option linter.unusedSimpArgs false
set_option linter.unusedVariables false

theorem decodes_law : LawOK Try.prog 5 [.slice (.int .u8), .slice (.int .i64)] := by
  intro css h
  obtain ⟨a, b, rfl, h1, h2⟩ := all2_2 h
  obtain ⟨p, ds, rfl, hp, hl⟩ := slice_i64 h2
  obtain ⟨d, l, rfl, hd, _, hb⟩ := slice_u8 h1
  exact ⟨[[], []], (fn_ok GT_ok progMixed Try.func5 pf5_ok Llim_ok (packetDecodes_ok GT GT_c18 GT_23 GT_24 GT_25 GT_26 GT_27 GT_28 d l hd hb p ds hp hl)).2⟩
set_option maxRecDepth 100000 in
theorem packetDecodes_lifted (law : LawOK Try.prog 5 [.slice (.int .u8), .slice (.int .i64)]) (os : Os) (started : os.Started) (H : Type) (enc : TypeId × Value → H) :
    ReturnsInHanded {} Try.checked os 5 .any (Rows.packetDecodesSpec.pre6 enc Try.prog Try.f5 Rows.packetDecodesRow.domain false) (Rows.packetDecodesSpec.post enc Try.prog Try.f5 false true false false) :=
  law_lifted (C := Try.checked) (k := 8) (tys := [.slice (.int .u8), .slice (.int .i64)]) progOwn started (by kernel_rfl) Try.func5 progLaid progMaps progSlices (by kernel_rfl) rfl
    (fun ds hd => by
      match ds, hd with
      | [d0, d1], _ => exact ⟨rfl, rfl, rfl⟩)
    rfl (by kernel_rfl) (by kernel_rfl) law
    (ChangeSpec.witness6 (enc := enc) (C := Try.checked) false ⟨#[], #[.slice none 0 0, .slice none 0 0], []⟩ 8 (by kernel_rfl) (by kernel_rfl) (by kernel_rfl) (by kernel_rfl))

set_option maxRecDepth 100000 in
theorem packetDecodes_holds (law : LawOK Try.prog 5 [.slice (.int .u8), .slice (.int .i64)]) : Rows.PacketDecodesSaid :=
  OpenClaim.holds_of_wide 5 Try.f5 rfl rfl rfl rfl rfl rfl rfl ⟨rfl, rfl, rfl, rfl, rfl⟩ rfl rfl rfl rfl rfl (by kernel_rfl) Try.func5 (by kernel_rfl)
    (of_decide_eq_true (by kernel_rfl)) (by unfold Func.isWrapper; first | (rw [if_pos (by decide +kernel)]; kernel_rfl) | (rw [if_neg (by decide +kernel)]; exact ⟨rfl, rfl⟩))
    (fun os started H enc _ => packetDecodes_lifted law os started H enc)


/-- The statement. -/
theorem packetDecodes_proved : Rows.PacketDecodesSaid := packetDecodes_holds decodes_law
#print axioms packetDecodes_proved
end Go.Proofs.Ytcngkdickmahhaa
