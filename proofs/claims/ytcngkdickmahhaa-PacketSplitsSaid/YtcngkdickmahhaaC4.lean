/- PacketSplits: for any channel, command and bytes, the program's Split and the reference's agree, and their number is Count's: the call returns true and leaves its arguments as they were. No conditions. -/
import Derived.Test.YtcngkdickmahhaaT2
namespace Go.Proofs.Ytcngkdickmahhaa
set_option maxRecDepth 100000
set_option linter.unusedSimpArgs false
set_option linter.unusedVariables false

theorem splits_law : LawOK Try.prog 4 [.int .u32, .int .i64, .int .i64, .int .i64, .slice (.int .u8)] := by
  intro css h
  obtain ⟨a, b, c, d, e, rfl, h1, h2, h3, h4, h5⟩ := all2_5 h
  obtain ⟨p, l, rfl, hp, hl, _⟩ := slice_u8 h5
  simp only [WTy] at h1 h2 h3 h4
  obtain ⟨ch, rfl, _⟩ := h1
  obtain ⟨cmd, rfl, _⟩ := h2
  obtain ⟨seed, rfl, _⟩ := h3
  obtain ⟨size, rfl, _⟩ := h4
  exact ⟨[[], [], [], [], []], (fn_ok GT_ok progMixed Try.func4 pf4_ok Llim_ok (packetSplits_ok GT GT_c18 GT_14 GT_15 GT_16 GT_19 GT_20 GT_21 GT_22 ch cmd seed size p l hp hl)).2⟩
set_option maxRecDepth 100000 in
theorem packetSplits_lifted (law : LawOK Try.prog 4 [.int .u32, .int .i64, .int .i64, .int .i64, .slice (.int .u8)]) (os : Os) (started : os.Started) (H : Type) (enc : TypeId × Value → H) :
    ReturnsInHanded {} Try.checked os 4 .any (Rows.packetSplitsSpec.pre6 enc Try.prog Try.f4 Rows.packetSplitsRow.domain false) (Rows.packetSplitsSpec.post enc Try.prog Try.f4 false true false false) :=
  law_lifted (C := Try.checked) (k := 8) (tys := [.int .u32, .int .i64, .int .i64, .int .i64, .slice (.int .u8)]) progOwn started (by kernel_rfl) Try.func4 progLaid progMaps progSlices (by kernel_rfl) rfl
    (fun ds hd => by
      match ds, hd with
      | [d0, d1, d2, d3, d4], _ => exact ⟨rfl, rfl, rfl⟩)
    rfl (by kernel_rfl) (by kernel_rfl) law
    (ChangeSpec.witness6 (enc := enc) (C := Try.checked) false ⟨#[], #[.int .u32 0, .int .i64 0, .int .i64 0, .int .i64 0, .slice none 0 0], []⟩ 8 (by kernel_rfl) (by kernel_rfl) (by kernel_rfl) (by kernel_rfl))

set_option maxRecDepth 100000 in
theorem packetSplits_holds (law : LawOK Try.prog 4 [.int .u32, .int .i64, .int .i64, .int .i64, .slice (.int .u8)]) : Rows.PacketSplitsSaid :=
  OpenClaim.holds_of_wide 4 Try.f4 rfl rfl rfl rfl rfl rfl rfl ⟨rfl, rfl, rfl, rfl, rfl⟩ rfl rfl rfl rfl rfl (by kernel_rfl) Try.func4 (by kernel_rfl)
    (of_decide_eq_true (by kernel_rfl)) (by unfold Func.isWrapper; first | (rw [if_pos (by decide +kernel)]; kernel_rfl) | (rw [if_neg (by decide +kernel)]; exact ⟨rfl, rfl⟩))
    (fun os started H enc _ => packetSplits_lifted law os started H enc)


/-- The statement. -/
theorem packetSplits_proved : Rows.PacketSplitsSaid := packetSplits_holds splits_law
#print axioms packetSplits_proved
end Go.Proofs.Ytcngkdickmahhaa
