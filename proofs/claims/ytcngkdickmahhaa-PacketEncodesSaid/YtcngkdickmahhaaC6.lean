/- PacketEncodes: for any packet and any deck of numbers, the program's Encode and the reference's agree, on the packet and on one that the deck deals: the call returns true and leaves its arguments as they were. No conditions. -/
import Derived.Test.YtcngkdickmahhaaT1
namespace Go.Proofs.Ytcngkdickmahhaa
set_option maxRecDepth 100000
set_option linter.unusedSimpArgs false
set_option linter.unusedVariables false

theorem all2_2 {α β : Type} {R : α → β → Prop} {a b : α} {l : List β} (h : All2 R [a, b] l) : ∃ x y, l = [x, y] ∧ R a x ∧ R b y := by
  cases l with
  | nil => exact h.elim
  | cons x l => cases l with
    | nil => exact h.2.elim
    | cons y l => cases l with
      | nil => exact ⟨x, y, rfl, h.1, h.2.1⟩
      | cons z l => exact h.2.2.elim
theorem rows_int (k : IntKind) : ∀ rows : List (List PV), (∀ r ∈ rows, WTy (.int k) r) → ∃ l : List Int, rows.flatten = l.map (PV.int k) ∧ l.length = rows.length ∧ ∀ x ∈ l, k.min ≤ x ∧ x ≤ k.max
  | [], _ => ⟨[], rfl, rfl, fun x h => by cases h⟩
  | r :: rows, h => by
    obtain ⟨l, h1, h2, h3⟩ := rows_int k rows fun r hr => h r (List.mem_cons_of_mem _ hr)
    have h4 := h r (List.mem_cons_self ..)
    simp only [WTy] at h4
    obtain ⟨n, rfl, h5, h6⟩ := h4
    refine ⟨n :: l, by rw [List.flatten_cons, h1]; rfl, by simp [h2], fun x hx => ?_⟩
    rcases List.mem_cons.mp hx with rfl | hx
    · exact ⟨h5, h6⟩
    · exact h3 x hx
theorem slice_u8 {cs : List PV} (h : WTy (.slice (.int .u8)) cs) : ∃ p l, cs = [p] ∧ IsB p l ∧ l.length ≤ 9223372036854775807 ∧ Bytes l := by
  simp only [WTy] at h
  rcases h with rfl | ⟨rows, rfl, h1, h2⟩
  · exact ⟨_, [], rfl, .nil, by simp, fun x h => by cases h⟩
  · obtain ⟨l, h3, h4, h5⟩ := rows_int .u8 rows (by simpa only [WTy] using h2)
    rw [h3]
    exact ⟨_, l, rfl, .sl l, by omega, fun x hx => h5 x hx⟩
theorem slice_i64 {cs : List PV} (h : WTy (.slice (.int .i64)) cs) : ∃ p l, cs = [p] ∧ IsI p l ∧ l.length ≤ 9223372036854775807 := by
  simp only [WTy] at h
  rcases h with rfl | ⟨rows, rfl, h1, h2⟩
  · exact ⟨_, [], rfl, .nil, by simp⟩
  · obtain ⟨l, h3, h4, h5⟩ := rows_int .i64 rows (by simpa only [WTy] using h2)
    rw [h3]
    exact ⟨_, l, rfl, .sl l, by omega⟩

theorem encodes_law : LawOK Try.prog 6 [.struct [.int .u32, .bool, .int .i64, .int .i64, .int .i64, .slice (.int .u8)], .slice (.int .i64)] := by
  intro css h
  obtain ⟨a, b, rfl, h1, h2⟩ := all2_2 h
  obtain ⟨p, ds, rfl, hp, hl⟩ := slice_i64 h2
  rw [WTy] at h1
  simp only [WTys] at h1
  obtain ⟨c1, r1, rfl, w1, c2, r2, rfl, w2, c3, r3, rfl, w3, c4, r4, rfl, w4, c5, r5, rfl, w5, c6, r6, rfl, w6, rfl⟩ := h1
  obtain ⟨data, l, rfl, hd, _⟩ := slice_u8 w6
  simp only [WTy] at w1 w2 w3 w4 w5
  obtain ⟨ch, rfl, _⟩ := w1
  obtain ⟨first, rfl⟩ := w2
  obtain ⟨cmd, rfl, _⟩ := w3
  obtain ⟨len, rfl, _⟩ := w4
  obtain ⟨seq, rfl, _⟩ := w5
  exact ⟨[[], []], (fn_ok G29_ok progMixed Try.func6 pf6_ok Llim_ok (packetEncodes_ok G29 G29_18 G29_29 G29_23 G29_30 ch first cmd len seq data l hd p ds hp hl)).2⟩
set_option maxRecDepth 100000 in
theorem packetEncodes_lifted (law : LawOK Try.prog 6 [.struct [.int .u32, .bool, .int .i64, .int .i64, .int .i64, .slice (.int .u8)], .slice (.int .i64)]) (os : Os) (started : os.Started) (H : Type) (enc : TypeId × Value → H) :
    ReturnsInHanded {} Try.checked os 6 .any (Rows.packetEncodesSpec.pre6 enc Try.prog Try.f6 Rows.packetEncodesRow.domain false) (Rows.packetEncodesSpec.post enc Try.prog Try.f6 false true false false) :=
  law_lifted (C := Try.checked) (k := 8) (tys := [.struct [.int .u32, .bool, .int .i64, .int .i64, .int .i64, .slice (.int .u8)], .slice (.int .i64)]) progOwn started (by kernel_rfl) Try.func6 progLaid progMaps progSlices (by kernel_rfl) rfl
    (fun ds hd => by
      match ds, hd with
      | [d0, d1], _ => exact ⟨rfl, rfl, rfl⟩)
    rfl (by kernel_rfl) (by kernel_rfl) law
    (ChangeSpec.witness6 (enc := enc) (C := Try.checked) false ⟨#[], #[.agg #[.int .u32 0, .bool false, .int .i64 0, .int .i64 0, .int .i64 0, .slice none 0 0], .slice none 0 0], []⟩ 8 (by kernel_rfl) (by kernel_rfl) (by kernel_rfl) (by kernel_rfl))

set_option maxRecDepth 100000 in
theorem packetEncodes_holds (law : LawOK Try.prog 6 [.struct [.int .u32, .bool, .int .i64, .int .i64, .int .i64, .slice (.int .u8)], .slice (.int .i64)]) : Rows.PacketEncodesSaid :=
  OpenClaim.holds_of_wide 6 Try.f6 rfl rfl rfl rfl rfl rfl rfl ⟨rfl, rfl, rfl, rfl, rfl⟩ rfl rfl rfl rfl rfl (by kernel_rfl) Try.func6 (by kernel_rfl)
    (of_decide_eq_true (by kernel_rfl)) (by unfold Func.isWrapper; first | (rw [if_pos (by decide +kernel)]; kernel_rfl) | (rw [if_neg (by decide +kernel)]; exact ⟨rfl, rfl⟩))
    (fun os started H enc _ => packetEncodes_lifted law os started H enc)


/-- The statement. -/
theorem packetEncodes_proved : Rows.PacketEncodesSaid := packetEncodes_holds encodes_law
#print axioms packetEncodes_proved
end Go.Proofs.Ytcngkdickmahhaa
