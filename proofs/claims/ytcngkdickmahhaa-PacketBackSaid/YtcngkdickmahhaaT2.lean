/- The tables: each function laid on those that it calls. -/
import Derived.Test.YtcngkdickmahhaaP13
import Derived.Test.YtcngkdickmahhaaA2
namespace Go.Proofs.Ytcngkdickmahhaa
set_option maxRecDepth 100000
set_option linter.unusedSimpArgs false
set_option linter.unusedVariables false

def tblB : FuncId → Option PFn
  | 18 => some pf18
  | 20 => some pf20
  | 32 => some pf32
  | 16 => some pf16
  | _ => none
theorem tblB_ok : ∀ f pf, tblB f = some pf → ∃ fn tks h, Try.prog.funcs[f]? = some fn ∧ cFn Try.prog tks h fn = some pf := by
  intro f pf h
  unfold tblB at h
  split at h <;> cases h
  · exact ⟨_, _, _, Try.func18, pf18_ok⟩
  · exact ⟨_, _, _, Try.func20, pf20_ok⟩
  · exact ⟨_, _, _, Try.func32, pf32_ok⟩
  · exact ⟨_, _, _, Try.func16, pf16_ok⟩
def F0 : Fns := evalN tblB 100
theorem F0_ok : TableOK Try.prog F0 := evalN_ok progMixed tblB_ok 100
theorem F0_c18 : F0 18 [] = some ([pB true], []) := by kernel_rfl
noncomputable def G14 : Fns := upd F0 14 (fun xs => evalFn F0 Llim pf14 xs)
theorem G14_ok : TableOK Try.prog G14 := tab_def F0_ok progMixed Try.func14 pf14_ok
theorem G14_s (xs : List PX) : G14 14 xs = evalFn F0 Llim pf14 xs := upd_same
theorem G14_o (g : FuncId) (xs : List PX) (h : Nat.beq g 14 = false) : G14 g xs = F0 g xs := upd_other h
theorem G14_14 : H14 G14 := by
  intro n m h1 h2
  rw [G14_s]
  exact mod_ok F0 n m h1 h2
noncomputable def G15 : Fns := upd G14 15 (fun xs => evalFn G14 Llim pf15 xs)
theorem G15_ok : TableOK Try.prog G15 := tab_def G14_ok progMixed Try.func15 pf15_ok
theorem G15_s (xs : List PX) : G15 15 xs = evalFn G14 Llim pf15 xs := upd_same
theorem G15_o (g : FuncId) (xs : List PX) (h : Nat.beq g 15 = false) : G15 g xs = G14 g xs := upd_other h
theorem G15_15 : H15 G15 := by
  intro n
  rw [G15_s]
  exact size_ok G14 G14_14 n
noncomputable def G16 : Fns := upd G15 16 (fun xs => evalFn G15 Llim pf16 xs)
theorem G16_ok : TableOK Try.prog G16 := tab_def G15_ok progMixed Try.func16 pf16_ok
theorem G16_s (xs : List PX) : G16 16 xs = evalFn G15 Llim pf16 xs := upd_same
theorem G16_o (g : FuncId) (xs : List PX) (h : Nat.beq g 16 = false) : G16 g xs = G15 g xs := upd_other h
theorem G16_16 : H16 G16 := by
  intro n h1 h2
  rw [G16_s]
  exact count_ok G15 n h1 h2
noncomputable def G47 : Fns := upd G16 47 (fun xs => evalFn G16 Llim pf47 xs)
theorem G47_ok : TableOK Try.prog G47 := tab_def G16_ok progMixed Try.func47 pf47_ok
theorem G47_s (xs : List PX) : G47 47 xs = evalFn G16 Llim pf47 xs := upd_same
theorem G47_o (g : FuncId) (xs : List PX) (h : Nat.beq g 47 = false) : G47 g xs = G16 g xs := upd_other h
theorem G47_47 : H47 G47 := by
  intro ch first cmd len seq data l hd
  rw [G47_s]
  exact valid_ok G16 ch first cmd len seq data l hd
noncomputable def G31 : Fns := upd G47 31 (fun xs => evalFn G47 Llim pf31 xs)
theorem G31_ok : TableOK Try.prog G31 := tab_def G47_ok progMixed Try.func31 pf31_ok
theorem G31_s (xs : List PX) : G31 31 xs = evalFn G47 Llim pf31 xs := upd_same
theorem G31_o (g : FuncId) (xs : List PX) (h : Nat.beq g 31 = false) : G31 g xs = G47 g xs := upd_other h
theorem G31_31 : H31 G31 := by
  intro ch first cmd len seq data l hd
  rw [G31_s]
  exact encode_ok G47 G47_47 ch first cmd len seq data l hd
noncomputable def G46 : Fns := upd G31 46 (fun xs => evalFn G31 Llim pf46 xs)
theorem G46_ok : TableOK Try.prog G46 := tab_def G31_ok progMixed Try.func46 pf46_ok
theorem G46_s (xs : List PX) : G46 46 xs = evalFn G31 Llim pf46 xs := upd_same
theorem G46_o (g : FuncId) (xs : List PX) (h : Nat.beq g 46 = false) : G46 g xs = G31 g xs := upd_other h
theorem G46_46 : H46 G46 := by
  intro ch first cmd len seq data l hd
  rw [G46_s]
  exact encode2_ok G31 ch first cmd len seq data l hd
noncomputable def G62 : Fns := upd G46 62 (fun xs => evalFn G46 Llim pf62 xs)
theorem G62_ok : TableOK Try.prog G62 := tab_def G46_ok progMixed Try.func62 pf62_ok
theorem G62_s (xs : List PX) : G62 62 xs = evalFn G46 Llim pf62 xs := upd_same
theorem G62_o (g : FuncId) (xs : List PX) (h : Nat.beq g 62 = false) : G62 g xs = G46 g xs := upd_other h
theorem G62_62 : H62 G62 := by
  intro a b h1 h2
  rw [G62_s]
  exact rotl_ok G46 a b h1 h2
noncomputable def G61 : Fns := upd G62 61 (fun xs => evalFn G62 Llim pf61 xs)
theorem G61_ok : TableOK Try.prog G61 := tab_def G62_ok progMixed Try.func61 pf61_ok
theorem G61_s (xs : List PX) : G61 61 xs = evalFn G62 Llim pf61 xs := upd_same
theorem G61_o (g : FuncId) (xs : List PX) (h : Nat.beq g 61 = false) : G61 g xs = G62 g xs := upd_other h
theorem G61_61 : H61 G61 := by
  intro a b c d
  rw [G61_s]
  exact round_ok G62 G62_62 a b c d
noncomputable def G60 : Fns := upd G61 60 (fun xs => evalFn G61 Llim pf60 xs)
theorem G60_ok : TableOK Try.prog G60 := tab_def G61_ok progMixed Try.func60 pf60_ok
theorem G60_s (xs : List PX) : G60 60 xs = evalFn G61 Llim pf60 xs := upd_same
theorem G60_o (g : FuncId) (xs : List PX) (h : Nat.beq g 60 = false) : G60 g xs = G61 g xs := upd_other h
theorem G60_60 : H60 G60 := by
  intro a b l hl
  rw [G60_s]
  exact sum_ok G61 G61_61 a b l hl
noncomputable def G58 : Fns := upd G60 58 (fun xs => evalFn G60 Llim pf58 xs)
theorem G58_ok : TableOK Try.prog G58 := tab_def G60_ok progMixed Try.func58 pf58_ok
theorem G58_s (xs : List PX) : G58 58 xs = evalFn G60 Llim pf58 xs := upd_same
theorem G58_o (g : FuncId) (xs : List PX) (h : Nat.beq g 58 = false) : G58 g xs = G60 g xs := upd_other h
theorem G58_58 : H58 G58 := by
  intro a b l hl
  rw [G58_s]
  exact mac_ok G60 G60_60 a b l hl
noncomputable def G57 : Fns := upd G58 57 (fun xs => evalFn G58 Llim pf57 xs)
theorem G57_ok : TableOK Try.prog G57 := tab_def G58_ok progMixed Try.func57 pf57_ok
theorem G57_s (xs : List PX) : G57 57 xs = evalFn G58 Llim pf57 xs := upd_same
theorem G57_o (g : FuncId) (xs : List PX) (h : Nat.beq g 57 = false) : G57 g xs = G58 g xs := upd_other h
theorem G57_57 : H57 G57 := by
  intro l hl
  rw [G57_s]
  exact words_ok G58 l hl
theorem G57_58 : H58 G57 := by
  intro a b l hl
  rw [G57_o 58 _ rfl]
  exact G58_58 a b l hl
noncomputable def G45 : Fns := upd G57 45 (fun xs => evalFn G57 Llim pf45 xs)
theorem G45_ok : TableOK Try.prog G45 := tab_def G57_ok progMixed Try.func45 pf45_ok
theorem G45_s (xs : List PX) : G45 45 xs = evalFn G57 Llim pf45 xs := upd_same
theorem G45_o (g : FuncId) (xs : List PX) (h : Nat.beq g 45 = false) : G45 g xs = G57 g xs := upd_other h
theorem G45_45 : H45 G45 := by
  intro a b n hn
  rw [G45_s]
  exact stream_ok G57 G57_57 G57_58 a b n hn
noncomputable def G24 : Fns := upd G45 24 (fun xs => evalFn G45 Llim pf24 xs)
theorem G24_ok : TableOK Try.prog G24 := tab_def G45_ok progMixed Try.func24 pf24_ok
theorem G24_s (xs : List PX) : G24 24 xs = evalFn G45 Llim pf24 xs := upd_same
theorem G24_o (g : FuncId) (xs : List PX) (h : Nat.beq g 24 = false) : G24 g xs = G45 g xs := upd_other h
theorem G24_24 : H24 G24 := by
  intro s n
  rw [G24_s]
  exact bytes_ok G45 G45_45 s n
noncomputable def G23 : Fns := upd G24 23 (fun xs => evalFn G24 Llim pf23 xs)
theorem G23_ok : TableOK Try.prog G23 := tab_def G24_ok progMixed Try.func23 pf23_ok
theorem G23_s (xs : List PX) : G23 23 xs = evalFn G24 Llim pf23 xs := upd_same
theorem G23_o (g : FuncId) (xs : List PX) (h : Nat.beq g 23 = false) : G23 g xs = G24 g xs := upd_other h
theorem G23_23 : H23 G23 := by
  intro p l hp
  rw [G23_s]
  exact new_ok G24 p l hp
theorem G15_14 : H14 G15 := by
  intro n m h1 h2
  rw [G15_o 14 _ rfl]
  exact G14_14 n m h1 h2
theorem G16_14 : H14 G16 := by
  intro n m h1 h2
  rw [G16_o 14 _ rfl]
  exact G15_14 n m h1 h2
theorem G47_14 : H14 G47 := by
  intro n m h1 h2
  rw [G47_o 14 _ rfl]
  exact G16_14 n m h1 h2
theorem G31_14 : H14 G31 := by
  intro n m h1 h2
  rw [G31_o 14 _ rfl]
  exact G47_14 n m h1 h2
theorem G46_14 : H14 G46 := by
  intro n m h1 h2
  rw [G46_o 14 _ rfl]
  exact G31_14 n m h1 h2
theorem G62_14 : H14 G62 := by
  intro n m h1 h2
  rw [G62_o 14 _ rfl]
  exact G46_14 n m h1 h2
theorem G61_14 : H14 G61 := by
  intro n m h1 h2
  rw [G61_o 14 _ rfl]
  exact G62_14 n m h1 h2
theorem G60_14 : H14 G60 := by
  intro n m h1 h2
  rw [G60_o 14 _ rfl]
  exact G61_14 n m h1 h2
theorem G58_14 : H14 G58 := by
  intro n m h1 h2
  rw [G58_o 14 _ rfl]
  exact G60_14 n m h1 h2
theorem G57_14 : H14 G57 := by
  intro n m h1 h2
  rw [G57_o 14 _ rfl]
  exact G58_14 n m h1 h2
theorem G45_14 : H14 G45 := by
  intro n m h1 h2
  rw [G45_o 14 _ rfl]
  exact G57_14 n m h1 h2
theorem G24_14 : H14 G24 := by
  intro n m h1 h2
  rw [G24_o 14 _ rfl]
  exact G45_14 n m h1 h2
theorem G23_14 : H14 G23 := by
  intro n m h1 h2
  rw [G23_o 14 _ rfl]
  exact G24_14 n m h1 h2
noncomputable def G25 : Fns := upd G23 25 (fun xs => evalFn G23 Llim pf25 xs)
theorem G25_ok : TableOK Try.prog G25 := tab_def G23_ok progMixed Try.func25 pf25_ok
theorem G25_s (xs : List PX) : G25 25 xs = evalFn G23 Llim pf25 xs := upd_same
theorem G25_o (g : FuncId) (xs : List PX) (h : Nat.beq g 25 = false) : G25 g xs = G23 g xs := upd_other h
theorem G25_25 : H25 G25 := by
  intro p l k m hp hl hk h1 h2
  rw [G25_s]
  exact next_ok G23 G23_14 p l k m hp hl hk h1 h2
theorem G23_24 : H24 G23 := by
  intro s n
  rw [G23_o 24 _ rfl]
  exact G24_24 s n
theorem G25_24 : H24 G25 := by
  intro s n
  rw [G25_o 24 _ rfl]
  exact G23_24 s n
noncomputable def G30 : Fns := upd G25 30 (fun xs => evalFn G25 Llim pf30 xs)
theorem G30_ok : TableOK Try.prog G30 := tab_def G25_ok progMixed Try.func30 pf30_ok
theorem G30_s (xs : List PX) : G30 30 xs = evalFn G25 Llim pf30 xs := upd_same
theorem G30_o (g : FuncId) (xs : List PX) (h : Nat.beq g 30 = false) : G30 g xs = G25 g xs := upd_other h
theorem G30_30 : H30 G30 := by
  intro p l k hp hl hk
  rw [G30_s]
  exact packet_ok G25 G25_24 G25_25 p l k hp hl hk
noncomputable def G26 : Fns := upd G30 26 (fun xs => evalFn G30 Llim pf26 xs)
theorem G26_ok : TableOK Try.prog G26 := tab_def G30_ok progMixed Try.func26 pf26_ok
theorem G26_s (xs : List PX) : G26 26 xs = evalFn G30 Llim pf26 xs := upd_same
theorem G26_o (g : FuncId) (xs : List PX) (h : Nat.beq g 26 = false) : G26 g xs = G30 g xs := upd_other h
theorem G26_26 : H26 G26 := by
  intro p l hp hb
  rw [G26_s]
  exact decode_ok G30 p l hp hb
noncomputable def G27 : Fns := upd G26 27 (fun xs => evalFn G26 Llim pf27 xs)
theorem G27_ok : TableOK Try.prog G27 := tab_def G26_ok progMixed Try.func27 pf27_ok
theorem G27_s (xs : List PX) : G27 27 xs = evalFn G26 Llim pf27 xs := upd_same
theorem G27_o (g : FuncId) (xs : List PX) (h : Nat.beq g 27 = false) : G27 g xs = G26 g xs := upd_other h
theorem G27_27 : H27 G27 := by
  intro p l hp hb
  rw [G27_s]
  exact decode2_ok G26 p l hp hb
noncomputable def G28 : Fns := upd G27 28 (fun xs => evalFn G27 Llim pf28 xs)
theorem G28_ok : TableOK Try.prog G28 := tab_def G27_ok progMixed Try.func28 pf28_ok
theorem G28_s (xs : List PX) : G28 28 xs = evalFn G27 Llim pf28 xs := upd_same
theorem G28_o (g : FuncId) (xs : List PX) (h : Nat.beq g 28 = false) : G28 g xs = G27 g xs := upd_other h
theorem G28_28 : H28 G28 := by
  intro ch first cmd len seq data data1 l h1 h2
  rw [G28_s]
  exact same_ok G27 ch first cmd len seq data data1 l h1 h2
theorem G30_24 : H24 G30 := by
  intro s n
  rw [G30_o 24 _ rfl]
  exact G25_24 s n
theorem G26_24 : H24 G26 := by
  intro s n
  rw [G26_o 24 _ rfl]
  exact G30_24 s n
theorem G27_24 : H24 G27 := by
  intro s n
  rw [G27_o 24 _ rfl]
  exact G26_24 s n
theorem G28_24 : H24 G28 := by
  intro s n
  rw [G28_o 24 _ rfl]
  exact G27_24 s n
noncomputable def G19 : Fns := upd G28 19 (fun xs => evalFn G28 Llim pf19 xs)
theorem G19_ok : TableOK Try.prog G19 := tab_def G28_ok progMixed Try.func19 pf19_ok
theorem G19_s (xs : List PX) : G19 19 xs = evalFn G28 Llim pf19 xs := upd_same
theorem G19_o (g : FuncId) (xs : List PX) (h : Nat.beq g 19 = false) : G19 g xs = G28 g xs := upd_other h
theorem G19_19 : H19 G19 := by
  intro s n h0 h1
  rw [G19_s]
  exact long_ok G28 G28_24 s n h0 h1
noncomputable def G20 : Fns := upd G19 20 (fun xs => evalFn G19 Llim pf20 xs)
theorem G20_ok : TableOK Try.prog G20 := tab_def G19_ok progMixed Try.func20 pf20_ok
theorem G20_s (xs : List PX) : G20 20 xs = evalFn G19 Llim pf20 xs := upd_same
theorem G20_o (g : FuncId) (xs : List PX) (h : Nat.beq g 20 = false) : G20 g xs = G19 g xs := upd_other h
theorem G20_20 : H20 G20 := by
  intro ch cmd p l hp
  rw [G20_s]
  exact split_ok G19 ch cmd p l hp
noncomputable def G21 : Fns := upd G20 21 (fun xs => evalFn G20 Llim pf21 xs)
theorem G21_ok : TableOK Try.prog G21 := tab_def G20_ok progMixed Try.func21 pf21_ok
theorem G21_s (xs : List PX) : G21 21 xs = evalFn G20 Llim pf21 xs := upd_same
theorem G21_o (g : FuncId) (xs : List PX) (h : Nat.beq g 21 = false) : G21 g xs = G20 g xs := upd_other h
theorem G21_21 : H21 G21 := by
  intro ch cmd p l hp
  rw [G21_s]
  exact split2_ok G20 ch cmd p l hp
theorem G19_28 : H28 G19 := by
  intro ch first cmd len seq data data1 l h1 h2
  rw [G19_o 28 _ rfl]
  exact G28_28 ch first cmd len seq data data1 l h1 h2
theorem G20_28 : H28 G20 := by
  intro ch first cmd len seq data data1 l h1 h2
  rw [G20_o 28 _ rfl]
  exact G19_28 ch first cmd len seq data data1 l h1 h2
theorem G21_28 : H28 G21 := by
  intro ch first cmd len seq data data1 l h1 h2
  rw [G21_o 28 _ rfl]
  exact G20_28 ch first cmd len seq data data1 l h1 h2
noncomputable def G22 : Fns := upd G21 22 (fun xs => evalFn G21 Llim pf22 xs)
theorem G22_ok : TableOK Try.prog G22 := tab_def G21_ok progMixed Try.func22 pf22_ok
theorem G22_s (xs : List PX) : G22 22 xs = evalFn G21 Llim pf22 xs := upd_same
theorem G22_o (g : FuncId) (xs : List PX) (h : Nat.beq g 22 = false) : G22 g xs = G21 g xs := upd_other h
theorem G22_22 : H22 G22 := by
  intro p q L hp hq hl
  rw [G22_s]
  exact sames_ok G21 G21_28 p q L hp hq hl
theorem G25_14 : H14 G25 := by
  intro n m h1 h2
  rw [G25_o 14 _ rfl]
  exact G23_14 n m h1 h2
theorem G30_14 : H14 G30 := by
  intro n m h1 h2
  rw [G30_o 14 _ rfl]
  exact G25_14 n m h1 h2
theorem G26_14 : H14 G26 := by
  intro n m h1 h2
  rw [G26_o 14 _ rfl]
  exact G30_14 n m h1 h2
theorem G27_14 : H14 G27 := by
  intro n m h1 h2
  rw [G27_o 14 _ rfl]
  exact G26_14 n m h1 h2
theorem G28_14 : H14 G28 := by
  intro n m h1 h2
  rw [G28_o 14 _ rfl]
  exact G27_14 n m h1 h2
theorem G19_14 : H14 G19 := by
  intro n m h1 h2
  rw [G19_o 14 _ rfl]
  exact G28_14 n m h1 h2
theorem G20_14 : H14 G20 := by
  intro n m h1 h2
  rw [G20_o 14 _ rfl]
  exact G19_14 n m h1 h2
theorem G21_14 : H14 G21 := by
  intro n m h1 h2
  rw [G21_o 14 _ rfl]
  exact G20_14 n m h1 h2
theorem G22_14 : H14 G22 := by
  intro n m h1 h2
  rw [G22_o 14 _ rfl]
  exact G21_14 n m h1 h2
theorem G16_15 : H15 G16 := by
  intro n
  rw [G16_o 15 _ rfl]
  exact G15_15 n
theorem G47_15 : H15 G47 := by
  intro n
  rw [G47_o 15 _ rfl]
  exact G16_15 n
theorem G31_15 : H15 G31 := by
  intro n
  rw [G31_o 15 _ rfl]
  exact G47_15 n
theorem G46_15 : H15 G46 := by
  intro n
  rw [G46_o 15 _ rfl]
  exact G31_15 n
theorem G62_15 : H15 G62 := by
  intro n
  rw [G62_o 15 _ rfl]
  exact G46_15 n
theorem G61_15 : H15 G61 := by
  intro n
  rw [G61_o 15 _ rfl]
  exact G62_15 n
theorem G60_15 : H15 G60 := by
  intro n
  rw [G60_o 15 _ rfl]
  exact G61_15 n
theorem G58_15 : H15 G58 := by
  intro n
  rw [G58_o 15 _ rfl]
  exact G60_15 n
theorem G57_15 : H15 G57 := by
  intro n
  rw [G57_o 15 _ rfl]
  exact G58_15 n
theorem G45_15 : H15 G45 := by
  intro n
  rw [G45_o 15 _ rfl]
  exact G57_15 n
theorem G24_15 : H15 G24 := by
  intro n
  rw [G24_o 15 _ rfl]
  exact G45_15 n
theorem G23_15 : H15 G23 := by
  intro n
  rw [G23_o 15 _ rfl]
  exact G24_15 n
theorem G25_15 : H15 G25 := by
  intro n
  rw [G25_o 15 _ rfl]
  exact G23_15 n
theorem G30_15 : H15 G30 := by
  intro n
  rw [G30_o 15 _ rfl]
  exact G25_15 n
theorem G26_15 : H15 G26 := by
  intro n
  rw [G26_o 15 _ rfl]
  exact G30_15 n
theorem G27_15 : H15 G27 := by
  intro n
  rw [G27_o 15 _ rfl]
  exact G26_15 n
theorem G28_15 : H15 G28 := by
  intro n
  rw [G28_o 15 _ rfl]
  exact G27_15 n
theorem G19_15 : H15 G19 := by
  intro n
  rw [G19_o 15 _ rfl]
  exact G28_15 n
theorem G20_15 : H15 G20 := by
  intro n
  rw [G20_o 15 _ rfl]
  exact G19_15 n
theorem G21_15 : H15 G21 := by
  intro n
  rw [G21_o 15 _ rfl]
  exact G20_15 n
theorem G22_15 : H15 G22 := by
  intro n
  rw [G22_o 15 _ rfl]
  exact G21_15 n
theorem G47_16 : H16 G47 := by
  intro n h1 h2
  rw [G47_o 16 _ rfl]
  exact G16_16 n h1 h2
theorem G31_16 : H16 G31 := by
  intro n h1 h2
  rw [G31_o 16 _ rfl]
  exact G47_16 n h1 h2
theorem G46_16 : H16 G46 := by
  intro n h1 h2
  rw [G46_o 16 _ rfl]
  exact G31_16 n h1 h2
theorem G62_16 : H16 G62 := by
  intro n h1 h2
  rw [G62_o 16 _ rfl]
  exact G46_16 n h1 h2
theorem G61_16 : H16 G61 := by
  intro n h1 h2
  rw [G61_o 16 _ rfl]
  exact G62_16 n h1 h2
theorem G60_16 : H16 G60 := by
  intro n h1 h2
  rw [G60_o 16 _ rfl]
  exact G61_16 n h1 h2
theorem G58_16 : H16 G58 := by
  intro n h1 h2
  rw [G58_o 16 _ rfl]
  exact G60_16 n h1 h2
theorem G57_16 : H16 G57 := by
  intro n h1 h2
  rw [G57_o 16 _ rfl]
  exact G58_16 n h1 h2
theorem G45_16 : H16 G45 := by
  intro n h1 h2
  rw [G45_o 16 _ rfl]
  exact G57_16 n h1 h2
theorem G24_16 : H16 G24 := by
  intro n h1 h2
  rw [G24_o 16 _ rfl]
  exact G45_16 n h1 h2
theorem G23_16 : H16 G23 := by
  intro n h1 h2
  rw [G23_o 16 _ rfl]
  exact G24_16 n h1 h2
theorem G25_16 : H16 G25 := by
  intro n h1 h2
  rw [G25_o 16 _ rfl]
  exact G23_16 n h1 h2
theorem G30_16 : H16 G30 := by
  intro n h1 h2
  rw [G30_o 16 _ rfl]
  exact G25_16 n h1 h2
theorem G26_16 : H16 G26 := by
  intro n h1 h2
  rw [G26_o 16 _ rfl]
  exact G30_16 n h1 h2
theorem G27_16 : H16 G27 := by
  intro n h1 h2
  rw [G27_o 16 _ rfl]
  exact G26_16 n h1 h2
theorem G28_16 : H16 G28 := by
  intro n h1 h2
  rw [G28_o 16 _ rfl]
  exact G27_16 n h1 h2
theorem G19_16 : H16 G19 := by
  intro n h1 h2
  rw [G19_o 16 _ rfl]
  exact G28_16 n h1 h2
theorem G20_16 : H16 G20 := by
  intro n h1 h2
  rw [G20_o 16 _ rfl]
  exact G19_16 n h1 h2
theorem G21_16 : H16 G21 := by
  intro n h1 h2
  rw [G21_o 16 _ rfl]
  exact G20_16 n h1 h2
theorem G22_16 : H16 G22 := by
  intro n h1 h2
  rw [G22_o 16 _ rfl]
  exact G21_16 n h1 h2
theorem G46_31 : H31 G46 := by
  intro ch first cmd len seq data l hd
  rw [G46_o 31 _ rfl]
  exact G31_31 ch first cmd len seq data l hd
theorem G62_31 : H31 G62 := by
  intro ch first cmd len seq data l hd
  rw [G62_o 31 _ rfl]
  exact G46_31 ch first cmd len seq data l hd
theorem G61_31 : H31 G61 := by
  intro ch first cmd len seq data l hd
  rw [G61_o 31 _ rfl]
  exact G62_31 ch first cmd len seq data l hd
theorem G60_31 : H31 G60 := by
  intro ch first cmd len seq data l hd
  rw [G60_o 31 _ rfl]
  exact G61_31 ch first cmd len seq data l hd
theorem G58_31 : H31 G58 := by
  intro ch first cmd len seq data l hd
  rw [G58_o 31 _ rfl]
  exact G60_31 ch first cmd len seq data l hd
theorem G57_31 : H31 G57 := by
  intro ch first cmd len seq data l hd
  rw [G57_o 31 _ rfl]
  exact G58_31 ch first cmd len seq data l hd
theorem G45_31 : H31 G45 := by
  intro ch first cmd len seq data l hd
  rw [G45_o 31 _ rfl]
  exact G57_31 ch first cmd len seq data l hd
theorem G24_31 : H31 G24 := by
  intro ch first cmd len seq data l hd
  rw [G24_o 31 _ rfl]
  exact G45_31 ch first cmd len seq data l hd
theorem G23_31 : H31 G23 := by
  intro ch first cmd len seq data l hd
  rw [G23_o 31 _ rfl]
  exact G24_31 ch first cmd len seq data l hd
theorem G25_31 : H31 G25 := by
  intro ch first cmd len seq data l hd
  rw [G25_o 31 _ rfl]
  exact G23_31 ch first cmd len seq data l hd
theorem G30_31 : H31 G30 := by
  intro ch first cmd len seq data l hd
  rw [G30_o 31 _ rfl]
  exact G25_31 ch first cmd len seq data l hd
theorem G26_31 : H31 G26 := by
  intro ch first cmd len seq data l hd
  rw [G26_o 31 _ rfl]
  exact G30_31 ch first cmd len seq data l hd
theorem G27_31 : H31 G27 := by
  intro ch first cmd len seq data l hd
  rw [G27_o 31 _ rfl]
  exact G26_31 ch first cmd len seq data l hd
theorem G28_31 : H31 G28 := by
  intro ch first cmd len seq data l hd
  rw [G28_o 31 _ rfl]
  exact G27_31 ch first cmd len seq data l hd
theorem G19_31 : H31 G19 := by
  intro ch first cmd len seq data l hd
  rw [G19_o 31 _ rfl]
  exact G28_31 ch first cmd len seq data l hd
theorem G20_31 : H31 G20 := by
  intro ch first cmd len seq data l hd
  rw [G20_o 31 _ rfl]
  exact G19_31 ch first cmd len seq data l hd
theorem G21_31 : H31 G21 := by
  intro ch first cmd len seq data l hd
  rw [G21_o 31 _ rfl]
  exact G20_31 ch first cmd len seq data l hd
theorem G22_31 : H31 G22 := by
  intro ch first cmd len seq data l hd
  rw [G22_o 31 _ rfl]
  exact G21_31 ch first cmd len seq data l hd
theorem G62_46 : H46 G62 := by
  intro ch first cmd len seq data l hd
  rw [G62_o 46 _ rfl]
  exact G46_46 ch first cmd len seq data l hd
theorem G61_46 : H46 G61 := by
  intro ch first cmd len seq data l hd
  rw [G61_o 46 _ rfl]
  exact G62_46 ch first cmd len seq data l hd
theorem G60_46 : H46 G60 := by
  intro ch first cmd len seq data l hd
  rw [G60_o 46 _ rfl]
  exact G61_46 ch first cmd len seq data l hd
theorem G58_46 : H46 G58 := by
  intro ch first cmd len seq data l hd
  rw [G58_o 46 _ rfl]
  exact G60_46 ch first cmd len seq data l hd
theorem G57_46 : H46 G57 := by
  intro ch first cmd len seq data l hd
  rw [G57_o 46 _ rfl]
  exact G58_46 ch first cmd len seq data l hd
theorem G45_46 : H46 G45 := by
  intro ch first cmd len seq data l hd
  rw [G45_o 46 _ rfl]
  exact G57_46 ch first cmd len seq data l hd
theorem G24_46 : H46 G24 := by
  intro ch first cmd len seq data l hd
  rw [G24_o 46 _ rfl]
  exact G45_46 ch first cmd len seq data l hd
theorem G23_46 : H46 G23 := by
  intro ch first cmd len seq data l hd
  rw [G23_o 46 _ rfl]
  exact G24_46 ch first cmd len seq data l hd
theorem G25_46 : H46 G25 := by
  intro ch first cmd len seq data l hd
  rw [G25_o 46 _ rfl]
  exact G23_46 ch first cmd len seq data l hd
theorem G30_46 : H46 G30 := by
  intro ch first cmd len seq data l hd
  rw [G30_o 46 _ rfl]
  exact G25_46 ch first cmd len seq data l hd
theorem G26_46 : H46 G26 := by
  intro ch first cmd len seq data l hd
  rw [G26_o 46 _ rfl]
  exact G30_46 ch first cmd len seq data l hd
theorem G27_46 : H46 G27 := by
  intro ch first cmd len seq data l hd
  rw [G27_o 46 _ rfl]
  exact G26_46 ch first cmd len seq data l hd
theorem G28_46 : H46 G28 := by
  intro ch first cmd len seq data l hd
  rw [G28_o 46 _ rfl]
  exact G27_46 ch first cmd len seq data l hd
theorem G19_46 : H46 G19 := by
  intro ch first cmd len seq data l hd
  rw [G19_o 46 _ rfl]
  exact G28_46 ch first cmd len seq data l hd
theorem G20_46 : H46 G20 := by
  intro ch first cmd len seq data l hd
  rw [G20_o 46 _ rfl]
  exact G19_46 ch first cmd len seq data l hd
theorem G21_46 : H46 G21 := by
  intro ch first cmd len seq data l hd
  rw [G21_o 46 _ rfl]
  exact G20_46 ch first cmd len seq data l hd
theorem G22_46 : H46 G22 := by
  intro ch first cmd len seq data l hd
  rw [G22_o 46 _ rfl]
  exact G21_46 ch first cmd len seq data l hd
theorem G19_24 : H24 G19 := by
  intro s n
  rw [G19_o 24 _ rfl]
  exact G28_24 s n
theorem G20_24 : H24 G20 := by
  intro s n
  rw [G20_o 24 _ rfl]
  exact G19_24 s n
theorem G21_24 : H24 G21 := by
  intro s n
  rw [G21_o 24 _ rfl]
  exact G20_24 s n
theorem G22_24 : H24 G22 := by
  intro s n
  rw [G22_o 24 _ rfl]
  exact G21_24 s n
theorem G25_23 : H23 G25 := by
  intro p l hp
  rw [G25_o 23 _ rfl]
  exact G23_23 p l hp
theorem G30_23 : H23 G30 := by
  intro p l hp
  rw [G30_o 23 _ rfl]
  exact G25_23 p l hp
theorem G26_23 : H23 G26 := by
  intro p l hp
  rw [G26_o 23 _ rfl]
  exact G30_23 p l hp
theorem G27_23 : H23 G27 := by
  intro p l hp
  rw [G27_o 23 _ rfl]
  exact G26_23 p l hp
theorem G28_23 : H23 G28 := by
  intro p l hp
  rw [G28_o 23 _ rfl]
  exact G27_23 p l hp
theorem G19_23 : H23 G19 := by
  intro p l hp
  rw [G19_o 23 _ rfl]
  exact G28_23 p l hp
theorem G20_23 : H23 G20 := by
  intro p l hp
  rw [G20_o 23 _ rfl]
  exact G19_23 p l hp
theorem G21_23 : H23 G21 := by
  intro p l hp
  rw [G21_o 23 _ rfl]
  exact G20_23 p l hp
theorem G22_23 : H23 G22 := by
  intro p l hp
  rw [G22_o 23 _ rfl]
  exact G21_23 p l hp
theorem G30_25 : H25 G30 := by
  intro p l k m hp hl hk h1 h2
  rw [G30_o 25 _ rfl]
  exact G25_25 p l k m hp hl hk h1 h2
theorem G26_25 : H25 G26 := by
  intro p l k m hp hl hk h1 h2
  rw [G26_o 25 _ rfl]
  exact G30_25 p l k m hp hl hk h1 h2
theorem G27_25 : H25 G27 := by
  intro p l k m hp hl hk h1 h2
  rw [G27_o 25 _ rfl]
  exact G26_25 p l k m hp hl hk h1 h2
theorem G28_25 : H25 G28 := by
  intro p l k m hp hl hk h1 h2
  rw [G28_o 25 _ rfl]
  exact G27_25 p l k m hp hl hk h1 h2
theorem G19_25 : H25 G19 := by
  intro p l k m hp hl hk h1 h2
  rw [G19_o 25 _ rfl]
  exact G28_25 p l k m hp hl hk h1 h2
theorem G20_25 : H25 G20 := by
  intro p l k m hp hl hk h1 h2
  rw [G20_o 25 _ rfl]
  exact G19_25 p l k m hp hl hk h1 h2
theorem G21_25 : H25 G21 := by
  intro p l k m hp hl hk h1 h2
  rw [G21_o 25 _ rfl]
  exact G20_25 p l k m hp hl hk h1 h2
theorem G22_25 : H25 G22 := by
  intro p l k m hp hl hk h1 h2
  rw [G22_o 25 _ rfl]
  exact G21_25 p l k m hp hl hk h1 h2
theorem G26_30 : H30 G26 := by
  intro p l k hp hl hk
  rw [G26_o 30 _ rfl]
  exact G30_30 p l k hp hl hk
theorem G27_30 : H30 G27 := by
  intro p l k hp hl hk
  rw [G27_o 30 _ rfl]
  exact G26_30 p l k hp hl hk
theorem G28_30 : H30 G28 := by
  intro p l k hp hl hk
  rw [G28_o 30 _ rfl]
  exact G27_30 p l k hp hl hk
theorem G19_30 : H30 G19 := by
  intro p l k hp hl hk
  rw [G19_o 30 _ rfl]
  exact G28_30 p l k hp hl hk
theorem G20_30 : H30 G20 := by
  intro p l k hp hl hk
  rw [G20_o 30 _ rfl]
  exact G19_30 p l k hp hl hk
theorem G21_30 : H30 G21 := by
  intro p l k hp hl hk
  rw [G21_o 30 _ rfl]
  exact G20_30 p l k hp hl hk
theorem G22_30 : H30 G22 := by
  intro p l k hp hl hk
  rw [G22_o 30 _ rfl]
  exact G21_30 p l k hp hl hk
theorem G27_26 : H26 G27 := by
  intro p l hp hb
  rw [G27_o 26 _ rfl]
  exact G26_26 p l hp hb
theorem G28_26 : H26 G28 := by
  intro p l hp hb
  rw [G28_o 26 _ rfl]
  exact G27_26 p l hp hb
theorem G19_26 : H26 G19 := by
  intro p l hp hb
  rw [G19_o 26 _ rfl]
  exact G28_26 p l hp hb
theorem G20_26 : H26 G20 := by
  intro p l hp hb
  rw [G20_o 26 _ rfl]
  exact G19_26 p l hp hb
theorem G21_26 : H26 G21 := by
  intro p l hp hb
  rw [G21_o 26 _ rfl]
  exact G20_26 p l hp hb
theorem G22_26 : H26 G22 := by
  intro p l hp hb
  rw [G22_o 26 _ rfl]
  exact G21_26 p l hp hb
theorem G28_27 : H27 G28 := by
  intro p l hp hb
  rw [G28_o 27 _ rfl]
  exact G27_27 p l hp hb
theorem G19_27 : H27 G19 := by
  intro p l hp hb
  rw [G19_o 27 _ rfl]
  exact G28_27 p l hp hb
theorem G20_27 : H27 G20 := by
  intro p l hp hb
  rw [G20_o 27 _ rfl]
  exact G19_27 p l hp hb
theorem G21_27 : H27 G21 := by
  intro p l hp hb
  rw [G21_o 27 _ rfl]
  exact G20_27 p l hp hb
theorem G22_27 : H27 G22 := by
  intro p l hp hb
  rw [G22_o 27 _ rfl]
  exact G21_27 p l hp hb
theorem G22_28 : H28 G22 := by
  intro ch first cmd len seq data data1 l h1 h2
  rw [G22_o 28 _ rfl]
  exact G21_28 ch first cmd len seq data data1 l h1 h2
theorem G20_19 : H19 G20 := by
  intro s n h0 h1
  rw [G20_o 19 _ rfl]
  exact G19_19 s n h0 h1
theorem G21_19 : H19 G21 := by
  intro s n h0 h1
  rw [G21_o 19 _ rfl]
  exact G20_19 s n h0 h1
theorem G22_19 : H19 G22 := by
  intro s n h0 h1
  rw [G22_o 19 _ rfl]
  exact G21_19 s n h0 h1
theorem G21_20 : H20 G21 := by
  intro ch cmd p l hp
  rw [G21_o 20 _ rfl]
  exact G20_20 ch cmd p l hp
theorem G22_20 : H20 G22 := by
  intro ch cmd p l hp
  rw [G22_o 20 _ rfl]
  exact G21_20 ch cmd p l hp
theorem G22_21 : H21 G22 := by
  intro ch cmd p l hp
  rw [G22_o 21 _ rfl]
  exact G21_21 ch cmd p l hp
theorem G14_c18 : G14 18 [] = some ([pB true], []) := by rw [G14_o 18 _ rfl]; exact F0_c18
theorem G15_c18 : G15 18 [] = some ([pB true], []) := by rw [G15_o 18 _ rfl]; exact G14_c18
theorem G16_c18 : G16 18 [] = some ([pB true], []) := by rw [G16_o 18 _ rfl]; exact G15_c18
theorem G47_c18 : G47 18 [] = some ([pB true], []) := by rw [G47_o 18 _ rfl]; exact G16_c18
theorem G31_c18 : G31 18 [] = some ([pB true], []) := by rw [G31_o 18 _ rfl]; exact G47_c18
theorem G46_c18 : G46 18 [] = some ([pB true], []) := by rw [G46_o 18 _ rfl]; exact G31_c18
theorem G62_c18 : G62 18 [] = some ([pB true], []) := by rw [G62_o 18 _ rfl]; exact G46_c18
theorem G61_c18 : G61 18 [] = some ([pB true], []) := by rw [G61_o 18 _ rfl]; exact G62_c18
theorem G60_c18 : G60 18 [] = some ([pB true], []) := by rw [G60_o 18 _ rfl]; exact G61_c18
theorem G58_c18 : G58 18 [] = some ([pB true], []) := by rw [G58_o 18 _ rfl]; exact G60_c18
theorem G57_c18 : G57 18 [] = some ([pB true], []) := by rw [G57_o 18 _ rfl]; exact G58_c18
theorem G45_c18 : G45 18 [] = some ([pB true], []) := by rw [G45_o 18 _ rfl]; exact G57_c18
theorem G24_c18 : G24 18 [] = some ([pB true], []) := by rw [G24_o 18 _ rfl]; exact G45_c18
theorem G23_c18 : G23 18 [] = some ([pB true], []) := by rw [G23_o 18 _ rfl]; exact G24_c18
theorem G25_c18 : G25 18 [] = some ([pB true], []) := by rw [G25_o 18 _ rfl]; exact G23_c18
theorem G30_c18 : G30 18 [] = some ([pB true], []) := by rw [G30_o 18 _ rfl]; exact G25_c18
theorem G26_c18 : G26 18 [] = some ([pB true], []) := by rw [G26_o 18 _ rfl]; exact G30_c18
theorem G27_c18 : G27 18 [] = some ([pB true], []) := by rw [G27_o 18 _ rfl]; exact G26_c18
theorem G28_c18 : G28 18 [] = some ([pB true], []) := by rw [G28_o 18 _ rfl]; exact G27_c18
theorem G19_c18 : G19 18 [] = some ([pB true], []) := by rw [G19_o 18 _ rfl]; exact G28_c18
theorem G20_c18 : G20 18 [] = some ([pB true], []) := by rw [G20_o 18 _ rfl]; exact G19_c18
theorem G21_c18 : G21 18 [] = some ([pB true], []) := by rw [G21_o 18 _ rfl]; exact G20_c18
theorem G22_c18 : G22 18 [] = some ([pB true], []) := by rw [G22_o 18 _ rfl]; exact G21_c18
/-- The last table. -/
noncomputable abbrev GT : Fns := G22
theorem GT_ok : TableOK Try.prog GT := G22_ok
theorem GT_14 : H14 GT := G22_14
theorem GT_15 : H15 GT := G22_15
theorem GT_16 : H16 GT := G22_16
theorem GT_31 : H31 GT := G22_31
theorem GT_46 : H46 GT := G22_46
theorem GT_24 : H24 GT := G22_24
theorem GT_23 : H23 GT := G22_23
theorem GT_25 : H25 GT := G22_25
theorem GT_30 : H30 GT := G22_30
theorem GT_26 : H26 GT := G22_26
theorem GT_27 : H27 GT := G22_27
theorem GT_28 : H28 GT := G22_28
theorem GT_19 : H19 GT := G22_19
theorem GT_20 : H20 GT := G22_20
theorem GT_21 : H21 GT := G22_21
theorem GT_22 : H22 GT := G22_22
theorem GT_c18 : GT 18 [] = some ([pB true], []) := G22_c18
end Go.Proofs.Ytcngkdickmahhaa
