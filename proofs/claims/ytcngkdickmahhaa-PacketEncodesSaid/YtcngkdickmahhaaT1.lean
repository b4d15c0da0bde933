/- The tables: each function laid on those that it calls. -/
import Derived.Test.YtcngkdickmahhaaP6
import Derived.Test.YtcngkdickmahhaaK
namespace Go.Proofs.Ytcngkdickmahhaa
set_option maxRecDepth 100000
set_option linter.unusedSimpArgs false
set_option linter.unusedVariables false

theorem tab_def {P : Program} {F : Fns} {f : FuncId} {fn : Func} {pf : PFn} {tks : List (Nat × List Bool)} {h : List (List Nat)} (hF : TableOK P F) (hm : P.follows .mixedOrders = true) (hfn : P.funcs[f]? = some fn) (hc : cFn P tks h fn = some pf) :
    TableOK P (upd F f (fun xs => evalFn F Llim pf xs)) := by
  intro g xs rs os hg
  unfold upd at hg
  split at hg
  · rename_i hb
    obtain rfl := Nat.eq_of_beq_eq_true hb
    exact fn_ok hF hm hfn hc Llim_ok hg
  · exact hF g xs rs os hg

def tbl18 : FuncId → Option PFn
  | 18 => some pf18
  | 20 => some pf20
  | 32 => some pf32
  | 16 => some pf16
  | _ => none
theorem tbl18_ok : ∀ f pf, tbl18 f = some pf → ∃ fn tks h, Try.prog.funcs[f]? = some fn ∧ cFn Try.prog tks h fn = some pf := by
  intro f pf h
  unfold tbl18 at h
  split at h <;> cases h
  · exact ⟨_, _, _, Try.func18, pf18_ok⟩
  · exact ⟨_, _, _, Try.func20, pf20_ok⟩
  · exact ⟨_, _, _, Try.func32, pf32_ok⟩
  · exact ⟨_, _, _, Try.func16, pf16_ok⟩
def F0 : Fns := evalN tbl18 100
theorem F0_ok : TableOK Try.prog F0 := evalN_ok progMixed tbl18_ok 100
theorem F0_18 : F0 18 [] = some ([pB true], []) := by kernel_rfl

noncomputable def G14 : Fns := upd F0 14 (fun xs => evalFn F0 Llim pf14 xs)
theorem G14_ok : TableOK Try.prog G14 := tab_def F0_ok progMixed Try.func14 pf14_ok
theorem G14_s (xs : List PX) : G14 14 xs = evalFn F0 Llim pf14 xs := upd_same
theorem G14_o (g : FuncId) (xs : List PX) (h : Nat.beq g 14 = false) : G14 g xs = F0 g xs := upd_other h
theorem G14_14 : H14 G14 := by
  intro n m h1 h2
  rw [G14_s]
  exact mod_ok F0 n m h1 h2
noncomputable def G47 : Fns := upd G14 47 (fun xs => evalFn G14 Llim pf47 xs)
theorem G47_ok : TableOK Try.prog G47 := tab_def G14_ok progMixed Try.func47 pf47_ok
theorem G47_s (xs : List PX) : G47 47 xs = evalFn G14 Llim pf47 xs := upd_same
theorem G47_o (g : FuncId) (xs : List PX) (h : Nat.beq g 47 = false) : G47 g xs = G14 g xs := upd_other h
theorem G47_47 : H47 G47 := by
  intro ch first cmd len seq data l hd
  rw [G47_s]
  exact valid_ok G14 ch first cmd len seq data l hd
noncomputable def G31 : Fns := upd G47 31 (fun xs => evalFn G47 Llim pf31 xs)
theorem G31_ok : TableOK Try.prog G31 := tab_def G47_ok progMixed Try.func31 pf31_ok
theorem G31_s (xs : List PX) : G31 31 xs = evalFn G47 Llim pf31 xs := upd_same
theorem G31_o (g : FuncId) (xs : List PX) (h : Nat.beq g 31 = false) : G31 g xs = G47 g xs := upd_other h
theorem G31_31 : H31 G31 := by
  intro ch first cmd len seq data l hd
  rw [G31_s]
  exact encode_ok G47 G47_47 ch first cmd len seq data l hd
noncomputable def G46 : Fns := upd G31 46 (fun xs => evalFn G31 Llim pf46 xs)
theorem G46_ok : TableOK Try.prog G46 := tab_def G31_ok progMixed Try.func46 pf46_ok
theorem G46_s (xs : List PX) : G46 46 xs = evalFn G31 Llim pf46 xs := upd_same
theorem G46_o (g : FuncId) (xs : List PX) (h : Nat.beq g 46 = false) : G46 g xs = G31 g xs := upd_other h
theorem G46_46 : H46 G46 := by
  intro ch first cmd len seq data l hd
  rw [G46_s]
  exact encode2_ok G31 ch first cmd len seq data l hd
noncomputable def G62 : Fns := upd G46 62 (fun xs => evalFn G46 Llim pf62 xs)
theorem G62_ok : TableOK Try.prog G62 := tab_def G46_ok progMixed Try.func62 pf62_ok
theorem G62_s (xs : List PX) : G62 62 xs = evalFn G46 Llim pf62 xs := upd_same
theorem G62_o (g : FuncId) (xs : List PX) (h : Nat.beq g 62 = false) : G62 g xs = G46 g xs := upd_other h
theorem G62_62 : H62 G62 := by
  intro a b h1 h2
  rw [G62_s]
  exact rotl_ok G46 a b h1 h2
noncomputable def G61 : Fns := upd G62 61 (fun xs => evalFn G62 Llim pf61 xs)
theorem G61_ok : TableOK Try.prog G61 := tab_def G62_ok progMixed Try.func61 pf61_ok
theorem G61_s (xs : List PX) : G61 61 xs = evalFn G62 Llim pf61 xs := upd_same
theorem G61_o (g : FuncId) (xs : List PX) (h : Nat.beq g 61 = false) : G61 g xs = G62 g xs := upd_other h
theorem G61_61 : H61 G61 := by
  intro a b c d
  rw [G61_s]
  exact round_ok G62 G62_62 a b c d
noncomputable def G60 : Fns := upd G61 60 (fun xs => evalFn G61 Llim pf60 xs)
theorem G60_ok : TableOK Try.prog G60 := tab_def G61_ok progMixed Try.func60 pf60_ok
theorem G60_s (xs : List PX) : G60 60 xs = evalFn G61 Llim pf60 xs := upd_same
theorem G60_o (g : FuncId) (xs : List PX) (h : Nat.beq g 60 = false) : G60 g xs = G61 g xs := upd_other h
theorem G60_60 : H60 G60 := by
  intro a b l hl
  rw [G60_s]
  exact sum_ok G61 G61_61 a b l hl
noncomputable def G58 : Fns := upd G60 58 (fun xs => evalFn G60 Llim pf58 xs)
theorem G58_ok : TableOK Try.prog G58 := tab_def G60_ok progMixed Try.func58 pf58_ok
theorem G58_s (xs : List PX) : G58 58 xs = evalFn G60 Llim pf58 xs := upd_same
theorem G58_o (g : FuncId) (xs : List PX) (h : Nat.beq g 58 = false) : G58 g xs = G60 g xs := upd_other h
theorem G58_58 : H58 G58 := by
  intro a b l hl
  rw [G58_s]
  exact mac_ok G60 G60_60 a b l hl
noncomputable def G57 : Fns := upd G58 57 (fun xs => evalFn G58 Llim pf57 xs)
theorem G57_ok : TableOK Try.prog G57 := tab_def G58_ok progMixed Try.func57 pf57_ok
theorem G57_s (xs : List PX) : G57 57 xs = evalFn G58 Llim pf57 xs := upd_same
theorem G57_o (g : FuncId) (xs : List PX) (h : Nat.beq g 57 = false) : G57 g xs = G58 g xs := upd_other h
theorem G57_57 : H57 G57 := by
  intro l hl
  rw [G57_s]
  exact words_ok G58 l hl
theorem G57_58 : H58 G57 := by
  intro a b l hl
  rw [G57_o 58 _ rfl]
  exact G58_58 a b l hl
noncomputable def G45 : Fns := upd G57 45 (fun xs => evalFn G57 Llim pf45 xs)
theorem G45_ok : TableOK Try.prog G45 := tab_def G57_ok progMixed Try.func45 pf45_ok
theorem G45_s (xs : List PX) : G45 45 xs = evalFn G57 Llim pf45 xs := upd_same
theorem G45_o (g : FuncId) (xs : List PX) (h : Nat.beq g 45 = false) : G45 g xs = G57 g xs := upd_other h
theorem G45_45 : H45 G45 := by
  intro a b n hn
  rw [G45_s]
  exact stream_ok G57 G57_57 G57_58 a b n hn
noncomputable def G24 : Fns := upd G45 24 (fun xs => evalFn G45 Llim pf24 xs)
theorem G24_ok : TableOK Try.prog G24 := tab_def G45_ok progMixed Try.func24 pf24_ok
theorem G24_s (xs : List PX) : G24 24 xs = evalFn G45 Llim pf24 xs := upd_same
theorem G24_o (g : FuncId) (xs : List PX) (h : Nat.beq g 24 = false) : G24 g xs = G45 g xs := upd_other h
theorem G24_24 : H24 G24 := by
  intro s n
  rw [G24_s]
  exact bytes_ok G45 G45_45 s n
noncomputable def G23 : Fns := upd G24 23 (fun xs => evalFn G24 Llim pf23 xs)
theorem G23_ok : TableOK Try.prog G23 := tab_def G24_ok progMixed Try.func23 pf23_ok
theorem G23_s (xs : List PX) : G23 23 xs = evalFn G24 Llim pf23 xs := upd_same
theorem G23_o (g : FuncId) (xs : List PX) (h : Nat.beq g 23 = false) : G23 g xs = G24 g xs := upd_other h
theorem G23_23 : H23 G23 := by
  intro p l hp
  rw [G23_s]
  exact new_ok G24 p l hp
theorem G47_14 : H14 G47 := by
  intro n m h1 h2
  rw [G47_o 14 _ rfl]
  exact G14_14 n m h1 h2
theorem G31_14 : H14 G31 := by
  intro n m h1 h2
  rw [G31_o 14 _ rfl]
  exact G47_14 n m h1 h2
theorem G46_14 : H14 G46 := by
  intro n m h1 h2
  rw [G46_o 14 _ rfl]
  exact G31_14 n m h1 h2
theorem G62_14 : H14 G62 := by
  intro n m h1 h2
  rw [G62_o 14 _ rfl]
  exact G46_14 n m h1 h2
theorem G61_14 : H14 G61 := by
  intro n m h1 h2
  rw [G61_o 14 _ rfl]
  exact G62_14 n m h1 h2
theorem G60_14 : H14 G60 := by
  intro n m h1 h2
  rw [G60_o 14 _ rfl]
  exact G61_14 n m h1 h2
theorem G58_14 : H14 G58 := by
  intro n m h1 h2
  rw [G58_o 14 _ rfl]
  exact G60_14 n m h1 h2
theorem G57_14 : H14 G57 := by
  intro n m h1 h2
  rw [G57_o 14 _ rfl]
  exact G58_14 n m h1 h2
theorem G45_14 : H14 G45 := by
  intro n m h1 h2
  rw [G45_o 14 _ rfl]
  exact G57_14 n m h1 h2
theorem G24_14 : H14 G24 := by
  intro n m h1 h2
  rw [G24_o 14 _ rfl]
  exact G45_14 n m h1 h2
theorem G23_14 : H14 G23 := by
  intro n m h1 h2
  rw [G23_o 14 _ rfl]
  exact G24_14 n m h1 h2
noncomputable def G25 : Fns := upd G23 25 (fun xs => evalFn G23 Llim pf25 xs)
theorem G25_ok : TableOK Try.prog G25 := tab_def G23_ok progMixed Try.func25 pf25_ok
theorem G25_s (xs : List PX) : G25 25 xs = evalFn G23 Llim pf25 xs := upd_same
theorem G25_o (g : FuncId) (xs : List PX) (h : Nat.beq g 25 = false) : G25 g xs = G23 g xs := upd_other h
theorem G25_25 : H25 G25 := by
  intro p l k m hp hl hk h1 h2
  rw [G25_s]
  exact next_ok G23 G23_14 p l k m hp hl hk h1 h2
theorem G23_24 : H24 G23 := by
  intro s n
  rw [G23_o 24 _ rfl]
  exact G24_24 s n
theorem G25_24 : H24 G25 := by
  intro s n
  rw [G25_o 24 _ rfl]
  exact G23_24 s n
noncomputable def G30 : Fns := upd G25 30 (fun xs => evalFn G25 Llim pf30 xs)
theorem G30_ok : TableOK Try.prog G30 := tab_def G25_ok progMixed Try.func30 pf30_ok
theorem G30_s (xs : List PX) : G30 30 xs = evalFn G25 Llim pf30 xs := upd_same
theorem G30_o (g : FuncId) (xs : List PX) (h : Nat.beq g 30 = false) : G30 g xs = G25 g xs := upd_other h
theorem G30_30 : H30 G30 := by
  intro p l k hp hl hk
  rw [G30_s]
  exact packet_ok G25 G25_24 G25_25 p l k hp hl hk
theorem G46_31 : H31 G46 := by
  intro ch first cmd len seq data l hd
  rw [G46_o 31 _ rfl]
  exact G31_31 ch first cmd len seq data l hd
theorem G62_31 : H31 G62 := by
  intro ch first cmd len seq data l hd
  rw [G62_o 31 _ rfl]
  exact G46_31 ch first cmd len seq data l hd
theorem G61_31 : H31 G61 := by
  intro ch first cmd len seq data l hd
  rw [G61_o 31 _ rfl]
  exact G62_31 ch first cmd len seq data l hd
theorem G60_31 : H31 G60 := by
  intro ch first cmd len seq data l hd
  rw [G60_o 31 _ rfl]
  exact G61_31 ch first cmd len seq data l hd
theorem G58_31 : H31 G58 := by
  intro ch first cmd len seq data l hd
  rw [G58_o 31 _ rfl]
  exact G60_31 ch first cmd len seq data l hd
theorem G57_31 : H31 G57 := by
  intro ch first cmd len seq data l hd
  rw [G57_o 31 _ rfl]
  exact G58_31 ch first cmd len seq data l hd
theorem G45_31 : H31 G45 := by
  intro ch first cmd len seq data l hd
  rw [G45_o 31 _ rfl]
  exact G57_31 ch first cmd len seq data l hd
theorem G24_31 : H31 G24 := by
  intro ch first cmd len seq data l hd
  rw [G24_o 31 _ rfl]
  exact G45_31 ch first cmd len seq data l hd
theorem G23_31 : H31 G23 := by
  intro ch first cmd len seq data l hd
  rw [G23_o 31 _ rfl]
  exact G24_31 ch first cmd len seq data l hd
theorem G25_31 : H31 G25 := by
  intro ch first cmd len seq data l hd
  rw [G25_o 31 _ rfl]
  exact G23_31 ch first cmd len seq data l hd
theorem G30_31 : H31 G30 := by
  intro ch first cmd len seq data l hd
  rw [G30_o 31 _ rfl]
  exact G25_31 ch first cmd len seq data l hd
theorem G62_46 : H46 G62 := by
  intro ch first cmd len seq data l hd
  rw [G62_o 46 _ rfl]
  exact G46_46 ch first cmd len seq data l hd
theorem G61_46 : H46 G61 := by
  intro ch first cmd len seq data l hd
  rw [G61_o 46 _ rfl]
  exact G62_46 ch first cmd len seq data l hd
theorem G60_46 : H46 G60 := by
  intro ch first cmd len seq data l hd
  rw [G60_o 46 _ rfl]
  exact G61_46 ch first cmd len seq data l hd
theorem G58_46 : H46 G58 := by
  intro ch first cmd len seq data l hd
  rw [G58_o 46 _ rfl]
  exact G60_46 ch first cmd len seq data l hd
theorem G57_46 : H46 G57 := by
  intro ch first cmd len seq data l hd
  rw [G57_o 46 _ rfl]
  exact G58_46 ch first cmd len seq data l hd
theorem G45_46 : H46 G45 := by
  intro ch first cmd len seq data l hd
  rw [G45_o 46 _ rfl]
  exact G57_46 ch first cmd len seq data l hd
theorem G24_46 : H46 G24 := by
  intro ch first cmd len seq data l hd
  rw [G24_o 46 _ rfl]
  exact G45_46 ch first cmd len seq data l hd
theorem G23_46 : H46 G23 := by
  intro ch first cmd len seq data l hd
  rw [G23_o 46 _ rfl]
  exact G24_46 ch first cmd len seq data l hd
theorem G25_46 : H46 G25 := by
  intro ch first cmd len seq data l hd
  rw [G25_o 46 _ rfl]
  exact G23_46 ch first cmd len seq data l hd
theorem G30_46 : H46 G30 := by
  intro ch first cmd len seq data l hd
  rw [G30_o 46 _ rfl]
  exact G25_46 ch first cmd len seq data l hd
noncomputable def G29 : Fns := upd G30 29 (fun xs => evalFn G30 Llim pf29 xs)
theorem G29_ok : TableOK Try.prog G29 := tab_def G30_ok progMixed Try.func29 pf29_ok
theorem G29_s (xs : List PX) : G29 29 xs = evalFn G30 Llim pf29 xs := upd_same
theorem G29_o (g : FuncId) (xs : List PX) (h : Nat.beq g 29 = false) : G29 g xs = G30 g xs := upd_other h
theorem G29_29 : H29 G29 := by
  intro ch first cmd len seq data l hd
  rw [G29_s]
  exact encodes_ok G30 G30_31 G30_46 ch first cmd len seq data l hd
theorem G29_30 : H30 G29 := by
  intro p l k hp hl hk
  rw [G29_o 30 _ rfl]
  exact G30_30 p l k hp hl hk
theorem G25_23 : H23 G25 := by
  intro p l hp
  rw [G25_o 23 _ rfl]
  exact G23_23 p l hp
theorem G30_23 : H23 G30 := by
  intro p l hp
  rw [G30_o 23 _ rfl]
  exact G25_23 p l hp
theorem G29_23 : H23 G29 := by
  intro p l hp
  rw [G29_o 23 _ rfl]
  exact G30_23 p l hp
theorem G29_31 : H31 G29 := by
  intro ch first cmd len seq data l hd
  rw [G29_o 31 _ rfl]
  exact G30_31 ch first cmd len seq data l hd
theorem G29_46 : H46 G29 := by
  intro ch first cmd len seq data l hd
  rw [G29_o 46 _ rfl]
  exact G30_46 ch first cmd len seq data l hd
theorem G31_47 : H47 G31 := by
  intro ch first cmd len seq data l hd
  rw [G31_o 47 _ rfl]
  exact G47_47 ch first cmd len seq data l hd
theorem G46_47 : H47 G46 := by
  intro ch first cmd len seq data l hd
  rw [G46_o 47 _ rfl]
  exact G31_47 ch first cmd len seq data l hd
theorem G62_47 : H47 G62 := by
  intro ch first cmd len seq data l hd
  rw [G62_o 47 _ rfl]
  exact G46_47 ch first cmd len seq data l hd
theorem G61_47 : H47 G61 := by
  intro ch first cmd len seq data l hd
  rw [G61_o 47 _ rfl]
  exact G62_47 ch first cmd len seq data l hd
theorem G60_47 : H47 G60 := by
  intro ch first cmd len seq data l hd
  rw [G60_o 47 _ rfl]
  exact G61_47 ch first cmd len seq data l hd
theorem G58_47 : H47 G58 := by
  intro ch first cmd len seq data l hd
  rw [G58_o 47 _ rfl]
  exact G60_47 ch first cmd len seq data l hd
theorem G57_47 : H47 G57 := by
  intro ch first cmd len seq data l hd
  rw [G57_o 47 _ rfl]
  exact G58_47 ch first cmd len seq data l hd
theorem G45_47 : H47 G45 := by
  intro ch first cmd len seq data l hd
  rw [G45_o 47 _ rfl]
  exact G57_47 ch first cmd len seq data l hd
theorem G24_47 : H47 G24 := by
  intro ch first cmd len seq data l hd
  rw [G24_o 47 _ rfl]
  exact G45_47 ch first cmd len seq data l hd
theorem G23_47 : H47 G23 := by
  intro ch first cmd len seq data l hd
  rw [G23_o 47 _ rfl]
  exact G24_47 ch first cmd len seq data l hd
theorem G25_47 : H47 G25 := by
  intro ch first cmd len seq data l hd
  rw [G25_o 47 _ rfl]
  exact G23_47 ch first cmd len seq data l hd
theorem G30_47 : H47 G30 := by
  intro ch first cmd len seq data l hd
  rw [G30_o 47 _ rfl]
  exact G25_47 ch first cmd len seq data l hd
theorem G29_47 : H47 G29 := by
  intro ch first cmd len seq data l hd
  rw [G29_o 47 _ rfl]
  exact G30_47 ch first cmd len seq data l hd
theorem G25_14 : H14 G25 := by
  intro n m h1 h2
  rw [G25_o 14 _ rfl]
  exact G23_14 n m h1 h2
theorem G30_14 : H14 G30 := by
  intro n m h1 h2
  rw [G30_o 14 _ rfl]
  exact G25_14 n m h1 h2
theorem G29_14 : H14 G29 := by
  intro n m h1 h2
  rw [G29_o 14 _ rfl]
  exact G30_14 n m h1 h2
theorem G30_24 : H24 G30 := by
  intro s n
  rw [G30_o 24 _ rfl]
  exact G25_24 s n
theorem G29_24 : H24 G29 := by
  intro s n
  rw [G29_o 24 _ rfl]
  exact G30_24 s n
theorem G30_25 : H25 G30 := by
  intro p l k m hp hl hk h1 h2
  rw [G30_o 25 _ rfl]
  exact G25_25 p l k m hp hl hk h1 h2
theorem G29_25 : H25 G29 := by
  intro p l k m hp hl hk h1 h2
  rw [G29_o 25 _ rfl]
  exact G30_25 p l k m hp hl hk h1 h2
theorem G24_45 : H45 G24 := by
  intro a b n hn
  rw [G24_o 45 _ rfl]
  exact G45_45 a b n hn
theorem G23_45 : H45 G23 := by
  intro a b n hn
  rw [G23_o 45 _ rfl]
  exact G24_45 a b n hn
theorem G25_45 : H45 G25 := by
  intro a b n hn
  rw [G25_o 45 _ rfl]
  exact G23_45 a b n hn
theorem G30_45 : H45 G30 := by
  intro a b n hn
  rw [G30_o 45 _ rfl]
  exact G25_45 a b n hn
theorem G29_45 : H45 G29 := by
  intro a b n hn
  rw [G29_o 45 _ rfl]
  exact G30_45 a b n hn
theorem G14_18 : G14 18 [] = some ([pB true], []) := by rw [G14_o 18 _ rfl]; exact F0_18
theorem G47_18 : G47 18 [] = some ([pB true], []) := by rw [G47_o 18 _ rfl]; exact G14_18
theorem G31_18 : G31 18 [] = some ([pB true], []) := by rw [G31_o 18 _ rfl]; exact G47_18
theorem G46_18 : G46 18 [] = some ([pB true], []) := by rw [G46_o 18 _ rfl]; exact G31_18
theorem G62_18 : G62 18 [] = some ([pB true], []) := by rw [G62_o 18 _ rfl]; exact G46_18
theorem G61_18 : G61 18 [] = some ([pB true], []) := by rw [G61_o 18 _ rfl]; exact G62_18
theorem G60_18 : G60 18 [] = some ([pB true], []) := by rw [G60_o 18 _ rfl]; exact G61_18
theorem G58_18 : G58 18 [] = some ([pB true], []) := by rw [G58_o 18 _ rfl]; exact G60_18
theorem G57_18 : G57 18 [] = some ([pB true], []) := by rw [G57_o 18 _ rfl]; exact G58_18
theorem G45_18 : G45 18 [] = some ([pB true], []) := by rw [G45_o 18 _ rfl]; exact G57_18
theorem G24_18 : G24 18 [] = some ([pB true], []) := by rw [G24_o 18 _ rfl]; exact G45_18
theorem G23_18 : G23 18 [] = some ([pB true], []) := by rw [G23_o 18 _ rfl]; exact G24_18
theorem G25_18 : G25 18 [] = some ([pB true], []) := by rw [G25_o 18 _ rfl]; exact G23_18
theorem G30_18 : G30 18 [] = some ([pB true], []) := by rw [G30_o 18 _ rfl]; exact G25_18
theorem G29_18 : G29 18 [] = some ([pB true], []) := by rw [G29_o 18 _ rfl]; exact G30_18
end Go.Proofs.Ytcngkdickmahhaa
