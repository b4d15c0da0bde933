/- Encode and Decode, one behind the other. -/
import Derived.Test.YtcngkdickmahhaaP11
namespace Go.Proofs.Ytcngkdickmahhaa
set_option maxRecDepth 100000
set_option linter.unusedVariables false
set_option linter.unusedSimpArgs false

theorem by8_bound (x : Int) (s : Nat) : 0 ≤ by8 x s ∧ by8 x s ≤ 255 := by unfold by8; rw [w_u8]; omega
theorem hdr_bytes {ch : Int} {first : Bool} {cmd len seq : Int} : Bytes (hdr ch first cmd len seq) := by
  intro x hx
  unfold hdr at hx
  cases first
  · simp only [Bool.false_eq_true, if_false, List.mem_append, List.mem_cons, List.not_mem_nil, or_false] at hx
    rcases hx with (rfl | rfl | rfl | rfl) | rfl <;> first | exact by8_bound _ _ | (rw [w_u8]; omega)
  · simp only [if_true, List.mem_append, List.mem_cons, List.not_mem_nil, or_false] at hx
    rcases hx with (rfl | rfl | rfl | rfl) | rfl | rfl | rfl <;> first | exact by8_bound _ _ | (rw [w_u8]; omega)
theorem encL_bytes {ch : Int} {first : Bool} {cmd len seq : Int} {l : List Int} (h : Bytes l) : Bytes (encL ch first cmd len seq l) := by
  unfold encL
  refine (hdr_bytes.app h).app fun x hx => ?_
  rw [List.eq_of_mem_replicate hx]; decide
def padL (first : Bool) (l : List Int) : List Int := l ++ List.replicate ((if first then 57 else 59) - l.length) 0
theorem valid_len {first : Bool} {cmd len seq : Int} {l : List Int} (h : validS first cmd len seq l.length = 0) : l.length ≤ (if first then 57 else 59) := by
  unfold validS at h
  cases first <;> simp only [Bool.false_eq_true, if_false, if_true] at h ⊢ <;> (repeat' split at h) <;> omega
theorem valid_num {first : Bool} {cmd len seq : Int} {n : Nat} (h : validS first cmd len seq n = 0) : (first = true → 1 ≤ cmd ∧ cmd ≤ 127 ∧ 0 ≤ len ∧ len ≤ 65535 ∧ seq = 0) ∧ (first = false → cmd = 0 ∧ len = 0 ∧ 0 ≤ seq ∧ seq ≤ 127) := by
  unfold validS at h
  cases first <;> simp only [Bool.false_eq_true, if_false, if_true] at h <;> (repeat' split at h) <;> simp at h ⊢ <;> omega
theorem encL_length {ch : Int} {first : Bool} {cmd len seq : Int} {l : List Int} (h : validS first cmd len seq l.length = 0) : (encL ch first cmd len seq l).length = 64 := by
  have := valid_len h
  unfold encL hdr
  cases first <;> simp at this ⊢ <;> omega
theorem by8_eq {x : Int} {s : Nat} : by8 x s = (x / 2 ^ s) % 256 := by
  unfold by8
  rw [w_u8, Int.fdiv_eq_ediv_of_nonneg _ (by exact Int.pow_nonneg (by decide))]
/-- A packet that is encoded is decoded again. -/
theorem dec_enc {ch : Int} {first : Bool} {cmd len seq : Int} {l : List Int} (hc : 0 ≤ ch ∧ ch ≤ 4294967295) (h : validS first cmd len seq l.length = 0) : decA (encL ch first cmd len seq l) = ([pkO ch first cmd len seq (padL first l), pI 0], [[]]) := by
  have hl := encL_length (ch := ch) h
  obtain ⟨v1, v2⟩ := valid_num h
  cases first
  · obtain ⟨rfl, rfl, s1, s2⟩ := v2 rfl
    have e : encL ch false 0 0 seq l = by8 ch 24 :: by8 ch 16 :: by8 ch 8 :: IntKind.u8.wrap ch :: IntKind.u8.wrap seq :: padL false l := by
      simp [encL, hdr, padL]
    rw [decA4 hl (by rw [e]; simp [w_u8]; omega)]
    rw [e]
    have c1 : chS (by8 ch 24 :: by8 ch 16 :: by8 ch 8 :: IntKind.u8.wrap ch :: IntKind.u8.wrap seq :: padL false l) = ch := by
      simp [chS, by8_eq, w_u8]; omega
    rw [c1]
    simp [w_u8]; omega
  · obtain ⟨c1, c2, l1, l2, rfl⟩ := v1 rfl
    have e : encL ch true cmd len 0 l = by8 ch 24 :: by8 ch 16 :: by8 ch 8 :: IntKind.u8.wrap ch :: IntKind.u8.wrap (IntKind.i64.wrap (128 + cmd)) :: by8 len 8 :: IntKind.u8.wrap len :: padL true l := by
      simp [encL, hdr, padL]
    have w1 : IntKind.u8.wrap (IntKind.i64.wrap (128 + cmd)) = 128 + cmd := by rw [wi64 (by omega) (by omega), w_u8]; omega
    rw [decA5 hl (by rw [e]; simp [w1]; omega)]
    rw [e]
    have c1 : chS (by8 ch 24 :: by8 ch 16 :: by8 ch 8 :: IntKind.u8.wrap ch :: IntKind.u8.wrap (IntKind.i64.wrap (128 + cmd)) :: by8 len 8 :: IntKind.u8.wrap len :: padL true l) = ch := by
      simp [chS, by8_eq, w_u8]; omega
    rw [c1]
    simp [w1, by8_eq, w_u8]; omega
/-- What is decoded is encoded again. -/
theorem enc_dec {x : List Int} (hb : Bytes x) (hl : x.length = 64) :
    (x.getD 4 0 < 128 → validS false 0 0 (x.getD 4 0) (x.drop 5).length = 0 ∧ encL (chS x) false 0 0 (x.getD 4 0) (x.drop 5) = x) ∧
    (128 < x.getD 4 0 → validS true (x.getD 4 0 - 128) (x.getD 5 0 * 256 + x.getD 6 0) 0 (x.drop 7).length = 0 ∧ encL (chS x) true (x.getD 4 0 - 128) (x.getD 5 0 * 256 + x.getD 6 0) 0 (x.drop 7) = x) := by
  match x, hl with
  | a :: b :: c :: d :: e :: f :: g :: r, hl =>
    have hr : r.length = 57 := by simpa using hl
    have ha := hb a (by simp)
    have hb' := hb b (by simp)
    have hc := hb c (by simp)
    have hd := hb d (by simp)
    have he := hb e (by simp)
    have hf := hb f (by simp)
    have hg := hb g (by simp)
    constructor
    · intro h
      have h : e < 128 := by simpa using h
      constructor
      · simp only [validS, List.drop_succ_cons, List.drop_zero, List.length_cons, hr]
        simp; omega
      · simp [encL, hdr, chS, by8_eq, w_u8, hr]; omega
    · intro h
      have h : 128 < e := by simpa using h
      constructor
      · simp only [validS, List.drop_succ_cons, List.drop_zero, List.length_cons, hr]
        simp; omega
      · have w1 : IntKind.u8.wrap (IntKind.i64.wrap (128 + (e - 128))) = e := by rw [wi64 (by omega) (by omega), w_u8]; omega
        simp [encL, hdr, chS, by8_eq, w_u8, hr, w1] at *; omega
  | [], hl => simp at hl
  | [_], hl => simp at hl
  | [_, _], hl => simp at hl
  | [_, _, _], hl => simp at hl
  | [_, _, _, _], hl => simp at hl
  | [_, _, _, _, _], hl => simp at hl
  | [_, _, _, _, _, _], hl => simp at hl
end Go.Proofs.Ytcngkdickmahhaa
