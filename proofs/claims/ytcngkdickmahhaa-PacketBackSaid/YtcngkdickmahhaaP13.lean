/- The law of PacketBack, on the pure machine. -/
import Derived.Test.YtcngkdickmahhaaP12
namespace Go.Proofs.Ytcngkdickmahhaa
set_option maxRecDepth 100000
set_option linter.unusedVariables false
set_option linter.unusedSimpArgs false

theorem padL_len {first : Bool} {l : List Int} (h : l.length ≤ (if first then 57 else 59)) : (padL first l).length = (if first then 57 else 59) := by
  unfold padL; cases first <;> simp at h ⊢ <;> omega
theorem valid_pad {first : Bool} {cmd len seq : Int} {l : List Int} (h : validS first cmd len seq l.length = 0) : validS first cmd len seq (padL first l).length = 0 := by
  rw [padL_len (valid_len h)]
  unfold validS at h ⊢
  cases first <;> simp only [Bool.false_eq_true, if_false, if_true] at h ⊢ <;> (repeat' split at h) <;> simp_all
theorem encL_pad {ch : Int} {first : Bool} {cmd len seq : Int} {l : List Int} (h : validS first cmd len seq l.length = 0) : encL ch first cmd len seq (padL first l) = encL ch first cmd len seq l := by
  have h2 := padL_len (valid_len h)
  unfold encL
  rw [h2, Nat.sub_self, List.replicate_zero, List.append_nil, List.append_assoc]; rfl
theorem padL_take (first : Bool) (l : List Int) : (padL first l).take l.length = l := by simp [padL]
theorem padL_zero {first : Bool} {l : List Int} {k : Nat} (h : l.length ≤ k) : (padL first l).getD k 0 = 0 := by
  unfold padL
  rw [List.getD_eq_getElem?_getD, List.getElem?_append_right h, List.getElem?_replicate]
  generalize (if first = true then 57 else 59) - l.length = m
  split <;> rfl
theorem padL_bytes {first : Bool} {l : List Int} (h : Bytes l) : Bytes (padL first l) := h.app fun x hx => by rw [List.eq_of_mem_replicate hx]; decide
theorem callE {F : Fns} {ch : Int} {first : Bool} {cmd len seq : Int} {data : PV} {l : List Int} {K : Ans → Prop} (h31 : H31 F) (hd : IsB data l) (c1 : ∀ e, e ≠ 0 → K ([pP .nils, pI e], [[]])) (c2 : validS first cmd len seq l.length = 0 → K ([.c (.own true 1 (B (encL ch first cmd len seq l)) []), pI 0], [[]])) : ∃ r, F 31 [pP (pkt ch first cmd len seq data)] = some r ∧ K r := by
  rw [h31 ch first cmd len seq data l hd]
  refine ⟨_, rfl, ?_⟩
  by_cases h : validS first cmd len seq l.length = 0
  · rw [encFine h]; exact c2 h
  · rw [encErr rfl h]; exact c1 _ h
inductive DecD (l : List Int) : Prop
  | err (e : Int) (he : e ≠ 0) (h : decA l = ([pk0, pI e], [[]]))
  | ok (ch : Int) (first : Bool) (cmd len seq : Int) (m : List Int) (hm : Bytes m) (hv : validS first cmd len seq m.length = 0) (hx : encL ch first cmd len seq m = l) (h : decA l = ([pkO ch first cmd len seq m, pI 0], [[]]))
theorem decD {l : List Int} (hb : Bytes l) : DecD l := by
  have hd : ∀ k, Bytes (l.drop k) := fun k x hx => hb x (List.mem_of_mem_drop hx)
  by_cases h1 : l.length = 64
  · obtain ⟨e1, e2⟩ := enc_dec hb h1
    rcases Int.lt_trichotomy (l.getD 4 0) 128 with h | h | h
    · exact .ok _ _ _ _ _ _ (hd _) (e1 h).1 (e1 h).2 (decA4 h1 h)
    · exact .err _ (by decide) (decA3 h1 h)
    · exact .ok _ _ _ _ _ _ (hd _) (e2 h).1 (e2 h).2 (decA5 h1 h)
  · by_cases h2 : l.length < 64
    · exact .err _ (by decide) (decA1 (by omega))
    · exact .err _ (by decide) (decA2 (by omega))
theorem callDD {F : Fns} {l : List Int} {K : Ans → Prop} (h26 : H26 F) (hb : Bytes l) (c1 : ∀ e, e ≠ 0 → K ([pk0, pI e], [[]])) (c2 : ∀ ch first cmd len seq m, Bytes m → validS first cmd len seq m.length = 0 → encL ch first cmd len seq m = l → K ([pkO ch first cmd len seq m, pI 0], [[]])) : ∃ r, F 26 [pP (.sl 1 (B l))] = some r ∧ K r := by
  rw [h26 _ l (.sl l) hb]
  refine ⟨_, rfl, ?_⟩
  rcases decD hb with ⟨e, he, h⟩ | ⟨ch, first, cmd, len, seq, m, hm, hv, hx, h⟩
  · rw [h]; exact c1 e he
  · rw [h]; exact c2 _ _ _ _ _ _ hm hv hx
theorem enc_ok {F : Fns} {ch : Int} {first : Bool} {cmd len seq : Int} {data : PV} {l m : List Int} (h31 : H31 F) (hd : IsB data l) (hv : validS first cmd len seq l.length = 0) (hm : encL ch first cmd len seq l = m) : F 31 [pP (pkt ch first cmd len seq data)] = some ([.c (.own true 1 (B m) []), pI 0], [[]]) := by
  rw [h31 ch first cmd len seq data l hd, encFine hv, hm]
theorem padLen (first : Bool) (l : List Int) : (padL first l).length = l.length + ((if first then 57 else 59) - l.length) := by simp [padL]
theorem B_get0 {first : Bool} {l : List Int} {k : Nat} (h : l.length ≤ k) (h2 : k < (padL first l).length) : (B (padL first l))[k]? = some (.int .u8 0) := by rw [B_get h2, padL_zero h]
theorem pad200 {first : Bool} {cmd len seq : Int} {l : List Int} (h : validS first cmd len seq l.length = 0) : (padL first l).length ≤ 200 := by
  rw [padL_len (valid_len h)]; split <;> omega
theorem padGe (first : Bool) (l : List Int) : l.length ≤ (padL first l).length := by rw [padLen]; omega
set_option maxHeartbeats 8000000 in
theorem packetBack_ok (F : Fns) (h18 : F 18 [] = some ([pB true], [])) (h14 : H14 F) (h23 : H23 F) (h24 : H24 F) (h26 : H26 F) (h30 : H30 F) (h31 : H31 F) (n : Int) (p : PV) (ds : List Int) (hp : IsI p ds) (hl : ds.length ≤ 9223372036854775807) : evalFn F Llim pf7 [pP p, pI n] = some ([pB true], [[], []]) := by
  refine fnK rfl ?_
  have tB : ∀ l, textPV (.sl 1 (B l)) = some (strB l) := fun l => textB (.sl l)
  repeat' ((conv => whnf); first
    | (refine Both.true ?_ ?_; (first | rfl | assumption | (focus (simp only [decide_eq_true_eq, bne_self_eq_false, beq_self_eq_true, bne_iff_ne, decide_eq_false_iff_not, beq_iff_eq, beq_eq_false_iff_ne, ne_eq, Nat.div_one, Nat.mul_one, Nat.zero_add, Int.toNat_natCast, Option.getD_some, Option.getD_none, List.length_map, List.length_append, List.length_take, List.length_drop, List.length_replicate, List.length_cons, List.length_nil, Bool.not_eq_true, Bool.not_eq_false, Bool.not_eq_true', Bool.not_eq_false', Bool.and_eq_true, Bool.or_eq_true, Bool.and_eq_false_iff, Bool.or_eq_false_iff, Int.reduceToNat, Nat.reduceMul, List.append_nil, List.nil_append, Nat.sub_zero, Int.not_lt, Int.not_le, gt_iff_lt, ge_iff_le, w_i64, w_u64, w_u32, w_u8, w_u16, w_i32, PV.cells, fits, if_true, if_false, Bool.false_eq_true, B_length, B_drop, B_take]; done)) | (focus (simp only [decide_eq_true_eq, bne_self_eq_false, beq_self_eq_true, bne_iff_ne, decide_eq_false_iff_not, beq_iff_eq, beq_eq_false_iff_ne, ne_eq, Nat.div_one, Nat.mul_one, Nat.zero_add, Int.toNat_natCast, Option.getD_some, Option.getD_none, List.length_map, List.length_append, List.length_take, List.length_drop, List.length_replicate, List.length_cons, List.length_nil, Bool.not_eq_true, Bool.not_eq_false, Bool.not_eq_true', Bool.not_eq_false', Bool.and_eq_true, Bool.or_eq_true, Bool.and_eq_false_iff, Bool.or_eq_false_iff, Int.reduceToNat, Nat.reduceMul, List.append_nil, List.nil_append, Nat.sub_zero, Int.not_lt, Int.not_le, gt_iff_lt, ge_iff_le, w_i64, w_u64, w_u32, w_u8, w_u16, w_i32, PV.cells, fits, if_true, if_false, Bool.false_eq_true, B_length, B_drop, B_take]; omega))))
    | (refine Both.false ?_ ?_; (first | rfl | assumption | (focus (simp only [decide_eq_true_eq, bne_self_eq_false, beq_self_eq_true, bne_iff_ne, decide_eq_false_iff_not, beq_iff_eq, beq_eq_false_iff_ne, ne_eq, Nat.div_one, Nat.mul_one, Nat.zero_add, Int.toNat_natCast, Option.getD_some, Option.getD_none, List.length_map, List.length_append, List.length_take, List.length_drop, List.length_replicate, List.length_cons, List.length_nil, Bool.not_eq_true, Bool.not_eq_false, Bool.not_eq_true', Bool.not_eq_false', Bool.and_eq_true, Bool.or_eq_true, Bool.and_eq_false_iff, Bool.or_eq_false_iff, Int.reduceToNat, Nat.reduceMul, List.append_nil, List.nil_append, Nat.sub_zero, Int.not_lt, Int.not_le, gt_iff_lt, ge_iff_le, w_i64, w_u64, w_u32, w_u8, w_u16, w_i32, PV.cells, fits, if_true, if_false, Bool.false_eq_true, B_length, B_drop, B_take]; done)) | (focus (simp only [decide_eq_true_eq, bne_self_eq_false, beq_self_eq_true, bne_iff_ne, decide_eq_false_iff_not, beq_iff_eq, beq_eq_false_iff_ne, ne_eq, Nat.div_one, Nat.mul_one, Nat.zero_add, Int.toNat_natCast, Option.getD_some, Option.getD_none, List.length_map, List.length_append, List.length_take, List.length_drop, List.length_replicate, List.length_cons, List.length_nil, Bool.not_eq_true, Bool.not_eq_false, Bool.not_eq_true', Bool.not_eq_false', Bool.and_eq_true, Bool.or_eq_true, Bool.and_eq_false_iff, Bool.or_eq_false_iff, Int.reduceToNat, Nat.reduceMul, List.append_nil, List.nil_append, Nat.sub_zero, Int.not_lt, Int.not_le, gt_iff_lt, ge_iff_le, w_i64, w_u64, w_u32, w_u8, w_u16, w_i32, PV.cells, fits, if_true, if_false, Bool.false_eq_true, B_length, B_drop, B_take]; omega))))
    | refine Exists.intro _ (And.intro (h18) ?_)
    | refine Exists.intro _ (And.intro (h14 _ _ (by decide) (by decide)) ?_)
    | refine Exists.intro _ (And.intro (h23 _ _ hp) ?_)
    | (refine callP (h30 p ds 0 hp hl (Nat.zero_le _)) (fun x k' hx hk' => ?_); rcases hx with ⟨ch, first, cmd, len, seq, hc⟩ | ⟨ch, first, cmd, len, seq, l, sp, hbl, hc⟩)
    | refine Exists.intro _ (And.intro (enc_ok h31 .nil (show validS false 0 0 0 0 = 0 from rfl) rfl) ?_)
    | refine Exists.intro _ (And.intro (enc_ok h31 (.sl _) (by assumption) (by assumption)) ?_)
    | refine Exists.intro _ (And.intro (enc_ok h31 (.sl _) (valid_pad (by assumption)) (encL_pad (by assumption))) ?_)
    | (refine callE h31 (by first | exact .nil | exact .sl _) (fun e he => ?_) (fun hv => ?_))
    | refine Exists.intro _ (And.intro ((h26 _ _ (.sl _) (encL_bytes (by first | assumption | exact fun x h => by cases h))).trans (congrArg some (dec_enc hc (by assumption)))) ?_)
    | (refine callBC (h24 _ _) (fun xl x hx hxl => ?_); rcases hx with _ | ⟨xl, sx, hbx⟩; (focus (exfalso; simp only [List.length_nil] at hxl; omega)))
    | (refine callDD h26 (by assumption) (fun e he => ?_) (fun ch2 first2 cmd2 len2 seq2 m hm hv2 hx2 => ?_))
    | refine Exists.intro _ (And.intro (tB _) ?_)
    | (refine Both.true ?_ ?_; (focus (simp [GArg.boxes, PX.noSl, CV.noSl, PV.noSl, noSls_B, noSls_nil]; done)))
    | (refine loop_rule (fun k : Nat => [(5, 0, SV.box [(0, .pv (.int .u32 ch)), (0, .pv (.bool first)), (0, .pv (.int .i64 cmd)), (0, .pv (.int .i64 len)), (0, .pv (.int .i64 seq)), (0, .own false 1 (B l) (B sp))]), (6, 0, .cv (.own true 1 (B (encL ch first cmd len seq l)) [])), (8, 0, SV.box [(0, .pv (.int .u32 ch)), (0, .pv (.bool first)), (0, .pv (.int .i64 cmd)), (0, .pv (.int .i64 len)), (0, .pv (.int .i64 seq)), (0, .own false 1 (B (padL first l)) [])]), (10, 0, .cv (.own true 1 (B (encL ch first cmd len seq l)) [])), (17, 0, .cv (.pv (.int .i64 k)))]) (fun k => l.length ≤ k ∧ k ≤ (padL first l).length ∧ (padL first l).length ≤ 200) (fun k => (padL first l).length - k) ?_ ?_)
    | (refine fun (k : Nat) (hk : l.length ≤ k ∧ _ ∧ _) => ?_; dsimp only at hk ⊢; obtain ⟨k1, k2, k3⟩ := hk)
    | (refine loop_rule (fun k : Nat => [(5, 0, SV.box [(0, .pv (.int .u32 ch)), (0, .pv (.bool first)), (0, .pv (.int .i64 cmd)), (0, .pv (.int .i64 len)), (0, .pv (.int .i64 seq)), (0, .pv .nils)]), (6, 0, .cv (.own true 1 (B (encL ch first cmd len seq ([] : List Int))) [])), (8, 0, SV.box [(0, .pv (.int .u32 ch)), (0, .pv (.bool first)), (0, .pv (.int .i64 cmd)), (0, .pv (.int .i64 len)), (0, .pv (.int .i64 seq)), (0, .own false 1 (B (padL first ([] : List Int))) [])]), (10, 0, .cv (.own true 1 (B (encL ch first cmd len seq ([] : List Int))) [])), (17, 0, .cv (.pv (.int .i64 k)))]) (fun k => ([] : List Int).length ≤ k ∧ k ≤ (padL first ([] : List Int)).length ∧ (padL first ([] : List Int)).length ≤ 200) (fun k => (padL first ([] : List Int)).length - k) ?_ ?_)
    | (refine fun (k : Nat) (hk : ([] : List Int).length ≤ k ∧ _ ∧ _) => ?_; dsimp only at hk ⊢; obtain ⟨k1, k2, k3⟩ := hk)
    | refine Exists.intro _ (And.intro (B_get0 k1 (by omega)) ?_)
    | (refine Both.false ?_ ?_; (focus (refine decide_eq_false ?_; simp only [B_length, Nat.div_one, padLen]; omega)))
    | refine Exists.intro _ (And.intro ((by simp only [B_take, B_drop, List.drop_zero, padL_take]; exact tB _)) ?_)
    | (refine And.intro ?_ ?_; (first | rfl | assumption | omega | (focus (simp only [decide_eq_true_eq, bne_self_eq_false, beq_self_eq_true, bne_iff_ne, decide_eq_false_iff_not, beq_iff_eq, beq_eq_false_iff_ne, ne_eq, Nat.div_one, Nat.mul_one, Nat.zero_add, Int.toNat_natCast, Option.getD_some, Option.getD_none, List.length_map, List.length_append, List.length_take, List.length_drop, List.length_replicate, List.length_cons, List.length_nil, Bool.not_eq_true, Bool.not_eq_false, Bool.not_eq_true', Bool.not_eq_false', Bool.and_eq_true, Bool.or_eq_true, Bool.and_eq_false_iff, Bool.or_eq_false_iff, Int.reduceToNat, Nat.reduceMul, List.append_nil, List.nil_append, Nat.sub_zero, Int.not_lt, Int.not_le, gt_iff_lt, ge_iff_le, w_i64, w_u64, w_u32, w_u8, w_u16, w_i32, PV.cells, fits, if_true, if_false, Bool.false_eq_true, B_length, B_drop, B_take]; done)) | (focus (simp only [decide_eq_true_eq, bne_self_eq_false, beq_self_eq_true, bne_iff_ne, decide_eq_false_iff_not, beq_iff_eq, beq_eq_false_iff_ne, ne_eq, Nat.div_one, Nat.mul_one, Nat.zero_add, Int.toNat_natCast, Option.getD_some, Option.getD_none, List.length_map, List.length_append, List.length_take, List.length_drop, List.length_replicate, List.length_cons, List.length_nil, Bool.not_eq_true, Bool.not_eq_false, Bool.not_eq_true', Bool.not_eq_false', Bool.and_eq_true, Bool.or_eq_true, Bool.and_eq_false_iff, Bool.or_eq_false_iff, Int.reduceToNat, Nat.reduceMul, List.append_nil, List.nil_append, Nat.sub_zero, Int.not_lt, Int.not_le, gt_iff_lt, ge_iff_le, w_i64, w_u64, w_u32, w_u8, w_u16, w_i32, PV.cells, fits, if_true, if_false, Bool.false_eq_true, B_length, B_drop, B_take]; omega)) | (focus (simp [decide_eq_true_eq, bne_self_eq_false, beq_self_eq_true, bne_iff_ne, decide_eq_false_iff_not, beq_iff_eq, beq_eq_false_iff_ne, ne_eq, Nat.div_one, Nat.mul_one, Nat.zero_add, Int.toNat_natCast, Option.getD_some, Option.getD_none, List.length_map, List.length_append, List.length_take, List.length_drop, List.length_replicate, List.length_cons, List.length_nil, Bool.not_eq_true, Bool.not_eq_false, Bool.not_eq_true', Bool.not_eq_false', Bool.and_eq_true, Bool.or_eq_true, Bool.and_eq_false_iff, Bool.or_eq_false_iff, Int.reduceToNat, Nat.reduceMul, List.append_nil, List.nil_append, Nat.sub_zero, Int.not_lt, Int.not_le, gt_iff_lt, ge_iff_le, w_i64, w_u64, w_u32, w_u8, w_u16, w_i32, PV.cells, fits, if_true, if_false, Bool.false_eq_true, B_length, B_drop, B_take]; done)) | (focus (simp [decide_eq_true_eq, bne_self_eq_false, beq_self_eq_true, bne_iff_ne, decide_eq_false_iff_not, beq_iff_eq, beq_eq_false_iff_ne, ne_eq, Nat.div_one, Nat.mul_one, Nat.zero_add, Int.toNat_natCast, Option.getD_some, Option.getD_none, List.length_map, List.length_append, List.length_take, List.length_drop, List.length_replicate, List.length_cons, List.length_nil, Bool.not_eq_true, Bool.not_eq_false, Bool.not_eq_true', Bool.not_eq_false', Bool.and_eq_true, Bool.or_eq_true, Bool.and_eq_false_iff, Bool.or_eq_false_iff, Int.reduceToNat, Nat.reduceMul, List.append_nil, List.nil_append, Nat.sub_zero, Int.not_lt, Int.not_le, gt_iff_lt, ge_iff_le, w_i64, w_u64, w_u32, w_u8, w_u16, w_i32, PV.cells, fits, if_true, if_false, Bool.false_eq_true, B_length, B_drop, B_take] <;> omega))))
    | refine Exists.intro _ (And.intro (by ((try simp (disch := omega) only [wi64, wu64, wu32, wu8, wu16, Int.toNat_natCast, Int.reduceToNat, Int.reduceAdd, Int.reduceSub, List.length_cons, List.length_nil, Nat.reduceAdd, Int.cast_ofNat_Int, Nat.mul_one, Nat.reduceMul, Nat.zero_add, Nat.add_zero, Nat.sub_zero, Nat.div_one, Option.getD_some, Option.getD_none, Bool.false_eq_true, if_false, if_true, minL, maxL, mn_u64, mn_i64, mn_u32, mn_u8, mn_u16, minc, mincr, Int.reducePow, Int.reduceMul, or_u32_24, or_u32_16, or_u32_8, or_i64_8, or_u64_8, List.drop_zero, PV.cells, List.append_nil, List.nil_append, B_length, B_drop, B_take, B_one, B_app]); exact rfl)) ?_)
    | (refine Both.mk (fun hb => ?_) (fun hb => ?_) <;> (try simp only [decide_eq_true_eq, bne_self_eq_false, beq_self_eq_true, bne_iff_ne, decide_eq_false_iff_not, beq_iff_eq, beq_eq_false_iff_ne, ne_eq, Nat.div_one, Nat.mul_one, Nat.zero_add, Int.toNat_natCast, Option.getD_some, Option.getD_none, List.length_map, List.length_append, List.length_take, List.length_drop, List.length_replicate, List.length_cons, List.length_nil, Bool.not_eq_true, Bool.not_eq_false, Bool.not_eq_true', Bool.not_eq_false', Bool.and_eq_true, Bool.or_eq_true, Bool.and_eq_false_iff, Bool.or_eq_false_iff, Int.reduceToNat, Nat.reduceMul, List.append_nil, List.nil_append, Nat.sub_zero, Int.not_lt, Int.not_le, gt_iff_lt, ge_iff_le, w_i64, w_u64, w_u32, w_u8, w_u16, w_i32, PV.cells, fits, if_true, if_false, Bool.false_eq_true, B_length, B_drop, B_take] at hb)))
  all_goals (try (conv => whnf))
  all_goals (try exact ⟨rfl, rfl⟩)
  all_goals (try exact ⟨l.length, ⟨Nat.le_refl _, padGe _ _, pad200 ‹_›⟩, rfl⟩)
  all_goals (try exact ⟨(0 : Nat), ⟨Nat.le_refl _, Nat.zero_le _, pad200 ‹_›⟩, rfl⟩)
  all_goals (try exact ⟨k + 1, ⟨by omega, by omega, by omega⟩, by omega, rfl⟩)
end Go.Proofs.Ytcngkdickmahhaa
