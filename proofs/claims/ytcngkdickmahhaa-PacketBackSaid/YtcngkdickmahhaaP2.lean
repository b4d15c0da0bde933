/- Packets: their bytes, Encode of the program and of the reference. -/
import Derived.Test.YtcngkdickmahhaaP1
namespace Go.Proofs.Ytcngkdickmahhaa
set_option maxRecDepth 100000
set_option linter.unusedVariables false
set_option linter.unusedSimpArgs false

def B (l : List Int) : List PV := l.map (PV.int .u8)
def Bytes (l : List Int) : Prop := ∀ x ∈ l, 0 ≤ x ∧ x ≤ 255
inductive IsB : PV → List Int → Prop
  | sl (l : List Int) : IsB (.sl 1 (B l)) l
  | nil : IsB .nils []
theorem B_length (l : List Int) : (B l).length = l.length := by simp [B]
theorem B_append (l m : List Int) : B (l ++ m) = B l ++ B m := by simp [B]
theorem B_take (l : List Int) (n : Nat) : (B l).take n = B (l.take n) := by simp [B, List.map_take]
theorem B_drop (l : List Int) (n : Nat) : (B l).drop n = B (l.drop n) := by simp [B, List.map_drop]
theorem B_get {l : List Int} {i : Nat} (h : i < l.length) : (B l)[i]? = some (.int .u8 (l.getD i 0)) := map_get _ _ _ _ h
theorem reps_rep (n : Nat) (z : PV) : reps n [z] = List.replicate n z := by
  unfold reps
  induction n with
  | zero => rfl
  | succ n ih => rw [List.replicate_succ, List.flatten_cons, ih, List.replicate_succ]; rfl
theorem B_rep (n : Nat) : List.replicate n (PV.int .u8 0) = B (List.replicate n 0) := by simp [B]
theorem IsB.row {p : PV} {l : List Int} (h : IsB p l) : (p.row false 1).map (PV.sl 1) = some (.sl 1 (B l)) := by cases h <;> rfl
theorem IsB.len {p : PV} {l : List Int} (h : IsB p l) : lenOf p = some (.int .i64 l.length) := by
  cases h
  · simp [lenOf, B]
  · rfl

abbrev pkt (ch : Int) (first : Bool) (cmd len seq : Int) (data : PV) : PV := .agg [.int .u32 ch, .bool first, .int .i64 cmd, .int .i64 len, .int .i64 seq, data]
abbrev pP (p : PV) : PX := .c (.pv p)

def validS (first : Bool) (cmd len seq : Int) (n : Nat) : Int :=
  if first then (if cmd < 1 ∨ cmd > 127 ∨ len < 0 ∨ len > 65535 then 9 else if seq ≠ 0 then 4 else if n > 57 then 8 else 0)
  else (if seq < 0 ∨ seq > 127 then 9 else if cmd ≠ 0 ∨ len ≠ 0 then 4 else if n > 59 then 8 else 0)
def H47 (F : Fns) : Prop := ∀ ch first cmd len seq data l, IsB data l → F 47 [pP (pkt ch first cmd len seq data)] = some ([pI (validS first cmd len seq l.length)], [[]])
theorem valid_ok (F : Fns) (ch : Int) (first : Bool) (cmd len seq : Int) (data : PV) (l : List Int) (hd : IsB data l) : evalFn F Llim pf47 [pP (pkt ch first cmd len seq data)] = some ([pI (validS first cmd len seq l.length)], [[]]) := by
  refine fnK rfl ?_
  repeat' ((conv => whnf); first
    | (refine Both.true ?_ ?_; (first | rfl | assumption | (focus (simp; done)) | (focus (simp [IntKind.wrap, IntKind.signed, IntKind.bits]; done)) | (focus (refine decide_eq_true ?_; omega)) | (focus (refine decide_eq_true ?_; (focus (simp [reps, PV.cells, B_length] <;> omega))))))
    | (refine Both.false ?_ ?_; (first | rfl | assumption | (focus (simp; done)) | (focus (simp [IntKind.wrap, IntKind.signed, IntKind.bits]; done)) | (focus (refine decide_eq_false ?_; omega)) | (focus (refine decide_eq_false ?_; (focus (simp [reps, PV.cells, B_length] <;> omega))))))
    | refine Exists.intro _ (And.intro (hd.len) ?_)
    | (refine And.intro ?_ ?_; (first | rfl | assumption | (focus decide) | omega | (focus (simp; done)) | (focus (simp [IntKind.wrap, IntKind.signed, IntKind.bits]; done)) | (focus (simp [reps, PV.cells, B_length] <;> omega))))
    | refine Exists.intro _ (And.intro rfl ?_)
    | refine Both.mk (fun _ => ?_) (fun _ => ?_))
  all_goals (refine ⟨?_, rfl⟩; simp_all [validS]; try omega)

def by8 (x : Int) (s : Nat) : Int := IntKind.u8.wrap (x.fdiv (2 ^ s))
def hdr (ch : Int) (first : Bool) (cmd len seq : Int) : List Int :=
  [by8 ch 24, by8 ch 16, by8 ch 8, IntKind.u8.wrap ch] ++ (if first then [IntKind.u8.wrap (IntKind.i64.wrap (128 + cmd)), by8 len 8, IntKind.u8.wrap len] else [IntKind.u8.wrap seq])
def encL (ch : Int) (first : Bool) (cmd len seq : Int) (l : List Int) : List Int :=
  hdr ch first cmd len seq ++ l ++ List.replicate ((if first then 57 else 59) - l.length) 0
def encA (ch : Int) (first : Bool) (cmd len seq : Int) (l : List Int) : Ans :=
  if validS first cmd len seq l.length = 0 then ([.c (.own true 1 (B (encL ch first cmd len seq l)) []), pI 0], [[]])
  else ([pP .nils, pI (validS first cmd len seq l.length)], [[]])
def H31 (F : Fns) : Prop := ∀ ch first cmd len seq data l, IsB data l → F 31 [pP (pkt ch first cmd len seq data)] = some (encA ch first cmd len seq l)
theorem encode_ok (F : Fns) (h47 : H47 F) (ch : Int) (first : Bool) (cmd len seq : Int) (data : PV) (l : List Int) (hd : IsB data l) : evalFn F Llim pf31 [pP (pkt ch first cmd len seq data)] = some (encA ch first cmd len seq l) := by
  unfold encA
  by_cases hv : validS first cmd len seq l.length = 0
  · rw [if_pos hv]
    refine fnK rfl ?_
    have e47 := h47 ch first cmd len seq data l hd
    rw [hv] at e47
    cases first
    · have hl : l.length ≤ 59 := by
        unfold validS at hv
        simp only [Bool.false_eq_true, if_false] at hv
        (repeat' split at hv) <;> omega
      by_cases hf : l.length = 59
      · repeat' ((conv => whnf); first
          | (refine Both.true ?_ ?_; (first | rfl | assumption | (focus (simp; done)) | (focus (simp [IntKind.wrap, IntKind.signed, IntKind.bits]; done)) | (focus (refine decide_eq_true ?_; omega)) | (focus (refine decide_eq_true ?_; (focus (simp [reps, PV.cells, B_length] <;> omega))))))
          | (refine Both.false ?_ ?_; (first | rfl | assumption | (focus (simp; done)) | (focus (simp [IntKind.wrap, IntKind.signed, IntKind.bits]; done)) | (focus (refine decide_eq_false ?_; omega)) | (focus (refine decide_eq_false ?_; (focus (simp [reps, PV.cells, B_length] <;> omega))))))
          | refine Exists.intro _ (And.intro (e47) ?_)
          | refine Exists.intro _ (And.intro (hd.row) ?_)
          | (refine And.intro ?_ ?_; (first | rfl | assumption | (focus decide) | omega | (focus (simp; done)) | (focus (simp [IntKind.wrap, IntKind.signed, IntKind.bits]; done)) | (focus (simp [reps, PV.cells, B_length] <;> omega))))
          | refine Exists.intro _ (And.intro rfl ?_)
          | refine Both.mk (fun _ => ?_) (fun _ => ?_))
        refine ⟨?_, rfl⟩
        simp [-List.reduceReplicate, encL, hdr, by8, B, reps_rep, List.drop_replicate, List.take_replicate, IntKind.bits]
        rw [List.take_of_length_le (by simp; omega), hf]
        simp
      · repeat' ((conv => whnf); first
          | (refine Both.true ?_ ?_; (first | rfl | assumption | (focus (simp; done)) | (focus (simp [IntKind.wrap, IntKind.signed, IntKind.bits]; done)) | (focus (refine decide_eq_true ?_; omega)) | (focus (refine decide_eq_true ?_; (focus (simp [reps, PV.cells, B_length] <;> omega))))))
          | (refine Both.false ?_ ?_; (first | rfl | assumption | (focus (simp; done)) | (focus (simp [IntKind.wrap, IntKind.signed, IntKind.bits]; done)) | (focus (refine decide_eq_false ?_; omega)) | (focus (refine decide_eq_false ?_; (focus (simp [reps, PV.cells, B_length] <;> omega))))))
          | refine Exists.intro _ (And.intro (e47) ?_)
          | refine Exists.intro _ (And.intro (hd.row) ?_)
          | (refine And.intro ?_ ?_; (first | rfl | assumption | (focus decide) | omega | (focus (simp; done)) | (focus (simp [IntKind.wrap, IntKind.signed, IntKind.bits]; done)) | (focus (simp [reps, PV.cells, B_length] <;> omega))))
          | refine Exists.intro _ (And.intro rfl ?_)
          | refine Both.mk (fun _ => ?_) (fun _ => ?_))
        refine ⟨?_, rfl⟩
        simp [-List.reduceReplicate, encL, hdr, by8, B, reps_rep, List.drop_replicate, List.take_replicate, IntKind.bits]
    · have hl : l.length ≤ 57 := by
        unfold validS at hv
        simp only [if_true] at hv
        (repeat' split at hv) <;> omega
      by_cases hf : l.length = 57
      · repeat' ((conv => whnf); first
          | (refine Both.true ?_ ?_; (first | rfl | assumption | (focus (simp; done)) | (focus (simp [IntKind.wrap, IntKind.signed, IntKind.bits]; done)) | (focus (refine decide_eq_true ?_; omega)) | (focus (refine decide_eq_true ?_; (focus (simp [reps, PV.cells, B_length] <;> omega))))))
          | (refine Both.false ?_ ?_; (first | rfl | assumption | (focus (simp; done)) | (focus (simp [IntKind.wrap, IntKind.signed, IntKind.bits]; done)) | (focus (refine decide_eq_false ?_; omega)) | (focus (refine decide_eq_false ?_; (focus (simp [reps, PV.cells, B_length] <;> omega))))))
          | refine Exists.intro _ (And.intro (e47) ?_)
          | refine Exists.intro _ (And.intro (hd.row) ?_)
          | (refine And.intro ?_ ?_; (first | rfl | assumption | (focus decide) | omega | (focus (simp; done)) | (focus (simp [IntKind.wrap, IntKind.signed, IntKind.bits]; done)) | (focus (simp [reps, PV.cells, B_length] <;> omega))))
          | refine Exists.intro _ (And.intro rfl ?_)
          | refine Both.mk (fun _ => ?_) (fun _ => ?_))
        refine ⟨?_, rfl⟩
        simp [-List.reduceReplicate, encL, hdr, by8, B, reps_rep, List.drop_replicate, List.take_replicate, IntKind.bits]
        rw [List.take_of_length_le (by simp; omega), hf]
        simp
      · repeat' ((conv => whnf); first
          | (refine Both.true ?_ ?_; (first | rfl | assumption | (focus (simp; done)) | (focus (simp [IntKind.wrap, IntKind.signed, IntKind.bits]; done)) | (focus (refine decide_eq_true ?_; omega)) | (focus (refine decide_eq_true ?_; (focus (simp [reps, PV.cells, B_length] <;> omega))))))
          | (refine Both.false ?_ ?_; (first | rfl | assumption | (focus (simp; done)) | (focus (simp [IntKind.wrap, IntKind.signed, IntKind.bits]; done)) | (focus (refine decide_eq_false ?_; omega)) | (focus (refine decide_eq_false ?_; (focus (simp [reps, PV.cells, B_length] <;> omega))))))
          | refine Exists.intro _ (And.intro (e47) ?_)
          | refine Exists.intro _ (And.intro (hd.row) ?_)
          | (refine And.intro ?_ ?_; (first | rfl | assumption | (focus decide) | omega | (focus (simp; done)) | (focus (simp [IntKind.wrap, IntKind.signed, IntKind.bits]; done)) | (focus (simp [reps, PV.cells, B_length] <;> omega))))
          | refine Exists.intro _ (And.intro rfl ?_)
          | refine Both.mk (fun _ => ?_) (fun _ => ?_))
        refine ⟨?_, rfl⟩
        simp [-List.reduceReplicate, encL, hdr, by8, B, reps_rep, List.drop_replicate, List.take_replicate, IntKind.bits]
  · rw [if_neg hv]
    refine fnK rfl ?_
    repeat' ((conv => whnf); first
      | (refine Both.true ?_ ?_; (first | rfl | assumption | (focus (simp; done)) | (focus (simp [IntKind.wrap, IntKind.signed, IntKind.bits]; done)) | (focus (refine decide_eq_true ?_; omega)) | (focus (refine decide_eq_true ?_; (focus (simp [reps, PV.cells, B_length] <;> omega))))))
      | (refine Both.false ?_ ?_; (first | rfl | assumption | (focus (simp; done)) | (focus (simp [IntKind.wrap, IntKind.signed, IntKind.bits]; done)) | (focus (refine decide_eq_false ?_; omega)) | (focus (refine decide_eq_false ?_; (focus (simp [reps, PV.cells, B_length] <;> omega))))))
      | refine Exists.intro _ (And.intro (h47 ch first cmd len seq data l hd) ?_)
      | (refine Both.true ?_ ?_; (focus (simp [hv]; done)))
      | (refine And.intro ?_ ?_; (first | rfl | assumption | (focus decide) | omega | (focus (simp; done)) | (focus (simp [IntKind.wrap, IntKind.signed, IntKind.bits]; done)) | (focus (simp [reps, PV.cells, B_length] <;> omega))))
      | refine Exists.intro _ (And.intro rfl ?_)
      | refine Both.mk (fun _ => ?_) (fun _ => ?_))
    exact ⟨rfl, rfl⟩

def H46 (F : Fns) : Prop := ∀ ch first cmd len seq data l, IsB data l → F 46 [pP (pkt ch first cmd len seq data)] = some (encA ch first cmd len seq l)
theorem fill_step (H l : List Int) (i k : Nat) (hi : i < l.length) : (B (H ++ l.take i ++ List.replicate (k + 1) 0)).take (H.length + i) ++ [PV.int .u8 (l.getD i 0)] ++ (B (H ++ l.take i ++ List.replicate (k + 1) 0)).drop (H.length + i + 1) = B (H ++ l.take (i + 1) ++ List.replicate k 0) := by
  have e1 : (H ++ l.take i).length = H.length + i := by simp; omega
  have e2 : (H ++ l.take i ++ List.replicate (k + 1) 0).take (H.length + i) = H ++ l.take i := by
    rw [← e1, List.take_left]
  have e3 : (H ++ l.take i ++ List.replicate (k + 1) 0).drop (H.length + i + 1) = List.replicate k 0 := by
    rw [← List.drop_drop, ← e1, List.drop_left]; simp [List.replicate_succ]
  have e4 : l.take (i + 1) = l.take i ++ [l.getD i 0] := by
    rw [List.take_add_one, List.getElem?_eq_getElem hi]; simp [List.getElem?_eq_getElem hi]
  rw [B_take, B_drop, e2, e3, e4]
  simp [B]
theorem wrapS (k : Int) (i : Nat) (hk : 0 ≤ k ∧ k ≤ 100) (hi : i ≤ 100) : IntKind.i64.wrap (k + i) = k + i := wrap64_id (by omega) (by omega)
theorem encErr {ch : Int} {first : Bool} {cmd len seq : Int} {l : List Int} {c : Int} (h : validS first cmd len seq l.length = c) (h0 : c ≠ 0) : encA ch first cmd len seq l = ([pP .nils, pI c], [[]]) := by
  unfold encA
  rw [h, if_neg h0]
theorem encFine {ch : Int} {first : Bool} {cmd len seq : Int} {l : List Int} (h : validS first cmd len seq l.length = 0) : encA ch first cmd len seq l = ([.c (.own true 1 (B (encL ch first cmd len seq l)) []), pI 0], [[]]) := by
  unfold encA
  rw [h, if_pos rfl]
theorem cells_u8 (n : Int) : (PV.int .u8 n).cells = [PV.int .u8 n] := rfl
set_option maxHeartbeats 4000000 in
theorem encode2_ok (F : Fns) (ch : Int) (first : Bool) (cmd len seq : Int) (data : PV) (l : List Int) (hd : IsB data l) : evalFn F Llim pf46 [pP (pkt ch first cmd len seq data)] = some (encA ch first cmd len seq l) := by
  refine fnK (rs := (encA ch first cmd len seq l).1) (os := (encA ch first cmd len seq l).2) rfl ?_
  cases first
  · repeat' ((conv => whnf); first
      | (refine Both.true ?_ ?_; (first | rfl | assumption | (focus (simp; done)) | (focus (simp [IntKind.wrap, IntKind.signed, IntKind.bits]; done)) | (focus (refine decide_eq_true ?_; omega)) | (focus (refine decide_eq_true ?_; (focus (simp [reps, PV.cells, B_length] <;> omega))))))
      | (refine Both.false ?_ ?_; (first | rfl | assumption | (focus (simp; done)) | (focus (simp [IntKind.wrap, IntKind.signed, IntKind.bits]; done)) | (focus (refine decide_eq_false ?_; omega)) | (focus (refine decide_eq_false ?_; (focus (simp [reps, PV.cells, B_length] <;> omega))))))
      | refine Exists.intro _ (And.intro (hd.len) ?_)
      | refine Exists.intro _ (And.intro (hd.row) ?_)
      | refine loop_rule (fun i : Nat => [(1, 0, SV.box [(0, .pv (.int .u32 ch)), (0, .pv (.bool false)), (0, .pv (.int .i64 cmd)), (0, .pv (.int .i64 len)), (0, .pv (.int .i64 seq)), (0, .pv data)]), (4, 0, .cv (.own true 1 (B (hdr ch false cmd len seq ++ l.take i ++ List.replicate (59 - i) 0)) [])), (5, 0, .cv (.pv (.int .i64 5))), (6, 0, .cv (.pv (.int .i64 i)))]) (fun i => i ≤ l.length ∧ l.length ≤ 59) (fun i => l.length - i) ?_ ?_
      | (intro i hi)
      | refine And.intro (by have := of_decide_eq_true ‹decide ((i : Int) < _) = true›; have := hi.2; simp [B_length]; omega) ?_
      | refine And.intro (by have := of_decide_eq_true ‹decide ((i : Int) < _) = true›; have := hi.2; rw [wrapS _ i (by decide) (by omega)]; simp [B_length, hdr, PV.cells]; omega) ?_
      | refine Exists.intro _ (And.intro (B_get (by have := of_decide_eq_true ‹decide ((i : Int) < _) = true›; simp; omega)) ?_)
      | (refine And.intro ?_ ?_; (first | rfl | assumption | (focus decide) | omega | (focus (simp; done)) | (focus (simp [IntKind.wrap, IntKind.signed, IntKind.bits]; done)) | (focus (simp [reps, PV.cells, B_length] <;> omega))))
      | refine Exists.intro _ (And.intro rfl ?_)
      | refine Both.mk (fun _ => ?_) (fun _ => ?_))
    all_goals (try (first | (rw [encErr (c := 9) (by simp_all [validS] <;> omega) (by decide)]; exact ⟨rfl, rfl⟩) | (rw [encErr (c := 4) (by simp_all [validS] <;> omega) (by decide)]; exact ⟨rfl, rfl⟩) | (rw [encErr (c := 8) (by simp_all [validS] <;> omega) (by decide)]; exact ⟨rfl, rfl⟩)))
    · conv => whnf
      refine ⟨0, ⟨Nat.zero_le _, by have := of_decide_eq_false ‹decide ((l.length : Int) > _) = false›; omega⟩, ?_⟩
      simp [-List.reduceReplicate, hdr, by8, B, reps_rep, List.drop_replicate, List.take_replicate, IntKind.bits, PV.cells]
    · conv => whnf
      have g : i < l.length := by have := of_decide_eq_true ‹decide ((i : Int) < _) = true›; omega
      have h2 := hi.2
      have e : (IntKind.i64.wrap (5 + (i : Int))).toNat * 1 = (hdr ch false cmd len seq).length + i := by rw [wrapS _ i (by decide) (by omega)]; simp [hdr]; omega
      refine ⟨i + 1, ⟨g, h2⟩, by omega, ?_⟩
      simp only [e, show ((i : Int).toNat * 1) = i by omega, show 59 - i = (59 - 1 - i) + 1 by omega, show 59 - (i + 1) = 59 - 1 - i by omega, cells_u8]
      rw [fill_step _ _ _ _ g, wrap64_id (by omega) (by omega)]; rfl
    · conv => whnf
      have g := of_decide_eq_false ‹decide ((i : Int) < _) = false›
      have e : i = l.length := by have := hi.1; omega
      rw [encFine (by simp_all [validS] <;> omega)]
      refine ⟨?_, rfl⟩
      simp [encL, e]
  · repeat' ((conv => whnf); first
      | (refine Both.true ?_ ?_; (first | rfl | assumption | (focus (simp; done)) | (focus (simp [IntKind.wrap, IntKind.signed, IntKind.bits]; done)) | (focus (refine decide_eq_true ?_; omega)) | (focus (refine decide_eq_true ?_; (focus (simp [reps, PV.cells, B_length] <;> omega))))))
      | (refine Both.false ?_ ?_; (first | rfl | assumption | (focus (simp; done)) | (focus (simp [IntKind.wrap, IntKind.signed, IntKind.bits]; done)) | (focus (refine decide_eq_false ?_; omega)) | (focus (refine decide_eq_false ?_; (focus (simp [reps, PV.cells, B_length] <;> omega))))))
      | refine Exists.intro _ (And.intro (hd.len) ?_)
      | refine Exists.intro _ (And.intro (hd.row) ?_)
      | refine loop_rule (fun i : Nat => [(1, 0, SV.box [(0, .pv (.int .u32 ch)), (0, .pv (.bool true)), (0, .pv (.int .i64 cmd)), (0, .pv (.int .i64 len)), (0, .pv (.int .i64 seq)), (0, .pv data)]), (4, 0, .cv (.own true 1 (B (hdr ch true cmd len seq ++ l.take i ++ List.replicate (57 - i) 0)) [])), (5, 0, .cv (.pv (.int .i64 7))), (6, 0, .cv (.pv (.int .i64 i)))]) (fun i => i ≤ l.length ∧ l.length ≤ 57) (fun i => l.length - i) ?_ ?_
      | (intro i hi)
      | refine And.intro (by have := of_decide_eq_true ‹decide ((i : Int) < _) = true›; have := hi.2; simp [B_length]; omega) ?_
      | refine And.intro (by have := of_decide_eq_true ‹decide ((i : Int) < _) = true›; have := hi.2; rw [wrapS _ i (by decide) (by omega)]; simp [B_length, hdr, PV.cells]; omega) ?_
      | refine Exists.intro _ (And.intro (B_get (by have := of_decide_eq_true ‹decide ((i : Int) < _) = true›; simp; omega)) ?_)
      | (refine And.intro ?_ ?_; (first | rfl | assumption | (focus decide) | omega | (focus (simp; done)) | (focus (simp [IntKind.wrap, IntKind.signed, IntKind.bits]; done)) | (focus (simp [reps, PV.cells, B_length] <;> omega))))
      | refine Exists.intro _ (And.intro rfl ?_)
      | refine Both.mk (fun _ => ?_) (fun _ => ?_))
    all_goals (try (first | (rw [encErr (c := 9) (by simp_all [validS] <;> omega) (by decide)]; exact ⟨rfl, rfl⟩) | (rw [encErr (c := 4) (by simp_all [validS] <;> omega) (by decide)]; exact ⟨rfl, rfl⟩) | (rw [encErr (c := 8) (by simp_all [validS] <;> omega) (by decide)]; exact ⟨rfl, rfl⟩)))
    · conv => whnf
      refine ⟨0, ⟨Nat.zero_le _, by have := of_decide_eq_false ‹decide ((l.length : Int) > _) = false›; omega⟩, ?_⟩
      simp [-List.reduceReplicate, hdr, by8, B, reps_rep, List.drop_replicate, List.take_replicate, IntKind.bits, PV.cells]
    · conv => whnf
      have g : i < l.length := by have := of_decide_eq_true ‹decide ((i : Int) < _) = true›; omega
      have h2 := hi.2
      have e : (IntKind.i64.wrap (7 + (i : Int))).toNat * 1 = (hdr ch true cmd len seq).length + i := by rw [wrapS _ i (by decide) (by omega)]; simp [hdr]; omega
      refine ⟨i + 1, ⟨g, h2⟩, by omega, ?_⟩
      simp only [e, show ((i : Int).toNat * 1) = i by omega, show 57 - i = (57 - 1 - i) + 1 by omega, show 57 - (i + 1) = 57 - 1 - i by omega, cells_u8]
      rw [fill_step _ _ _ _ g, wrap64_id (by omega) (by omega)]; rfl
    · conv => whnf
      have g := of_decide_eq_false ‹decide ((i : Int) < _) = false›
      have e : i = l.length := by have := hi.1; omega
      rw [encFine (by simp_all [validS] <;> omega)]
      refine ⟨?_, rfl⟩
      simp [encL, e]
end Go.Proofs.Ytcngkdickmahhaa
