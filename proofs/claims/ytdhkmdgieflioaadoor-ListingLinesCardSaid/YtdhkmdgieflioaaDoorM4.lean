/- Texts of this claim: contracts of functions that the law reaches, and plain lemmas. -/
import Derived.Test.YtdhkmdgieflioaaDoorRows
import Derived.JoinedOf
import Derived.KernelRfl
import Derived.SevenTiedAt
import Derived.Test.YtdhkmdgieflioaaDoorM3
import Derived.Test.YtdhkmdgieflioaaDoorM1
import Derived.Test.YtdhkmdgieflioaaDoorM2
namespace Go.Proofs.YtdhkmdgieflioaaDoor.F
open Go.RowKit Go.Proofs.YtdhkmdgieflioaaDoorW.PrintWords Go.Proofs.YtdhkmdgieflioaaDoorW.PrintLast Go.Proofs.YtdhkmdgieflioaaDoorW.PrintMore
set_option linter.unusedVariables false
set_option linter.unusedSimpArgs false
theorem ba_ext {a b : ByteArray} (h : a.data.toList = b.data.toList) : a = b := bytes_eq (by rw [ByteArray.toList_eq, ByteArray.toList_eq, h])
theorem ba_app (a b : ByteArray) : (a ++ b).data.toList = a.data.toList ++ b.data.toList := by rw [ByteArray.data_append, Array.toList_append]
def restOf (a b c : Int) : List UInt8 → List UInt8
  | [] => []
  | ch :: r => [44, 32] ++ (itemOf a b c ch).data.toList ++ restOf a b c r
theorem joinTail_rest (a b c : Int) : ∀ l : List UInt8, Lib.joinTail [44, 32] (l.map fun ch => (itemOf a b c ch).data.toList) = restOf a b c l
  | [] => rfl
  | ch :: r => by
    rw [List.map_cons, restOf, ← joinTail_rest a b c r]
    simp [Lib.joinTail]
end Go.Proofs.YtdhkmdgieflioaaDoor.F
namespace Go.Proofs.YtdhkmdgieflioaaDoor.F
open Go.RowKit Go.Proofs.YtdhkmdgieflioaaDoorW.PrintWords Go.Proofs.YtdhkmdgieflioaaDoorW.PrintLast Go.Proofs.YtdhkmdgieflioaaDoorW.PrintMore
set_option linter.unusedVariables false
set_option linter.unusedSimpArgs false
theorem digit_val (d : Nat) (h : d < 10) : (UInt8.ofNat (48 + d)).toNat - 48 = d ∧ 48 ≤ (UInt8.ofNat (48 + d)).toNat ∧ (UInt8.ofNat (48 + d)).toNat ≤ 57 := by
  have : (UInt8.ofNat (48 + d)).toNat = 48 + d := by simp; omega
  omega
theorem dec_range (n : Nat) : ∀ x ∈ Lib.decDigits n, 48 ≤ x.toNat ∧ x.toNat ≤ 57 := by
  induction n using Nat.strongRecOn with
  | ind n ih =>
    rw [Lib.decDigits.eq_1]
    split
    · rename_i h
      intro x hx
      obtain rfl := List.mem_singleton.1 hx
      exact (digit_val n h).2
    · intro x hx
      rcases List.mem_append.1 hx with hx | hx
      · exact ih (n / 10) (by omega) x hx
      · obtain rfl := List.mem_singleton.1 hx
        exact (digit_val (n % 10) (by omega)).2
theorem itoa_nat (n : Int) (h : 0 ≤ n) : Lib.itoa n = Lib.decDigits n.toNat := by unfold Lib.itoa; rw [if_neg (by omega)]
theorem item_data (a b c : Int) (ch : UInt8) : (itemOf a b c ch).data.toList = if ch = 97 then 114 :: Lib.itoa a else if ch = 98 then 114 :: Lib.itoa b else if ch = 114 then 114 :: Lib.itoa c else Lib.itoa c := by
  unfold itemOf
  split
  · rw [ba_app]; rfl
  · split
    · rw [ba_app]; rfl
    · split
      · rw [ba_app]; rfl
      · rfl
def bodyOf (a b c : Int) : List UInt8 → List UInt8
  | [] => []
  | ch :: r => 32 :: ((itemOf a b c ch).data.toList ++ restOf a b c r)
theorem text_data (op a b c : Int) (hr : rightB op a b c = true) : (textOf op a b c).data.toList = (nameOf op).data.toList ++ bodyOf a b c (partsOf op).data.toList := by
  unfold textOf itemsOf
  rw [hr, if_neg (by decide)]
  generalize (partsOf op).data.toList = l
  cases l with
  | nil => simp [bodyOf]
  | cons ch r =>
    rw [if_neg (by simp), ba_app, ba_app]
    simp only [List.map_cons, List.map_map]
    rw [Lib.join_cons, bodyOf, ← joinTail_rest]
    simp [Function.comp_def]
theorem nospace_all : ((List.range 28).all fun n => !(nameOf (n : Int)).data.toList.contains 32) = true := by kernel_rfl
theorem name_nospace (op : Int) (h1 : 1 ≤ op) (h2 : op < 28) : (32 : UInt8) ∉ (nameOf op).data.toList := by
  obtain ⟨n, rfl⟩ : ∃ n : Nat, op = n := ⟨op.toNat, by omega⟩
  have := List.all_eq_true.1 nospace_all n (List.mem_range.2 (by omega))
  simpa using this
theorem item97 (a b c : Int) : (itemOf a b c 97).data.toList = 114 :: Lib.itoa a := by rw [item_data]; rfl
theorem item99 (a b c : Int) : (itemOf a b c 99).data.toList = Lib.itoa c := by rw [item_data]; rfl
end Go.Proofs.YtdhkmdgieflioaaDoor.F
namespace Go.Proofs.YtdhkmdgieflioaaDoor.F
open Go.RowKit Go.Proofs.YtdhkmdgieflioaaDoorW.PrintWords Go.Proofs.YtdhkmdgieflioaaDoorW.PrintLast Go.Proofs.YtdhkmdgieflioaaDoorW.PrintMore
set_option linter.unusedVariables false
set_option linter.unusedSimpArgs false
def tx (x : UInt8) : Bool := x != 76 && x != 10 && x != 46
theorem tx_digit (x : UInt8) (h : 48 ≤ x.toNat ∧ x.toNat ≤ 57) : tx x = true := by
  have h1 : x ≠ 76 := by rintro rfl; exact absurd h.2 (by decide)
  have h2 : x ≠ 10 := by rintro rfl; exact absurd h.1 (by decide)
  have h3 : x ≠ 46 := by rintro rfl; exact absurd h.1 (by decide)
  simp [tx, h1, h2, h3]
theorem num_tx (n : Int) (h : 0 ≤ n) : ∀ x ∈ num n, tx x = true := by
  intro x hx
  unfold num at hx
  rw [itoa_nat n h] at hx
  exact tx_digit x (dec_range _ x hx)
theorem item_tx (a b c : Int) (ha : 0 ≤ a) (hb : 0 ≤ b) (hc : 0 ≤ c) (ch : UInt8) : ∀ x ∈ (itemOf a b c ch).data.toList, tx x = true := by
  rw [item_data]
  have h1 := num_tx a ha
  have h2 := num_tx b hb
  have h3 := num_tx c hc
  have h4 : tx 114 = true := by decide
  unfold num at h1 h2 h3
  intro x hx
  split at hx
  · rcases List.mem_cons.1 hx with rfl | hx
    · exact h4
    · exact h1 x hx
  · split at hx
    · rcases List.mem_cons.1 hx with rfl | hx
      · exact h4
      · exact h2 x hx
    · split at hx
      · rcases List.mem_cons.1 hx with rfl | hx
        · exact h4
        · exact h3 x hx
      · exact h3 x hx
theorem rest_tx (a b c : Int) (ha : 0 ≤ a) (hb : 0 ≤ b) (hc : 0 ≤ c) : ∀ l : List UInt8, ∀ x ∈ restOf a b c l, tx x = true
  | [], x, hx => by simp [restOf] at hx
  | ch :: r, x, hx => by
    simp only [restOf, List.mem_append] at hx
    rcases hx with (hx | hx) | hx
    · simp only [List.mem_cons, List.not_mem_nil, or_false] at hx
      rcases hx with rfl | rfl <;> decide
    · exact item_tx a b c ha hb hc ch x hx
    · exact rest_tx a b c ha hb hc r x hx
theorem body_tx (a b c : Int) (ha : 0 ≤ a) (hb : 0 ≤ b) (hc : 0 ≤ c) (l : List UInt8) : ∀ x ∈ bodyOf a b c l, tx x = true := by
  cases l with
  | nil => intro x hx; simp [bodyOf] at hx
  | cons ch r =>
    intro x hx
    simp only [bodyOf, List.mem_cons, List.mem_append] at hx
    rcases hx with rfl | hx | hx
    · decide
    · exact item_tx a b c ha hb hc ch x hx
    · exact rest_tx a b c ha hb hc r x hx
theorem names_tx : ((List.range 28).all fun n => (nameOf (n : Int)).data.toList.all tx) = true := by kernel_rfl
theorem text_tx (op a b c : Int) (hr : rightB op a b c = true) : ∀ x ∈ (textOf op a b c).data.toList, tx x = true := by
  obtain ⟨h1, h2, ha, hb, hc⟩ := right_facts _ _ _ _ hr
  rw [text_data _ _ _ _ hr]
  intro x hx
  rcases List.mem_append.1 hx with hx | hx
  · obtain ⟨n, rfl⟩ : ∃ n : Nat, op = n := ⟨op.toNat, by omega⟩
    exact List.all_eq_true.1 (List.all_eq_true.1 names_tx n (List.mem_range.2 (by omega))) x hx
  · exact body_tx a b c ha.1 hb.1 hc.1 _ x hx
def preB (v : Int) : List UInt8 := (nameOf (opB v)).data.toList ++ (if opB v = 18 then [32] else 32 :: 114 :: (num (raB v) ++ [44, 32]))
theorem jump_right {v : Int} (h : jumpB v = true) : decB v = true ∧ 18 ≤ opB v ∧ opB v ≤ 21 := by
  unfold jumpB at h
  rw [Bool.and_eq_true] at h
  exact ⟨h.1, of_decide_eq_true h.2⟩
theorem jump_text (v : Int) (h : jumpB v = true) : (textOf (opB v) (raB v) (rbB v) (rcB v)).data.toList = preB v ++ num (rcB v) := by
  obtain ⟨hr, h1, h2⟩ := jump_right h
  unfold decB at hr
  rw [text_data _ _ _ _ hr]
  unfold preB
  generalize opB v = op at *
  generalize raB v = a at *
  generalize rbB v = b at *
  generalize rcB v = c at *
  have p1 : (partsOf 18).data.toList = [99] := by decide
  have p2 : (partsOf 19).data.toList = [97, 99] := by decide
  have p3 : (partsOf 20).data.toList = [97, 99] := by decide
  have p4 : (partsOf 21).data.toList = [97, 99] := by decide
  rcases (show op = 18 ∨ op = 19 ∨ op = 20 ∨ op = 21 by omega) with rfl | rfl | rfl | rfl
  · rw [p1, bodyOf, item99, restOf, if_pos rfl]; simp [num]
  · rw [p2, bodyOf, item97, restOf, item99, restOf, if_neg (by decide)]; simp [num]
  · rw [p3, bodyOf, item97, restOf, item99, restOf, if_neg (by decide)]; simp [num]
  · rw [p4, bodyOf, item97, restOf, item99, restOf, if_neg (by decide)]; simp [num]
theorem trim_app (a b : List UInt8) : Lib.trimSuffix (a ++ b) b = a := by
  have h : Lib.hasSuffix (a ++ b) b = true := by
    unfold Lib.hasSuffix
    rw [List.isSuffixOf_iff_suffix]
    exact List.suffix_append a b
  unfold Lib.trimSuffix
  rw [if_pos h, List.length_append, Nat.add_sub_cancel, List.take_left]
theorem instr_label (t : Int → Bool) (v : Int) (h : jumpB v = true) (ht : t (rcB v) = true) : instrB t v = preB v ++ 76 :: num (rcB v) := by
  unfold instrB
  rw [(jump_right h).1, if_neg (by decide), h, ht, if_pos (by decide), jump_text v h, trim_app]
  simp
theorem instr_plain (t : Int → Bool) (v : Int) (hd : decB v = true) (h : (jumpB v && t (rcB v)) = false) : instrB t v = (textOf (opB v) (raB v) (rbB v) (rcB v)).data.toList := by
  unfold instrB
  rw [hd, if_neg (by decide), h, if_neg (by decide)]
theorem instr_word (t : Int → Bool) (v : Int) (hd : decB v = false) : instrB t v = [46, 119, 111, 114, 100, 32] ++ num v := by
  unfold instrB
  rw [if_pos hd]
theorem pre_tx (v : Int) (h : jumpB v = true) : ∀ x ∈ preB v, tx x = true := by
  intro x hx
  have := text_tx _ _ _ _ (show rightB (opB v) (raB v) (rbB v) (rcB v) = true from (jump_right h).1) x
  rw [jump_text v h] at this
  exact this (List.mem_append_left _ hx)
theorem rc_nonneg (v : Int) : 0 ≤ rcB v := by unfold rcB; omega
theorem of_tx {l : List UInt8} (h : ∀ x ∈ l, tx x = true) : (76 : UInt8) ∉ l ∧ (10 : UInt8) ∉ l ∧ (46 : UInt8) ∉ l :=
  ⟨fun x => absurd (h _ x) (by decide), fun x => absurd (h _ x) (by decide), fun x => absurd (h _ x) (by decide)⟩
theorem instr_no10 (t : Int → Bool) (v : Int) (h0 : 0 ≤ v) : (10 : UInt8) ∉ instrB t v := by
  cases hd : decB v with
  | false =>
    rw [instr_word t v hd]
    have := (of_tx (num_tx v h0)).2.1
    simp [this]
  | true =>
    cases hj : (jumpB v && t (rcB v)) with
    | false =>
      rw [instr_plain t v hd hj]
      exact (of_tx (text_tx _ _ _ _ hd)).2.1
    | true =>
      rw [Bool.and_eq_true] at hj
      rw [instr_label t v hj.1 hj.2]
      have h1 := (of_tx (pre_tx v hj.1)).2.1
      have h2 := (of_tx (num_tx _ (rc_nonneg v))).2.1
      simp [h1, h2]
end Go.Proofs.YtdhkmdgieflioaaDoor.F
namespace Go.Proofs.YtdhkmdgieflioaaDoor.F
open Go.RowKit Go.Proofs.YtdhkmdgieflioaaDoorW.PrintWords Go.Proofs.YtdhkmdgieflioaaDoorW.PrintLast Go.Proofs.YtdhkmdgieflioaaDoorW.PrintMore
set_option linter.unusedVariables false
set_option linter.unusedSimpArgs false
theorem awake11 : seedcornlaw11_awake.f = some true := by kernel_rfl
def inR (l : List Int) : Prop := ∀ x ∈ l, (Lit.int .u32 x).wf = true
theorem inR_okL {l : List Int} (h : inR l) (hl : l.length ≤ 1000) : okL l = true := by
  refine okL_of hl (fun x hx => ?_)
  have h1 := (Lit.wf_int_iff .u32 x).1 (h x hx)
  have h0 : 0 ≤ x := h1.1
  have h2 : x ≤ 4294967295 := h1.2
  omega
theorem inR_nonneg {l : List Int} (h : inR l) : ∀ x ∈ l, 0 ≤ x := by
  intro x hx
  exact ((Lit.wf_int_iff .u32 x).1 (h x hx)).1
theorem tgts_f (l : List Int) (d : Int) (h : okL l = true) : listing_Targets.f l d = some (tgts l) := by unfold listing_Targets.f; rw [if_pos h]
theorem text_f (l : List Int) (d : Int) (h : okL l = true) (hd : 0 ≤ d ∧ d ≤ 32768) : listing_Text.f l d = some (⟨(listB l d).toArray⟩, 0) := by unfold listing_Text.f; rw [if_pos h, if_pos hd]
theorem right8_f (l : List Int) (d : Int) : seedcornref08_Right.f l d = some (decide (l.length ≤ 16384 ∧ 0 ≤ d ∧ d ≤ 32768)) := by
  unfold seedcornref08_Right.f
  by_cases h1 : (l.length : Int) ≤ 16384
  · rw [if_pos h1]
    by_cases h2 : d ≥ 0
    · rw [if_pos h2]
      congr 1
      rw [decide_eq_decide]
      omega
    · rw [if_neg h2]
      congr 1
      exact (decide_eq_false (by omega)).symm
  · rw [if_neg h1]
    congr 1
    exact (decide_eq_false (by omega)).symm
theorem tgts_len (l : List Int) : (tgts l).length ≤ l.length := by
  unfold tgts
  refine Nat.le_trans (List.length_filter_le _ _) ?_
  simp
theorem ba_size (l : List UInt8) : (⟨l.toArray⟩ : ByteArray).size = l.length := by simp [ByteArray.size]
end Go.Proofs.YtdhkmdgieflioaaDoor.F
namespace Go.Proofs.YtdhkmdgieflioaaDoor.F
open Go.RowKit Go.Proofs.YtdhkmdgieflioaaDoorW.PrintWords Go.Proofs.YtdhkmdgieflioaaDoorW.PrintLast Go.Proofs.YtdhkmdgieflioaaDoorW.PrintMore
set_option linter.unusedVariables false
set_option linter.unusedSimpArgs false
def mkB (p : List UInt8) : ByteArray := ⟨p.toArray⟩
def flatL (ps : List (List UInt8)) : List UInt8 := ps.flatMap (fun p => p ++ [10])
theorem bt_at (s : ByteArray) (i : Nat) (c : UInt8) (h : s.data.toList[i]? = some c) : bt s (i : Int) = (c.toNat : Int) := by
  have hl : s.data.toList.length = s.size := rfl
  have hlt : i < s.size := by have := (List.getElem?_eq_some_iff.1 h).1; omega
  unfold bt
  rw [dif_pos (by simpa using hlt)]
  have : s.data.toList[i]? = some s[i] := by rw [Array.getElem?_toList]; exact Array.getElem?_eq_getElem (by simpa using hlt)
  rw [h] at this
  rw [Option.some.inj this]
  rfl
theorem ext_mid (s : ByteArray) (pre p post : List UInt8) (h : s.data.toList = pre ++ p ++ post) : s.extract pre.length (pre.length + p.length) = mkB p := by
  refine ba_ext ?_
  rw [ByteArray.data_extract, Array.toList_extract, h]
  simp [mkB, List.extract_eq_take_drop]
theorem line_scan (s : ByteArray) (hs : s.size ≤ 100000000) (acc : List ByteArray) (ha : acc.length ≤ 100000) (pre p post : List UInt8) (h : s.data.toList = pre ++ (p ++ 10 :: post)) (hp : (10 : UInt8) ∉ p) (R : List ByteArray)
    (hn : Ev (fun k => seedcornref11_Lines.l0 k s (acc ++ [mkB p]) ((pre.length + p.length + 1 : Nat) : Int) ((pre.length + p.length + 1 : Nat) : Int)) R) :
    ∀ (b a : List UInt8), p = a ++ b → Ev (fun k => seedcornref11_Lines.l0 k s acc (pre.length : Int) ((pre.length + a.length : Nat) : Int)) R := by
  have hl : s.data.toList.length = s.size := rfl
  rw [h] at hl
  simp only [List.length_append, List.length_cons] at hl
  intro b
  induction b with
  | nil =>
    intro a e
    rw [List.append_nil] at e
    subst e
    have hc : bt s ((pre.length + p.length : Nat) : Int) = 10 := by
      rw [bt_at s _ 10 (by rw [h, List.getElem?_append_right (by omega), List.getElem?_append_right (by omega)]; simp)]
      rfl
    have hw : wrap64 (((pre.length + p.length : Nat) : Int) + 1) = ((pre.length + p.length + 1 : Nat) : Int) := by rw [wrapI (by omega) (by omega)]; omega
    have hx := ext_mid s pre p (10 :: post) (by rw [h, List.append_assoc])
    refine Ev.step (fun k => ?_) hn
    simp only [seedcornref11_Lines.l0]
    rw [if_pos (by omega), if_pos (by omega), if_pos hc, if_pos (by omega), if_pos (by omega), if_pos (by omega), if_pos (by omega), hw, Int.toNat_natCast, Int.toNat_natCast, hx]
  | cons c b ih =>
    intro a e
    have hmem : c ∈ p := by rw [e]; simp
    have hc10 : c ≠ 10 := fun x => hp (by rw [← x]; exact hmem)
    have hpl : p.length = a.length + (b.length + 1) := by rw [e]; simp
    have hc : bt s ((pre.length + a.length : Nat) : Int) = (c.toNat : Int) := bt_at s _ c (by
      rw [h, e, List.getElem?_append_right (by omega), Nat.add_sub_cancel_left, List.append_assoc, List.getElem?_append_right (by omega)]
      simp)
    have hw : wrap64 (((pre.length + a.length : Nat) : Int) + 1) = ((pre.length + (a ++ [c]).length : Nat) : Int) := by
      rw [wrapI (by omega) (by omega), List.length_append, List.length_singleton]; omega
    refine Ev.step (fun k => ?_) (ih (a ++ [c]) (by rw [e]; simp))
    simp only [seedcornref11_Lines.l0]
    rw [if_pos (by omega), if_pos (by omega), if_neg (by
      rw [hc]
      intro x
      exact hc10 (UInt8.toNat_inj.1 (by have : (10 : UInt8).toNat = 10 := rfl; omega))), hw]
theorem lines_rest (s : ByteArray) (hs : s.size ≤ 100000000) : ∀ (ps : List (List UInt8)) (acc : List ByteArray) (pre : List UInt8), acc.length + ps.length ≤ 100000 → (∀ p ∈ ps, (10 : UInt8) ∉ p) → s.data.toList = pre ++ flatL ps →
    Ev (fun k => seedcornref11_Lines.l0 k s acc (pre.length : Int) (pre.length : Int)) (acc ++ ps.map mkB)
  | [], acc, pre, _, _, h => by
    have hl : s.data.toList.length = s.size := rfl
    rw [h] at hl
    simp [flatL] at hl
    refine Ev.step (f := fun _ => some (acc ++ List.map mkB [])) (fun k => ?_) (Ev.now _)
    simp only [seedcornref11_Lines.l0]
    rw [if_neg (by omega)]
    simp
  | p :: ps, acc, pre, ha, hp, h => by
    rw [List.length_cons] at ha
    have h2 : s.data.toList = pre ++ (p ++ 10 :: flatL ps) := by rw [h]; simp [flatL]
    have := lines_rest s hs ps (acc ++ [mkB p]) (pre ++ (p ++ [10])) (by rw [List.length_append, List.length_singleton]; omega) (fun q hq => hp q (List.mem_cons_of_mem _ hq)) (by rw [h2]; simp)
    have e1 : (pre ++ (p ++ [10]) : List UInt8).length = pre.length + p.length + 1 := by rw [List.length_append, List.length_append, List.length_singleton]; omega
    rw [e1] at this
    have r := line_scan s hs acc (by omega) pre p (flatL ps) h2 (hp p (List.mem_cons_self ..)) _ this p [] rfl
    simpa using r
theorem lines_ev (ps : List (List UInt8)) (hl : ps.length ≤ 100000) (hp : ∀ p ∈ ps, (10 : UInt8) ∉ p) (hs : (flatL ps).length ≤ 100000000) : Ev (fun k => seedcornref11_Lines.f k (mkB (flatL ps))) (ps.map mkB) := by
  have := lines_rest (mkB (flatL ps)) (by rw [mkB, ba_size]; exact hs) ps [] [] (by simpa using hl) hp rfl
  unfold seedcornref11_Lines.f
  simpa using this
def linesB (t : Int → Bool) : Nat → List Int → List (List UInt8)
  | _, [] => []
  | i, v :: r => (if t (i : Int) = true then [76 :: (num i ++ [58])] else []) ++ (32 :: 32 :: instrB t v) :: linesB t (i + 1) r
theorem flat_lines (t : Int → Bool) : ∀ (l : List Int) (i : Nat), flatL (linesB t i l) = bodyB t i l
  | [], _ => rfl
  | v :: r, i => by
    have h := flat_lines t r (i + 1)
    unfold flatL at h ⊢
    rw [linesB, bodyB, ← h, List.flatMap_append, List.flatMap_cons]
    unfold lineB
    split <;> simp
theorem num_no10 (n : Int) (h : 0 ≤ n) : (10 : UInt8) ∉ num n := (of_tx (num_tx n h)).2.1
theorem lines_no10 (t : Int → Bool) : ∀ (l : List Int) (i : Nat), (∀ x ∈ l, 0 ≤ x) → ∀ p ∈ linesB t i l, (10 : UInt8) ∉ p
  | [], _, _, p, hp => by simp [linesB] at hp
  | v :: r, i, h, p, hp => by
    have h1 := instr_no10 t v (h v (List.mem_cons_self ..))
    have h2 := num_no10 (i : Int) (by omega)
    rw [linesB, List.mem_append, List.mem_cons] at hp
    rcases hp with hp | hp | hp
    · split at hp
      · rw [List.mem_singleton.1 hp]; simp [h2]
      · simp at hp
    · rw [hp]; simp [h1]
    · exact lines_no10 t r (i + 1) (fun x hx => h x (List.mem_cons_of_mem _ hx)) p hp
theorem instr_first (t : Int → Bool) (v : Int) : ∃ c r, instrB t v = c :: r ∧ c ≠ 32 := by
  cases hd : decB v with
  | false => exact ⟨46, _, instr_word t v hd, by decide⟩
  | true =>
    obtain ⟨h1, h2, _⟩ := right_facts _ _ _ _ (show rightB (opB v) (raB v) (rbB v) (rcB v) = true from hd)
    have hne := name_filled (opB v) h1 h2
    have hns := name_nospace (opB v) h1 h2
    rw [ByteArray.toList_eq] at hne
    obtain ⟨c, r, hc⟩ : ∃ c r, (nameOf (opB v)).data.toList = c :: r := by
      cases hq : (nameOf (opB v)).data.toList with
      | nil => exact absurd hq hne
      | cons c r => exact ⟨c, r, rfl⟩
    have hc32 : c ≠ 32 := by rintro rfl; rw [hc] at hns; exact hns (List.mem_cons_self ..)
    cases hj : (jumpB v && t (rcB v)) with
    | false =>
      refine ⟨c, r ++ bodyOf (raB v) (rbB v) (rcB v) (partsOf (opB v)).data.toList, ?_, hc32⟩
      rw [instr_plain t v hd hj, text_data _ _ _ _ (show rightB (opB v) (raB v) (rbB v) (rcB v) = true from hd), hc]
      rfl
    | true =>
      rw [Bool.and_eq_true] at hj
      refine ⟨c, r ++ (if opB v = 18 then [32] else 32 :: 114 :: (num (raB v) ++ [44, 32])) ++ 76 :: num (rcB v), ?_, hc32⟩
      rw [instr_label t v hj.1 hj.2]
      unfold preB
      rw [hc]
      simp
def tgF (l : List Int) (i d : Nat) : List Int := ((List.range' i d).map (fun n : Nat => (n : Int))).filter (tgtB l)
theorem tgF_step (l : List Int) (i d : Nat) : tgF l i (d + 1) = if tgtB l (i : Int) = true then (i : Int) :: tgF l (i + 1) d else tgF l (i + 1) d := by
  unfold tgF
  rw [List.range'_succ, List.map_cons, List.filter_cons]
theorem tgF_all (l : List Int) : tgts l = tgF l 0 l.length := by unfold tgts tgF; rw [List.range_eq_range']
theorem tgF_ge (l : List Int) (i d : Nat) : ∀ x ∈ tgF l i d, (i : Int) ≤ x := by
  intro x hx
  unfold tgF at hx
  obtain ⟨h1, _⟩ := List.mem_filter.1 hx
  obtain ⟨n, hn, rfl⟩ := List.mem_map.1 h1
  have := (List.mem_range'_1.1 hn).1
  omega
theorem lines_count (l : List Int) : ∀ (r : List Int) (i : Nat), (linesB (tgtB l) i r).length = r.length + (tgF l i r.length).length
  | [], i => by simp [linesB, tgF]
  | v :: r, i => by
    have := lines_count l r (i + 1)
    rw [linesB, List.length_append, List.length_cons, List.length_cons, tgF_step, this]
    split <;> simp <;> omega
theorem lines_first (x : ByteArray) (r : List ByteArray) : rdOf ByteArray.empty (x :: r) 0 = x := rfl
theorem lines_l0 (l : List Int) (a : Int) (hl : l.length ≤ 1000) (d : Nat) : ∀ i : Nat, i + d = l.length →
    Ev (fun k => seedcornlaw11_ListingLines.l0 k (tgF l i d) ((linesB (tgtB l) i (l.drop i)).map mkB) (i : Int) l a) true := by
  induction d with
  | zero =>
    intro i hi
    refine Ev.step (f := fun _ => some true) (fun k => ?_) (Ev.now _)
    simp only [seedcornlaw11_ListingLines.l0]
    rw [if_neg (by omega)]
    simp [tgF]
  | succ d ih =>
    intro i hi
    have hlt : i < l.length := by omega
    have hw : wrap64 ((i : Int) + 1) = ((i + 1 : Nat) : Int) := by rw [wrapI (by omega) (by omega)]; omega
    have hd : l.drop i = l[i] :: l.drop (i + 1) := List.drop_eq_getElem_cons hlt
    have hnext := ih (i + 1) (by omega)
    rw [hd, linesB, tgF_step]
    generalize l[i] = v
    obtain ⟨c, r, hc, hc32⟩ := instr_first (tgtB l) v
    generalize hT : tgF l (i + 1) d = T at hnext ⊢
    have hge := tgF_ge l (i + 1) d
    rw [hT] at hge
    generalize hLL : (linesB (tgtB l) (i + 1) (l.drop (i + 1))).map mkB = L at hnext
    have hsz : (mkB (32 :: 32 :: instrB (tgtB l) v)).size = r.length + 3 := by rw [mkB, ba_size, hc]; simp
    have hex : ((mkB (32 :: 32 :: instrB (tgtB l) v)).extract 0 2).toList = [32, 32] := by
      rw [ByteArray.toList_eq, ByteArray.data_extract, Array.toList_extract]
      simp [mkB, List.extract_eq_take_drop]
    have hb2 : bt (mkB (32 :: 32 :: instrB (tgtB l) v)) 2 = (c.toNat : Int) := by
      have := bt_at (mkB (32 :: 32 :: instrB (tgtB l) v)) 2 c (by simp [mkB, hc])
      exact this
    have hb32 : ¬ bt (mkB (32 :: 32 :: instrB (tgtB l) v)) 2 = 32 := by
      rw [hb2]
      intro x
      exact hc32 (UInt8.toNat_inj.1 (by have : (32 : UInt8).toNat = 32 := rfl; omega))
    generalize hX : mkB (32 :: 32 :: instrB (tgtB l) v) = X at hsz hex hb32
    cases ht : tgtB l (i : Int) with
    | false =>
      simp only [Bool.false_eq_true, if_false, List.nil_append, List.map_cons, hX, hLL]
      have hj3 : ∀ k, seedcornlaw11_ListingLines.j3 (k + 1) T (X :: L) (i : Int) false l a = seedcornlaw11_ListingLines.l0 k T L ((i + 1 : Nat) : Int) l a := by
        intro k
        simp only [seedcornlaw11_ListingLines.j3]
        rw [if_neg (by decide), if_neg (by simp <;> omega), if_pos (by simp <;> omega), lines_first, if_neg (by omega), if_pos (by decide), if_pos (by omega), if_pos hex, if_pos (by omega), if_neg hb32, if_pos (by simp <;> omega), hw]
        rfl
      refine Ev.step (f := fun k => seedcornlaw11_ListingLines.j3 k T (X :: L) (i : Int) false l a) (fun k => ?_) (Ev.step hj3 hnext)
      simp only [seedcornlaw11_ListingLines.l0]
      rw [if_pos (by omega)]
      cases T with
      | nil => rw [if_neg (by simp)]
      | cons y T =>
        have hy := hge y (List.mem_cons_self ..)
        rw [if_pos (by simp <;> omega), if_pos (by simp <;> omega)]
        have : (rd (y :: T) 0 == (i : Int)) = false := by
          rw [beq_eq_false_iff_ne]
          show ¬ y = (i : Int)
          omega
        rw [this]
    | true =>
      simp only [if_true, List.cons_append, List.nil_append, List.map_cons, hX, hLL]
      have hnf := num_f (i : Int) (by omega) (by omega)
      have hns := num_size (i : Int) (by omega) (by omega)
      have hlab : (mkB (76 :: (num (i : Int) ++ [58]))).toList = (((⟨#[76]⟩ : ByteArray) ++ (⟨(num (i : Int)).toArray⟩ : ByteArray)) ++ (⟨#[58]⟩ : ByteArray)).toList := by
        rw [ByteArray.toList_eq, ByteArray.toList_eq, ba_app, ba_app]
        simp [mkB]
      generalize mkB (76 :: (num (i : Int) ++ [58])) = Y at hlab ⊢
      generalize (⟨(num (i : Int)).toArray⟩ : ByteArray) = xn at hnf hns hlab
      have h1 : (⟨#[76]⟩ : ByteArray).size = 1 := rfl
      have hj3 : ∀ k, seedcornlaw11_ListingLines.j3 (k + 1) ((i : Int) :: T) (Y :: X :: L) (i : Int) true l a = seedcornlaw11_ListingLines.l0 k T L ((i + 1 : Nat) : Int) l a := by
        intro k
        simp only [seedcornlaw11_ListingLines.j3, if_true]
        rw [if_pos (by simp <;> omega), show (i : Int) % 4294967296 = (i : Int) by omega, hnf]
        rw [Option.bind_some, if_pos (by omega), if_pos (by rw [ByteArray.size_append, h1]; omega), lines_first, if_pos hlab, if_pos (by simp <;> omega), Option.bind_some, if_pos (by simp <;> omega)]
        have e : List.drop (1 : Int).toNat (Y :: X :: L) = X :: L := rfl
        rw [e, if_neg (by simp <;> omega), if_pos (by simp <;> omega), lines_first, if_neg (by omega), if_pos (by decide), if_pos (by omega), if_pos hex, if_pos (by omega), if_neg hb32, if_pos (by simp <;> omega), hw]
        rfl
      refine Ev.step (f := fun k => seedcornlaw11_ListingLines.j3 k ((i : Int) :: T) (Y :: X :: L) (i : Int) true l a) (fun k => ?_) (Ev.step hj3 hnext)
      simp only [seedcornlaw11_ListingLines.l0]
      rw [if_pos (by omega), if_pos (by simp <;> omega), if_pos (by simp <;> omega)]
      have : (rd ((i : Int) :: T) 0 == (i : Int)) = true := beq_iff_eq.2 rfl
      rw [this]
theorem lines_j0 (l : List Int) (d : Int) (hin : inR l) (hok : okL l = true) (hd : 0 ≤ d ∧ d ≤ 32768) : Ev (fun k => seedcornlaw11_ListingLines.j0 k false l d) true := by
  have hl := okL_len hok
  have hnd := num_f d hd.1 (by omega)
  have hns := num_size d hd.1 (by omega)
  have hcount := lines_count l l 0
  rw [← tgF_all] at hcount
  have htl := tgts_len l
  obtain ⟨H, hH⟩ : ∃ H : List UInt8, H = [46, 100, 97, 116, 97, 32] ++ num d := ⟨_, rfl⟩
  have hflat : listB l d = flatL (H :: linesB (tgtB l) 0 l) := by
    have h := flat_lines (tgtB l) l 0
    unfold flatL at h ⊢
    rw [List.flatMap_cons, h, hH]
    unfold listB headB
    simp
  have hlen : (listB l d).length ≤ 100000000 := by
    have h1 := head_len d hd.1 hd.2
    have h2 := body_len (tgtB l) l 0 (by omega) (okL_mem hok)
    unfold listB
    rw [List.length_append]
    omega
  have hlev := lines_ev (H :: linesB (tgtB l) 0 l) (by rw [List.length_cons]; omega) (by
    intro p hp
    rcases List.mem_cons.1 hp with rfl | hp
    · rw [hH]
      have := num_no10 d hd.1
      simp [this]
    · exact lines_no10 (tgtB l) l 0 (inR_nonneg hin) p hp) (by rw [← hflat]; exact hlen)
  rw [← hflat] at hlev
  have hl0 := lines_l0 l d hl l.length 0 (by omega)
  rw [← tgF_all, List.drop_zero] at hl0
  have hhd : ((mkB H).toList != ((⟨#[46, 100, 97, 116, 97, 32]⟩ : ByteArray) ++ (⟨(num d).toArray⟩ : ByteArray)).toList) = false := by
    rw [bne_eq_false_iff_eq, ByteArray.toList_eq, ByteArray.toList_eq, ba_app, hH]
    simp [mkB]
  have hll : (((linesB (tgtB l) 0 l).map mkB).length : Int) = ((l.length + (tgts l).length : Nat) : Int) := by rw [List.length_map, hcount]
  rw [List.map_cons] at hlev
  generalize (linesB (tgtB l) 0 l).map mkB = L at hlev hl0 hll
  generalize mkB H = Y at hlev hhd
  have hw : wrap64 ((wrap64 (1 + (l.length : Int))) + ((tgts l).length : Int)) = ((1 + l.length + (tgts l).length : Nat) : Int) := by
    rw [wrapI (x := 1 + (l.length : Int)) (by omega) (by omega), wrapI (by omega) (by omega)]; omega
  refine Ev.step (f := fun k => (seedcornref11_Lines.f k (mkB (listB l d))).bind fun t646 => (if (t646.length : Int) = (wrap64 ((wrap64 (1 + (l.length : Int))) + ((tgts l).length : Int))) then (if 0 < (t646.length : Int) then ((word_Text.f ((d) % 4294967296)).bind fun t650 => (if 6 + t650.size ≤ 9223372036854775807 then (seedcornlaw11_ListingLines.j1 k (tgts l) t646 ((rdOf ByteArray.empty t646 0).toList != ((⟨#[46, 100, 97, 116, 97, 32]⟩ : ByteArray) ++ t650).toList) l d) else (none))) else (none)) else (seedcornlaw11_ListingLines.j1 k (tgts l) t646 true l d))) (fun k => ?_) ?_
  · simp only [seedcornlaw11_ListingLines.j0]
    rw [if_neg (by decide), text_f l d hok hd, tgts_f l d hok]
    simp only [Option.bind_some, if_true]
    rfl
  · refine Ev.bind hlev ?_
    refine Ev.congr (f := fun k => seedcornlaw11_ListingLines.j1 k (tgts l) (Y :: L) false l d) (fun k => ?_) ?_
    · rw [if_pos (by rw [hw, List.length_cons]; omega), if_pos (by rw [List.length_cons]; omega), show d % 4294967296 = d by omega, hnd, Option.bind_some, if_pos (by omega), lines_first, hhd]
    · refine Ev.step (f := fun k => seedcornlaw11_ListingLines.l0 k (tgts l) L ((0 : Nat) : Int) l d) (fun k => ?_) hl0
      simp only [seedcornlaw11_ListingLines.j1]
      rw [if_neg (by decide), if_pos (by rw [List.length_cons]; omega)]
      rfl
theorem lines_true (l : List Int) (d : Int) : Ev (fun k => seedcornlaw11_ListingLines.j0 k true l d) true := by
  refine Ev.step (f := fun _ => some true) (fun k => ?_) (Ev.now _)
  simp only [seedcornlaw11_ListingLines.j0, if_true]
theorem listingLines_pure (l : List Int) (d : Int) (h : inR l) {q : Prop} (_ : q) : ∃ k, seedcornlaw11_ListingLines.f k l d = some true := by
  refine Ev.rounds (g := fun k => seedcornlaw11_ListingLines.f k l d) ?_
  unfold seedcornlaw11_ListingLines.f
  rw [awake11, right8_f]
  simp only [Option.bind_some, if_true]
  by_cases hl : (l.length : Int) > 400
  · exact Ev.congr (fun k => by rw [if_pos hl]) (lines_true l d)
  · refine Ev.congr (fun k => by rw [if_neg hl]) ?_
    by_cases hr : l.length ≤ 16384 ∧ 0 ≤ d ∧ d ≤ 32768
    · rw [decide_eq_true hr]
      exact lines_j0 l d h (inR_okL h (by omega)) hr.2
    · rw [decide_eq_false hr]
      exact lines_true l d
end Go.Proofs.YtdhkmdgieflioaaDoor.F
namespace Go.Proofs.YtdhkmdgieflioaaDoor.F
open Go.RowKit Go.Proofs.YtdhkmdgieflioaaDoorW.PrintWords Go.Proofs.YtdhkmdgieflioaaDoorW.PrintLast Go.Proofs.YtdhkmdgieflioaaDoorW.PrintMore
set_option linter.unusedVariables false
set_option linter.unusedSimpArgs false
def headW1 : List Nat := [104, 97, 114, 110, 101, 115, 115]
def headW2 : List Nat := [51, 50, 102, 55, 102, 55, 97, 101, 99, 55, 52, 52, 56, 51, 55, 56, 98, 52, 55, 102, 57, 52, 99, 49, 52, 97, 48, 50, 49, 98, 55, 100, 99, 53, 55, 49, 51, 48, 101, 52, 51, 98, 52, 52, 53, 48, 56, 49, 57, 98, 55, 57, 53, 56, 54, 51, 100, 98, 99, 98, 102, 102, 56, 55]
def headW3 : List Nat := [99, 117, 116]
def headRest : List Nat := [97, 116, 32, 115, 101, 101, 100, 99, 111, 114, 110, 47, 115, 101, 101, 100, 99, 111, 114, 110, 108, 97, 119, 53, 48, 46, 83, 101, 101, 100, 76, 111, 97, 100, 115, 32, 115, 101, 101, 100, 99, 111, 114, 110, 47, 115, 101, 101, 100, 99, 111, 114, 110, 108, 97, 119, 53, 48, 46, 83, 101, 101, 100, 83, 109, 97, 108, 108, 32, 115, 101, 101, 100, 99, 111, 114, 110, 47, 115, 101, 101, 100, 99, 111, 114, 110, 108, 97, 119, 53, 48, 46, 83, 101, 101, 100, 73, 109, 97, 103, 101, 115, 32, 115, 101, 101, 100, 99, 111, 114, 110, 47, 115, 101, 101, 100, 99, 111, 114, 110, 108, 97, 119, 53, 48, 46, 83, 101, 101, 100, 78, 111, 116, 101, 115, 32, 115, 101, 101, 100, 99, 111, 114, 110, 47, 115, 101, 101, 100, 99, 111, 114, 110, 108, 97, 119, 53, 48, 46, 83, 101, 101, 100, 84, 119, 111, 32, 115, 101, 101, 100, 99, 111, 114, 110, 47, 115, 101, 101, 100, 99, 111, 114, 110, 108, 97, 119, 49, 49, 46, 76, 105, 115, 116, 105, 110, 103, 71, 111, 101, 115, 79, 110, 32, 115, 101, 101, 100, 99, 111, 114, 110, 47, 115, 101, 101, 100, 99, 111, 114, 110, 108, 97, 119, 48, 55, 46, 73, 110, 115, 116, 67, 111, 100, 101, 115, 32, 115, 101, 101, 100, 99, 111, 114, 110, 47, 115, 101, 101, 100, 99, 111, 114, 110, 108, 97, 119, 49, 49, 46, 76, 105, 115, 116, 105, 110, 103, 68, 97, 116, 97, 32, 115, 101, 101, 100, 99, 111, 114, 110, 47, 115, 101, 101, 100, 99, 111, 114, 110, 108, 97, 119, 48, 55, 46, 73, 110, 115, 116, 82, 101, 97, 100, 115, 32, 115, 101, 101, 100, 99, 111, 114, 110, 47, 115, 101, 101, 100, 99, 111, 114, 110, 108, 97, 119, 48, 55, 46, 73, 110, 115, 116, 65, 112, 97, 114, 116, 32, 115, 101, 101, 100, 99, 111, 114, 110, 47, 115, 101, 101, 100, 99, 111, 114, 110, 108, 97, 119, 48, 55, 46, 73, 110, 115, 116, 70, 105, 101, 108, 100, 115, 32, 115, 101, 101, 100, 99, 111, 114, 110, 47, 115, 101, 101, 100, 99, 111, 114, 110, 108, 97, 119, 48, 55, 46, 73, 110, 115, 116, 67, 111, 117, 110, 116, 115, 32, 115, 101, 101, 100, 99, 111, 114, 110, 47, 115, 101, 101, 100, 99, 111, 114, 110, 108, 97, 119, 48, 55, 46, 73, 110, 115, 116, 78, 97, 109, 101, 115, 32, 115, 101, 101, 100, 99, 111, 114, 110, 47, 115, 101, 101, 100, 99, 111, 114, 110, 108, 97, 119, 53, 48, 46, 83, 101, 101, 100, 73, 116, 115, 101, 108, 102, 32, 115, 101, 101, 100, 99, 111, 114, 110, 47, 115, 101, 101, 100, 99, 111, 114, 110, 108, 97, 119, 49, 49, 46, 76, 105, 115, 116, 105, 110, 103, 84, 97, 114, 103, 101, 116, 115, 32, 115, 101, 101, 100, 99, 111, 114, 110, 47, 115, 101, 101, 100, 99, 111, 114, 110, 108, 97, 119, 49, 49, 46, 76, 105, 115, 116, 105, 110, 103, 84, 101, 120, 116, 32, 115, 101, 101, 100, 99, 111, 114, 110, 47, 115, 101, 101, 100, 99, 111, 114, 110, 108, 97, 119, 49, 49, 46, 76, 105, 115, 116, 105, 110, 103, 76, 105, 110, 101, 115, 32, 115, 101, 101, 100, 99, 111, 114, 110, 47, 115, 101, 101, 100, 99, 111, 114, 110, 108, 97, 119, 49, 49, 46, 76, 105, 115, 116, 105, 110, 103, 80, 108, 97, 99, 101, 115, 32, 115, 101, 101, 100, 99, 111, 114, 110, 47, 115, 101, 101, 100, 99, 111, 114, 110, 108, 97, 119, 49, 49, 46, 76, 105, 115, 116, 105, 110, 103, 65, 112, 97, 114, 116]
def chars (l : List Nat) : List Char := l.map Char.ofNat
theorem head_is : Tryd.prog.initOrder = String.ofList (chars headW1 ++ Char.ofNat 32 :: (chars headW2 ++ Char.ofNat 32 :: (chars headW3 ++ Char.ofNat 32 :: chars headRest))) := by kernel_rfl
theorem words_step : ∀ (w r : List Char), (∀ c ∈ w, c ≠ Char.ofNat 32) → wordsSigns (w ++ Char.ofNat 32 :: r) = w :: wordsSigns r
  | [], r, _ => rfl
  | c :: w, r, h => by
    have ih := words_step w r (fun d hd => h d (List.mem_cons_of_mem _ hd))
    have hc := h c (List.mem_cons_self ..)
    show wordsSigns (c :: (w ++ Char.ofNat 32 :: r)) = _
    rw [wordsSigns.eq_def]
    split
    · rename_i e; cases e
    · rename_i e; injection e with e1 e2; exact absurd e1 hc
    · rename_i c' r' hne e
      injection e with e1 e2
      subst e1 e2
      rw [ih]
theorem words_head : wordsSigns Tryd.prog.initOrder.toList = chars headW1 :: chars headW2 :: chars headW3 :: wordsSigns (chars headRest) := by
  rw [head_is, String.toList_ofList]
  rw [words_step _ _ (by decide +kernel), words_step _ _ (by decide +kernel), words_step _ _ (by decide +kernel)]
theorem head0 : behindMainWord (wordsSigns Tryd.prog.initOrder.toList) = chars headW3 :: wordsSigns (chars headRest) := by
  rw [words_head]
  unfold behindMainWord
  simp only
  rw [if_pos (by decide +kernel)]
section
variable {P : Program}
theorem mainIs_of {s : List Char} {R : List (List Char)} (h : wordsSigns P.initOrder.toList = chars headW1 :: s :: R) (hs : isSumSigns s = true) : P.mainIs = some (true, s) := by
  unfold Program.mainIs
  rw [h]
  simp only [hs, Bool.not_true]
  rw [if_neg (by decide), if_pos (by decide +kernel)]
theorem headLifts_of {R : List (List Char)} (h : behindMainWord (wordsSigns P.initOrder.toList) = chars headW3 :: R) : P.headLifts = [] := by
  unfold Program.headLifts
  rw [h]
  kernel_rfl
theorem liftsFinal_of {R : List (List Char)} (h : behindMainWord (wordsSigns P.initOrder.toList) = chars headW3 :: R) : P.liftsFinal = false := by
  unfold Program.liftsFinal
  rw [h, headLifts_of h]
  kernel_rfl
theorem make_of {R : List (List Char)} (h : behindMainWord (wordsSigns P.initOrder.toList) = chars headW3 :: R) : P.make = some .cut := by
  unfold Program.make
  rw [h, headLifts_of h]
  kernel_rfl
theorem strip_of {R : List (List Char)} : stripLifts liftWords (chars headW3 :: R) = ([], chars headW3 :: R) := by kernel_rfl
theorem mayEnter_of {R : List (List Char)} (h : behindMainWord (wordsSigns P.initOrder.toList) = chars headW3 :: R) (h1 : P.laysLater = false) (h2 : P.bearsReflect = false) (h3 : P.doorFits [] = true) : P.mayEnter = true := by
  unfold Program.mayEnter
  rw [h]
  simp only [strip_of, h1, h2, h3]
  kernel_rfl
end
theorem main_is : Tryd.prog.mainIs = some (true, chars headW2) := mainIs_of words_head (by kernel_rfl)
theorem lifts_final : Tryd.prog.liftsFinal = false := liftsFinal_of head0
theorem make_cut : Tryd.prog.make = some .cut := make_of head0
theorem lays_later : Tryd.prog.laysLater = false := by kernel_rfl
theorem bears_reflect : Tryd.prog.bearsReflect = false := by kernel_rfl
theorem door_fits : Tryd.prog.doorFits [] = true := by kernel_rfl
theorem may_enter : Tryd.prog.mayEnter = true := mayEnter_of head0 lays_later bears_reflect door_fits
def kindsOf (P : Program) (fn : Func) (c : OpenClaim) : List (Option IntKind) := if c.domain.isEmpty then [] else fn.params.toList.map fun t => match P.underlying t with | some (.int k) => some k | _ => none
theorem joined_of {P : Program} {f : FuncId} {fn : Func} {s : ChangeSpec} {c : OpenClaim}
    (k1 : c.wf (OpenSpec.ofChange s) = true) (k2 : laidOutB P = true) (k3 : mapsRowed P = true)
    (k4 : fn.params.all (P.readableRec ·) = true) (k5 : namedTie P c.named s.vars = true)
    (k6 : (c.stops == []) = true) (k7 : (P.stops == []) = true) (k8 : (c.knobs == []) = true) (k9 : (P.stopKnobs == []) = true)
    (k10 : (c.inPlace == P.inPlace f) = true) (k11 : (c.unfollowed == P.unfollowed f) = true) (k12 : (c.recurses == P.recurses f) = true) (k13 : (c.named == P.varsNamed f) = true)
    (k14 : (c.maps == (fn.params.toList ++ s.plain.varTypes P).any (P.mapsRec ·)) = true) (k15 : (c.ifaces == (fn.params.toList ++ s.plain.varTypes P).any (P.ifacesRec ·)) = true) (k16 : (c.mapsOut == P.mapsAmong fn.resultTypes.toList) = true)
    (k17 : (c.loops == (fn.params.toList ++ s.plain.varTypes P).any (P.loopsFrom ·)) = true) (k18 : (c.wideKeys == (fn.params.toList ++ s.plain.varTypes P ++ fn.resultTypes.toList).any (P.wideKeysFrom ·)) = true)
    (k19 : s.vars.all (P.varReadable ·) = true) (k20 : fn.resultTypes.all (fun t => P.readableRec t && decide (t < P.types.size)) = true) (k21 : (c.ifacesOut == fn.resultTypes.toList.any (P.ifacesRec ·)) = true) (k22 : (c.loopsOut == fn.resultTypes.toList.any (P.loopsFrom ·)) = true) (k23 : (c.plainKeys == P.plainKeys) = true)
    (k24 : c.shortTexts.isNone = true) (k25 : P.stopsHeard = true) (k26 : P.mayEnter = true) (k27 : (c.lifted == P.liftsFinal) = true) (k28 : (P.make == some c.make) = true)
    (k29 : (c.kinds == kindsOf P fn c) = true) (k30 : (c.pinned == c.pinnedBy) = true)
    (k31 : (c.veiled == (fn.params.toList ++ s.plain.varTypes P ++ fn.resultTypes.toList).any (P.veiledRec ·)) = true) (k32 : c.veiledFits P fn.params.toList (fn.params.toList ++ s.plain.varTypes P ++ fn.resultTypes.toList) = true) :
    joinedFacts P f fn s c = true := by
  have h2 : ∀ a b : Bool, a = true → b = true → (a && b) = true := fun a b ha hb => by rw [ha, hb]; rfl
  unfold joinedFacts
  exact h2 _ _ (h2 _ _ (h2 _ _ (h2 _ _ (h2 _ _ (h2 _ _ (h2 _ _ (h2 _ _ (h2 _ _ (h2 _ _ (h2 _ _ (h2 _ _ (h2 _ _ (h2 _ _ (h2 _ _ (h2 _ _ (h2 _ _ (h2 _ _ (h2 _ _ (h2 _ _ (h2 _ _ (h2 _ _ (h2 _ _ (h2 _ _ (h2 _ _ (h2 _ _ (h2 _ _ (h2 _ _ (h2 _ _ (h2 _ _ (h2 _ _ (k1) k2) k3) k4) k5) k6) k7) k8) k9) k10) k11) k12) k13) k14) k15) k16) k17) k18) k19) k20) k21) k22) k23) k24) k25) k26) k27) k28) k29) k30) k31) k32
theorem p_laid : laidOutB Tryd.prog = true := by kernel_rfl
theorem p_rowed : mapsRowed Tryd.prog = true := by kernel_rfl
theorem p_stops : (Tryd.prog.stops == []) = true := by kernel_rfl
theorem p_knobs : (Tryd.prog.stopKnobs == []) = true := by kernel_rfl
theorem p_heard : Tryd.prog.stopsHeard = true := by kernel_rfl
theorem p_looks : Tryd.prog.looks [] = false := by kernel_rfl
theorem head_sum : chars headW2 = "32f7f7aec7448378b47f94c14a021b7dc57130e43b4450819b795863dbcbff87".toList := by kernel_rfl
theorem main_sum : Tryd.prog.mainIs = some (true, "32f7f7aec7448378b47f94c14a021b7dc57130e43b4450819b795863dbcbff87".toList) := head_sum ▸ main_is
end Go.Proofs.YtdhkmdgieflioaaDoor.F
