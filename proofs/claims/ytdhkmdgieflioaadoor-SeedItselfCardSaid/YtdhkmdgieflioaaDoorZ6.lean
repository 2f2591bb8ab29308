/- Texts of this claim: contracts of functions that the law reaches, and plain lemmas. -/
import Derived.Test.YtdhkmdgieflioaaDoorRows
import Derived.LaidLaws
import Derived.ChangeArms
import Derived.ChangeSame
import Derived.OpenShut
import Derived.Lib.LaidTab
import Derived.LaidMore
import Derived.MakeChecks
import Derived.Deep.Strs
import Derived.Stop.LaidErr
import Derived.DataShut
import Derived.Sort.OwnSortedInts
import Derived.JoinedOf
import Derived.KernelRfl
import Derived.SevenTiedAt
import Derived.Test.YtdhkmdgieflioaaDoorZ3
import Derived.Test.YtdhkmdgieflioaaDoorZ1
import Derived.Test.YtdhkmdgieflioaaDoorZ5
namespace Go.Proofs.YtdhkmdgieflioaaDoor.F
open Go.RowKit Go.Proofs.YtdhkmdgieflioaaDoorW.PrintWords Go.Proofs.YtdhkmdgieflioaaDoorW.PrintLast Go.Proofs.YtdhkmdgieflioaaDoorW.PrintMore
set_option linter.unusedVariables false
set_option linter.unusedSimpArgs false
open Go.ChangeShapes
section
variable {H : Type} {enc : TypeId × Value → H} {P : Program} {w : World} {base : Nat} {spare : Nat → Bool} {held : Bool} {fuel : Nat} {t : TypeId} {cs : List Value}
theorem list_ext_parts (m : Nat) (hm : 0 < m) : ∀ (n : Nat) (cs : List Value) (gs : List (List Value)), cs.length = n * m → gs.length = n → (∀ i, i < n → (cs.drop (i * m)).take m = gs.getD i []) → cs = gs.flatMap id
  | 0, cs, gs, hl, hg, _ => by
    have h1 : cs = [] := List.eq_nil_of_length_eq_zero (by omega)
    have h2 : gs = [] := List.eq_nil_of_length_eq_zero hg
    subst h1 h2
    rfl
  | n + 1, cs, gs, hl, hg, h => by
    match gs, hg with
    | g :: gs, hg =>
      have h0 : cs.take m = g := by have := h 0 (by omega); simpa using this
      have hr := list_ext_parts m hm n (cs.drop m) gs (by rw [List.length_drop, hl, Nat.add_mul]; omega) (by simpa using hg) (fun i hi => by
        have := h (i + 1) (by omega)
        rw [List.drop_drop, show m + i * m = (i + 1) * m by rw [Nat.add_mul]; omega, this]
        rfl)
      rw [List.flatMap_cons, ← hr]
      show cs = g ++ cs.drop m
      rw [← h0, List.take_append_drop]
theorem cells_of_rows {n e m : Nat} (fl : DataW H → List Value) (ht : P.underlying t = some (.array n e)) (hm : 0 < m) (hce : P.cellsOf e = m) (hct : P.cellsOf t = n * m)
    (hel : ∀ (f : Nat) (c : List Value) (x : DataW H × List MemPlace), DataW.trod enc P w base spare held f e c = some x → c = fl x.1)
    {Ds : List (DataW H)} {p : List MemPlace} (h : DataW.trod enc P w base spare held fuel t cs = some (.agg Ds, p)) : cs = (Ds.map fl).flatMap id := by
  obtain ⟨xs, f, _, hx, hl, hn, hi⟩ := DataW.trod_array ht h
  have hD : Ds = xs.map (·.1) := by have := congrArg Prod.fst hx; simpa using this
  refine list_ext_parts m hm n cs _ (by rw [hl, hct]) (by rw [List.length_map, hD, List.length_map, hn]) (fun i hlt => ?_)
  have h1 := hi i hlt
  rw [hce] at h1
  have h2 : i < xs.length := by omega
  rw [List.getElem?_eq_getElem h2] at h1
  have h3 := hel _ _ _ h1
  rw [h3, hD]
  simp [List.getD_eq_getElem?_getD, h2]
end
def flKind {H : Type} : DataW H → List Value
  | .agg [.lit (.string a), .lit (.string b)] => [.string ⟨a.toArray⟩, .string ⟨b.toArray⟩]
  | _ => []
def flCode {H : Type} : DataW H → List Value
  | .agg [.agg [.lit (.int _ a), .lit (.int _ b), .lit (.int _ c), .lit (.int _ d)], .lit (.string s)] => [.int .i64 a, .int .i64 b, .int .i64 c, .int .i64 d, .string ⟨s.toArray⟩]
  | _ => []
theorem split2 {α : Type} (l : List α) (k : Nat) : l = l.take k ++ l.drop k := (List.take_append_drop k l).symm
theorem fl_kind {H : Type} {enc : TypeId × Value → H} {w : World} {base : Nat} {spare : Nat → Bool} {held : Bool} (f : Nat) (c : List Value) (x : DataW H × List MemPlace) (h : DataW.trod enc Tryd.prog w base spare held f 89 c = some x) : c = flKind x.1 := by
  obtain ⟨y0, y1, n, rfl, hl, h0, h1⟩ := trod_struct2 Tryd.underlying89 h
  have c9 : Tryd.prog.cellsOf 9 = 1 := by kernel_rfl
  have c89 : Tryd.prog.cellsOf 89 = 2 := by kernel_rfl
  rw [c89] at hl
  obtain ⟨s0, e0, rfl, _⟩ := DataW.trod_string Tryd.underlying9 h0
  obtain ⟨s1, e1, rfl, _⟩ := DataW.trod_string Tryd.underlying9 h1
  have e0' : c.take 1 = [.string s0] := by have h := e0; rw [c9] at h; exact h
  have e1' : (c.drop 1).take 1 = [.string s1] := by have h := e1; rw [c9] at h; exact h
  have hd : (c.drop 1).take 1 = c.drop 1 := List.take_of_length_le (by rw [List.length_drop, hl]; decide)
  rw [split2 c 1, e0', ← hd, e1']
  rfl
theorem fl_code {H : Type} {enc : TypeId × Value → H} {w : World} {base : Nat} {spare : Nat → Bool} {held : Bool} (f : Nat) (c : List Value) (x : DataW H × List MemPlace) (h : DataW.trod enc Tryd.prog w base spare held f 101 c = some x) : c = flCode x.1 := by
  obtain ⟨y0, y1, n, rfl, hl, h0, h1⟩ := trod_struct2 Tryd.underlying101 h
  have c9 : Tryd.prog.cellsOf 9 = 1 := by kernel_rfl
  have c3 : Tryd.prog.cellsOf 3 = 1 := by kernel_rfl
  have c46 : Tryd.prog.cellsOf 46 = 4 := by kernel_rfl
  have c101 : Tryd.prog.cellsOf 101 = 5 := by kernel_rfl
  rw [c101] at hl
  obtain ⟨s1, e1, rfl, _⟩ := DataW.trod_string Tryd.underlying9 h1
  obtain ⟨zs, n2, _, rfl, hl2, hz, hf⟩ := DataW.trod_struct Tryd.underlying46 h0
  have g0 := hf 0 _ rfl
  have g1 := hf 1 _ rfl
  have g2 := hf 2 _ rfl
  have g3 := hf 3 _ rfl
  match zs, hz, g0, g1, g2, g3 with
  | [z0, z1, z2, z3], _, g0, g1, g2, g3 =>
    obtain ⟨a0, b0, rfl, _⟩ := DataW.trod_int Tryd.underlying3 (show _ = some z0 from g0)
    obtain ⟨a1, b1, rfl, _⟩ := DataW.trod_int Tryd.underlying3 (show _ = some z1 from g1)
    obtain ⟨a2, b2, rfl, _⟩ := DataW.trod_int Tryd.underlying3 (show _ = some z2 from g2)
    obtain ⟨a3, b3, rfl, _⟩ := DataW.trod_int Tryd.underlying3 (show _ = some z3 from g3)
    have e1' : (c.drop 4).take 1 = [.string s1] := by have h := e1; rw [c9] at h; exact h
    have hd : (c.drop 4).take 1 = c.drop 4 := List.take_of_length_le (by rw [List.length_drop, hl]; decide)
    have k0 : ((c.take 4).drop 0).take 1 = [.int .i64 a0] := by have h : List.take (Tryd.prog.cellsOf 3) (List.drop 0 (List.take (Tryd.prog.cellsOf 46) (List.drop 0 c))) = [.int .i64 a0] := b0; rw [c3, c46] at h; exact h
    have k1 : ((c.take 4).drop 1).take 1 = [.int .i64 a1] := by have h : List.take (Tryd.prog.cellsOf 3) (List.drop 1 (List.take (Tryd.prog.cellsOf 46) (List.drop 0 c))) = [.int .i64 a1] := b1; rw [c3, c46] at h; exact h
    have k2 : ((c.take 4).drop 2).take 1 = [.int .i64 a2] := by have h : List.take (Tryd.prog.cellsOf 3) (List.drop 2 (List.take (Tryd.prog.cellsOf 46) (List.drop 0 c))) = [.int .i64 a2] := b2; rw [c3, c46] at h; exact h
    have k3 : ((c.take 4).drop 3).take 1 = [.int .i64 a3] := by have h : List.take (Tryd.prog.cellsOf 3) (List.drop 3 (List.take (Tryd.prog.cellsOf 46) (List.drop 0 c))) = [.int .i64 a3] := b3; rw [c3, c46] at h; exact h
    have hq : c.take 4 = [.int .i64 a0, .int .i64 a1, .int .i64 a2, .int .i64 a3] := by
      have := list_ext_parts 1 (by omega) 4 (c.take 4) [[.int .i64 a0], [.int .i64 a1], [.int .i64 a2], [.int .i64 a3]] (by rw [List.length_take, hl]; rfl) rfl (fun i hi => by
        have : i = 0 ∨ i = 1 ∨ i = 2 ∨ i = 3 := by omega
        rcases this with rfl | rfl | rfl | rfl
        · exact k0
        · exact k1
        · exact k2
        · exact k3)
      simpa using this
    rw [split2 c 4, hq, ← hd, e1']
    rfl
theorem tyKinds : (Tryd.prog.globals[0]?).map (·.type) = some 90 := by kernel_rfl
theorem tyCode : (Tryd.prog.globals[1]?).map (·.type) = some 102 := by kernel_rfl
theorem tyPow : (Tryd.prog.globals[2]?).map (·.type) = some 154 := by kernel_rfl
theorem gk_of {W : World} {rest : List (String × DataW Unit)} (h : laidMet Tryd.prog (("seedcorn/inst.kinds", Rows.laid_seedcorn_inst_kinds) :: rest) W) : GK W := by
  obtain ⟨ps, ⟨g', t', cs, fuel, p, q, hg', ht', hvar, hd, _, _⟩, _⟩ := h
  obtain rfl := Option.some.inj (g_kinds.symm.trans hg')
  obtain rfl := Option.some.inj (tyKinds.symm.trans ht')
  have hc := cells_of_rows (n := 28) (e := 89) (m := 2) flKind Tryd.underlying90 (by omega) (by kernel_rfl) (by kernel_rfl) fl_kind hd
  refine ⟨?_⟩
  rw [hvar]
  cases cs with
  | mk l =>
    simp only at hc
    subst hc
    rfl
theorem gc_of {W : World} {rest : List (String × DataW Unit)} (h : laidMet Tryd.prog (("seedcorn/seed.code", Rows.laid_seedcorn_seed_code) :: rest) W) : GC W := by
  obtain ⟨ps, ⟨g', t', cs, fuel, p, q, hg', ht', hvar, hd, _, _⟩, _⟩ := h
  obtain rfl := Option.some.inj (g_code.symm.trans hg')
  obtain rfl := Option.some.inj (tyCode.symm.trans ht')
  have hc := cells_of_rows (n := 37) (e := 101) (m := 5) flCode Tryd.underlying102 (by omega) (by kernel_rfl) (by kernel_rfl) fl_code hd
  refine ⟨?_⟩
  rw [hvar]
  cases cs with
  | mk l =>
    simp only at hc
    subst hc
    rfl
theorem cp154 : Tryd.prog.cellsOf 154 = 20 := by kernel_rfl
theorem cp96 : Tryd.prog.cellsOf 96 = 1 := by kernel_rfl
theorem gt_of {W : World} {rest : List (String × DataW Unit)} (h : laidMet Tryd.prog (("internal/strconv.uint64pow10", Rows.laid_internal_strconv_uint64pow10) :: rest) W) : GT W :=
  ⟨Lib.tabIs_of_head (zs := Lib.pow10Tab) g_pow tyPow Tryd.underlying154 Tryd.underlying96 cp96 cp154 h⟩
theorem laid_all {W : World} (h : laidMet Tryd.prog [("math/bits.deBruijn32tab", Rows.laid_math_bits_deBruijn32tab), ("math/bits.deBruijn64tab", Rows.laid_math_bits_deBruijn64tab), ("internal/strconv.uint64pow10", Rows.laid_internal_strconv_uint64pow10), ("seedcorn/inst.kinds", Rows.laid_seedcorn_inst_kinds), ("seedcorn/seed.code", Rows.laid_seedcorn_seed_code)] W) : GT W ∧ GK W ∧ GC W := ⟨gt_of h.tail.tail, gk_of h.tail.tail.tail, gc_of h.tail.tail.tail.tail⟩
end Go.Proofs.YtdhkmdgieflioaaDoor.F
namespace Go.Proofs.YtdhkmdgieflioaaDoor.F
open Go.RowKit Go.Proofs.YtdhkmdgieflioaaDoorW.PrintWords Go.Proofs.YtdhkmdgieflioaaDoorW.PrintLast Go.Proofs.YtdhkmdgieflioaaDoorW.PrintMore
set_option linter.unusedVariables false
set_option linter.unusedSimpArgs false
open SeedSim
def sgn (n : Int) : Int := if n < 10 then 48 + n else 87 + n
theorem digit_sgn (n : Int) (h0 : 0 ≤ n) (h1 : n ≤ 15) : digit (sgn n) = n ∧ sgn n ≠ 10 ∧ sgn n ≠ 35 := by
  unfold sgn digit
  by_cases h : n < 10
  · rw [if_pos h]
    rw [if_pos (by omega)]
    omega
  · rw [if_neg h]
    rw [if_neg (by omega), if_pos (by omega)]
    omega
theorem inpL_nums (xs : List Int) (h : ∀ x ∈ xs, 0 ≤ x ∧ x ≤ 255) : inpL (strOfNums xs) = xs := by
  unfold inpL strOfNums
  show List.map _ (List.map _ xs) = xs
  rw [List.map_map]
  conv => rhs; rw [← List.map_id xs]
  refine List.map_congr_left (fun x hx => ?_)
  have := h x hx
  simp
  omega
theorem loads_append (l : LS) (a b : List Int) : loads l (a ++ b) = loads (loads l a) b := by unfold loads; rw [List.foldl_append]
theorem loads_note (xs : List Int) (note : List Int) (h : ∀ c ∈ note, c ≠ 10) : loads ⟨true, -1, xs⟩ note = ⟨true, -1, xs⟩ := by
  induction note with
  | nil => rfl
  | cons c note ih =>
    show loads (lstep ⟨true, -1, xs⟩ c) note = _
    have hc := h c (List.mem_cons_self ..)
    have : lstep ⟨true, -1, xs⟩ c = ⟨true, -1, xs⟩ := by simp [lstep, hc]
    rw [this]
    exact ih (fun d hd => h d (List.mem_cons_of_mem _ hd))
theorem map_toNat_inj : ∀ (x y : List UInt8), x.map (fun b => (b.toNat : Int)) = y.map (fun b => (b.toNat : Int)) → x = y
  | [], [], _ => rfl
  | [], y :: ys, h => by simp at h
  | x :: xs, [], h => by simp at h
  | x :: xs, y :: ys, h => by
    rw [List.map_cons, List.map_cons, List.cons.injEq] at h
    rw [map_toNat_inj xs ys h.2, show x = y from UInt8.toNat_inj.1 (by have := h.1; omega)]
theorem inpL_inj (a b : ByteArray) (h : inpL a = inpL b) : a = b := by
  have h1 : a.data.toList = b.data.toList := map_toNat_inj _ _ h
  cases a; cases b
  simp only [ByteArray.mk.injEq]
  exact Array.toList_inj.1 h1
end Go.Proofs.YtdhkmdgieflioaaDoor.F
namespace Go.Proofs.YtdhkmdgieflioaaDoor.F
open Go.RowKit Go.Proofs.YtdhkmdgieflioaaDoorW.PrintWords Go.Proofs.YtdhkmdgieflioaaDoorW.PrintLast Go.Proofs.YtdhkmdgieflioaaDoorW.PrintMore
attribute [local go_sem] max2_int min2_int max_two min_two max_three min_three max_four min_four
set_option linter.unusedVariables false
set_option linter.unusedSimpArgs false
theorem eqA46 (d : Nat) (w : World) (x0 y0 : Int) (x1 y1 : Int) (x2 y2 : Int) (x3 y3 : Int) :
    (Op.equalIn (d + 2) 46 (.agg #[.int .i64 x0, .int .i64 x1, .int .i64 x2, .int .i64 x3]) (.agg #[.int .i64 y0, .int .i64 y1, .int .i64 y2, .int .i64 y3])).run Tryd.prog w = .ok (x0 == y0 && (x1 == y1 && (x2 == y2 && (x3 == y3)))) w := by
  refine eqA_of Tryd.underlying46 (by kernel_rfl) ?_
  refine eqf_cons (by rfl) (by go_simp; rfl) (by go_simp; rfl) (by go_simp) ?_
  refine eqf_cons (by rfl) (by go_simp; rfl) (by go_simp; rfl) (by go_simp) ?_
  refine eqf_cons (by rfl) (by go_simp; rfl) (by go_simp; rfl) (by go_simp) ?_
  exact eqf_last (by rfl) (by go_simp; rfl) (by go_simp; rfl) (by go_simp)
end Go.Proofs.YtdhkmdgieflioaaDoor.F
namespace Go.Proofs.YtdhkmdgieflioaaDoor.F
open Go.RowKit Go.Proofs.YtdhkmdgieflioaaDoorW.PrintWords Go.Proofs.YtdhkmdgieflioaaDoorW.PrintLast Go.Proofs.YtdhkmdgieflioaaDoorW.PrintMore
set_option linter.unusedVariables false
set_option linter.unusedSimpArgs false
theorem ba_app (a b : ByteArray) : (a ++ b).data.toList = a.data.toList ++ b.data.toList := by rw [ByteArray.data_append, Array.toList_append]
def restOf (a b c : Int) : List UInt8 → List UInt8
  | [] => []
  | ch :: r => [44, 32] ++ (itemOf a b c ch).data.toList ++ restOf a b c r
theorem joinTail_rest (a b c : Int) : ∀ l : List UInt8, Lib.joinTail [44, 32] (l.map fun ch => (itemOf a b c ch).data.toList) = restOf a b c l
  | [] => rfl
  | ch :: r => by
    rw [List.map_cons, restOf, ← joinTail_rest a b c r]
    simp [Lib.joinTail]
end Go.Proofs.YtdhkmdgieflioaaDoor.F
namespace Go.Proofs.YtdhkmdgieflioaaDoor.F
open Go.RowKit Go.Proofs.YtdhkmdgieflioaaDoorW.PrintWords Go.Proofs.YtdhkmdgieflioaaDoorW.PrintLast Go.Proofs.YtdhkmdgieflioaaDoorW.PrintMore
set_option linter.unusedVariables false
set_option linter.unusedSimpArgs false
theorem digit_val (d : Nat) (h : d < 10) : (UInt8.ofNat (48 + d)).toNat - 48 = d ∧ 48 ≤ (UInt8.ofNat (48 + d)).toNat ∧ (UInt8.ofNat (48 + d)).toNat ≤ 57 := by
  have : (UInt8.ofNat (48 + d)).toNat = 48 + d := by simp; omega
  omega
theorem dec_range (n : Nat) : ∀ x ∈ Lib.decDigits n, 48 ≤ x.toNat ∧ x.toNat ≤ 57 := by
  induction n using Nat.strongRecOn with
  | ind n ih =>
    rw [Lib.decDigits.eq_1]
    split
    · rename_i h
      intro x hx
      obtain rfl := List.mem_singleton.1 hx
      exact (digit_val n h).2
    · intro x hx
      rcases List.mem_append.1 hx with hx | hx
      · exact ih (n / 10) (by omega) x hx
      · obtain rfl := List.mem_singleton.1 hx
        exact (digit_val (n % 10) (by omega)).2
theorem itoa_nat (n : Int) (h : 0 ≤ n) : Lib.itoa n = Lib.decDigits n.toNat := by unfold Lib.itoa; rw [if_neg (by omega)]
theorem item_data (a b c : Int) (ch : UInt8) : (itemOf a b c ch).data.toList = if ch = 97 then 114 :: Lib.itoa a else if ch = 98 then 114 :: Lib.itoa b else if ch = 114 then 114 :: Lib.itoa c else Lib.itoa c := by
  unfold itemOf
  split
  · rw [ba_app]; rfl
  · split
    · rw [ba_app]; rfl
    · split
      · rw [ba_app]; rfl
      · rfl
def bodyOf (a b c : Int) : List UInt8 → List UInt8
  | [] => []
  | ch :: r => 32 :: ((itemOf a b c ch).data.toList ++ restOf a b c r)
theorem text_data (op a b c : Int) (hr : rightB op a b c = true) : (textOf op a b c).data.toList = (nameOf op).data.toList ++ bodyOf a b c (partsOf op).data.toList := by
  unfold textOf itemsOf
  rw [hr, if_neg (by decide)]
  generalize (partsOf op).data.toList = l
  cases l with
  | nil => simp [bodyOf]
  | cons ch r =>
    rw [if_neg (by simp), ba_app, ba_app]
    simp only [List.map_cons, List.map_map]
    rw [Lib.join_cons, bodyOf, ← joinTail_rest]
    simp [Function.comp_def]
end Go.Proofs.YtdhkmdgieflioaaDoor.F
namespace Go.Proofs.YtdhkmdgieflioaaDoor.F
open Go.RowKit Go.Proofs.YtdhkmdgieflioaaDoorW.PrintWords Go.Proofs.YtdhkmdgieflioaaDoorW.PrintLast Go.Proofs.YtdhkmdgieflioaaDoorW.PrintMore
set_option linter.unusedVariables false
set_option linter.unusedSimpArgs false
def tx (x : UInt8) : Bool := x != 76 && x != 10 && x != 46
theorem tx_digit (x : UInt8) (h : 48 ≤ x.toNat ∧ x.toNat ≤ 57) : tx x = true := by
  have h1 : x ≠ 76 := by rintro rfl; exact absurd h.2 (by decide)
  have h2 : x ≠ 10 := by rintro rfl; exact absurd h.1 (by decide)
  have h3 : x ≠ 46 := by rintro rfl; exact absurd h.1 (by decide)
  simp [tx, h1, h2, h3]
theorem num_tx (n : Int) (h : 0 ≤ n) : ∀ x ∈ num n, tx x = true := by
  intro x hx
  unfold num at hx
  rw [itoa_nat n h] at hx
  exact tx_digit x (dec_range _ x hx)
theorem item_tx (a b c : Int) (ha : 0 ≤ a) (hb : 0 ≤ b) (hc : 0 ≤ c) (ch : UInt8) : ∀ x ∈ (itemOf a b c ch).data.toList, tx x = true := by
  rw [item_data]
  have h1 := num_tx a ha
  have h2 := num_tx b hb
  have h3 := num_tx c hc
  have h4 : tx 114 = true := by decide
  unfold num at h1 h2 h3
  intro x hx
  split at hx
  · rcases List.mem_cons.1 hx with rfl | hx
    · exact h4
    · exact h1 x hx
  · split at hx
    · rcases List.mem_cons.1 hx with rfl | hx
      · exact h4
      · exact h2 x hx
    · split at hx
      · rcases List.mem_cons.1 hx with rfl | hx
        · exact h4
        · exact h3 x hx
      · exact h3 x hx
theorem rest_tx (a b c : Int) (ha : 0 ≤ a) (hb : 0 ≤ b) (hc : 0 ≤ c) : ∀ l : List UInt8, ∀ x ∈ restOf a b c l, tx x = true
  | [], x, hx => by simp [restOf] at hx
  | ch :: r, x, hx => by
    simp only [restOf, List.mem_append] at hx
    rcases hx with (hx | hx) | hx
    · simp only [List.mem_cons, List.not_mem_nil, or_false] at hx
      rcases hx with rfl | rfl <;> decide
    · exact item_tx a b c ha hb hc ch x hx
    · exact rest_tx a b c ha hb hc r x hx
theorem body_tx (a b c : Int) (ha : 0 ≤ a) (hb : 0 ≤ b) (hc : 0 ≤ c) (l : List UInt8) : ∀ x ∈ bodyOf a b c l, tx x = true := by
  cases l with
  | nil => intro x hx; simp [bodyOf] at hx
  | cons ch r =>
    intro x hx
    simp only [bodyOf, List.mem_cons, List.mem_append] at hx
    rcases hx with rfl | hx | hx
    · decide
    · exact item_tx a b c ha hb hc ch x hx
    · exact rest_tx a b c ha hb hc r x hx
theorem names_tx : ((List.range 28).all fun n => (nameOf (n : Int)).data.toList.all tx) = true := by kernel_rfl
theorem text_tx (op a b c : Int) (hr : rightB op a b c = true) : ∀ x ∈ (textOf op a b c).data.toList, tx x = true := by
  obtain ⟨h1, h2, ha, hb, hc⟩ := right_facts _ _ _ _ hr
  rw [text_data _ _ _ _ hr]
  intro x hx
  rcases List.mem_append.1 hx with hx | hx
  · obtain ⟨n, rfl⟩ : ∃ n : Nat, op = n := ⟨op.toNat, by omega⟩
    exact List.all_eq_true.1 (List.all_eq_true.1 names_tx n (List.mem_range.2 (by omega))) x hx
  · exact body_tx a b c ha.1 hb.1 hc.1 _ x hx
theorem of_tx {l : List UInt8} (h : ∀ x ∈ l, tx x = true) : (76 : UInt8) ∉ l ∧ (10 : UInt8) ∉ l ∧ (46 : UInt8) ∉ l :=
  ⟨fun x => absurd (h _ x) (by decide), fun x => absurd (h _ x) (by decide), fun x => absurd (h _ x) (by decide)⟩
end Go.Proofs.YtdhkmdgieflioaaDoor.F
namespace Go.Proofs.YtdhkmdgieflioaaDoor.F
open Go.RowKit Go.Proofs.YtdhkmdgieflioaaDoorW.PrintWords Go.Proofs.YtdhkmdgieflioaaDoorW.PrintLast Go.Proofs.YtdhkmdgieflioaaDoorW.PrintMore
set_option linter.unusedVariables false
set_option linter.unusedSimpArgs false
open SeedSim
def ib (L : List UInt8) : List Int := L.map fun b => (b.toNat : Int)
theorem ib_app (a b : List UInt8) : ib (a ++ b) = ib a ++ ib b := by unfold ib; simp
theorem inp_ib (L : List UInt8) : inpL ⟨L.toArray⟩ = ib L := by unfold inpL ib; simp
theorem hx_sgn : ∀ n : Nat, n < 16 → ((hx n).toNat : Int) = sgn (n : Int) := by decide
theorem twoS_loads (pre : List Int) (c : Int) (h0 : 0 ≤ c) (h1 : c ≤ 255) : loads ⟨false, -1, pre⟩ [sgn (c / 16), sgn (c % 16)] = ⟨false, -1, pre ++ [c]⟩ := by
  have d1 := digit_sgn (c / 16) (by omega) (by omega)
  have d2 := digit_sgn (c % 16) (by omega) (by omega)
  show lstep (lstep ⟨false, -1, pre⟩ (sgn (c / 16))) (sgn (c % 16)) = _
  have k1 : lstep ⟨false, -1, pre⟩ (sgn (c / 16)) = ⟨false, c / 16, pre⟩ := by
    unfold lstep
    simp only [if_neg d1.2.1, if_neg d1.2.2, d1.1]
    rw [if_neg (by simp; omega), if_pos (by decide)]
  rw [k1]
  unfold lstep
  simp only [if_neg d2.2.1, if_neg d2.2.2, d2.1]
  rw [if_neg (by simp; omega), if_neg (by omega)]
  have hc16 : 16 * (c / 16) + c % 16 = c := by omega
  rw [hc16]
theorem hex_loads : ∀ (f : List UInt8) (pre : List Int), loads ⟨false, -1, pre⟩ (ib (hexS f)) = ⟨false, -1, pre ++ ib f⟩
  | [], pre => by simp [hexS, ib, loads]
  | c :: f, pre => by
    have hc : c.toNat < 256 := c.toNat_lt
    have e : hexS (c :: f) = [hx (c.toNat / 16), hx (c.toNat % 16)] ++ hexS f := rfl
    have e2 : ib [hx (c.toNat / 16), hx (c.toNat % 16)] = [sgn ((c.toNat : Int) / 16), sgn ((c.toNat : Int) % 16)] := by
      show [((hx (c.toNat / 16)).toNat : Int), ((hx (c.toNat % 16)).toNat : Int)] = _
      rw [hx_sgn _ (by omega), hx_sgn _ (by omega)]
      rfl
    rw [e, ib_app, loads_append, e2, twoS_loads pre _ (by omega) (by omega), hex_loads f, List.append_assoc]
    rfl
theorem line_loads (f note : List UInt8) (pre : List Int) (hn : (10 : UInt8) ∉ note) : loads ⟨false, -1, pre⟩ (ib (lineS f note)) = ⟨false, -1, pre ++ ib f⟩ := by
  unfold lineS
  have e : ib (hexS f ++ [32, 32, 35, 32] ++ note ++ [10]) = ib (hexS f) ++ ([32, 32, 35] ++ ([32] ++ ib note ++ [10])) := by
    rw [ib_app, ib_app, ib_app]
    show ib (hexS f) ++ [32, 32, 35, 32] ++ ib note ++ [10] = _
    simp
  rw [e, loads_append, hex_loads, loads_append]
  have e1 : loads ⟨false, -1, pre ++ ib f⟩ [32, 32, 35] = ⟨true, -1, pre ++ ib f⟩ := by
    show lstep (lstep (lstep ⟨false, -1, pre ++ ib f⟩ 32) 32) 35 = _
    simp [lstep, digit]
  rw [e1, loads_append, loads_note _ _ (by
    intro c hc
    rcases List.mem_append.1 hc with h | h
    · rw [List.mem_singleton] at h; omega
    · obtain ⟨b, hb, rfl⟩ := List.mem_map.1 h
      intro h10
      have : b = 10 := UInt8.toNat_inj.1 (by have : (b.toNat : Int) = 10 := h10; show b.toNat = 10; omega)
      exact hn (this ▸ hb))]
  show lstep ⟨true, -1, pre ++ ib f⟩ 10 = _
  simp [lstep, digit]
theorem note_no10 (k : Nat) (hk : k < 37) : (10 : UInt8) ∉ noteK k := by
  obtain ⟨hr, _, _, _, h5, _⟩ := row_facts k hk
  have h1 := (of_tx (text_tx _ _ _ _ hr)).2.1
  unfold noteK
  intro h
  rcases List.mem_append.1 h with h | h
  · exact h1 h
  · split at h
    · simp at h
    · rcases List.mem_append.1 h with h | h
      · simp at h
      · exact h5 _ h rfl
theorem four_ib (m : Nat) : ib (four m) = ((inpL seedImg).drop (4 * m)).take 4 := by
  unfold four ib inpL
  generalize seedImg = im
  rw [ByteArray.data_extract, Array.toList_extract, List.extract_eq_take_drop, List.map_take, List.map_drop]
  rw [show 4 * m + 4 - 4 * m = 4 by omega]
theorem four_step (m : Nat) : (inpL seedImg).take (4 * m) ++ ib (four m) = (inpL seedImg).take (4 * (m + 1)) := by
  rw [four_ib, show 4 * (m + 1) = 4 * m + 4 by omega, List.take_add]
theorem bodyT_loads : ∀ k : Nat, k ≤ 37 → loads ⟨false, -1, (inpL seedImg).take (4 * 3)⟩ (ib (bodyT k)) = ⟨false, -1, (inpL seedImg).take (4 * (3 + k))⟩
  | 0, _ => by simp [bodyT, ib, loads]
  | k + 1, h => by
    rw [bodyT_step, ib_app, loads_append, bodyT_loads k (by omega), line_loads _ _ _ (note_no10 k (by omega)), four_step]
    rfl
theorem headT_loads : loads ⟨false, -1, []⟩ (ib headT) = ⟨false, -1, (inpL seedImg).take (4 * 3)⟩ := by
  unfold headT
  rw [ib_app, ib_app, loads_append, loads_append, line_loads _ _ _ (by decide)]
  have e0 : ([] : List Int) ++ ib (four 0) = (inpL seedImg).take (4 * 1) := by have := four_step 0; simpa using this
  rw [e0, line_loads _ _ _ (by decide), four_step, line_loads _ _ _ (by decide), four_step]
theorem load_text : loadOf ⟨seedT.toArray⟩ = seedImg := by
  refine inpL_inj _ _ ?_
  unfold loadOf
  have h := inp_ib seedT
  rw [h]
  unfold seedT
  rw [ib_app, loads_append, headT_loads, bodyT_loads 37 (Nat.le_refl _)]
  rw [List.take_of_length_le (by rw [inpL_len, img_size]; decide)]
  exact inpL_nums _ (fun x hx => inpL_byte seedImg x hx)
theorem seedT_size : (⟨seedT.toArray⟩ : ByteArray).size ≤ 5000 := by
  show seedT.toArray.size ≤ 5000
  rw [List.size_toArray]
  unfold seedT
  rw [List.length_append]
  have h1 := headT_len
  have h2 := body_lenT 37 (Nat.le_refl _)
  omega
theorem seedItself_pure : ∃ k, seedcornlaw50_SeedItself.f k = some true := by
  refine Ev.rounds (g := fun k => seedcornlaw50_SeedItself.f k) ?_
  unfold seedcornlaw50_SeedItself.f
  refine Ev.bind awake_f ?_
  have hs := seedT_size
  have hl := load_text
  have hT : seed_Text.f = some ⟨seedT.toArray⟩ := rfl
  generalize (⟨seedT.toArray⟩ : ByteArray) = T at hs hl hT
  refine Ev.congr (f := fun k => (seedcornref02_Load.f k T).bind fun t293 => ((seed_Image.f k).bind fun t294 => (if t293.toList = t294.toList then ((seed_Image.f k).bind fun t295 => ((seedcornref50_Loads.f k t295 T).bind fun t297 => (some t297))) else (some false)))) (fun k => ?_) ?_
  · rw [if_pos rfl, hT]
    simp only [Option.bind_some]
    rw [if_pos (by omega)]
  · refine Ev.bind (load_f T (by omega)) ?_
    refine Ev.bind image_ev ?_
    rw [hl]
    refine Ev.congr (fun k => by rw [if_pos rfl]) ?_
    refine Ev.bind image_ev ?_
    exact Ev.bind (loads_f T (by omega)) (Ev.now _)
end Go.Proofs.YtdhkmdgieflioaaDoor.F
namespace Go.Proofs.YtdhkmdgieflioaaDoor.F
open Go.RowKit Go.Proofs.YtdhkmdgieflioaaDoorW.PrintWords Go.Proofs.YtdhkmdgieflioaaDoorW.PrintLast Go.Proofs.YtdhkmdgieflioaaDoorW.PrintMore
set_option linter.unusedVariables false
set_option linter.unusedSimpArgs false
def headW1 : List Nat := [104, 97, 114, 110, 101, 115, 115]
def headW2 : List Nat := [51, 50, 102, 55, 102, 55, 97, 101, 99, 55, 52, 52, 56, 51, 55, 56, 98, 52, 55, 102, 57, 52, 99, 49, 52, 97, 48, 50, 49, 98, 55, 100, 99, 53, 55, 49, 51, 48, 101, 52, 51, 98, 52, 52, 53, 48, 56, 49, 57, 98, 55, 57, 53, 56, 54, 51, 100, 98, 99, 98, 102, 102, 56, 55]
def headW3 : List Nat := [99, 117, 116]
def headRest : List Nat := [97, 116, 32, 115, 101, 101, 100, 99, 111, 114, 110, 47, 115, 101, 101, 100, 99, 111, 114, 110, 108, 97, 119, 53, 48, 46, 83, 101, 101, 100, 76, 111, 97, 100, 115, 32, 115, 101, 101, 100, 99, 111, 114, 110, 47, 115, 101, 101, 100, 99, 111, 114, 110, 108, 97, 119, 53, 48, 46, 83, 101, 101, 100, 83, 109, 97, 108, 108, 32, 115, 101, 101, 100, 99, 111, 114, 110, 47, 115, 101, 101, 100, 99, 111, 114, 110, 108, 97, 119, 53, 48, 46, 83, 101, 101, 100, 73, 109, 97, 103, 101, 115, 32, 115, 101, 101, 100, 99, 111, 114, 110, 47, 115, 101, 101, 100, 99, 111, 114, 110, 108, 97, 119, 53, 48, 46, 83, 101, 101, 100, 78, 111, 116, 101, 115, 32, 115, 101, 101, 100, 99, 111, 114, 110, 47, 115, 101, 101, 100, 99, 111, 114, 110, 108, 97, 119, 53, 48, 46, 83, 101, 101, 100, 84, 119, 111, 32, 115, 101, 101, 100, 99, 111, 114, 110, 47, 115, 101, 101, 100, 99, 111, 114, 110, 108, 97, 119, 49, 49, 46, 76, 105, 115, 116, 105, 110, 103, 71, 111, 101, 115, 79, 110, 32, 115, 101, 101, 100, 99, 111, 114, 110, 47, 115, 101, 101, 100, 99, 111, 114, 110, 108, 97, 119, 48, 55, 46, 73, 110, 115, 116, 67, 111, 100, 101, 115, 32, 115, 101, 101, 100, 99, 111, 114, 110, 47, 115, 101, 101, 100, 99, 111, 114, 110, 108, 97, 119, 49, 49, 46, 76, 105, 115, 116, 105, 110, 103, 68, 97, 116, 97, 32, 115, 101, 101, 100, 99, 111, 114, 110, 47, 115, 101, 101, 100, 99, 111, 114, 110, 108, 97, 119, 48, 55, 46, 73, 110, 115, 116, 82, 101, 97, 100, 115, 32, 115, 101, 101, 100, 99, 111, 114, 110, 47, 115, 101, 101, 100, 99, 111, 114, 110, 108, 97, 119, 48, 55, 46, 73, 110, 115, 116, 65, 112, 97, 114, 116, 32, 115, 101, 101, 100, 99, 111, 114, 110, 47, 115, 101, 101, 100, 99, 111, 114, 110, 108, 97, 119, 48, 55, 46, 73, 110, 115, 116, 70, 105, 101, 108, 100, 115, 32, 115, 101, 101, 100, 99, 111, 114, 110, 47, 115, 101, 101, 100, 99, 111, 114, 110, 108, 97, 119, 48, 55, 46, 73, 110, 115, 116, 67, 111, 117, 110, 116, 115, 32, 115, 101, 101, 100, 99, 111, 114, 110, 47, 115, 101, 101, 100, 99, 111, 114, 110, 108, 97, 119, 48, 55, 46, 73, 110, 115, 116, 78, 97, 109, 101, 115, 32, 115, 101, 101, 100, 99, 111, 114, 110, 47, 115, 101, 101, 100, 99, 111, 114, 110, 108, 97, 119, 53, 48, 46, 83, 101, 101, 100, 73, 116, 115, 101, 108, 102, 32, 115, 101, 101, 100, 99, 111, 114, 110, 47, 115, 101, 101, 100, 99, 111, 114, 110, 108, 97, 119, 49, 49, 46, 76, 105, 115, 116, 105, 110, 103, 84, 97, 114, 103, 101, 116, 115, 32, 115, 101, 101, 100, 99, 111, 114, 110, 47, 115, 101, 101, 100, 99, 111, 114, 110, 108, 97, 119, 49, 49, 46, 76, 105, 115, 116, 105, 110, 103, 84, 101, 120, 116, 32, 115, 101, 101, 100, 99, 111, 114, 110, 47, 115, 101, 101, 100, 99, 111, 114, 110, 108, 97, 119, 49, 49, 46, 76, 105, 115, 116, 105, 110, 103, 76, 105, 110, 101, 115, 32, 115, 101, 101, 100, 99, 111, 114, 110, 47, 115, 101, 101, 100, 99, 111, 114, 110, 108, 97, 119, 49, 49, 46, 76, 105, 115, 116, 105, 110, 103, 80, 108, 97, 99, 101, 115, 32, 115, 101, 101, 100, 99, 111, 114, 110, 47, 115, 101, 101, 100, 99, 111, 114, 110, 108, 97, 119, 49, 49, 46, 76, 105, 115, 116, 105, 110, 103, 65, 112, 97, 114, 116]
def chars (l : List Nat) : List Char := l.map Char.ofNat
theorem head_is : Tryd.prog.initOrder = String.ofList (chars headW1 ++ Char.ofNat 32 :: (chars headW2 ++ Char.ofNat 32 :: (chars headW3 ++ Char.ofNat 32 :: chars headRest))) := by kernel_rfl
theorem words_step : ∀ (w r : List Char), (∀ c ∈ w, c ≠ Char.ofNat 32) → wordsSigns (w ++ Char.ofNat 32 :: r) = w :: wordsSigns r
  | [], r, _ => rfl
  | c :: w, r, h => by
    have ih := words_step w r (fun d hd => h d (List.mem_cons_of_mem _ hd))
    have hc := h c (List.mem_cons_self ..)
    show wordsSigns (c :: (w ++ Char.ofNat 32 :: r)) = _
    rw [wordsSigns.eq_def]
    split
    · rename_i e; cases e
    · rename_i e; injection e with e1 e2; exact absurd e1 hc
    · rename_i c' r' hne e
      injection e with e1 e2
      subst e1 e2
      rw [ih]
theorem words_head : wordsSigns Tryd.prog.initOrder.toList = chars headW1 :: chars headW2 :: chars headW3 :: wordsSigns (chars headRest) := by
  rw [head_is, String.toList_ofList]
  rw [words_step _ _ (by decide +kernel), words_step _ _ (by decide +kernel), words_step _ _ (by decide +kernel)]
theorem head0 : behindMainWord (wordsSigns Tryd.prog.initOrder.toList) = chars headW3 :: wordsSigns (chars headRest) := by
  rw [words_head]
  unfold behindMainWord
  simp only
  rw [if_pos (by decide +kernel)]
section
variable {P : Program}
theorem mainIs_of {s : List Char} {R : List (List Char)} (h : wordsSigns P.initOrder.toList = chars headW1 :: s :: R) (hs : isSumSigns s = true) : P.mainIs = some (true, s) := by
  unfold Program.mainIs
  rw [h]
  simp only [hs, Bool.not_true]
  rw [if_neg (by decide), if_pos (by decide +kernel)]
theorem headLifts_of {R : List (List Char)} (h : behindMainWord (wordsSigns P.initOrder.toList) = chars headW3 :: R) : P.headLifts = [] := by
  unfold Program.headLifts
  rw [h]
  kernel_rfl
theorem liftsFinal_of {R : List (List Char)} (h : behindMainWord (wordsSigns P.initOrder.toList) = chars headW3 :: R) : P.liftsFinal = false := by
  unfold Program.liftsFinal
  rw [h, headLifts_of h]
  kernel_rfl
theorem make_of {R : List (List Char)} (h : behindMainWord (wordsSigns P.initOrder.toList) = chars headW3 :: R) : P.make = some .cut := by
  unfold Program.make
  rw [h, headLifts_of h]
  kernel_rfl
theorem strip_of {R : List (List Char)} : stripLifts liftWords (chars headW3 :: R) = ([], chars headW3 :: R) := by kernel_rfl
theorem mayEnter_of {R : List (List Char)} (h : behindMainWord (wordsSigns P.initOrder.toList) = chars headW3 :: R) (h1 : P.laysLater = false) (h2 : P.bearsReflect = false) (h3 : P.doorFits [] = true) : P.mayEnter = true := by
  unfold Program.mayEnter
  rw [h]
  simp only [strip_of, h1, h2, h3]
  kernel_rfl
end
theorem main_is : Tryd.prog.mainIs = some (true, chars headW2) := mainIs_of words_head (by kernel_rfl)
theorem lifts_final : Tryd.prog.liftsFinal = false := liftsFinal_of head0
theorem make_cut : Tryd.prog.make = some .cut := make_of head0
theorem lays_later : Tryd.prog.laysLater = false := by kernel_rfl
theorem bears_reflect : Tryd.prog.bearsReflect = false := by kernel_rfl
theorem door_fits : Tryd.prog.doorFits [] = true := by kernel_rfl
theorem may_enter : Tryd.prog.mayEnter = true := mayEnter_of head0 lays_later bears_reflect door_fits
def kindsOf (P : Program) (fn : Func) (c : OpenClaim) : List (Option IntKind) := if c.domain.isEmpty then [] else fn.params.toList.map fun t => match P.underlying t with | some (.int k) => some k | _ => none
theorem joined_of {P : Program} {f : FuncId} {fn : Func} {s : ChangeSpec} {c : OpenClaim}
    (k1 : c.wf (OpenSpec.ofChange s) = true) (k2 : laidOutB P = true) (k3 : mapsRowed P = true)
    (k4 : fn.params.all (P.readableRec ·) = true) (k5 : namedTie P c.named s.vars = true)
    (k6 : (c.stops == []) = true) (k7 : (P.stops == []) = true) (k8 : (c.knobs == []) = true) (k9 : (P.stopKnobs == []) = true)
    (k10 : (c.inPlace == P.inPlace f) = true) (k11 : (c.unfollowed == P.unfollowed f) = true) (k12 : (c.recurses == P.recurses f) = true) (k13 : (c.named == P.varsNamed f) = true)
    (k14 : (c.maps == (fn.params.toList ++ s.plain.varTypes P).any (P.mapsRec ·)) = true) (k15 : (c.ifaces == (fn.params.toList ++ s.plain.varTypes P).any (P.ifacesRec ·)) = true) (k16 : (c.mapsOut == P.mapsAmong fn.resultTypes.toList) = true)
    (k17 : (c.loops == (fn.params.toList ++ s.plain.varTypes P).any (P.loopsFrom ·)) = true) (k18 : (c.wideKeys == (fn.params.toList ++ s.plain.varTypes P ++ fn.resultTypes.toList).any (P.wideKeysFrom ·)) = true)
    (k19 : s.vars.all (P.varReadable ·) = true) (k20 : fn.resultTypes.all (fun t => P.readableRec t && decide (t < P.types.size)) = true) (k21 : (c.ifacesOut == fn.resultTypes.toList.any (P.ifacesRec ·)) = true) (k22 : (c.loopsOut == fn.resultTypes.toList.any (P.loopsFrom ·)) = true) (k23 : (c.plainKeys == P.plainKeys) = true)
    (k24 : c.shortTexts.isNone = true) (k25 : P.stopsHeard = true) (k26 : P.mayEnter = true) (k27 : (c.lifted == P.liftsFinal) = true) (k28 : (P.make == some c.make) = true)
    (k29 : (c.kinds == kindsOf P fn c) = true) (k30 : (c.pinned == c.pinnedBy) = true)
    (k31 : (c.veiled == (fn.params.toList ++ s.plain.varTypes P ++ fn.resultTypes.toList).any (P.veiledRec ·)) = true) (k32 : c.veiledFits P fn.params.toList (fn.params.toList ++ s.plain.varTypes P ++ fn.resultTypes.toList) = true) :
    joinedFacts P f fn s c = true := by
  have h2 : ∀ a b : Bool, a = true → b = true → (a && b) = true := fun a b ha hb => by rw [ha, hb]; rfl
  unfold joinedFacts
  exact h2 _ _ (h2 _ _ (h2 _ _ (h2 _ _ (h2 _ _ (h2 _ _ (h2 _ _ (h2 _ _ (h2 _ _ (h2 _ _ (h2 _ _ (h2 _ _ (h2 _ _ (h2 _ _ (h2 _ _ (h2 _ _ (h2 _ _ (h2 _ _ (h2 _ _ (h2 _ _ (h2 _ _ (h2 _ _ (h2 _ _ (h2 _ _ (h2 _ _ (h2 _ _ (h2 _ _ (h2 _ _ (h2 _ _ (h2 _ _ (h2 _ _ (k1) k2) k3) k4) k5) k6) k7) k8) k9) k10) k11) k12) k13) k14) k15) k16) k17) k18) k19) k20) k21) k22) k23) k24) k25) k26) k27) k28) k29) k30) k31) k32
theorem p_laid : laidOutB Tryd.prog = true := by kernel_rfl
theorem p_rowed : mapsRowed Tryd.prog = true := by kernel_rfl
theorem p_stops : (Tryd.prog.stops == []) = true := by kernel_rfl
theorem p_knobs : (Tryd.prog.stopKnobs == []) = true := by kernel_rfl
theorem p_heard : Tryd.prog.stopsHeard = true := by kernel_rfl
theorem p_looks : Tryd.prog.looks [] = false := by kernel_rfl
theorem head_sum : chars headW2 = "32f7f7aec7448378b47f94c14a021b7dc57130e43b4450819b795863dbcbff87".toList := by kernel_rfl
theorem main_sum : Tryd.prog.mainIs = some (true, "32f7f7aec7448378b47f94c14a021b7dc57130e43b4450819b795863dbcbff87".toList) := head_sum ▸ main_is
end Go.Proofs.YtdhkmdgieflioaaDoor.F
