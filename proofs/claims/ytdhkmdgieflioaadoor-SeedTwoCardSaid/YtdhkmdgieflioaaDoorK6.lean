/- Texts of this claim: contracts of functions that the law reaches, and plain lemmas. -/
import Derived.Test.YtdhkmdgieflioaaDoorRows
import Derived.LaidLaws
import Derived.ChangeArms
import Derived.ChangeSame
import Derived.OpenShut
import Derived.Lib.LaidTab
import Derived.LaidMore
import Derived.MakeChecks
import Derived.Deep.Strs
import Derived.Stop.LaidErr
import Derived.JoinedOf
import Derived.KernelRfl
import Derived.SevenTiedAt
import Derived.Test.YtdhkmdgieflioaaDoorK3
import Derived.Test.YtdhkmdgieflioaaDoorK1
import Derived.Test.YtdhkmdgieflioaaDoorK5
namespace Go.Proofs.YtdhkmdgieflioaaDoor.F
open Go.RowKit Go.Proofs.YtdhkmdgieflioaaDoorW.PrintWords Go.Proofs.YtdhkmdgieflioaaDoorW.PrintLast Go.Proofs.YtdhkmdgieflioaaDoorW.PrintMore
set_option linter.unusedVariables false
set_option linter.unusedSimpArgs false
open Go.ChangeShapes
section
variable {H : Type} {enc : TypeId × Value → H} {P : Program} {w : World} {base : Nat} {spare : Nat → Bool} {held : Bool} {fuel : Nat} {t : TypeId} {cs : List Value}
theorem list_ext_parts (m : Nat) (hm : 0 < m) : ∀ (n : Nat) (cs : List Value) (gs : List (List Value)), cs.length = n * m → gs.length = n → (∀ i, i < n → (cs.drop (i * m)).take m = gs.getD i []) → cs = gs.flatMap id
  | 0, cs, gs, hl, hg, _ => by
    have h1 : cs = [] := List.eq_nil_of_length_eq_zero (by omega)
    have h2 : gs = [] := List.eq_nil_of_length_eq_zero hg
    subst h1 h2
    rfl
  | n + 1, cs, gs, hl, hg, h => by
    match gs, hg with
    | g :: gs, hg =>
      have h0 : cs.take m = g := by have := h 0 (by omega); simpa using this
      have hr := list_ext_parts m hm n (cs.drop m) gs (by rw [List.length_drop, hl, Nat.add_mul]; omega) (by simpa using hg) (fun i hi => by
        have := h (i + 1) (by omega)
        rw [List.drop_drop, show m + i * m = (i + 1) * m by rw [Nat.add_mul]; omega, this]
        rfl)
      rw [List.flatMap_cons, ← hr]
      show cs = g ++ cs.drop m
      rw [← h0, List.take_append_drop]
theorem cells_of_rows {n e m : Nat} (fl : DataW H → List Value) (ht : P.underlying t = some (.array n e)) (hm : 0 < m) (hce : P.cellsOf e = m) (hct : P.cellsOf t = n * m)
    (hel : ∀ (f : Nat) (c : List Value) (x : DataW H × List MemPlace), DataW.trod enc P w base spare held f e c = some x → c = fl x.1)
    {Ds : List (DataW H)} {p : List MemPlace} (h : DataW.trod enc P w base spare held fuel t cs = some (.agg Ds, p)) : cs = (Ds.map fl).flatMap id := by
  obtain ⟨xs, f, _, hx, hl, hn, hi⟩ := DataW.trod_array ht h
  have hD : Ds = xs.map (·.1) := by have := congrArg Prod.fst hx; simpa using this
  refine list_ext_parts m hm n cs _ (by rw [hl, hct]) (by rw [List.length_map, hD, List.length_map, hn]) (fun i hlt => ?_)
  have h1 := hi i hlt
  rw [hce] at h1
  have h2 : i < xs.length := by omega
  rw [List.getElem?_eq_getElem h2] at h1
  have h3 := hel _ _ _ h1
  rw [h3, hD]
  simp [List.getD_eq_getElem?_getD, h2]
end
def flKind {H : Type} : DataW H → List Value
  | .agg [.lit (.string a), .lit (.string b)] => [.string ⟨a.toArray⟩, .string ⟨b.toArray⟩]
  | _ => []
def flCode {H : Type} : DataW H → List Value
  | .agg [.agg [.lit (.int _ a), .lit (.int _ b), .lit (.int _ c), .lit (.int _ d)], .lit (.string s)] => [.int .i64 a, .int .i64 b, .int .i64 c, .int .i64 d, .string ⟨s.toArray⟩]
  | _ => []
theorem split2 {α : Type} (l : List α) (k : Nat) : l = l.take k ++ l.drop k := (List.take_append_drop k l).symm
theorem fl_kind {H : Type} {enc : TypeId × Value → H} {w : World} {base : Nat} {spare : Nat → Bool} {held : Bool} (f : Nat) (c : List Value) (x : DataW H × List MemPlace) (h : DataW.trod enc Tryd.prog w base spare held f 89 c = some x) : c = flKind x.1 := by
  obtain ⟨y0, y1, n, rfl, hl, h0, h1⟩ := trod_struct2 Tryd.underlying89 h
  have c9 : Tryd.prog.cellsOf 9 = 1 := by kernel_rfl
  have c89 : Tryd.prog.cellsOf 89 = 2 := by kernel_rfl
  rw [c89] at hl
  obtain ⟨s0, e0, rfl, _⟩ := DataW.trod_string Tryd.underlying9 h0
  obtain ⟨s1, e1, rfl, _⟩ := DataW.trod_string Tryd.underlying9 h1
  have e0' : c.take 1 = [.string s0] := by have h := e0; rw [c9] at h; exact h
  have e1' : (c.drop 1).take 1 = [.string s1] := by have h := e1; rw [c9] at h; exact h
  have hd : (c.drop 1).take 1 = c.drop 1 := List.take_of_length_le (by rw [List.length_drop, hl]; decide)
  rw [split2 c 1, e0', ← hd, e1']
  rfl
theorem fl_code {H : Type} {enc : TypeId × Value → H} {w : World} {base : Nat} {spare : Nat → Bool} {held : Bool} (f : Nat) (c : List Value) (x : DataW H × List MemPlace) (h : DataW.trod enc Tryd.prog w base spare held f 101 c = some x) : c = flCode x.1 := by
  obtain ⟨y0, y1, n, rfl, hl, h0, h1⟩ := trod_struct2 Tryd.underlying101 h
  have c9 : Tryd.prog.cellsOf 9 = 1 := by kernel_rfl
  have c3 : Tryd.prog.cellsOf 3 = 1 := by kernel_rfl
  have c46 : Tryd.prog.cellsOf 46 = 4 := by kernel_rfl
  have c101 : Tryd.prog.cellsOf 101 = 5 := by kernel_rfl
  rw [c101] at hl
  obtain ⟨s1, e1, rfl, _⟩ := DataW.trod_string Tryd.underlying9 h1
  obtain ⟨zs, n2, _, rfl, hl2, hz, hf⟩ := DataW.trod_struct Tryd.underlying46 h0
  have g0 := hf 0 _ rfl
  have g1 := hf 1 _ rfl
  have g2 := hf 2 _ rfl
  have g3 := hf 3 _ rfl
  match zs, hz, g0, g1, g2, g3 with
  | [z0, z1, z2, z3], _, g0, g1, g2, g3 =>
    obtain ⟨a0, b0, rfl, _⟩ := DataW.trod_int Tryd.underlying3 (show _ = some z0 from g0)
    obtain ⟨a1, b1, rfl, _⟩ := DataW.trod_int Tryd.underlying3 (show _ = some z1 from g1)
    obtain ⟨a2, b2, rfl, _⟩ := DataW.trod_int Tryd.underlying3 (show _ = some z2 from g2)
    obtain ⟨a3, b3, rfl, _⟩ := DataW.trod_int Tryd.underlying3 (show _ = some z3 from g3)
    have e1' : (c.drop 4).take 1 = [.string s1] := by have h := e1; rw [c9] at h; exact h
    have hd : (c.drop 4).take 1 = c.drop 4 := List.take_of_length_le (by rw [List.length_drop, hl]; decide)
    have k0 : ((c.take 4).drop 0).take 1 = [.int .i64 a0] := by have h : List.take (Tryd.prog.cellsOf 3) (List.drop 0 (List.take (Tryd.prog.cellsOf 46) (List.drop 0 c))) = [.int .i64 a0] := b0; rw [c3, c46] at h; exact h
    have k1 : ((c.take 4).drop 1).take 1 = [.int .i64 a1] := by have h : List.take (Tryd.prog.cellsOf 3) (List.drop 1 (List.take (Tryd.prog.cellsOf 46) (List.drop 0 c))) = [.int .i64 a1] := b1; rw [c3, c46] at h; exact h
    have k2 : ((c.take 4).drop 2).take 1 = [.int .i64 a2] := by have h : List.take (Tryd.prog.cellsOf 3) (List.drop 2 (List.take (Tryd.prog.cellsOf 46) (List.drop 0 c))) = [.int .i64 a2] := b2; rw [c3, c46] at h; exact h
    have k3 : ((c.take 4).drop 3).take 1 = [.int .i64 a3] := by have h : List.take (Tryd.prog.cellsOf 3) (List.drop 3 (List.take (Tryd.prog.cellsOf 46) (List.drop 0 c))) = [.int .i64 a3] := b3; rw [c3, c46] at h; exact h
    have hq : c.take 4 = [.int .i64 a0, .int .i64 a1, .int .i64 a2, .int .i64 a3] := by
      have := list_ext_parts 1 (by omega) 4 (c.take 4) [[.int .i64 a0], [.int .i64 a1], [.int .i64 a2], [.int .i64 a3]] (by rw [List.length_take, hl]; rfl) rfl (fun i hi => by
        have : i = 0 ∨ i = 1 ∨ i = 2 ∨ i = 3 := by omega
        rcases this with rfl | rfl | rfl | rfl
        · exact k0
        · exact k1
        · exact k2
        · exact k3)
      simpa using this
    rw [split2 c 4, hq, ← hd, e1']
    rfl
theorem tyKinds : (Tryd.prog.globals[0]?).map (·.type) = some 90 := by kernel_rfl
theorem tyCode : (Tryd.prog.globals[1]?).map (·.type) = some 102 := by kernel_rfl
theorem gk_of {W : World} {rest : List (String × DataW Unit)} (h : laidMet Tryd.prog (("seedcorn/inst.kinds", Rows.laid_seedcorn_inst_kinds) :: rest) W) : GK W := by
  obtain ⟨ps, ⟨g', t', cs, fuel, p, q, hg', ht', hvar, hd, _, _⟩, _⟩ := h
  obtain rfl := Option.some.inj (g_kinds.symm.trans hg')
  obtain rfl := Option.some.inj (tyKinds.symm.trans ht')
  have hc := cells_of_rows (n := 28) (e := 89) (m := 2) flKind Tryd.underlying90 (by omega) (by kernel_rfl) (by kernel_rfl) fl_kind hd
  refine ⟨?_⟩
  rw [hvar]
  cases cs with
  | mk l =>
    simp only at hc
    subst hc
    rfl
theorem gc_of {W : World} {rest : List (String × DataW Unit)} (h : laidMet Tryd.prog (("seedcorn/seed.code", Rows.laid_seedcorn_seed_code) :: rest) W) : GC W := by
  obtain ⟨ps, ⟨g', t', cs, fuel, p, q, hg', ht', hvar, hd, _, _⟩, _⟩ := h
  obtain rfl := Option.some.inj (g_code.symm.trans hg')
  obtain rfl := Option.some.inj (tyCode.symm.trans ht')
  have hc := cells_of_rows (n := 37) (e := 101) (m := 5) flCode Tryd.underlying102 (by omega) (by kernel_rfl) (by kernel_rfl) fl_code hd
  refine ⟨?_⟩
  rw [hvar]
  cases cs with
  | mk l =>
    simp only at hc
    subst hc
    rfl
theorem laid_seed {W : World} (h : laidMet Tryd.prog [("seedcorn/inst.kinds", Rows.laid_seedcorn_inst_kinds), ("seedcorn/seed.code", Rows.laid_seedcorn_seed_code)] W) : GK W ∧ GC W := ⟨gk_of h, gc_of h.tail⟩
end Go.Proofs.YtdhkmdgieflioaaDoor.F
namespace Go.Proofs.YtdhkmdgieflioaaDoor.F
open Go.RowKit Go.Proofs.YtdhkmdgieflioaaDoorW.PrintWords Go.Proofs.YtdhkmdgieflioaaDoorW.PrintLast Go.Proofs.YtdhkmdgieflioaaDoorW.PrintMore
set_option linter.unusedVariables false
set_option linter.unusedSimpArgs false
open SeedSim
theorem wrapS {x : Int} (h0 : -9223372036854775808 ≤ x) (h1 : x ≤ 9223372036854775807) : wrap64 x = x := by unfold wrap64; omega
theorem digit_j1 (k : Nat) (c : Int) (h0 : 0 ≤ c) (h1 : c ≤ 255) (hc : ¬ (48 ≤ c ∧ c ≤ 57)) (b : Bool) (hb : b = decide (97 ≤ c ∧ c ≤ 102)) : seedcornref02_Digit.j1 (k + 1) c b = some (digit c) := by
  subst hb
  simp only [seedcornref02_Digit.j1]
  unfold digit
  rw [if_neg hc]
  by_cases h : 97 ≤ c ∧ c ≤ 102
  · rw [if_pos (decide_eq_true h), if_pos h, wrapS (x := c) (by omega) (by omega), wrapS (x := c - 97) (by omega) (by omega), wrapS (by omega) (by omega)]
  · rw [if_neg (by simpa using h), if_neg h]
    by_cases h2 : c ≥ 65
    · rw [if_pos h2]
      by_cases h3 : c ≤ 70
      · rw [if_pos h3, if_pos ⟨h2, h3⟩, wrapS (x := c) (by omega) (by omega), wrapS (x := c - 65) (by omega) (by omega), wrapS (by omega) (by omega)]
      · rw [if_neg h3, if_neg (by omega)]
    · rw [if_neg h2, if_neg (by omega)]
theorem digit_ev (c : Int) (h0 : 0 ≤ c) (h1 : c ≤ 255) : Ev (fun k => seedcornref02_Digit.f k c) (digit c) := by
  refine ⟨2, fun n hn => ?_⟩
  obtain ⟨k, rfl⟩ : ∃ k, n = k + 2 := ⟨n - 2, by omega⟩
  show seedcornref02_Digit.f (k + 1 + 1) c = _
  have hj0 : ∀ b : Bool, b = decide (48 ≤ c ∧ c ≤ 57) → seedcornref02_Digit.j0 (k + 1 + 1) c b = some (digit c) := by
    intro b hb
    subst hb
    simp only [seedcornref02_Digit.j0]
    by_cases h : 48 ≤ c ∧ c ≤ 57
    · rw [if_pos (decide_eq_true h), wrapS (x := c) (by omega) (by omega), wrapS (by omega) (by omega)]
      unfold digit
      rw [if_pos h]
    · rw [if_neg (by simpa using h)]
      by_cases h2 : c ≥ 97
      · rw [if_pos h2]
        exact digit_j1 k c h0 h1 h _ (by by_cases h3 : c ≤ 102 <;> simp [h2, h3])
      · rw [if_neg h2]
        exact digit_j1 k c h0 h1 h _ (by simp [h2])
  unfold seedcornref02_Digit.f
  by_cases h : c ≥ 48
  · rw [if_pos h]
    exact hj0 _ (by by_cases h3 : c ≤ 57 <;> simp [h, h3])
  · rw [if_neg h]
    exact hj0 _ (by simp [h])
theorem bt_inp (t : ByteArray) (i : Nat) (h : i < t.size) (h' : i < (inpL t).length) : (inpL t)[i]'h' = bt t (i : Int) := by
  have h2 : (inpL t)[i]'h' = (t[i].toNat : Int) := by simp [inpL]; rfl
  unfold bt
  rw [dif_pos (by simpa using h)]
  exact h2
theorem digit_range (c : Int) : -1 ≤ digit c ∧ digit c ≤ 15 := by unfold digit; split <;> (try split) <;> (try split) <;> omega
theorem load_ev (t : ByteArray) (d : Nat) : ∀ (i : Nat) (xs : List Int) (note : Bool) (high : Int), i + d = t.size → t.size < 1000000000 → -1 ≤ high → high ≤ 15 → xs.length ≤ i →
    Ev (fun k => seedcornref02_Load.l0 k t xs note high (i : Int)) (strOfNums (loads ⟨note, high, xs⟩ ((inpL t).drop i)).out) := by
  induction d with
  | zero =>
    intro i xs note high hi hs h0 h1 hx
    have hl : (inpL t).length = t.size := inpL_len t
    rw [List.drop_eq_nil_of_le (by omega)]
    refine Ev.step (f := fun _ => some (strOfNums xs)) (fun k => ?_) (Ev.now _)
    simp only [seedcornref02_Load.l0]
    rw [if_neg (by omega)]
  | succ d ih =>
    intro i xs note high hi hs h0 h1 hx
    have hlt : i < t.size := by omega
    have hl : (inpL t).length = t.size := inpL_len t
    rw [List.drop_eq_getElem_cons (by omega), bt_inp t i hlt]
    have hb := bt_range t (i : Int)
    generalize hc : bt t (i : Int) = c at hb
    have hwi : wrap64 ((i : Int) + 1) = ((i + 1 : Nat) : Int) := by rw [wrapS (by omega) (by omega)]; omega
    obtain ⟨n1, hn1⟩ : ∃ n1 : Bool, n1 = (if c = 35 then true else note) := ⟨_, rfl⟩
    obtain ⟨n2, hn2⟩ : ∃ n2 : Bool, n2 = (if c = 10 then false else n1) := ⟨_, rfl⟩
    have hn3 : (if c = 10 then false else if c = 35 then true else note) = n2 := by rw [hn2, hn1]
    refine Ev.step (f := fun k => seedcornref02_Load.j1 k t xs n1 high (i : Int)) (fun k => ?_) ?_
    · simp only [seedcornref02_Load.l0]
      rw [if_pos (by omega), if_pos (by omega), hc, hn1]
      split <;> rfl
    refine Ev.step (f := fun k => seedcornref02_Load.j2 k t xs n2 high (i : Int)) (fun k => ?_) ?_
    · simp only [seedcornref02_Load.j1]
      rw [if_pos (by omega), if_pos (by omega), hc, hn2]
      split <;> rfl
    refine Ev.step (f := fun k => (seedcornref02_Digit.f k c).bind fun t101 => (if n2 = true then (seedcornref02_Load.j3 k t xs n2 high i t101 true) else (seedcornref02_Load.j3 k t xs n2 high i t101 (decide (t101 < 0))))) (fun k => ?_) ?_
    · simp only [seedcornref02_Load.j2]
      rw [if_pos (by omega), if_pos (by omega), hc]
    refine Ev.bind (digit_ev c hb.1 hb.2) ?_
    have hd := digit_range c
    have hstep : loads ⟨note, high, xs⟩ (c :: (inpL t).drop (i + 1)) = loads (lstep ⟨note, high, xs⟩ c) ((inpL t).drop (i + 1)) := rfl
    rw [hstep]
    by_cases hskip : n2 = true ∨ digit c < 0
    · have hls : lstep ⟨note, high, xs⟩ c = ⟨n2, high, xs⟩ := by
        unfold lstep
        simp only [hn3]
        rw [if_pos hskip]
      rw [hls]
      have hj : ∀ k, seedcornref02_Load.j3 (k + 1) t xs n2 high (i : Int) (digit c) true = seedcornref02_Load.l0 k t xs n2 high ((i + 1 : Nat) : Int) := by
        intro k
        simp only [seedcornref02_Load.j3, if_true, hwi]
      have := ih (i + 1) xs n2 high (by omega) hs h0 h1 (by omega)
      rcases hskip with h | h
      · subst h
        refine Ev.congr (f := fun k => seedcornref02_Load.j3 k t xs true high i (digit c) true) (fun k => by rw [if_pos rfl]) ?_
        exact Ev.step hj this
      · refine Ev.congr (f := fun k => seedcornref02_Load.j3 k t xs n2 high i (digit c) true) (fun k => by rw [decide_eq_true h]; split <;> rfl) ?_
        exact Ev.step hj this
    · have hn : n2 = false := by cases hq : n2 with
        | true => exact absurd (.inl hq) hskip
        | false => rfl
      have hge : ¬ digit c < 0 := fun h => hskip (.inr h)
      subst hn
      refine Ev.congr (f := fun k => seedcornref02_Load.j3 k t xs false high i (digit c) false) (fun k => by rw [if_neg (by decide), decide_eq_false hge]) ?_
      by_cases hh : high < 0
      · have hls : lstep ⟨note, high, xs⟩ c = ⟨false, digit c, xs⟩ := by
          unfold lstep
          simp only [hn3]
          rw [if_neg hskip, if_pos hh]
        rw [hls]
        refine Ev.step (fun k => ?_) (ih (i + 1) xs false (digit c) (by omega) hs (by omega) (by omega) (by omega))
        simp only [seedcornref02_Load.j3]
        rw [if_neg (by decide), if_pos hh, hwi]
      · have hls : lstep ⟨note, high, xs⟩ c = ⟨false, -1, xs ++ [16 * high + digit c]⟩ := by
          unfold lstep
          simp only [hn3]
          rw [if_neg hskip, if_neg hh]
        rw [hls]
        refine Ev.step (fun k => ?_) (ih (i + 1) (xs ++ [16 * high + digit c]) false (-1) (by omega) hs (by omega) (by omega) (by rw [List.length_append]; simp; omega))
        simp only [seedcornref02_Load.j3]
        rw [if_neg (by decide), if_neg hh, if_pos (by omega), hwi, wrapS (x := 16 * high) (by omega) (by omega), wrapS (by omega) (by omega)]
        rw [show (16 * high + digit c) % 256 = 16 * high + digit c by omega]
def loadOf (t : ByteArray) : ByteArray := strOfNums (loads ⟨false, -1, []⟩ (inpL t)).out
theorem load_f (t : ByteArray) (hs : t.size < 1000000000) : Ev (fun k => seedcornref02_Load.f k t) (loadOf t) := by
  have := load_ev t t.size 0 [] false (-1) (by omega) hs (by omega) (by omega) (by simp)
  exact this
def seedImg : ByteArray := ⟨#[83, 69, 69, 68, 37, 0, 0, 0, 0, 0, 0, 0, 16, 0, 160, 1, 10, 0, 176, 1, 0, 0, 16, 23, 0, 1, 32, 1, 2, 0, 81, 15, 36, 0, 80, 20, 35, 0, 32, 1, 2, 0, 81, 15, 29, 0, 80, 20, 48, 0, 32, 1, 2, 0, 97, 5, 11, 0, 86, 14, 21, 0, 80, 20, 32, 0, 32, 1, 2, 0, 97, 10, 97, 0, 32, 1, 2, 0, 102, 5, 6, 0, 32, 1, 2, 0, 86, 14, 2, 0, 80, 19, 11, 0, 102, 4, 25, 0, 64, 20, 10, 0, 54, 6, 1, 0, 64, 1, 2, 0, 0, 18, 6, 0, 51, 4, 0, 0, 48, 24, 0, 0, 64, 1, 2, 0, 0, 18, 0, 0, 16, 23, 0, 1, 32, 1, 2, 0, 81, 15, 36, 0, 80, 20, 11, 0, 81, 15, 29, 0, 80, 19, 2, 0, 0, 18, 0, 0, 0, 26]⟩
theorem image_60 : seed_Image.f 60 = some seedImg := by kernel_rfl
theorem image_ev : Ev (fun k => seed_Image.f k) seedImg := Ev.of seed_Image.mono image_60
theorem read_60 : seedcornref08_Read.f 60 seedImg = some (seedWords, 0, 0) := by kernel_rfl
theorem read_ev : Ev (fun k => seedcornref08_Read.f k seedImg) (seedWords, 0, 0) := Ev.of (seedcornref08_Read.mono seedImg) read_60
theorem run_f (t : ByteArray) (hs : t.size < 20000) : ∃ st, seedcornref10_Run.f seedWords 0 t (40 * ((t.size : Int) + 1)) = some (1, loadOf t, st) := by
  have h := seed_loads (inpL t) (inpL_byte t) (40 * (t.size + 1)) (by rw [inpL_len]; exact Nat.le_refl _)
  have ho := loads_out (inpL t) ⟨false, -1, []⟩
  rw [inpL_len] at ho
  have hf : (40 * ((t.size : Int) + 1)).toNat = 40 * (t.size + 1) := by omega
  refine ⟨((SeedSim.run (inpL t) (40 * (t.size + 1)) init).steps : Int), ?_⟩
  unfold seedcornref10_Run.f
  rw [hf, if_pos ⟨rfl, rfl, by omega, by omega, by omega, by rw [h.2]; simp at ho; omega⟩]
  unfold runEnd loadOf
  rw [h.1, h.2]
  rfl
theorem bytes_run (t : ByteArray) (hs : t.size < 20000) : ∃ st, Ev (fun k => seedcornref10_Bytes.f k seedImg t (40 * ((t.size : Int) + 1))) (1, loadOf t, st, 0) := by
  obtain ⟨st, h⟩ := run_f t hs
  refine ⟨st, ?_⟩
  unfold seedcornref10_Bytes.f
  refine Ev.bind read_ev ?_
  simp only [if_true]
  rw [h]
  exact Ev.now _
theorem steps_f (n : Int) (h0 : 0 ≤ n) (h1 : n < 20000) : seedcornref50_Steps.f n = some (40 * (n + 1)) := by
  unfold seedcornref50_Steps.f
  rw [wrapS (x := n + 1) (by omega) (by omega), wrapS (by omega) (by omega)]
theorem loads_f (t : ByteArray) (hs : t.size < 20000) : Ev (fun k => seedcornref50_Loads.f k seedImg t) true := by
  obtain ⟨st, h⟩ := bytes_run t hs
  unfold seedcornref50_Loads.f
  rw [steps_f _ (by omega) (by omega)]
  refine Ev.bind (a := 40 * ((t.size : Int) + 1)) (Ev.now _) ?_
  refine Ev.bind h ?_
  refine Ev.congr (f := fun k => (seedcornref02_Load.f k t).bind fun t154 => (some ((loadOf t).toList == t154.toList))) (fun k => rfl) ?_
  refine Ev.bind (load_f t (by omega)) ?_
  rw [show ((loadOf t).toList == (loadOf t).toList) = true from beq_self_eq_true _]
  exact Ev.now _
set_option maxRecDepth 100000 in
theorem awake_f : Ev (fun k => seedcornlaw50_awake.f k) true := by
  unfold seedcornlaw50_awake.f
  refine Ev.bind image_ev ?_
  refine Ev.congr (f := fun k => (seed_Image.f k).bind fun t184 => ((seedcornref50_Loads.f k t184 (⟨#[53, 51, 32, 52, 53, 32, 35, 32, 57, 57]⟩ : ByteArray)).bind fun t185 => (some t185))) (fun k => by rw [if_pos (by decide +kernel)]) ?_
  refine Ev.bind image_ev ?_
  refine Ev.bind (loads_f _ (by decide)) ?_
  exact Ev.now _
end Go.Proofs.YtdhkmdgieflioaaDoor.F
namespace Go.Proofs.YtdhkmdgieflioaaDoor.F
open Go.RowKit Go.Proofs.YtdhkmdgieflioaaDoorW.PrintWords Go.Proofs.YtdhkmdgieflioaaDoorW.PrintLast Go.Proofs.YtdhkmdgieflioaaDoorW.PrintMore
set_option linter.unusedVariables false
set_option linter.unusedSimpArgs false
open SeedSim
theorem inpL_append (a b : ByteArray) : inpL (a ++ b) = inpL a ++ inpL b := by
  unfold inpL
  rw [ByteArray.data_append, Array.toList_append, List.map_append]
theorem loads_append (l : LS) (a b : List Int) : loads l (a ++ b) = loads (loads l a) b := by unfold loads; rw [List.foldl_append]
end Go.Proofs.YtdhkmdgieflioaaDoor.F
namespace Go.Proofs.YtdhkmdgieflioaaDoor.F
open Go.RowKit Go.Proofs.YtdhkmdgieflioaaDoorW.PrintWords Go.Proofs.YtdhkmdgieflioaaDoorW.PrintLast Go.Proofs.YtdhkmdgieflioaaDoorW.PrintMore
set_option linter.unusedVariables false
set_option linter.unusedSimpArgs false
open SeedSim
structure DS where
  n : Nat
  note : Bool
def dnote (note : Bool) (c : Int) : Bool := if c = 10 then false else if c = 35 then true else note
def dstep (s : DS) (c : Int) : DS := ⟨if dnote s.note c = true ∨ digit c < 0 then s.n else s.n + 1, dnote s.note c⟩
def dcount (s : DS) (t : List Int) : DS := t.foldl dstep s
theorem digit_neg (c : Int) : digit c < 0 ↔ ¬ (48 ≤ c ∧ c ≤ 57) ∧ ¬ (97 ≤ c ∧ c ≤ 102) ∧ ¬ (65 ≤ c ∧ c ≤ 70) := by
  unfold digit
  split
  · omega
  · split
    · omega
    · split <;> omega
theorem nest {α : Type} (c : Int) (X W : α) : (if c ≥ 48 then (if c ≤ 57 then X else (if c ≥ 97 then (if c ≤ 102 then X else (if c ≥ 65 then (if c ≤ 70 then X else W) else W)) else (if c ≥ 65 then (if c ≤ 70 then X else W) else W))) else (if c ≥ 97 then (if c ≤ 102 then X else (if c ≥ 65 then (if c ≤ 70 then X else W) else W)) else (if c ≥ 65 then (if c ≤ 70 then X else W) else W))) = if digit c < 0 then W else X := by
  have hd := digit_neg c
  by_cases h : digit c < 0
  · rw [if_pos h]
    obtain ⟨q1, q2, q3⟩ := hd.1 h
    repeat' split
    all_goals first | rfl | (exfalso; omega)
  · rw [if_neg h]
    have hn : ¬ (¬ (48 ≤ c ∧ c ≤ 57) ∧ ¬ (97 ≤ c ∧ c ≤ 102) ∧ ¬ (65 ≤ c ∧ c ≤ 70)) := fun x => h (hd.2 x)
    clear hd h
    repeat' split
    all_goals first | rfl | (exfalso; omega)
theorem digits_j1 (x0 : ByteArray) (c : Int) (n : Nat) (note : Bool) (i : Nat) (hn : n ≤ 1000000) (hi : i ≤ 1000000) (k : Nat) :
    seedcornlaw50_digits.j1 (k + 1) x0 (n : Int) (if c = 35 then true else note) (i : Int) c = seedcornlaw50_digits.l0 k x0 ((dstep ⟨n, note⟩ c).n : Int) (dstep ⟨n, note⟩ c).note ((i + 1 : Nat) : Int) := by
  have hw : wrap64 ((i : Int) + 1) = ((i + 1 : Nat) : Int) := by rw [wrapS (by omega) (by omega)]; omega
  have hw2 : wrap64 ((n : Int) + 1) = ((n + 1 : Nat) : Int) := by rw [wrapS (by omega) (by omega)]; omega
  simp only [seedcornlaw50_digits.j1, hw, hw2, nest]
  have hst : dstep ⟨n, note⟩ c = ⟨if dnote note c = true ∨ digit c < 0 then n else n + 1, dnote note c⟩ := rfl
  rw [hst]
  have hdn : dnote note c = if c = 10 then false else if c = 35 then true else note := rfl
  rw [hdn]
  by_cases h10 : c = 10
  · rw [if_pos h10, if_pos h10]
    by_cases hd : digit c < 0
    · rw [if_pos hd, if_pos (Or.inr hd)]
    · rw [if_neg hd, if_neg (by simp [hd])]
  · rw [if_neg h10, if_neg h10]
    generalize (if c = 35 then true else note) = m
    cases m with
    | true => rw [if_pos rfl, if_pos (Or.inl rfl)]
    | false =>
      rw [if_neg (by decide)]
      by_cases hd : digit c < 0
      · rw [if_pos hd, if_pos (Or.inr hd)]
      · rw [if_neg hd, if_neg (by simp [hd])]
theorem digits_l0 (t : ByteArray) (ht : t.size ≤ 100000) (d : Nat) : ∀ (i n : Nat) (note : Bool), i + d = t.size → n ≤ i → Ev (fun k => seedcornlaw50_digits.l0 k t (n : Int) note (i : Int)) ((dcount ⟨n, note⟩ ((inpL t).drop i)).n : Int) := by
  have hl : (inpL t).length = t.size := inpL_len t
  induction d with
  | zero =>
    intro i n note hi hn
    rw [List.drop_eq_nil_of_le (by omega)]
    refine Ev.step (f := fun _ => some (n : Int)) (fun k => ?_) (Ev.now _)
    simp only [seedcornlaw50_digits.l0]
    rw [if_neg (by omega)]
  | succ d ih =>
    intro i n note hi hn
    have hlt : i < t.size := by omega
    rw [List.drop_eq_getElem_cons (by omega), bt_inp t i hlt]
    have hnext : dcount ⟨n, note⟩ (bt t (i : Int) :: (inpL t).drop (i + 1)) = dcount (dstep ⟨n, note⟩ (bt t (i : Int))) ((inpL t).drop (i + 1)) := rfl
    rw [hnext]
    have hle : (dstep ⟨n, note⟩ (bt t (i : Int))).n ≤ i + 1 := by
      show (if dnote note (bt t (i : Int)) = true ∨ digit (bt t (i : Int)) < 0 then n else n + 1) ≤ i + 1
      split <;> omega
    refine Ev.step (f := fun k => seedcornlaw50_digits.j1 k t (n : Int) (if bt t (i : Int) = 35 then true else note) (i : Int) (bt t (i : Int))) (fun k => ?_) ?_
    · simp only [seedcornlaw50_digits.l0]
      rw [if_pos (by omega), if_pos (by omega)]
      split <;> rfl
    · refine Ev.step (fun k => digits_j1 t _ n note i (by omega) (by omega) k) ?_
      exact ih (i + 1) _ _ (by omega) hle
def digitsOf (t : ByteArray) : Nat := (dcount ⟨0, false⟩ (inpL t)).n
theorem digits_ev (t : ByteArray) (ht : t.size ≤ 100000) : Ev (fun k => seedcornlaw50_digits.f k t) (digitsOf t : Int) := digits_l0 t ht t.size 0 0 false (by omega) (by omega)
theorem lstep_eq (l : LS) (c : Int) : lstep l c = if dnote l.note c = true ∨ digit c < 0 then ⟨dnote l.note c, l.high, l.out⟩ else if l.high < 0 then ⟨dnote l.note c, digit c, l.out⟩ else ⟨dnote l.note c, -1, l.out ++ [16 * l.high + digit c]⟩ := rfl
theorem count_law (t : List Int) : ∀ (s : DS) (l : LS), s.note = l.note → -1 ≤ l.high → s.n = 2 * l.out.length + (if l.high < 0 then 0 else 1) →
    (dcount s t).note = (loads l t).note ∧ -1 ≤ (loads l t).high ∧ (dcount s t).n = 2 * (loads l t).out.length + (if (loads l t).high < 0 then 0 else 1) := by
  induction t with
  | nil => intro s l h1 h2 h3; exact ⟨h1, h2, h3⟩
  | cons c t ih =>
    intro s l h1 h2 h3
    refine ih (dstep s c) (lstep l c) ?_ ?_ ?_
    · show dnote s.note c = (lstep l c).note
      rw [h1, lstep_eq]
      split
      · rfl
      · split <;> rfl
    · have hdr := digit_range c
      rw [lstep_eq]
      split
      · exact h2
      · rename_i q
        split
        · show -1 ≤ digit c
          omega
        · show (-1 : Int) ≤ -1
          omega
    · have hst : (dstep s c).n = if dnote s.note c = true ∨ digit c < 0 then s.n else s.n + 1 := rfl
      rw [hst, h1, lstep_eq]
      by_cases hq : dnote l.note c = true ∨ digit c < 0
      · rw [if_pos hq, if_pos hq]
        exact h3
      · rw [if_neg hq, if_neg hq]
        have hge : ¬ digit c < 0 := fun x => hq (Or.inr x)
        by_cases hh : l.high < 0
        · rw [if_pos hh] at h3
          rw [if_pos hh]
          show s.n + 1 = 2 * l.out.length + (if digit c < 0 then 0 else 1)
          rw [if_neg hge]
          omega
        · rw [if_neg hh] at h3
          rw [if_neg hh]
          show s.n + 1 = 2 * (l.out ++ [16 * l.high + digit c]).length + (if (-1 : Int) < 0 then 0 else 1)
          rw [if_pos (by decide), List.length_append, List.length_singleton]
          omega
theorem lstep_out2 (l : LS) (pre : List Int) (c : Int) : lstep ⟨l.note, l.high, pre ++ l.out⟩ c = ⟨(lstep l c).note, (lstep l c).high, pre ++ (lstep l c).out⟩ := by
  rw [lstep_eq, lstep_eq]
  by_cases hq : dnote l.note c = true ∨ digit c < 0
  · rw [if_pos hq, if_pos hq]
  · rw [if_neg hq, if_neg hq]
    by_cases hh : l.high < 0
    · rw [if_pos hh, if_pos hh]
    · rw [if_neg hh, if_neg hh]
      simp
theorem loads_pre (pre : List Int) (t : List Int) : ∀ l : LS, loads ⟨l.note, l.high, pre ++ l.out⟩ t = ⟨(loads l t).note, (loads l t).high, pre ++ (loads l t).out⟩ := by
  induction t with
  | nil => intro l; rfl
  | cons c t ih =>
    intro l
    show loads (lstep ⟨l.note, l.high, pre ++ l.out⟩ c) t = _
    rw [lstep_out2, ih]
    rfl
theorem strOf_app (xs ys : List Int) : strOfNums (xs ++ ys) = strOfNums xs ++ strOfNums ys := by
  refine ByteArray.ext ?_
  rw [ByteArray.data_append]
  simp [strOfNums]
theorem load_two (s t : ByteArray) (he : digitsOf s % 2 = 0) : loadOf ((s ++ (⟨#[10]⟩ : ByteArray)) ++ t) = loadOf s ++ loadOf t ∧ (loadOf s).size = digitsOf s / 2 := by
  obtain ⟨h1, h2, h3⟩ := count_law (inpL s) ⟨0, false⟩ ⟨false, -1, []⟩ rfl (by decide) (by decide)
  have hd : digitsOf s = (dcount ⟨0, false⟩ (inpL s)).n := rfl
  rw [hd] at he ⊢
  have hneg : (loads ⟨false, -1, []⟩ (inpL s)).high < 0 := by
    by_cases h : (loads ⟨false, -1, []⟩ (inpL s)).high < 0
    · exact h
    · rw [if_neg h] at h3; omega
  rw [if_pos hneg] at h3
  refine ⟨?_, ?_⟩
  · unfold loadOf
    rw [inpL_append, inpL_append, loads_append, loads_append, ← strOf_app]
    generalize loads ⟨false, -1, []⟩ (inpL s) = L at h2 hneg
    obtain ⟨note, high, out⟩ := L
    have hh : high = -1 := by simp only at h2 hneg; omega
    subst hh
    have e1 : loads ⟨note, -1, out⟩ (inpL (⟨#[10]⟩ : ByteArray)) = ⟨false, -1, out⟩ := by
      show lstep ⟨note, -1, out⟩ 10 = _
      simp [lstep, digit]
    rw [e1]
    have := loads_pre out (inpL t) ⟨false, -1, []⟩
    simp only [List.append_nil] at this
    rw [this]
  · unfold loadOf
    rw [strOfNums_size, h3]
    omega
def twoEnd (k : Nat) (s : ByteArray) (p q r : Int × ByteArray × Int × Int) : Option Bool :=
  (seedcornlaw50_awake.f k).bind fun t268 => (if t268 = true then (if p.2.2.2 = 0 then (if q.2.2.2 = 0 then (if r.2.2.2 = 0 then (if r.1 = 1 then (if p.2.1.size + q.2.1.size ≤ 9223372036854775807 then (if r.2.1.toList = (p.2.1 ++ q.2.1).toList then ((seedcornlaw50_digits.f k s).bind fun t269 => (some ((p.2.1.size : Int) == (wrap64 (Int.tdiv t269 2))))) else (some false)) else (none)) else (some false)) else (some false)) else (some false)) else (some false)) else (some false))
theorem two_true (s t : ByteArray) : Ev (fun k => seedcornlaw50_SeedTwo.j0 k s t true) true := by
  refine Ev.step (f := fun k => (seedcornlaw50_awake.f k).bind fun t248 => some t248) (fun k => ?_) (Ev.bind awake_f (Ev.now _))
  simp only [seedcornlaw50_SeedTwo.j0, if_true]
theorem two_false (s t : ByteArray) (hs : s.size ≤ 150) (ht : t.size ≤ 150) (he : digitsOf s % 2 = 0) : Ev (fun k => seedcornlaw50_SeedTwo.j0 k s t false) true := by
  obtain ⟨st1, h1⟩ := bytes_run s (by omega)
  obtain ⟨st2, h2⟩ := bytes_run t (by omega)
  have hsz : ((s ++ (⟨#[10]⟩ : ByteArray)) ++ t).size = s.size + 1 + t.size := by rw [ByteArray.size_append, ByteArray.size_append]; rfl
  have hs1 : (s ++ (⟨#[10]⟩ : ByteArray)).size = s.size + 1 := by rw [ByteArray.size_append]; rfl
  obtain ⟨st3, h3⟩ := bytes_run ((s ++ (⟨#[10]⟩ : ByteArray)) ++ t) (by omega)
  obtain ⟨hl, hc⟩ := load_two s t he
  have hdl : digitsOf s ≤ 2 * s.size + 1 := by
    have := loads_out (inpL s) ⟨false, -1, []⟩
    rw [inpL_len] at this
    have h4 : (loadOf s).size = (loads ⟨false, -1, []⟩ (inpL s)).out.length := by unfold loadOf; rw [strOfNums_size]
    simp at this
    omega
  have hA : (loadOf s).size ≤ s.size := by
    have := loads_out (inpL s) ⟨false, -1, []⟩
    rw [inpL_len] at this
    have h4 : (loadOf s).size = (loads ⟨false, -1, []⟩ (inpL s)).out.length := by unfold loadOf; rw [strOfNums_size]
    simp at this
    omega
  have hB : (loadOf t).size ≤ t.size := by
    have := loads_out (inpL t) ⟨false, -1, []⟩
    rw [inpL_len] at this
    have h4 : (loadOf t).size = (loads ⟨false, -1, []⟩ (inpL t)).out.length := by unfold loadOf; rw [strOfNums_size]
    simp at this
    omega
  have hstep : wrap64 ((wrap64 ((s.size : Int) + (t.size : Int))) + 1) = ((((s ++ (⟨#[10]⟩ : ByteArray)) ++ t).size : Nat) : Int) := by
    rw [wrapS (x := (s.size : Int) + (t.size : Int)) (by omega) (by omega), wrapS (by omega) (by omega), hsz]; omega
  have f1 := steps_f (s.size : Int) (by omega) (by omega)
  have f2 := steps_f (t.size : Int) (by omega) (by omega)
  have f3 := steps_f ((((s ++ (⟨#[10]⟩ : ByteArray)) ++ t).size : Nat) : Int) (by omega) (by omega)
  refine Ev.step (f := fun k => (seed_Image.f k).bind fun t249 => (seedcornref10_Bytes.f k t249 s (40 * ((s.size : Int) + 1))).bind fun p => (seedcornref10_Bytes.f k t249 t (40 * ((t.size : Int) + 1))).bind fun q => (seedcornref10_Bytes.f k t249 ((s ++ (⟨#[10]⟩ : ByteArray)) ++ t) (40 * (((((s ++ (⟨#[10]⟩ : ByteArray)) ++ t).size : Nat) : Int) + 1))).bind fun r => twoEnd k s p q r) (fun k => ?_) ?_
  · simp only [seedcornlaw50_SeedTwo.j0]
    have q1 : s.size + 1 ≤ 9223372036854775807 := by omega
    have q2 : (s ++ (⟨#[10]⟩ : ByteArray)).size + t.size ≤ 9223372036854775807 := by omega
    rw [if_neg (by decide), f1, f2, hstep, f3]
    simp only [Option.bind_some, if_pos q1, if_pos q2]
    rfl
  · refine Ev.bind image_ev ?_
    refine Ev.bind h1 ?_
    refine Ev.bind h2 ?_
    refine Ev.bind h3 ?_
    unfold twoEnd
    refine Ev.bind awake_f ?_
    rw [hl]
    refine Ev.congr (f := fun k => (seedcornlaw50_digits.f k s).bind fun t269 => (some (((loadOf s).size : Int) == (wrap64 (Int.tdiv t269 2))))) (fun k => ?_) ?_
    · rw [if_pos rfl]
      dsimp only
      rw [if_pos rfl, if_pos rfl, if_pos rfl, if_pos rfl, if_pos (by omega), if_pos rfl]
    · refine Ev.bind (digits_ev s (by omega)) ?_
      have e : (((loadOf s).size : Int) == (wrap64 (Int.tdiv (digitsOf s : Int) 2))) = true := by
        rw [beq_iff_eq, Int.tdiv_eq_ediv_of_nonneg (by omega), wrapS (by omega) (by omega)]
        omega
      rw [e]
      exact Ev.now true
theorem seedTwo_pure (s t : ByteArray) : ∃ k, seedcornlaw50_SeedTwo.f k s t = some true := by
  refine Ev.rounds (g := fun k => seedcornlaw50_SeedTwo.f k s t) ?_
  unfold seedcornlaw50_SeedTwo.f
  by_cases h1 : (s.size : Int) > 150
  · exact Ev.congr (fun k => by rw [if_pos h1]) (two_true s t)
  · refine Ev.congr (fun k => by rw [if_neg h1]) ?_
    by_cases h2 : (t.size : Int) > 150
    · exact Ev.congr (fun k => by rw [if_pos h2]) (two_true s t)
    · refine Ev.congr (fun k => by rw [if_neg h2]) ?_
      refine Ev.bind (digits_ev s (by omega)) ?_
      by_cases he : digitsOf s % 2 = 0
      · have hb : (Int.tmod (digitsOf s : Int) 2 == 1) = false := by rw [beq_eq_false_iff_ne, Int.tmod_eq_emod_of_nonneg (by omega)]; omega
        rw [hb]
        exact two_false s t (by omega) (by omega) he
      · have hb : (Int.tmod (digitsOf s : Int) 2 == 1) = true := by rw [beq_iff_eq, Int.tmod_eq_emod_of_nonneg (by omega)]; omega
        rw [hb]
        exact two_true s t
end Go.Proofs.YtdhkmdgieflioaaDoor.F
namespace Go.Proofs.YtdhkmdgieflioaaDoor.F
open Go.RowKit Go.Proofs.YtdhkmdgieflioaaDoorW.PrintWords Go.Proofs.YtdhkmdgieflioaaDoorW.PrintLast Go.Proofs.YtdhkmdgieflioaaDoorW.PrintMore
set_option linter.unusedVariables false
set_option linter.unusedSimpArgs false
def headW1 : List Nat := [104, 97, 114, 110, 101, 115, 115]
def headW2 : List Nat := [51, 50, 102, 55, 102, 55, 97, 101, 99, 55, 52, 52, 56, 51, 55, 56, 98, 52, 55, 102, 57, 52, 99, 49, 52, 97, 48, 50, 49, 98, 55, 100, 99, 53, 55, 49, 51, 48, 101, 52, 51, 98, 52, 52, 53, 48, 56, 49, 57, 98, 55, 57, 53, 56, 54, 51, 100, 98, 99, 98, 102, 102, 56, 55]
def headW3 : List Nat := [99, 117, 116]
def headRest : List Nat := [97, 116, 32, 115, 101, 101, 100, 99, 111, 114, 110, 47, 115, 101, 101, 100, 99, 111, 114, 110, 108, 97, 119, 53, 48, 46, 83, 101, 101, 100, 76, 111, 97, 100, 115, 32, 115, 101, 101, 100, 99, 111, 114, 110, 47, 115, 101, 101, 100, 99, 111, 114, 110, 108, 97, 119, 53, 48, 46, 83, 101, 101, 100, 83, 109, 97, 108, 108, 32, 115, 101, 101, 100, 99, 111, 114, 110, 47, 115, 101, 101, 100, 99, 111, 114, 110, 108, 97, 119, 53, 48, 46, 83, 101, 101, 100, 73, 109, 97, 103, 101, 115, 32, 115, 101, 101, 100, 99, 111, 114, 110, 47, 115, 101, 101, 100, 99, 111, 114, 110, 108, 97, 119, 53, 48, 46, 83, 101, 101, 100, 78, 111, 116, 101, 115, 32, 115, 101, 101, 100, 99, 111, 114, 110, 47, 115, 101, 101, 100, 99, 111, 114, 110, 108, 97, 119, 53, 48, 46, 83, 101, 101, 100, 84, 119, 111, 32, 115, 101, 101, 100, 99, 111, 114, 110, 47, 115, 101, 101, 100, 99, 111, 114, 110, 108, 97, 119, 49, 49, 46, 76, 105, 115, 116, 105, 110, 103, 71, 111, 101, 115, 79, 110, 32, 115, 101, 101, 100, 99, 111, 114, 110, 47, 115, 101, 101, 100, 99, 111, 114, 110, 108, 97, 119, 48, 55, 46, 73, 110, 115, 116, 67, 111, 100, 101, 115, 32, 115, 101, 101, 100, 99, 111, 114, 110, 47, 115, 101, 101, 100, 99, 111, 114, 110, 108, 97, 119, 49, 49, 46, 76, 105, 115, 116, 105, 110, 103, 68, 97, 116, 97, 32, 115, 101, 101, 100, 99, 111, 114, 110, 47, 115, 101, 101, 100, 99, 111, 114, 110, 108, 97, 119, 48, 55, 46, 73, 110, 115, 116, 82, 101, 97, 100, 115, 32, 115, 101, 101, 100, 99, 111, 114, 110, 47, 115, 101, 101, 100, 99, 111, 114, 110, 108, 97, 119, 48, 55, 46, 73, 110, 115, 116, 65, 112, 97, 114, 116, 32, 115, 101, 101, 100, 99, 111, 114, 110, 47, 115, 101, 101, 100, 99, 111, 114, 110, 108, 97, 119, 48, 55, 46, 73, 110, 115, 116, 70, 105, 101, 108, 100, 115, 32, 115, 101, 101, 100, 99, 111, 114, 110, 47, 115, 101, 101, 100, 99, 111, 114, 110, 108, 97, 119, 48, 55, 46, 73, 110, 115, 116, 67, 111, 117, 110, 116, 115, 32, 115, 101, 101, 100, 99, 111, 114, 110, 47, 115, 101, 101, 100, 99, 111, 114, 110, 108, 97, 119, 48, 55, 46, 73, 110, 115, 116, 78, 97, 109, 101, 115, 32, 115, 101, 101, 100, 99, 111, 114, 110, 47, 115, 101, 101, 100, 99, 111, 114, 110, 108, 97, 119, 53, 48, 46, 83, 101, 101, 100, 73, 116, 115, 101, 108, 102, 32, 115, 101, 101, 100, 99, 111, 114, 110, 47, 115, 101, 101, 100, 99, 111, 114, 110, 108, 97, 119, 49, 49, 46, 76, 105, 115, 116, 105, 110, 103, 84, 97, 114, 103, 101, 116, 115, 32, 115, 101, 101, 100, 99, 111, 114, 110, 47, 115, 101, 101, 100, 99, 111, 114, 110, 108, 97, 119, 49, 49, 46, 76, 105, 115, 116, 105, 110, 103, 84, 101, 120, 116, 32, 115, 101, 101, 100, 99, 111, 114, 110, 47, 115, 101, 101, 100, 99, 111, 114, 110, 108, 97, 119, 49, 49, 46, 76, 105, 115, 116, 105, 110, 103, 76, 105, 110, 101, 115, 32, 115, 101, 101, 100, 99, 111, 114, 110, 47, 115, 101, 101, 100, 99, 111, 114, 110, 108, 97, 119, 49, 49, 46, 76, 105, 115, 116, 105, 110, 103, 80, 108, 97, 99, 101, 115, 32, 115, 101, 101, 100, 99, 111, 114, 110, 47, 115, 101, 101, 100, 99, 111, 114, 110, 108, 97, 119, 49, 49, 46, 76, 105, 115, 116, 105, 110, 103, 65, 112, 97, 114, 116]
def chars (l : List Nat) : List Char := l.map Char.ofNat
theorem head_is : Tryd.prog.initOrder = String.ofList (chars headW1 ++ Char.ofNat 32 :: (chars headW2 ++ Char.ofNat 32 :: (chars headW3 ++ Char.ofNat 32 :: chars headRest))) := by kernel_rfl
theorem words_step : ∀ (w r : List Char), (∀ c ∈ w, c ≠ Char.ofNat 32) → wordsSigns (w ++ Char.ofNat 32 :: r) = w :: wordsSigns r
  | [], r, _ => rfl
  | c :: w, r, h => by
    have ih := words_step w r (fun d hd => h d (List.mem_cons_of_mem _ hd))
    have hc := h c (List.mem_cons_self ..)
    show wordsSigns (c :: (w ++ Char.ofNat 32 :: r)) = _
    rw [wordsSigns.eq_def]
    split
    · rename_i e; cases e
    · rename_i e; injection e with e1 e2; exact absurd e1 hc
    · rename_i c' r' hne e
      injection e with e1 e2
      subst e1 e2
      rw [ih]
theorem words_head : wordsSigns Tryd.prog.initOrder.toList = chars headW1 :: chars headW2 :: chars headW3 :: wordsSigns (chars headRest) := by
  rw [head_is, String.toList_ofList]
  rw [words_step _ _ (by decide +kernel), words_step _ _ (by decide +kernel), words_step _ _ (by decide +kernel)]
theorem head0 : behindMainWord (wordsSigns Tryd.prog.initOrder.toList) = chars headW3 :: wordsSigns (chars headRest) := by
  rw [words_head]
  unfold behindMainWord
  simp only
  rw [if_pos (by decide +kernel)]
section
variable {P : Program}
theorem mainIs_of {s : List Char} {R : List (List Char)} (h : wordsSigns P.initOrder.toList = chars headW1 :: s :: R) (hs : isSumSigns s = true) : P.mainIs = some (true, s) := by
  unfold Program.mainIs
  rw [h]
  simp only [hs, Bool.not_true]
  rw [if_neg (by decide), if_pos (by decide +kernel)]
theorem headLifts_of {R : List (List Char)} (h : behindMainWord (wordsSigns P.initOrder.toList) = chars headW3 :: R) : P.headLifts = [] := by
  unfold Program.headLifts
  rw [h]
  kernel_rfl
theorem liftsFinal_of {R : List (List Char)} (h : behindMainWord (wordsSigns P.initOrder.toList) = chars headW3 :: R) : P.liftsFinal = false := by
  unfold Program.liftsFinal
  rw [h, headLifts_of h]
  kernel_rfl
theorem make_of {R : List (List Char)} (h : behindMainWord (wordsSigns P.initOrder.toList) = chars headW3 :: R) : P.make = some .cut := by
  unfold Program.make
  rw [h, headLifts_of h]
  kernel_rfl
theorem strip_of {R : List (List Char)} : stripLifts liftWords (chars headW3 :: R) = ([], chars headW3 :: R) := by kernel_rfl
theorem mayEnter_of {R : List (List Char)} (h : behindMainWord (wordsSigns P.initOrder.toList) = chars headW3 :: R) (h1 : P.laysLater = false) (h2 : P.bearsReflect = false) (h3 : P.doorFits [] = true) : P.mayEnter = true := by
  unfold Program.mayEnter
  rw [h]
  simp only [strip_of, h1, h2, h3]
  kernel_rfl
end
theorem main_is : Tryd.prog.mainIs = some (true, chars headW2) := mainIs_of words_head (by kernel_rfl)
theorem lifts_final : Tryd.prog.liftsFinal = false := liftsFinal_of head0
theorem make_cut : Tryd.prog.make = some .cut := make_of head0
theorem lays_later : Tryd.prog.laysLater = false := by kernel_rfl
theorem bears_reflect : Tryd.prog.bearsReflect = false := by kernel_rfl
theorem door_fits : Tryd.prog.doorFits [] = true := by kernel_rfl
theorem may_enter : Tryd.prog.mayEnter = true := mayEnter_of head0 lays_later bears_reflect door_fits
def kindsOf (P : Program) (fn : Func) (c : OpenClaim) : List (Option IntKind) := if c.domain.isEmpty then [] else fn.params.toList.map fun t => match P.underlying t with | some (.int k) => some k | _ => none
theorem joined_of {P : Program} {f : FuncId} {fn : Func} {s : ChangeSpec} {c : OpenClaim}
    (k1 : c.wf (OpenSpec.ofChange s) = true) (k2 : laidOutB P = true) (k3 : mapsRowed P = true)
    (k4 : fn.params.all (P.readableRec ·) = true) (k5 : namedTie P c.named s.vars = true)
    (k6 : (c.stops == []) = true) (k7 : (P.stops == []) = true) (k8 : (c.knobs == []) = true) (k9 : (P.stopKnobs == []) = true)
    (k10 : (c.inPlace == P.inPlace f) = true) (k11 : (c.unfollowed == P.unfollowed f) = true) (k12 : (c.recurses == P.recurses f) = true) (k13 : (c.named == P.varsNamed f) = true)
    (k14 : (c.maps == (fn.params.toList ++ s.plain.varTypes P).any (P.mapsRec ·)) = true) (k15 : (c.ifaces == (fn.params.toList ++ s.plain.varTypes P).any (P.ifacesRec ·)) = true) (k16 : (c.mapsOut == P.mapsAmong fn.resultTypes.toList) = true)
    (k17 : (c.loops == (fn.params.toList ++ s.plain.varTypes P).any (P.loopsFrom ·)) = true) (k18 : (c.wideKeys == (fn.params.toList ++ s.plain.varTypes P ++ fn.resultTypes.toList).any (P.wideKeysFrom ·)) = true)
    (k19 : s.vars.all (P.varReadable ·) = true) (k20 : fn.resultTypes.all (fun t => P.readableRec t && decide (t < P.types.size)) = true) (k21 : (c.ifacesOut == fn.resultTypes.toList.any (P.ifacesRec ·)) = true) (k22 : (c.loopsOut == fn.resultTypes.toList.any (P.loopsFrom ·)) = true) (k23 : (c.plainKeys == P.plainKeys) = true)
    (k24 : c.shortTexts.isNone = true) (k25 : P.stopsHeard = true) (k26 : P.mayEnter = true) (k27 : (c.lifted == P.liftsFinal) = true) (k28 : (P.make == some c.make) = true)
    (k29 : (c.kinds == kindsOf P fn c) = true) (k30 : (c.pinned == c.pinnedBy) = true)
    (k31 : (c.veiled == (fn.params.toList ++ s.plain.varTypes P ++ fn.resultTypes.toList).any (P.veiledRec ·)) = true) (k32 : c.veiledFits P fn.params.toList (fn.params.toList ++ s.plain.varTypes P ++ fn.resultTypes.toList) = true) :
    joinedFacts P f fn s c = true := by
  have h2 : ∀ a b : Bool, a = true → b = true → (a && b) = true := fun a b ha hb => by rw [ha, hb]; rfl
  unfold joinedFacts
  exact h2 _ _ (h2 _ _ (h2 _ _ (h2 _ _ (h2 _ _ (h2 _ _ (h2 _ _ (h2 _ _ (h2 _ _ (h2 _ _ (h2 _ _ (h2 _ _ (h2 _ _ (h2 _ _ (h2 _ _ (h2 _ _ (h2 _ _ (h2 _ _ (h2 _ _ (h2 _ _ (h2 _ _ (h2 _ _ (h2 _ _ (h2 _ _ (h2 _ _ (h2 _ _ (h2 _ _ (h2 _ _ (h2 _ _ (h2 _ _ (h2 _ _ (k1) k2) k3) k4) k5) k6) k7) k8) k9) k10) k11) k12) k13) k14) k15) k16) k17) k18) k19) k20) k21) k22) k23) k24) k25) k26) k27) k28) k29) k30) k31) k32
theorem p_laid : laidOutB Tryd.prog = true := by kernel_rfl
theorem p_rowed : mapsRowed Tryd.prog = true := by kernel_rfl
theorem p_stops : (Tryd.prog.stops == []) = true := by kernel_rfl
theorem p_knobs : (Tryd.prog.stopKnobs == []) = true := by kernel_rfl
theorem p_heard : Tryd.prog.stopsHeard = true := by kernel_rfl
theorem p_looks : Tryd.prog.looks [] = false := by kernel_rfl
theorem head_sum : chars headW2 = "32f7f7aec7448378b47f94c14a021b7dc57130e43b4450819b795863dbcbff87".toList := by kernel_rfl
theorem main_sum : Tryd.prog.mainIs = some (true, "32f7f7aec7448378b47f94c14a021b7dc57130e43b4450819b795863dbcbff87".toList) := head_sum ▸ main_is
end Go.Proofs.YtdhkmdgieflioaaDoor.F
