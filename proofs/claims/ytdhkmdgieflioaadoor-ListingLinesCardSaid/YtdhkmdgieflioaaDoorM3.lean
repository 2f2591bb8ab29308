/- Texts of this claim: contracts of functions that the law reaches, and plain lemmas. -/
import Derived.Test.YtdhkmdgieflioaaDoorRows
import Derived.LaidLaws
import Derived.ChangeArms
import Derived.ChangeSame
import Derived.OpenShut
import Derived.Lib.LaidTab
import Derived.LaidMore
import Derived.MakeChecks
import Derived.Deep.Strs
import Derived.Stop.LaidErr
import Derived.Outline
import Derived.WalkLawsBesides
import Derived.WalkSpells
import Derived.RegionTactic
import Derived.Deep.QuietTactic
import Derived.BigQuiet
import Derived.DataShut
import Derived.Test.YtdhkmdgieflioaaDoorM1
import Derived.Test.YtdhkmdgieflioaaDoorM2
namespace Go.Proofs.YtdhkmdgieflioaaDoor.F
open Go.RowKit Go.Proofs.YtdhkmdgieflioaaDoorW.PrintWords Go.Proofs.YtdhkmdgieflioaaDoorW.PrintLast Go.Proofs.YtdhkmdgieflioaaDoorW.PrintMore
attribute [local go_sem] max2_int min2_int max_two min_two max_three min_three max_four min_four
set_option linter.unusedVariables false
set_option linter.unusedSimpArgs false
mutual
def seedcornlaw11_ListingLines.j0 : Nat → Bool → List Int → Int → Option (Bool)
  | 0, _, _, _ => none
  | k + 1, x18, x639000, x639001 => if x18 = true then (some true) else ((listing_Text.f x639000 x639001).bind fun bt641 => ((listing_Targets.f x639000 x639001).bind fun t643 => ((seedcornref11_Lines.f k bt641.1).bind fun t646 => (if bt641.2 = 0 then (if (t646.length : Int) = (wrap64 ((wrap64 (1 + (x639000.length : Int))) + (t643.length : Int))) then (if 0 < (t646.length : Int) then ((word_Text.f ((x639001) % 4294967296)).bind fun t650 => (if 6 + t650.size ≤ 9223372036854775807 then (seedcornlaw11_ListingLines.j1 k t643 t646 ((rdOf ByteArray.empty t646 0).toList != ((⟨#[46, 100, 97, 116, 97, 32]⟩ : ByteArray) ++ t650).toList) x639000 x639001) else (none))) else (none)) else (seedcornlaw11_ListingLines.j1 k t643 t646 true x639000 x639001)) else (seedcornlaw11_ListingLines.j1 k t643 t646 true x639000 x639001)))))
def seedcornlaw11_ListingLines.j1 : Nat → List Int → List ByteArray → Bool → List Int → Int → Option (Bool)
  | 0, _, _, _, _, _ => none
  | k + 1, x5, x6, x52, x639000, x639001 => if x52 = true then (some false) else (if 1 ≤ (x6.length : Int) then (seedcornlaw11_ListingLines.l0 k x5 (x6.drop (1 : Int).toNat) 0 x639000 x639001) else (none))
def seedcornlaw11_ListingLines.l0 : Nat → List Int → List ByteArray → Int → List Int → Int → Option (Bool)
  | 0, _, _, _, _, _ => none
  | k + 1, x5, x6, x7, x639000, x639001 => if x7 < (x639000.length : Int) then (if (x5.length : Int) > 0 then (if 0 < (x5.length : Int) then (seedcornlaw11_ListingLines.j3 k x5 x6 x7 ((rd x5 0) == x7) x639000 x639001) else (none)) else (seedcornlaw11_ListingLines.j3 k x5 x6 x7 false x639000 x639001)) else (some ((x5.length : Int) == 0))
def seedcornlaw11_ListingLines.j3 : Nat → List Int → List ByteArray → Int → Bool → List Int → Int → Option (Bool)
  | 0, _, _, _, _, _, _ => none
  | k + 1, x5, x6, x7, x71, x639000, x639001 => if x71 = true then (if 0 < (x6.length : Int) then ((word_Text.f ((x7) % 4294967296)).bind fun t656 => (if 1 + t656.size ≤ 9223372036854775807 then (if ((⟨#[76]⟩ : ByteArray) ++ t656).size + 1 ≤ 9223372036854775807 then (if (rdOf ByteArray.empty x6 0).toList = (((⟨#[76]⟩ : ByteArray) ++ t656) ++ (⟨#[58]⟩ : ByteArray)).toList then (if 1 ≤ (x6.length : Int) then ((some (x6.drop (1 : Int).toNat : List ByteArray)).bind fun y657 => (if 1 ≤ (x5.length : Int) then (if (y657.length : Int) = 0 then (some false) else (if 0 < (y657.length : Int) then (if ((rdOf ByteArray.empty y657 0).size : Int) < 3 then (some false) else (if 0 ≤ 2 then (if 2 ≤ ((rdOf ByteArray.empty y657 0).size : Int) then (if ((rdOf ByteArray.empty y657 0).extract 0 2).toList = ([32, 32] : List UInt8) then (if 2 < ((rdOf ByteArray.empty y657 0).size : Int) then (if (bt (rdOf ByteArray.empty y657 0) 2) = 32 then (some false) else (if 1 ≤ (y657.length : Int) then (seedcornlaw11_ListingLines.l0 k (x5.drop (1 : Int).toNat) (y657.drop (1 : Int).toNat) (wrap64 (x7 + 1)) x639000 x639001) else (none))) else (none)) else (some false)) else (none)) else (none))) else (none))) else (none))) else (none)) else (some false)) else (none)) else (none))) else (none)) else (if (x6.length : Int) = 0 then (some false) else (if 0 < (x6.length : Int) then (if ((rdOf ByteArray.empty x6 0).size : Int) < 3 then (some false) else (if 0 ≤ 2 then (if 2 ≤ ((rdOf ByteArray.empty x6 0).size : Int) then (if ((rdOf ByteArray.empty x6 0).extract 0 2).toList = ([32, 32] : List UInt8) then (if 2 < ((rdOf ByteArray.empty x6 0).size : Int) then (if (bt (rdOf ByteArray.empty x6 0) 2) = 32 then (some false) else (if 1 ≤ (x6.length : Int) then (seedcornlaw11_ListingLines.l0 k x5 (x6.drop (1 : Int).toNat) (wrap64 (x7 + 1)) x639000 x639001) else (none))) else (none)) else (some false)) else (none)) else (none))) else (none)))
end
def seedcornlaw11_ListingLines.f (k : Nat) (l0_0 : List Int) (a0_1 : Int) : Option (Bool) := (seedcornlaw11_awake.f).bind fun t639 => (if t639 = true then (if (l0_0.length : Int) > 400 then (seedcornlaw11_ListingLines.j0 k true l0_0 a0_1) else ((seedcornref08_Right.f l0_0 a0_1).bind fun t640 => (seedcornlaw11_ListingLines.j0 k (!t640) l0_0 a0_1))) else (some false))
theorem seedcornlaw11_ListingLines.mono_l : ∀ k, (∀ y0 y1 y2, LeO (seedcornlaw11_ListingLines.j0 k y0 y1 y2) (seedcornlaw11_ListingLines.j0 (k + 1) y0 y1 y2)) ∧ (∀ y0 y1 y2 y3 y4, LeO (seedcornlaw11_ListingLines.j1 k y0 y1 y2 y3 y4) (seedcornlaw11_ListingLines.j1 (k + 1) y0 y1 y2 y3 y4)) ∧ (∀ y0 y1 y2 y3 y4, LeO (seedcornlaw11_ListingLines.l0 k y0 y1 y2 y3 y4) (seedcornlaw11_ListingLines.l0 (k + 1) y0 y1 y2 y3 y4)) ∧ (∀ y0 y1 y2 y3 y4 y5, LeO (seedcornlaw11_ListingLines.j3 k y0 y1 y2 y3 y4 y5) (seedcornlaw11_ListingLines.j3 (k + 1) y0 y1 y2 y3 y4 y5))
  | 0 => ⟨fun _ _ _ r h => by simp [seedcornlaw11_ListingLines.j0] at h, fun _ _ _ _ _ r h => by simp [seedcornlaw11_ListingLines.j1] at h, fun _ _ _ _ _ r h => by simp [seedcornlaw11_ListingLines.l0] at h, fun _ _ _ _ _ _ r h => by simp [seedcornlaw11_ListingLines.j3] at h⟩
  | k + 1 => by
    obtain ⟨ih0, ih1, ih2, ih3⟩ := seedcornlaw11_ListingLines.mono_l k
    refine ⟨?_, ?_, ?_, ?_⟩
    · intro y0 y1 y2
      unfold seedcornlaw11_ListingLines.j0
      repeat' first
      | (with_reducible exact ih0 _ _ _)
      | (with_reducible exact ih1 _ _ _ _ _)
      | (with_reducible exact ih2 _ _ _ _ _)
      | (with_reducible exact ih3 _ _ _ _ _ _)
      | (with_reducible exact seedcornref11_Lines.mono _ _)
      | (with_reducible exact LeO.refl _)
      | (with_reducible exact LeO.none _)
      | (with_reducible refine LeO.ite ?_ ?_)
      | (with_reducible refine LeO.bind ?_ (fun _ => ?_))
      | exact ih0 _ _ _
      | exact ih1 _ _ _ _ _
      | exact ih2 _ _ _ _ _
      | exact ih3 _ _ _ _ _ _
      | exact seedcornref11_Lines.mono _ _
      | exact LeO.none _
      | refine LeO.ite ?_ ?_
      | refine LeO.bind ?_ (fun _ => ?_)
    · intro y0 y1 y2 y3 y4
      unfold seedcornlaw11_ListingLines.j1
      repeat' first
      | (with_reducible exact ih0 _ _ _)
      | (with_reducible exact ih1 _ _ _ _ _)
      | (with_reducible exact ih2 _ _ _ _ _)
      | (with_reducible exact ih3 _ _ _ _ _ _)
      | (with_reducible exact seedcornref11_Lines.mono _ _)
      | (with_reducible exact LeO.refl _)
      | (with_reducible exact LeO.none _)
      | (with_reducible refine LeO.ite ?_ ?_)
      | (with_reducible refine LeO.bind ?_ (fun _ => ?_))
      | exact ih0 _ _ _
      | exact ih1 _ _ _ _ _
      | exact ih2 _ _ _ _ _
      | exact ih3 _ _ _ _ _ _
      | exact seedcornref11_Lines.mono _ _
      | exact LeO.none _
      | refine LeO.ite ?_ ?_
      | refine LeO.bind ?_ (fun _ => ?_)
    · intro y0 y1 y2 y3 y4
      unfold seedcornlaw11_ListingLines.l0
      repeat' first
      | (with_reducible exact ih0 _ _ _)
      | (with_reducible exact ih1 _ _ _ _ _)
      | (with_reducible exact ih2 _ _ _ _ _)
      | (with_reducible exact ih3 _ _ _ _ _ _)
      | (with_reducible exact seedcornref11_Lines.mono _ _)
      | (with_reducible exact LeO.refl _)
      | (with_reducible exact LeO.none _)
      | (with_reducible refine LeO.ite ?_ ?_)
      | (with_reducible refine LeO.bind ?_ (fun _ => ?_))
      | exact ih0 _ _ _
      | exact ih1 _ _ _ _ _
      | exact ih2 _ _ _ _ _
      | exact ih3 _ _ _ _ _ _
      | exact seedcornref11_Lines.mono _ _
      | exact LeO.none _
      | refine LeO.ite ?_ ?_
      | refine LeO.bind ?_ (fun _ => ?_)
    · intro y0 y1 y2 y3 y4 y5
      unfold seedcornlaw11_ListingLines.j3
      repeat' first
      | (with_reducible exact ih0 _ _ _)
      | (with_reducible exact ih1 _ _ _ _ _)
      | (with_reducible exact ih2 _ _ _ _ _)
      | (with_reducible exact ih3 _ _ _ _ _ _)
      | (with_reducible exact seedcornref11_Lines.mono _ _)
      | (with_reducible exact LeO.refl _)
      | (with_reducible exact LeO.none _)
      | (with_reducible refine LeO.ite ?_ ?_)
      | (with_reducible refine LeO.bind ?_ (fun _ => ?_))
      | exact ih0 _ _ _
      | exact ih1 _ _ _ _ _
      | exact ih2 _ _ _ _ _
      | exact ih3 _ _ _ _ _ _
      | exact seedcornref11_Lines.mono _ _
      | exact LeO.none _
      | refine LeO.ite ?_ ?_
      | refine LeO.bind ?_ (fun _ => ?_)
theorem seedcornlaw11_ListingLines.mono : ∀ a0 a1 k, LeO (seedcornlaw11_ListingLines.f k a0 a1) (seedcornlaw11_ListingLines.f (k + 1) a0 a1) := by
  intro a0 a1 k
  obtain ⟨ih0, ih1, ih2, ih3⟩ := seedcornlaw11_ListingLines.mono_l k
  unfold seedcornlaw11_ListingLines.f
  repeat' first
      | (with_reducible exact ih0 _ _ _)
      | (with_reducible exact ih1 _ _ _ _ _)
      | (with_reducible exact ih2 _ _ _ _ _)
      | (with_reducible exact ih3 _ _ _ _ _ _)
      | (with_reducible exact seedcornref11_Lines.mono _ _)
      | (with_reducible exact LeO.refl _)
      | (with_reducible exact LeO.none _)
      | (with_reducible refine LeO.ite ?_ ?_)
      | (with_reducible refine LeO.bind ?_ (fun _ => ?_))
      | exact ih0 _ _ _
      | exact ih1 _ _ _ _ _
      | exact ih2 _ _ _ _ _
      | exact ih3 _ _ _ _ _ _
      | exact seedcornref11_Lines.mono _ _
      | exact LeO.none _
      | refine LeO.ite ?_ ?_
      | refine LeO.bind ?_ (fun _ => ?_)
def seedcornlaw11_ListingLines.T8 : Bool × List (List Nat × List Nat) := (true, [([], []), ([0], [0]), ([1], [1]), ([2], [2]), ([3, 2], [2, 3]), ([2], [2]), ([5, 2], [2, 5]), ([6, 2], [2, 6]), ([7, 2], [2, 7]), ([2], [2]), ([9, 2], [2, 9]), ([8, 10, 2], [2, 8, 10]), ([4, 11, 2], [2, 4, 11]), ([2, 12], [2, 12]), ([13, 2], [13]), ([14], [14]), ([15, 14], [14, 15]), ([16, 14], [14, 16]), ([14], [14]), ([18, 14], [14, 18]), ([19, 14], [14, 19]), ([20, 14, 14], [14, 20]), ([21, 14], [14, 21]), ([17, 22, 14], [14, 17, 22]), ([14, 23], [14, 23])])
def seedcornlaw11_ListingLines.B8 : List Nat := [0, 1, 3, 7, 15, 7, 39, 103, 231, 7, 519, 2023, 4095, 8191, 16383, 32767, 65535, 131071, 32767, 294911, 819199, 1867775, 3964927, 8388607, 16777215]
theorem seedcornlaw11_ListingLines.tab8 : rtab .any (opsOf Tryd.f19 8) = seedcornlaw11_ListingLines.T8 := by kernel_rfl
theorem seedcornlaw11_ListingLines.bits8 : waitsOk seedcornlaw11_ListingLines.T8.2 seedcornlaw11_ListingLines.B8 = true := by kernel_rfl
def seedcornlaw11_ListingLines.T15 : Bool × List (List Nat × List Nat) := (true, [([], []), ([0], [0]), ([1], [1]), ([], []), ([3], [3]), ([4], [4]), ([5], [5]), ([6], [6]), ([2, 7], [2, 7])])
def seedcornlaw11_ListingLines.B15 : List Nat := [0, 1, 3, 0, 8, 24, 56, 120, 255]
theorem seedcornlaw11_ListingLines.tab15 : rtab .any (opsOf Tryd.f19 15) = seedcornlaw11_ListingLines.T15 := by kernel_rfl
theorem seedcornlaw11_ListingLines.bits15 : waitsOk seedcornlaw11_ListingLines.T15.2 seedcornlaw11_ListingLines.B15 = true := by kernel_rfl
set_option maxHeartbeats 8000000 in
set_option maxRecDepth 100000 in
theorem seedcornlaw11_ListingLines.calls (k : Nat) (A0_0 : Option Addr) (c0_0 : Nat) (l0_0 : List Int) (a0_1 : Int) (r : Bool) (w : World) (hGK : GK w) (hGT : GT w) (hr0_0 : Kd.C (Kd.int .u32) w A0_0 l0_0.length l0_0) (hc0_0 : l0_0.length ≤ c0_0) (h : seedcornlaw11_ListingLines.f k l0_0 a0_1 = some r) :
    Calls Tryd.prog 19 #[.agg #[.slice A0_0 l0_0.length c0_0, .int .i64 a0_1]] w fun e w' => e = .returned (.bool r) ∧ Below w.heap.size w w' := by
  have hu28 := Tryd.underlying28
  have HR0_0 := Aside0.mk hr0_0
  have HC0_0 := Aside0.mk hc0_0
  clear hr0_0 hc0_0
  have HGK := Aside0.mk hGK
  clear hGK
  have HGT := Aside0.mk hGT
  clear hGT
  have HB := Aside0.mk (Below.refl w.heap.size w)
  have H : ((seedcornlaw11_awake.f).bind fun t639 => (if t639 = true then (if (l0_0.length : Int) > 400 then (seedcornlaw11_ListingLines.j0 k true l0_0 a0_1) else ((seedcornref08_Right.f l0_0 a0_1).bind fun t640 => (seedcornlaw11_ListingLines.j0 k (!t640) l0_0 a0_1))) else (some false))) = some r := h
  clear h
  replace H := Option.bind_eq_some_iff.mp H
  obtain ⟨t639, A20, H⟩ := H
  replace H : (if t639 = true then (if (l0_0.length : Int) > 400 then (seedcornlaw11_ListingLines.j0 k true l0_0 a0_1) else ((seedcornref08_Right.f l0_0 a0_1).bind fun t640 => (seedcornlaw11_ListingLines.j0 k (!t640) l0_0 a0_1))) else (some false)) = some r := H
  have A2 := Aside0.mk A20
  clear A20
  by_cases c3 : t639 = true
  · subst c3
    have H1 : (if (l0_0.length : Int) > 400 then (seedcornlaw11_ListingLines.j0 k true l0_0 a0_1) else ((seedcornref08_Right.f l0_0 a0_1).bind fun t640 => (seedcornlaw11_ListingLines.j0 k (!t640) l0_0 a0_1))) = some r := by rw [if_pos rfl] at H; exact H
    clear H
    have H := H1
    clear H1
    have HC4 := Aside0.mk H
    clear H
    go_enter Tryd.func19, Tryd.ntmps19
    go_upto_region 3 with (first | ((with_reducible refine gate_dst (N := 1) rfl ?_); (try (refine gate_guard (by rfl) ?_; dsimp only)); refine box_event ?hg (N := 1) ?hd (cs := #[.slice A0_0 l0_0.length c0_0, .int .i64 a0_1]) (t := 28) ?hr ?_; (case hd => rfl); (case hg => rfl); (case hr => first | (go_simp; done) | (go_simp; rfl)); intro gb638 hg w5 hbox hb; have n0_ := Aside0.mk (below_step (by repeat (first | (with_reducible first | exact HB.out | apply below_alloc | apply pw_below_drewN | apply below_drew1) | exact HB.out)) hb); have n1_ := Aside0.mk (hbox); have n2_ := Aside0.mk ((by rw [hg]; exact (below_size (by repeat (first | (with_reducible first | exact HB.out | apply below_alloc | apply pw_below_drewN | apply below_drew1) | exact HB.out))) : w.heap.size ≤ gb638)); have n3_ := Aside0.mk ((by rw [hg]; exact (below_size (by repeat (first | (with_reducible first | exact HB.out | apply below_alloc | apply pw_below_drewN | apply below_drew1) | exact HB.out))) : w.heap.size ≤ gb638)); clear HB; have HB := n0_; have BK638 := n1_; have GW638 := n2_; have GE638 := n3_; clear n0_ n1_ n2_ n3_; clear hb hbox hg) | ((with_reducible refine gate_callee (f := 33) rfl ?_); refine goesL_ (some 8) rfl rfl Tryd.func33 (by kernel_rfl) rfl #[] rfl (by (try simp only [List.map_toArray, List.map_cons, List.map_nil]); first | done | rfl | (simp only [List.length_drop, List.length_take]; rfl)) ?_; (with_reducible refine (seedcornlaw11_awake.calls  true _ ?side1 ?side2 A2.out).mono ?_); (case side1 => exact GK.below HGK.out (by repeat (first | (with_reducible first | exact HB.out | apply below_alloc | apply pw_below_drewN | apply below_drew1 | refine below_set ?_ GE638.out) | exact HB.out))); (case side2 => exact GT.below HGT.out (by repeat (first | (with_reducible first | exact HB.out | apply below_alloc | apply pw_below_drewN | apply below_drew1 | refine below_set ?_ GE638.out) | exact HB.out))); rintro e w6 ⟨rfl, hb⟩; refine ⟨_, rfl, ?_⟩; have n0_ := Aside0.mk (blk_below (g := gb638) (o := .cells #[.slice A0_0 l0_0.length c0_0, .int .i64 a0_1] 28 (0, 0)) (by (with_reducible repeat (first | refine blk_drewN ?_ _ | refine blk_drew ?_ | refine blk_alloc ?_ _)); exact BK638.out) hb); have n1_ := Aside0.mk (below_step (by repeat (first | (with_reducible first | exact HB.out | apply below_alloc | apply pw_below_drewN | apply below_drew1 | refine below_set ?_ GE638.out) | exact HB.out)) hb); clear BK638; clear HB; have BK638 := n0_; have HB := n1_; clear n0_ n1_; (try clear hb); (try clear hb2); (try clear hk); (try clear hi)))
    (try simp only [Act.put, List.setIfInBounds_toArray, List.set_cons_zero, List.set_cons_succ])
    go_cut [18] (fun v18 wc => ∃ (kq : Nat) (x18_3 : Bool), v18 = .bool x18_3 ∧ Aside0 (seedcornlaw11_ListingLines.j0 kq x18_3 l0_0 a0_1 = some r) ∧ Aside0 (kq ≤ k) ∧ Aside0 (wc.heap[gb638]? = some (.cells #[(.slice A0_0 l0_0.length c0_0), .int .i64 a0_1] 28 (0, 0))) ∧ Aside0 (Below w.heap.size w wc))
    case first =>
      have H := HC4.out
      clear HC4
      by_cases c7 : (l0_0.length : Int) > 400
      · rw [if_pos c7] at H
        have c7b0 : decide (400 < (l0_0.length : Int)) = true := decide_eq_true c7
        have c7b1 : decide (400 < l0_0.length) = true := decide_eq_true (by omega)
        clear c7
        (first | rw [c7b0] | (simp only [i64_w, i32_w]; rw [c7b0]) | skip)
        have H' := Aside0.mk H
        clear H
        have hcz8_0 : w6.cell? ⟨gb638, 0, none⟩ = some (.slice A0_0 l0_0.length c0_0) := (blk_cell BK638.out 0).trans rfl
        have hcz8_1 : w6.cell? ⟨gb638, 1, none⟩ = some (.int .i64 a0_1) := (blk_cell BK638.out 1).trans rfl
        have hfz8_0 := blk_frozen BK638.out 0
        have hfz8_1 := blk_frozen BK638.out 1
        go_wp2
        go_meet
        case rel => exact ⟨_, (true), (by first | rfl | (simp; done) | (simp [*]; done)), H', ⟨by first | omega | exact Nat.le_refl _⟩, ⟨by (with_reducible repeat (first | refine blk_drewN ?_ _ | refine blk_drew ?_ | refine blk_alloc ?_ _)); exact BK638.out⟩, ⟨by repeat (first | (with_reducible first | exact HB.out | apply below_alloc | apply pw_below_drewN | apply below_drew1 | refine below_set ?_ GE638.out) | exact HB.out)⟩⟩
      · rw [if_neg c7] at H
        have c7b0 : decide (400 < (l0_0.length : Int)) = false := decide_eq_false c7
        have c7b1 : decide (400 < l0_0.length) = false := decide_eq_false (by omega)
        clear c7
        (first | rw [c7b0] | (simp only [i64_w, i32_w]; rw [c7b0]) | skip)
        replace H := Option.bind_eq_some_iff.mp H
        obtain ⟨t640, A90, H⟩ := H
        replace H : (seedcornlaw11_ListingLines.j0 k (!t640) l0_0 a0_1) = some r := H
        have A9 := Aside0.mk A90
        clear A90
        have H' := Aside0.mk H
        clear H
        have hcz10_0 : w6.cell? ⟨gb638, 0, none⟩ = some (.slice A0_0 l0_0.length c0_0) := (blk_cell BK638.out 0).trans rfl
        have hcz10_1 : w6.cell? ⟨gb638, 1, none⟩ = some (.int .i64 a0_1) := (blk_cell BK638.out 1).trans rfl
        have hfz10_0 := blk_frozen BK638.out 0
        have hfz10_1 := blk_frozen BK638.out 1
        go_wp2_with (first | (go_at_call 34; (with_reducible refine (seedcornref08_Right.calls _ _ l0_0 a0_1 t640 _ ?side1 ?side2 A9.out).mono ?_); (case side1 => repeat (first | exact (Kd.C_below HR0_0.out HB.out) | (with_reducible refine Kd.C_alloc ?_ _) | (with_reducible refine Kd.C_drewN ?_ _) | (with_reducible refine Kd.C_drew ?_))); (case side2 => exact HC0_0.out); rintro e w11 ⟨rfl, hb⟩; have n0_ := Aside0.mk (blk_below (g := gb638) (o := .cells #[.slice A0_0 l0_0.length c0_0, .int .i64 a0_1] 28 (0, 0)) (by (with_reducible repeat (first | refine blk_drewN ?_ _ | refine blk_drew ?_ | refine blk_alloc ?_ _)); exact BK638.out) hb); have n1_ := Aside0.mk (below_step (by repeat (first | (with_reducible first | exact HB.out | apply below_alloc | apply pw_below_drewN | apply below_drew1 | refine below_set ?_ GE638.out) | exact HB.out)) hb); clear BK638; clear HB; have BK638 := n0_; have HB := n1_; clear n0_ n1_; (try clear hb); (try clear hb2); (try clear hk); (try clear hi)))
        go_meet
        case rel => exact ⟨_, (!t640), (by first | rfl | (simp; done) | (simp [*]; done)), H', ⟨by first | omega | exact Nat.le_refl _⟩, ⟨by (with_reducible repeat (first | refine blk_drewN ?_ _ | refine blk_drew ?_ | refine blk_alloc ?_ _)); exact BK638.out⟩, ⟨by repeat (first | (with_reducible first | exact HB.out | apply below_alloc | apply pw_below_drewN | apply below_drew1 | refine below_set ?_ GE638.out) | exact HB.out)⟩⟩
    case rest =>
      clear HC4
      try clear c1
      try clear p2
      try clear c3
      try clear c7
      try clear c7b0
      try clear c7b1
      try clear hcz10_0
      try clear hcz10_1
      try clear hcz8_0
      try clear hcz8_1
      try clear hfz10_0
      try clear hfz10_1
      try clear hfz8_0
      try clear hfz8_1
      obtain ⟨kq, x18_3, rfl, HA, HJ3, BK638, HB⟩ := hcut
      cases kq with
      | zero => exact absurd HA.out (by simp [seedcornlaw11_ListingLines.j0])
      | succ kj3 =>
        have H := HA.out
        clear HA
        simp only [seedcornlaw11_ListingLines.j0] at H
        by_cases c12 : x18_3 = true
        · subst c12
          have H1 : (some true) = some r := by rw [if_pos rfl] at H; exact H
          clear H
          have H := H1
          clear H1
          obtain rfl := Option.some.inj H
          go_wp2
          go_ret
          exact ⟨by first | rfl | (simp [errW_none, errW_some] <;> rfl) | (simp [*, errW_none, errW_some] <;> rfl), by repeat (first | (with_reducible first | exact HB.out | apply below_alloc | apply pw_below_drewN | apply below_drew1 | refine below_set ?_ GE638.out) | exact HB.out)⟩
        · replace c12 := Bool.eq_false_iff.mpr c12
          subst c12
          have H1 : ((listing_Text.f l0_0 a0_1).bind fun bt641 => ((listing_Targets.f l0_0 a0_1).bind fun t643 => ((seedcornref11_Lines.f kj3 bt641.1).bind fun t646 => (if bt641.2 = 0 then (if (t646.length : Int) = (wrap64 ((wrap64 (1 + (l0_0.length : Int))) + (t643.length : Int))) then (if 0 < (t646.length : Int) then ((word_Text.f ((a0_1) % 4294967296)).bind fun t650 => (if 6 + t650.size ≤ 9223372036854775807 then (seedcornlaw11_ListingLines.j1 kj3 t643 t646 ((rdOf ByteArray.empty t646 0).toList != ((⟨#[46, 100, 97, 116, 97, 32]⟩ : ByteArray) ++ t650).toList) l0_0 a0_1) else (none))) else (none)) else (seedcornlaw11_ListingLines.j1 kj3 t643 t646 true l0_0 a0_1)) else (seedcornlaw11_ListingLines.j1 kj3 t643 t646 true l0_0 a0_1))))) = some r := by rw [if_neg (show ¬ (false = true) by decide)] at H; exact H
          clear H
          have H := H1
          clear H1
          replace H := Option.bind_eq_some_iff.mp H
          obtain ⟨⟨t641, t642⟩, A130, H⟩ := H
          replace H : ((listing_Targets.f l0_0 a0_1).bind fun t643 => ((seedcornref11_Lines.f kj3 t641).bind fun t646 => (if t642 = 0 then (if (t646.length : Int) = (wrap64 ((wrap64 (1 + (l0_0.length : Int))) + (t643.length : Int))) then (if 0 < (t646.length : Int) then ((word_Text.f ((a0_1) % 4294967296)).bind fun t650 => (if 6 + t650.size ≤ 9223372036854775807 then (seedcornlaw11_ListingLines.j1 kj3 t643 t646 ((rdOf ByteArray.empty t646 0).toList != ((⟨#[46, 100, 97, 116, 97, 32]⟩ : ByteArray) ++ t650).toList) l0_0 a0_1) else (none))) else (none)) else (seedcornlaw11_ListingLines.j1 kj3 t643 t646 true l0_0 a0_1)) else (seedcornlaw11_ListingLines.j1 kj3 t643 t646 true l0_0 a0_1)))) = some r := H
          have A13 := Aside0.mk A130
          clear A130
          replace H := Option.bind_eq_some_iff.mp H
          obtain ⟨t643, A140, H⟩ := H
          replace H : ((seedcornref11_Lines.f kj3 t641).bind fun t646 => (if t642 = 0 then (if (t646.length : Int) = (wrap64 ((wrap64 (1 + (l0_0.length : Int))) + (t643.length : Int))) then (if 0 < (t646.length : Int) then ((word_Text.f ((a0_1) % 4294967296)).bind fun t650 => (if 6 + t650.size ≤ 9223372036854775807 then (seedcornlaw11_ListingLines.j1 kj3 t643 t646 ((rdOf ByteArray.empty t646 0).toList != ((⟨#[46, 100, 97, 116, 97, 32]⟩ : ByteArray) ++ t650).toList) l0_0 a0_1) else (none))) else (none)) else (seedcornlaw11_ListingLines.j1 kj3 t643 t646 true l0_0 a0_1)) else (seedcornlaw11_ListingLines.j1 kj3 t643 t646 true l0_0 a0_1))) = some r := H
          have A14 := Aside0.mk A140
          clear A140
          replace H := Option.bind_eq_some_iff.mp H
          obtain ⟨t646, A150, H⟩ := H
          replace H : (if t642 = 0 then (if (t646.length : Int) = (wrap64 ((wrap64 (1 + (l0_0.length : Int))) + (t643.length : Int))) then (if 0 < (t646.length : Int) then ((word_Text.f ((a0_1) % 4294967296)).bind fun t650 => (if 6 + t650.size ≤ 9223372036854775807 then (seedcornlaw11_ListingLines.j1 kj3 t643 t646 ((rdOf ByteArray.empty t646 0).toList != ((⟨#[46, 100, 97, 116, 97, 32]⟩ : ByteArray) ++ t650).toList) l0_0 a0_1) else (none))) else (none)) else (seedcornlaw11_ListingLines.j1 kj3 t643 t646 true l0_0 a0_1)) else (seedcornlaw11_ListingLines.j1 kj3 t643 t646 true l0_0 a0_1)) = some r := H
          have A15 := Aside0.mk A150
          clear A150
          have HC16 := Aside0.mk H
          clear H
          have hcz17_0 : wc.cell? ⟨gb638, 0, none⟩ = some (.slice A0_0 l0_0.length c0_0) := (blk_cell BK638.out 0).trans rfl
          have hcz17_1 : wc.cell? ⟨gb638, 1, none⟩ = some (.int .i64 a0_1) := (blk_cell BK638.out 1).trans rfl
          have hfz17_0 := blk_frozen BK638.out 0
          have hfz17_1 := blk_frozen BK638.out 1
          go_upto_region 8 with (first | ((with_reducible refine gate_callee (f := 36) rfl ?_); refine goesL_ (some 21) rfl rfl Tryd.func36 (by kernel_rfl) rfl #[.agg #[.slice A0_0 l0_0.length c0_0, .int .i64 a0_1]] rfl (by (try simp only [List.map_toArray, List.map_cons, List.map_nil]); first | done | rfl | (simp only [List.length_drop, List.length_take]; rfl)) ?_; (with_reducible refine (listing_Text.calls _ _ l0_0 a0_1 t641 t642 _ ?side1 ?side2 ?side3 ?side4 A13.out).mono ?_); (case side1 => exact GK.below HGK.out (by repeat (first | (with_reducible first | exact HB.out | apply below_alloc | apply pw_below_drewN | apply below_drew1 | refine below_set ?_ GE638.out) | exact HB.out))); (case side2 => exact GT.below HGT.out (by repeat (first | (with_reducible first | exact HB.out | apply below_alloc | apply pw_below_drewN | apply below_drew1 | refine below_set ?_ GE638.out) | exact HB.out))); (case side3 => repeat (first | exact (Kd.C_below HR0_0.out HB.out) | (with_reducible refine Kd.C_alloc ?_ _) | (with_reducible refine Kd.C_drewN ?_ _) | (with_reducible refine Kd.C_drew ?_))); (case side4 => exact HC0_0.out); rintro e w18 ⟨rfl, hb⟩; refine ⟨_, rfl, ?_⟩; have n0_ := Aside0.mk (blk_below (g := gb638) (o := .cells #[.slice A0_0 l0_0.length c0_0, .int .i64 a0_1] 28 (0, 0)) (by (with_reducible repeat (first | refine blk_drewN ?_ _ | refine blk_drew ?_ | refine blk_alloc ?_ _)); exact BK638.out) hb); have n1_ := Aside0.mk (below_step (by repeat (first | (with_reducible first | exact HB.out | apply below_alloc | apply pw_below_drewN | apply below_drew1 | refine below_set ?_ GE638.out) | exact HB.out)) hb); clear BK638; clear HB; have BK638 := n0_; have HB := n1_; clear n0_ n1_; (try clear hb); (try clear hb2); (try clear hk); (try clear hi); have hcz19_0 : w18.cell? ⟨gb638, 0, none⟩ = some (.slice A0_0 l0_0.length c0_0) := (blk_cell BK638.out 0).trans rfl; have hcz19_1 : w18.cell? ⟨gb638, 1, none⟩ = some (.int .i64 a0_1) := (blk_cell BK638.out 1).trans rfl; have hfz19_0 := blk_frozen BK638.out 0; have hfz19_1 := blk_frozen BK638.out 1) | ((with_reducible refine gate_callee (f := 35) rfl ?_); refine goesL_ (some 25) rfl rfl Tryd.func35 (by kernel_rfl) rfl #[.agg #[.slice A0_0 l0_0.length c0_0, .int .i64 a0_1]] rfl (by (try simp only [List.map_toArray, List.map_cons, List.map_nil]); first | done | rfl | (simp only [List.length_drop, List.length_take]; rfl)) ?_; (with_reducible refine (listing_Targets.calls _ _ l0_0 a0_1 t643 _ ?side1 ?side2 ?side3 A14.out).mono ?_); (case side1 => exact GK.below HGK.out (by repeat (first | (with_reducible first | exact HB.out | apply below_alloc | apply pw_below_drewN | apply below_drew1 | refine below_set ?_ GE638.out) | exact HB.out))); (case side2 => repeat (first | exact (Kd.C_below HR0_0.out HB.out) | (with_reducible refine Kd.C_alloc ?_ _) | (with_reducible refine Kd.C_drewN ?_ _) | (with_reducible refine Kd.C_drew ?_))); (case side3 => exact HC0_0.out); rintro e w20 ⟨v644, rfl, ho0, hb⟩; refine ⟨_, rfl, ?_⟩; have n0_ := Aside0.mk (Kd.R_lower ho0 (below_size (by repeat (first | (with_reducible first | exact HB.out | apply below_alloc | apply pw_below_drewN | apply below_drew1 | refine below_set ?_ GE638.out) | exact HB.out)))); have n1_ := Aside0.mk (blk_below (g := gb638) (o := .cells #[.slice A0_0 l0_0.length c0_0, .int .i64 a0_1] 28 (0, 0)) (by (with_reducible repeat (first | refine blk_drewN ?_ _ | refine blk_drew ?_ | refine blk_alloc ?_ _)); exact BK638.out) hb); have n2_ := Aside0.mk (below_step (by repeat (first | (with_reducible first | exact HB.out | apply below_alloc | apply pw_below_drewN | apply below_drew1 | refine below_set ?_ GE638.out) | exact HB.out)) hb); clear BK638; clear HB; have HO645 := n0_; have BK638 := n1_; have HB := n2_; clear n0_ n1_ n2_; (try clear hb); (try clear hb2); (try clear hk); (try clear hi); (try clear ho0)) | ((with_reducible refine gate_callee (f := 56) rfl ?_); refine goesL_ (some 27) rfl rfl Tryd.func56 (by kernel_rfl) rfl #[.string t641] rfl (by (try simp only [List.map_toArray, List.map_cons, List.map_nil]); first | done | rfl | (simp only [List.length_drop, List.length_take]; rfl)) ?_; (with_reducible refine (seedcornref11_Lines.calls kj3 t641 t646 _ A15.out).mono ?_); rintro e w21 ⟨v647, rfl, ho0, hb⟩; refine ⟨_, rfl, ?_⟩; have n0_ := Aside0.mk (Kd.R_below (by (with_reducible repeat (first | apply Kd.R_alloc | apply Kd.R_drewN | apply Kd.R_drew)); exact HO645.out) hb); have n1_ := Aside0.mk (Kd.R_lower ho0 (below_size (by repeat (first | (with_reducible first | exact HB.out | apply below_alloc | apply pw_below_drewN | apply below_drew1 | refine below_set ?_ GE638.out) | exact HB.out)))); have n2_ := Aside0.mk (blk_below (g := gb638) (o := .cells #[.slice A0_0 l0_0.length c0_0, .int .i64 a0_1] 28 (0, 0)) (by (with_reducible repeat (first | refine blk_drewN ?_ _ | refine blk_drew ?_ | refine blk_alloc ?_ _)); exact BK638.out) hb); have n3_ := Aside0.mk (below_step (by repeat (first | (with_reducible first | exact HB.out | apply below_alloc | apply pw_below_drewN | apply below_drew1 | refine below_set ?_ GE638.out) | exact HB.out)) hb); clear HO645; clear BK638; clear HB; have HO645 := n0_; have HO648 := n1_; have BK638 := n2_; have HB := n3_; clear n0_ n1_ n2_ n3_; (try clear hb); (try clear hb2); (try clear hk); (try clear hi); (try clear ho0)))
          (try simp only [Act.put, List.setIfInBounds_toArray, List.set_cons_zero, List.set_cons_succ])
          go_cut [52] (fun v52 wc => ∃ (kq : Nat) (x52_15 : Bool), v52 = .bool x52_15 ∧ Aside0 (seedcornlaw11_ListingLines.j1 kq t643 t646 x52_15 l0_0 a0_1 = some r) ∧ Aside0 (kq ≤ kj3) ∧ Aside0 (Kd.Q (Kd.int .i64) 3 wc w.heap.size (fun _ => True) v644 t643) ∧ Aside0 (Kd.Q Kd.string 9 wc w.heap.size (fun _ => True) v647 t646) ∧ Aside0 (wc.heap[gb638]? = some (.cells #[(.slice A0_0 l0_0.length c0_0), .int .i64 a0_1] 28 (0, 0))) ∧ Aside0 (Below w.heap.size w wc))
          case first =>
            have H := HC16.out
            clear HC16
            by_cases c22 : t642 = 0
            · rw [if_pos c22] at H
              have c22b0 : (t642 == 0) = true := beq_iff_eq.mpr c22
              have c22b1 : (t642 != 0) = false := bne_eq_false_iff_eq.mpr c22
              clear c22
              (first | rw [c22b0] | (simp only [i64_w, i32_w]; rw [c22b0]) | skip)
              by_cases c23 : (t646.length : Int) = (wrap64 ((wrap64 (1 + (l0_0.length : Int))) + (t643.length : Int)))
              · rw [if_pos c23] at H
                have c23b0 : ((t646.length : Int) == (wrap64 ((wrap64 (1 + (l0_0.length : Int))) + (t643.length : Int)))) = true := beq_iff_eq.mpr c23
                have c23b1 : ((t646.length : Int) != (wrap64 ((wrap64 (1 + (l0_0.length : Int))) + (t643.length : Int)))) = false := bne_eq_false_iff_eq.mpr c23
                clear c23
                by_cases c24 : 0 < (t646.length : Int)
                · rw [if_pos c24] at H
                  have c24b0 : decide (0 < (t646.length : Int)) = true := decide_eq_true c24
                  have c24b1 : decide (0 < t646.length) = true := decide_eq_true (by omega)
                  clear c24
                  replace H := Option.bind_eq_some_iff.mp H
                  obtain ⟨t650, A250, H⟩ := H
                  replace H : (if 6 + t650.size ≤ 9223372036854775807 then (seedcornlaw11_ListingLines.j1 kj3 t643 t646 ((rdOf ByteArray.empty t646 0).toList != ((⟨#[46, 100, 97, 116, 97, 32]⟩ : ByteArray) ++ t650).toList) l0_0 a0_1) else (none)) = some r := H
                  have A25 := Aside0.mk A250
                  clear A250
                  by_cases c26 : 6 + t650.size ≤ 9223372036854775807
                  · rw [if_pos c26] at H
                    have c26b0 := eq_true c26
                    have c26b1 : decide (6 + t650.size ≤ 9223372036854775807) = true := decide_eq_true c26
                    try have c26b2 : (9223372036854775807 < 6 + t650.size) = False := eq_false (Nat.not_lt.2 c26)
                    have H' := Aside0.mk H
                    clear H
                    try go_wp2
                    have n0_ := Aside0.mk (Kd.R_drew HO645.out)
                    have n1_ := Aside0.mk (Kd.R_drew HO648.out)
                    have n2_ := Aside0.mk (blk_drew BK638.out)
                    have n3_ := Aside0.mk (below_drew1 HB.out)
                    clear HO645
                    clear HO648
                    clear BK638
                    clear HB
                    have HO645 := n0_
                    have HO648 := n1_
                    have BK638 := n2_
                    have HB := n3_
                    clear n0_ n1_ n2_ n3_
                    obtain ⟨Ao28, co28, eo28⟩ := Kd.R_slice HO648.out
                    (first | subst eo28 | (injection eo28 with f1_ f2_ f3_; have f4_ := f1_.symm; have f5_ := f3_.symm; clear f1_ f2_ f3_; subst f4_; subst f5_))
                    obtain ⟨Ao29, co29, eo29⟩ := Kd.R_slice HO645.out
                    (first | subst eo29 | (injection eo29 with f1_ f2_ f3_; have f4_ := f1_.symm; have f5_ := f3_.symm; clear f1_ f2_ f3_; subst f4_; subst f5_))
                    have p649 : 0 ≤ (0 : Int) := (by omega)
                    have q649 : 0 < (t646.length : Int) := of_decide_eq_true (by first | (with_reducible assumption) | assumption)
                    obtain ⟨ad649, e649, hx649_0⟩ := Kd.at_string (Kd.R_reads' HO648.out).2.2 0 p649 q649
                    cases e649
                    have qi649 : (0 < t646.length) = True := eq_true (by omega)
                    (try rw [show ((0 : Int)).toNat = 0 from rfl] at hx649_0)
                    (try rw [Addr.add_zero'] at hx649_0)
                    replace p649 := eq_true p649
                    replace q649 := eq_true q649
                    refine start_ (n := 25) (S := fun w' => w'.cell? ⟨gb638, 0, none⟩ = some (.slice A0_0 l0_0.length c0_0) ∧ w'.cell? ⟨gb638, 1, none⟩ = some (.int .i64 a0_1) ∧ w'.cell? ad649 = some (.string (rdOf ByteArray.empty t646 0))) (ds := []) #[false, false, false, false, false, false, false, false, false, false, false, false, false, false, false, false, false, false, false, false, false, false, false, false, false] (by kernel_rfl) rfl rfl ⟨(blk_cell BK638.out 0).trans rfl, (blk_cell BK638.out 1).trans rfl, hx649_0⟩ (fun hHeld => ?_); refine with_tabW seedcornlaw11_ListingLines.tab8 seedcornlaw11_ListingLines.bits8 (fun HT_ HW_ => ?_)
                    generalize w21.drew = w27 at HO645 HO648 BK638 HB hx649_0 hHeld ⊢
                    refine pure_ (i := 0) (N := some 28) (v := ?_) (a' := ?_) #[true, false, false, false, false, false, false, false, false, false, false, false, false, false, false, false, false, false, false, false, false, false, false, false, false] rfl rfl (any_of HT_.out (by kernel_rfl)) (fun _ _ _ h => h) (Or.inl ⟨by rfl, ?_⟩) ?_ ?_
                    rotate_left
                    · intro w'
                      go_simp
                      with_reducible rfl
                    rotate_left
                    · simp only [Act.put, List.setIfInBounds_toArray, List.set_cons_zero, List.set_cons_succ, i64_w, i32_w]
                      rfl
                    refine pure_ (i := 1) (N := some 29) (v := ?_) (a' := ?_) #[true, true, false, false, false, false, false, false, false, false, false, false, false, false, false, false, false, false, false, false, false, false, false, false, false] rfl rfl (any_of HT_.out (by kernel_rfl)) (fun _ _ _ h => h) (Or.inl ⟨by rfl, ?_⟩) ?_ ?_
                    rotate_left
                    · intro w'
                      go_simp
                      with_reducible rfl
                    rotate_left
                    · simp only [Act.put, List.setIfInBounds_toArray, List.set_cons_zero, List.set_cons_succ, i64_w, i32_w]
                      rfl
                    refine pure_ (i := 2) (N := some 30) (v := ?_) (a' := ?_) #[true, true, true, false, false, false, false, false, false, false, false, false, false, false, false, false, false, false, false, false, false, false, false, false, false] rfl rfl (any_of HT_.out (by kernel_rfl)) (fun _ _ _ h => h) (Or.inl ⟨by rfl, ?_⟩) ?_ ?_
                    rotate_left
                    · intro w'
                      go_simp
                      with_reducible rfl
                    rotate_left
                    · simp only [Act.put, List.setIfInBounds_toArray, List.set_cons_zero, List.set_cons_succ, i64_w, i32_w]
                      rfl
                    refine pure_ (i := 3) (N := some 31) (v := ?_) (a' := ?_) #[true, true, true, true, false, false, false, false, false, false, false, false, false, false, false, false, false, false, false, false, false, false, false, false, false] rfl rfl (any_of HT_.out (by kernel_rfl)) (fun _ _ _ h => h) (Or.inl ⟨by rfl, ?_⟩) ?_ ?_
                    rotate_left
                    · intro w'
                      go_simp
                      with_reducible rfl
                    rotate_left
                    · simp only [Act.put, List.setIfInBounds_toArray, List.set_cons_zero, List.set_cons_succ, i64_w, i32_w]
                      rfl
                    refine pure_ (i := 4) (N := some 32) (v := ?_) (a' := ?_) #[true, true, true, true, true, false, false, false, false, false, false, false, false, false, false, false, false, false, false, false, false, false, false, false, false] rfl rfl (any_of HT_.out (by kernel_rfl)) (fun _ _ _ h => h) (Or.inl ⟨by rfl, ?_⟩) ?_ ?_
                    rotate_left
                    · intro w'
                      go_simp
                      with_reducible rfl
                    rotate_left
                    · simp only [Act.put, List.setIfInBounds_toArray, List.set_cons_zero, List.set_cons_succ, i64_w, i32_w]
                      rfl
                    refine pure_ (i := 5) (N := some 33) (v := ?_) (a' := ?_) #[true, true, true, true, true, true, false, false, false, false, false, false, false, false, false, false, false, false, false, false, false, false, false, false, false] rfl rfl (any_of HT_.out (by kernel_rfl)) (fun _ _ _ h => h) (Or.inl ⟨by rfl, ?_⟩) ?_ ?_
                    rotate_left
                    · intro w'
                      go_simp
                      with_reducible rfl
                    rotate_left
                    · simp only [Act.put, List.setIfInBounds_toArray, List.set_cons_zero, List.set_cons_succ, i64_w, i32_w]
                      rfl
                    refine pure_ (i := 9) (N := some 37) (v := ?_) (a' := ?_) #[true, true, true, true, true, true, false, false, false, true, false, false, false, false, false, false, false, false, false, false, false, false, false, false, false] rfl rfl (any_of HT_.out (by kernel_rfl)) (fun _ _ _ h => h) (Or.inl ⟨by rfl, ?_⟩) ?_ ?_
                    rotate_left
                    · intro w'
                      go_simp
                      with_reducible rfl
                    rotate_left
                    · simp only [Act.put, List.setIfInBounds_toArray, List.set_cons_zero, List.set_cons_succ, i64_w, i32_w]
                      rfl
                    refine pure_ (i := 10) (N := some 38) (v := ?_) (a' := ?_) #[true, true, true, true, true, true, false, false, false, true, true, false, false, false, false, false, false, false, false, false, false, false, false, false, false] rfl rfl (any_of HT_.out (by kernel_rfl)) (fun _ _ _ h => h) (Or.inl ⟨by rfl, ?_⟩) ?_ ?_
                    rotate_left
                    · intro w'
                      go_simp
                      with_reducible rfl
                    rotate_left
                    · simp only [Act.put, List.setIfInBounds_toArray, List.set_cons_zero, List.set_cons_succ, i64_w, i32_w]
                      rfl
                    refine take_ (i := 6) (N := some 34) (v := ?_) (a' := ?_) #[true, true, true, true, true, true, true, false, false, true, true, false, false, false, false, false, false, false, false, false, false, false, false, false, false] rfl rfl (take_ofW HT_.out HW_.out (by kernel_rfl)) (fun _ _ _ h => h) (Or.inl ⟨by rfl, ?_⟩) hHeld ?_ ?_
                    rotate_left
                    · rintro w' ⟨s0, s1, s2⟩
                      go_simp
                      with_reducible rfl
                    rotate_left
                    · simp only [Act.put, List.setIfInBounds_toArray, List.set_cons_zero, List.set_cons_succ, i64_w, i32_w]
                      rfl
                    refine pure_ (i := 7) (N := some 35) (v := ?_) (a' := ?_) #[true, true, true, true, true, true, true, true, false, true, true, false, false, false, false, false, false, false, false, false, false, false, false, false, false] rfl rfl (any_of HT_.out (by kernel_rfl)) (fun _ _ _ h => h) (Or.inl ⟨by rfl, ?_⟩) ?_ ?_
                    rotate_left
                    · intro w'
                      go_simp
                      with_reducible rfl
                    rotate_left
                    · simp only [Act.put, List.setIfInBounds_toArray, List.set_cons_zero, List.set_cons_succ, i64_w, i32_w]
                      rfl
                    refine pure_ (i := 8) (N := some 36) (v := ?_) (a' := ?_) #[true, true, true, true, true, true, true, true, true, true, true, false, false, false, false, false, false, false, false, false, false, false, false, false, false] rfl rfl (any_of HT_.out (by kernel_rfl)) (fun _ _ _ h => h) (Or.inl ⟨by rfl, ?_⟩) ?_ ?_
                    rotate_left
                    · intro w'
                      go_simp
                      with_reducible rfl
                    rotate_left
                    · simp only [Act.put, List.setIfInBounds_toArray, List.set_cons_zero, List.set_cons_succ, i64_w, i32_w]
                      rfl
                    refine pure_ (i := 11) (N := some 39) (v := ?_) (a' := ?_) #[true, true, true, true, true, true, true, true, true, true, true, true, false, false, false, false, false, false, false, false, false, false, false, false, false] rfl rfl (any_of HT_.out (by kernel_rfl)) (fun _ _ _ h => h) (Or.inl ⟨by rfl, ?_⟩) ?_ ?_
                    rotate_left
                    · intro w'
                      go_simp
                      with_reducible rfl
                    rotate_left
                    · simp only [Act.put, List.setIfInBounds_toArray, List.set_cons_zero, List.set_cons_succ, i64_w, i32_w]
                      rfl
                    refine pure_ (i := 12) (N := some 40) (v := ?_) (a' := ?_) #[true, true, true, true, true, true, true, true, true, true, true, true, true, false, false, false, false, false, false, false, false, false, false, false, false] rfl rfl (any_of HT_.out (by kernel_rfl)) (fun _ _ _ h => h) (Or.inl ⟨by rfl, ?_⟩) ?_ ?_
                    rotate_left
                    · intro w'
                      go_simp
                      with_reducible rfl
                    rotate_left
                    · simp only [Act.put, List.setIfInBounds_toArray, List.set_cons_zero, List.set_cons_succ, i64_w, i32_w]
                      rfl
                    refine pure_ (i := 13) (N := some 41) (v := ?_) (a' := ?_) #[true, true, true, true, true, true, true, true, true, true, true, true, true, true, false, false, false, false, false, false, false, false, false, false, false] rfl rfl (any_of HT_.out (by kernel_rfl)) (fun _ _ _ h => h) (Or.inl ⟨by rfl, ?_⟩) ?_ ?_
                    rotate_left
                    · intro w'
                      go_simp
                      with_reducible rfl
                    rotate_left
                    · simp only [Act.put, List.setIfInBounds_toArray, List.set_cons_zero, List.set_cons_succ, i64_w, i32_w]
                      rfl
                    refine pure_ (i := 14) (N := some 42) (v := ?_) (a' := ?_) #[true, true, true, true, true, true, true, true, true, true, true, true, true, true, true, false, false, false, false, false, false, false, false, false, false] rfl rfl (any_of HT_.out (by kernel_rfl)) (fun _ _ _ h => h) (Or.inl ⟨by rfl, ?_⟩) ?_ ?_
                    rotate_left
                    · intro w'
                      go_simp
                      with_reducible rfl
                    rotate_left
                    · simp only [Act.put, List.setIfInBounds_toArray, List.set_cons_zero, List.set_cons_succ, i64_w, i32_w]
                      rfl
                    refine pure_ (i := 15) (N := some 43) (v := ?_) (a' := ?_) #[true, true, true, true, true, true, true, true, true, true, true, true, true, true, true, true, false, false, false, false, false, false, false, false, false] rfl rfl (any_of HT_.out (by kernel_rfl)) (fun _ _ _ h => h) (Or.inl ⟨by rfl, ?_⟩) ?_ ?_
                    rotate_left
                    · intro w'
                      go_simp
                      with_reducible rfl
                    rotate_left
                    · simp only [Act.put, List.setIfInBounds_toArray, List.set_cons_zero, List.set_cons_succ, i64_w, i32_w]
                      rfl
                    refine pure_ (i := 16) (N := some 44) (v := ?_) (a' := ?_) #[true, true, true, true, true, true, true, true, true, true, true, true, true, true, true, true, true, false, false, false, false, false, false, false, false] rfl rfl (any_of HT_.out (by kernel_rfl)) (fun _ _ _ h => h) (Or.inl ⟨by rfl, ?_⟩) ?_ ?_
                    rotate_left
                    · intro w'
                      go_simp
                      with_reducible rfl
                    rotate_left
                    · simp only [Act.put, List.setIfInBounds_toArray, List.set_cons_zero, List.set_cons_succ, i64_w, i32_w]
                      rfl
                    refine pure_ (i := 18) (N := some 46) (v := ?_) (a' := ?_) #[true, true, true, true, true, true, true, true, true, true, true, true, true, true, true, true, true, false, true, false, false, false, false, false, false] rfl rfl (any_of HT_.out (by kernel_rfl)) (fun _ _ _ h => h) (Or.inl ⟨by rfl, ?_⟩) ?_ ?_
                    rotate_left
                    · intro w'
                      go_simp
                      with_reducible rfl
                    rotate_left
                    · simp only [Act.put, List.setIfInBounds_toArray, List.set_cons_zero, List.set_cons_succ, i64_w, i32_w]
                      rfl
                    refine take_ (i := 17) (N := some 45) (v := ?_) (a' := ?_) #[true, true, true, true, true, true, true, true, true, true, true, true, true, true, true, true, true, true, true, false, false, false, false, false, false] rfl rfl (take_ofW HT_.out HW_.out (by kernel_rfl)) (fun _ _ _ h => h) (Or.inl ⟨by rfl, ?_⟩) hHeld ?_ ?_
                    rotate_left
                    · rintro w' ⟨s0, s1, s2⟩
                      go_simp
                      with_reducible rfl
                    rotate_left
                    · simp only [Act.put, List.setIfInBounds_toArray, List.set_cons_zero, List.set_cons_succ, i64_w, i32_w]
                      rfl
                    refine take_ (i := 19) (N := some 47) (v := ?_) (a' := ?_) #[true, true, true, true, true, true, true, true, true, true, true, true, true, true, true, true, true, true, true, true, false, false, false, false, false] rfl rfl (take_ofW HT_.out HW_.out (by kernel_rfl)) (fun _ _ _ h => h) (Or.inl ⟨by rfl, ?_⟩) hHeld ?_ ?_
                    rotate_left
                    · rintro w' ⟨s0, s1, s2⟩
                      go_simp
                      with_reducible rfl
                    rotate_left
                    · simp only [Act.put, List.setIfInBounds_toArray, List.set_cons_zero, List.set_cons_succ, i64_w, i32_w]
                      rfl
                    refine pure_ (i := 20) (N := some 48) (v := ?_) (a' := ?_) #[true, true, true, true, true, true, true, true, true, true, true, true, true, true, true, true, true, true, true, true, true, false, false, false, false] rfl rfl (any_of HT_.out (by kernel_rfl)) (fun _ _ _ h => h) (Or.inl ⟨by rfl, ?_⟩) ?_ ?_
                    rotate_left
                    · intro w'
                      go_simp
                      with_reducible rfl
                    rotate_left
                    · simp only [Act.put, List.setIfInBounds_toArray, List.set_cons_zero, List.set_cons_succ, i64_w, i32_w]
                      rfl
                    refine one_ (i := 21) (N := some 49) #[true, true, true, true, true, true, true, true, true, true, true, true, true, true, true, true, true, true, true, true, true, true, false, false, false] rfl rfl (one_of HT_.out (by kernel_rfl)) (by decide) (fun K hK => ?_)
                    refine goes_ Tryd.func45 (by kernel_rfl) rfl #[.int .u32 ((a0_1) % 4294967296)] (by rfl) rfl rfl (by (try simp only [List.map_toArray, List.map_cons, List.map_nil]); first | done | rfl | (simp only [List.length_drop, List.length_take]; rfl)) ?_
                    with_reducible refine (word_Text.calls ((a0_1) % 4294967296) t650 _ ?side1 A25.out).mono ?_
                    (case side1 => exact GT.below HGT.out (by repeat (first | (with_reducible first | exact HB.out | apply below_alloc | apply pw_below_drewN | apply below_drew1 | refine below_set ?_ GE638.out) | exact HB.out)))
                    rintro e w30 ⟨rfl, hb⟩
                    have HS2_ := (hb.cell (World.block_lt_of_cell? _ _ (hHeld.2.2))).trans (hHeld.2.2)
                    refine ⟨_, rfl, ?_⟩
                    have n0_ := Aside0.mk (Kd.R_below (by (with_reducible repeat (first | apply Kd.R_alloc | apply Kd.R_drewN | apply Kd.R_drew)); exact HO645.out) hb)
                    have n1_ := Aside0.mk (Kd.R_below (by (with_reducible repeat (first | apply Kd.R_alloc | apply Kd.R_drewN | apply Kd.R_drew)); exact HO648.out) hb)
                    have n2_ := Aside0.mk (blk_below (g := gb638) (o := .cells #[.slice A0_0 l0_0.length c0_0, .int .i64 a0_1] 28 (0, 0)) (by (with_reducible repeat (first | refine blk_drewN ?_ _ | refine blk_drew ?_ | refine blk_alloc ?_ _)); exact BK638.out) hb)
                    have n3_ := Aside0.mk (below_step (by repeat (first | (with_reducible first | exact HB.out | apply below_alloc | apply pw_below_drewN | apply below_drew1 | refine below_set ?_ GE638.out) | exact HB.out)) hb)
                    clear HO645
                    clear HO648
                    clear BK638
                    clear HB
                    have HO645 := n0_
                    have HO648 := n1_
                    have BK638 := n2_
                    have HB := n3_
                    clear n0_ n1_ n2_ n3_
                    (try clear hb)
                    (try clear hb2)
                    (try clear hk)
                    (try clear hi)
                    refine hK.out _ _ ⟨(blk_cell BK638.out 0).trans rfl, (blk_cell BK638.out 1).trans rfl, HS2_⟩ (fun hHeld => ?_)
                    clear hK K
                    refine norm_ (a' := ?_) ?_ ?_
                    rotate_left
                    · show Act.put _ (some 49) _ = _
                      simp only [Act.put, List.setIfInBounds_toArray, List.set_cons_zero, List.set_cons_succ, i64_w, i32_w]
                      rfl
                    refine pure_ (i := 22) (N := some 50) (v := ?_) (a' := ?_) #[true, true, true, true, true, true, true, true, true, true, true, true, true, true, true, true, true, true, true, true, true, true, true, false, false] rfl rfl (any_of HT_.out (by kernel_rfl)) (fun _ _ _ h => h) (Or.inl ⟨by rfl, ?_⟩) ?_ ?_
                    rotate_left
                    · intro w'
                      go_simp
                      with_reducible rfl
                    rotate_left
                    · simp only [Act.put, List.setIfInBounds_toArray, List.set_cons_zero, List.set_cons_succ, i64_w, i32_w]
                      rfl
                    refine pure_ (i := 23) (N := some 51) (v := ?_) (a' := ?_) #[true, true, true, true, true, true, true, true, true, true, true, true, true, true, true, true, true, true, true, true, true, true, true, true, false] rfl rfl (any_of HT_.out (by kernel_rfl)) (fun _ _ _ h => h) (Or.inl ⟨by rfl, ?_⟩) ?_ ?_
                    rotate_left
                    · intro w'
                      go_simp
                      with_reducible rfl
                    rotate_left
                    · simp only [Act.put, List.setIfInBounds_toArray, List.set_cons_zero, List.set_cons_succ, i64_w, i32_w]
                      rfl
                    refine pure_ (i := 24) (N := some 52) (v := ?_) (a' := ?_) #[true, true, true, true, true, true, true, true, true, true, true, true, true, true, true, true, true, true, true, true, true, true, true, true, true] rfl rfl (any_of HT_.out (by kernel_rfl)) (fun _ _ _ h => h) (Or.inl ⟨by rfl, ?_⟩) ?_ ?_
                    rotate_left
                    · intro w'
                      go_simp
                      with_reducible rfl
                    rotate_left
                    · simp only [Act.put, List.setIfInBounds_toArray, List.set_cons_zero, List.set_cons_succ, i64_w, i32_w]
                      rfl
                    refine done_ (done_of HT_.out (by kernel_rfl)) ?_
                    try go_wp2
                    go_meet
                    case rel => exact ⟨_, (((rdOf ByteArray.empty t646 0).toList != ((⟨#[46, 100, 97, 116, 97, 32]⟩ : ByteArray) ++ t650).toList)), (by first | rfl | (simp; done) | (simp [*]; done)), H', ⟨by have := HJ3.out; first | omega | exact Nat.le_refl _⟩, ⟨Kd.Q_of_R (by (with_reducible repeat (first | apply Kd.R_alloc | apply Kd.R_drewN | apply Kd.R_drew)); exact HO645.out)⟩, ⟨Kd.Q_of_R (by (with_reducible repeat (first | apply Kd.R_alloc | apply Kd.R_drewN | apply Kd.R_drew)); exact HO648.out)⟩, ⟨by (with_reducible repeat (first | refine blk_drewN ?_ _ | refine blk_drew ?_ | refine blk_alloc ?_ _)); exact BK638.out⟩, ⟨by repeat (first | (with_reducible first | exact HB.out | apply below_alloc | apply pw_below_drewN | apply below_drew1 | refine below_set ?_ GE638.out) | exact HB.out)⟩⟩
                  · rw [if_neg c26] at H
                    exact absurd H (by simp)
                · rw [if_neg c24] at H
                  exact absurd H (by simp)
              · rw [if_neg c23] at H
                have c23b0 : ((t646.length : Int) == (wrap64 ((wrap64 (1 + (l0_0.length : Int))) + (t643.length : Int)))) = false := beq_eq_false_iff_ne.mpr c23
                have c23b1 : ((t646.length : Int) != (wrap64 ((wrap64 (1 + (l0_0.length : Int))) + (t643.length : Int)))) = true := bne_iff_ne.mpr c23
                have H' := Aside0.mk H
                clear H
                try go_wp2
                have n0_ := Aside0.mk (Kd.R_drew HO645.out)
                have n1_ := Aside0.mk (Kd.R_drew HO648.out)
                have n2_ := Aside0.mk (blk_drew BK638.out)
                have n3_ := Aside0.mk (below_drew1 HB.out)
                clear HO645
                clear HO648
                clear BK638
                clear HB
                have HO645 := n0_
                have HO648 := n1_
                have BK638 := n2_
                have HB := n3_
                clear n0_ n1_ n2_ n3_
                obtain ⟨Ao32, co32, eo32⟩ := Kd.R_slice HO648.out
                (first | subst eo32 | (injection eo32 with f1_ f2_ f3_; have f4_ := f1_.symm; have f5_ := f3_.symm; clear f1_ f2_ f3_; subst f4_; subst f5_))
                obtain ⟨Ao33, co33, eo33⟩ := Kd.R_slice HO645.out
                (first | subst eo33 | (injection eo33 with f1_ f2_ f3_; have f4_ := f1_.symm; have f5_ := f3_.symm; clear f1_ f2_ f3_; subst f4_; subst f5_))
                refine start_ (n := 25) (S := fun w' => w'.cell? ⟨gb638, 0, none⟩ = some (.slice A0_0 l0_0.length c0_0) ∧ w'.cell? ⟨gb638, 1, none⟩ = some (.int .i64 a0_1)) (ds := []) #[false, false, false, false, false, false, false, false, false, false, false, false, false, false, false, false, false, false, false, false, false, false, false, false, false] (by kernel_rfl) rfl rfl ⟨(blk_cell BK638.out 0).trans rfl, (blk_cell BK638.out 1).trans rfl⟩ (fun hHeld => ?_); refine with_tabW seedcornlaw11_ListingLines.tab8 seedcornlaw11_ListingLines.bits8 (fun HT_ HW_ => ?_)
                generalize w21.drew = w31 at HO645 HO648 BK638 HB hHeld ⊢
                refine pure_ (i := 0) (N := some 28) (v := ?_) (a' := ?_) #[true, false, false, false, false, false, false, false, false, false, false, false, false, false, false, false, false, false, false, false, false, false, false, false, false] rfl rfl (any_of HT_.out (by kernel_rfl)) (fun _ _ _ h => h) (Or.inl ⟨by rfl, ?_⟩) ?_ ?_
                rotate_left
                · intro w'
                  go_simp
                  with_reducible rfl
                rotate_left
                · simp only [Act.put, List.setIfInBounds_toArray, List.set_cons_zero, List.set_cons_succ, i64_w, i32_w]
                  rfl
                refine pure_ (i := 1) (N := some 29) (v := ?_) (a' := ?_) #[true, true, false, false, false, false, false, false, false, false, false, false, false, false, false, false, false, false, false, false, false, false, false, false, false] rfl rfl (any_of HT_.out (by kernel_rfl)) (fun _ _ _ h => h) (Or.inl ⟨by rfl, ?_⟩) ?_ ?_
                rotate_left
                · intro w'
                  go_simp
                  with_reducible rfl
                rotate_left
                · simp only [Act.put, List.setIfInBounds_toArray, List.set_cons_zero, List.set_cons_succ, i64_w, i32_w]
                  rfl
                refine pure_ (i := 2) (N := some 30) (v := ?_) (a' := ?_) #[true, true, true, false, false, false, false, false, false, false, false, false, false, false, false, false, false, false, false, false, false, false, false, false, false] rfl rfl (any_of HT_.out (by kernel_rfl)) (fun _ _ _ h => h) (Or.inl ⟨by rfl, ?_⟩) ?_ ?_
                rotate_left
                · intro w'
                  go_simp
                  with_reducible rfl
                rotate_left
                · simp only [Act.put, List.setIfInBounds_toArray, List.set_cons_zero, List.set_cons_succ, i64_w, i32_w]
                  rfl
                refine pure_ (i := 3) (N := some 31) (v := ?_) (a' := ?_) #[true, true, true, true, false, false, false, false, false, false, false, false, false, false, false, false, false, false, false, false, false, false, false, false, false] rfl rfl (any_of HT_.out (by kernel_rfl)) (fun _ _ _ h => h) (Or.inl ⟨by rfl, ?_⟩) ?_ ?_
                rotate_left
                · intro w'
                  go_simp
                  with_reducible rfl
                rotate_left
                · simp only [Act.put, List.setIfInBounds_toArray, List.set_cons_zero, List.set_cons_succ, i64_w, i32_w]
                  rfl
                refine pure_ (i := 4) (N := some 32) (v := ?_) (a' := ?_) #[true, true, true, true, true, false, false, false, false, false, false, false, false, false, false, false, false, false, false, false, false, false, false, false, false] rfl rfl (any_of HT_.out (by kernel_rfl)) (fun _ _ _ h => h) (Or.inl ⟨by rfl, ?_⟩) ?_ ?_
                rotate_left
                · intro w'
                  go_simp
                  with_reducible rfl
                rotate_left
                · simp only [Act.put, List.setIfInBounds_toArray, List.set_cons_zero, List.set_cons_succ, i64_w, i32_w]
                  rfl
                refine pure_ (i := 5) (N := some 33) (v := ?_) (a' := ?_) #[true, true, true, true, true, true, false, false, false, false, false, false, false, false, false, false, false, false, false, false, false, false, false, false, false] rfl rfl (any_of HT_.out (by kernel_rfl)) (fun _ _ _ h => h) (Or.inl ⟨by rfl, ?_⟩) ?_ ?_
                rotate_left
                · intro w'
                  go_simp
                  with_reducible rfl
                rotate_left
                · simp only [Act.put, List.setIfInBounds_toArray, List.set_cons_zero, List.set_cons_succ, i64_w, i32_w]
                  rfl
                refine pure_ (i := 9) (N := some 37) (v := ?_) (a' := ?_) #[true, true, true, true, true, true, false, false, false, true, false, false, false, false, false, false, false, false, false, false, false, false, false, false, false] rfl rfl (any_of HT_.out (by kernel_rfl)) (fun _ _ _ h => h) (Or.inl ⟨by rfl, ?_⟩) ?_ ?_
                rotate_left
                · intro w'
                  go_simp
                  with_reducible rfl
                rotate_left
                · simp only [Act.put, List.setIfInBounds_toArray, List.set_cons_zero, List.set_cons_succ, i64_w, i32_w]
                  rfl
                refine pure_ (i := 10) (N := some 38) (v := ?_) (a' := ?_) #[true, true, true, true, true, true, false, false, false, true, true, false, false, false, false, false, false, false, false, false, false, false, false, false, false] rfl rfl (any_of HT_.out (by kernel_rfl)) (fun _ _ _ h => h) (Or.inl ⟨by rfl, ?_⟩) ?_ ?_
                rotate_left
                · intro w'
                  go_simp
                  with_reducible rfl
                rotate_left
                · simp only [Act.put, List.setIfInBounds_toArray, List.set_cons_zero, List.set_cons_succ, i64_w, i32_w]
                  rfl
                refine take_ (i := 6) (N := some 34) (v := ?_) (a' := ?_) #[true, true, true, true, true, true, true, false, false, true, true, false, false, false, false, false, false, false, false, false, false, false, false, false, false] rfl rfl (take_ofW HT_.out HW_.out (by kernel_rfl)) (fun _ _ _ h => h) (Or.inl ⟨by rfl, ?_⟩) hHeld ?_ ?_
                rotate_left
                · rintro w' ⟨s0, s1⟩
                  go_simp
                  with_reducible rfl
                rotate_left
                · simp only [Act.put, List.setIfInBounds_toArray, List.set_cons_zero, List.set_cons_succ, i64_w, i32_w]
                  rfl
                refine pure_ (i := 7) (N := some 35) (v := ?_) (a' := ?_) #[true, true, true, true, true, true, true, true, false, true, true, false, false, false, false, false, false, false, false, false, false, false, false, false, false] rfl rfl (any_of HT_.out (by kernel_rfl)) (fun _ _ _ h => h) (Or.inl ⟨by rfl, ?_⟩) ?_ ?_
                rotate_left
                · intro w'
                  go_simp
                  with_reducible rfl
                rotate_left
                · simp only [Act.put, List.setIfInBounds_toArray, List.set_cons_zero, List.set_cons_succ, i64_w, i32_w]
                  rfl
                refine pure_ (i := 8) (N := some 36) (v := ?_) (a' := ?_) #[true, true, true, true, true, true, true, true, true, true, true, false, false, false, false, false, false, false, false, false, false, false, false, false, false] rfl rfl (any_of HT_.out (by kernel_rfl)) (fun _ _ _ h => h) (Or.inl ⟨by rfl, ?_⟩) ?_ ?_
                rotate_left
                · intro w'
                  go_simp
                  with_reducible rfl
                rotate_left
                · simp only [Act.put, List.setIfInBounds_toArray, List.set_cons_zero, List.set_cons_succ, i64_w, i32_w]
                  rfl
                refine pure_ (i := 11) (N := some 39) (v := ?_) (a' := ?_) #[true, true, true, true, true, true, true, true, true, true, true, true, false, false, false, false, false, false, false, false, false, false, false, false, false] rfl rfl (any_of HT_.out (by kernel_rfl)) (fun _ _ _ h => h) (Or.inl ⟨by rfl, ?_⟩) ?_ ?_
                rotate_left
                · intro w'
                  go_simp
                  with_reducible rfl
                rotate_left
                · simp only [Act.put, List.setIfInBounds_toArray, List.set_cons_zero, List.set_cons_succ, i64_w, i32_w]
                  rfl
                refine pure_ (i := 12) (N := some 40) (v := ?_) (a' := ?_) #[true, true, true, true, true, true, true, true, true, true, true, true, true, false, false, false, false, false, false, false, false, false, false, false, false] rfl rfl (any_of HT_.out (by kernel_rfl)) (fun _ _ _ h => h) (Or.inl ⟨by rfl, ?_⟩) ?_ ?_
                rotate_left
                · intro w'
                  go_simp
                  with_reducible rfl
                rotate_left
                · simp only [Act.put, List.setIfInBounds_toArray, List.set_cons_zero, List.set_cons_succ, i64_w, i32_w]
                  rfl
                refine pure_ (i := 13) (N := some 41) (v := ?_) (a' := ?_) #[true, true, true, true, true, true, true, true, true, true, true, true, true, true, false, false, false, false, false, false, false, false, false, false, false] rfl rfl (any_of HT_.out (by kernel_rfl)) (fun _ _ _ h => h) (Or.inl ⟨by rfl, ?_⟩) ?_ ?_
                rotate_left
                · intro w'
                  go_simp
                  with_reducible rfl
                rotate_left
                · simp only [Act.put, List.setIfInBounds_toArray, List.set_cons_zero, List.set_cons_succ, i64_w, i32_w]
                  rfl
                refine pure_ (i := 14) (N := some 42) (v := ?_) (a' := ?_) #[true, true, true, true, true, true, true, true, true, true, true, true, true, true, true, false, false, false, false, false, false, false, false, false, false] rfl rfl (any_of HT_.out (by kernel_rfl)) (fun _ _ _ h => h) (Or.inl ⟨by rfl, ?_⟩) ?_ ?_
                rotate_left
                · intro w'
                  go_simp
                  with_reducible rfl
                rotate_left
                · simp only [Act.put, List.setIfInBounds_toArray, List.set_cons_zero, List.set_cons_succ, i64_w, i32_w]
                  rfl
                refine pure_ (i := 15) (N := some 43) (v := undef) (a' := ?_) #[true, true, true, true, true, true, true, true, true, true, true, true, true, true, true, true, false, false, false, false, false, false, false, false, false] rfl rfl (any_of HT_.out (by kernel_rfl)) (fun _ _ _ h => h) (Or.inr ⟨by rfl, rfl⟩) ?_ ?_
                rotate_left
                · simp only [Act.put, List.setIfInBounds_toArray, List.set_cons_zero, List.set_cons_succ, i64_w, i32_w]
                  rfl
                refine pure_ (i := 16) (N := some 44) (v := undef) (a' := ?_) #[true, true, true, true, true, true, true, true, true, true, true, true, true, true, true, true, true, false, false, false, false, false, false, false, false] rfl rfl (any_of HT_.out (by kernel_rfl)) (fun _ _ _ h => h) (Or.inr ⟨by rfl, rfl⟩) ?_ ?_
                rotate_left
                · simp only [Act.put, List.setIfInBounds_toArray, List.set_cons_zero, List.set_cons_succ, i64_w, i32_w]
                  rfl
                refine pure_ (i := 17) (N := some 45) (v := undef) (a' := ?_) #[true, true, true, true, true, true, true, true, true, true, true, true, true, true, true, true, true, true, false, false, false, false, false, false, false] rfl rfl (any_of HT_.out (by kernel_rfl)) (fun _ _ _ h => h) (Or.inr ⟨by rfl, rfl⟩) ?_ ?_
                rotate_left
                · simp only [Act.put, List.setIfInBounds_toArray, List.set_cons_zero, List.set_cons_succ, i64_w, i32_w]
                  rfl
                refine pure_ (i := 18) (N := some 46) (v := undef) (a' := ?_) #[true, true, true, true, true, true, true, true, true, true, true, true, true, true, true, true, true, true, true, false, false, false, false, false, false] rfl rfl (any_of HT_.out (by kernel_rfl)) (fun _ _ _ h => h) (Or.inr ⟨by rfl, rfl⟩) ?_ ?_
                rotate_left
                · simp only [Act.put, List.setIfInBounds_toArray, List.set_cons_zero, List.set_cons_succ, i64_w, i32_w]
                  rfl
                refine pure_ (i := 19) (N := some 47) (v := undef) (a' := ?_) #[true, true, true, true, true, true, true, true, true, true, true, true, true, true, true, true, true, true, true, true, false, false, false, false, false] rfl rfl (any_of HT_.out (by kernel_rfl)) (fun _ _ _ h => h) (Or.inr ⟨by rfl, rfl⟩) ?_ ?_
                rotate_left
                · simp only [Act.put, List.setIfInBounds_toArray, List.set_cons_zero, List.set_cons_succ, i64_w, i32_w]
                  rfl
                refine pure_ (i := 20) (N := some 48) (v := undef) (a' := ?_) #[true, true, true, true, true, true, true, true, true, true, true, true, true, true, true, true, true, true, true, true, true, false, false, false, false] rfl rfl (any_of HT_.out (by kernel_rfl)) (fun _ _ _ h => h) (Or.inr ⟨by rfl, rfl⟩) ?_ ?_
                rotate_left
                · simp only [Act.put, List.setIfInBounds_toArray, List.set_cons_zero, List.set_cons_succ, i64_w, i32_w]
                  rfl
                refine pure_ (i := 21) (N := some 49) (v := undef) (a' := ?_) #[true, true, true, true, true, true, true, true, true, true, true, true, true, true, true, true, true, true, true, true, true, true, false, false, false] rfl rfl (any_of HT_.out (by kernel_rfl)) (fun _ _ _ h => h) (Or.inr ⟨by rfl, rfl⟩) ?_ ?_
                rotate_left
                · simp only [Act.put, List.setIfInBounds_toArray, List.set_cons_zero, List.set_cons_succ, i64_w, i32_w]
                  rfl
                refine pure_ (i := 22) (N := some 50) (v := undef) (a' := ?_) #[true, true, true, true, true, true, true, true, true, true, true, true, true, true, true, true, true, true, true, true, true, true, true, false, false] rfl rfl (any_of HT_.out (by kernel_rfl)) (fun _ _ _ h => h) (Or.inr ⟨by rfl, rfl⟩) ?_ ?_
                rotate_left
                · simp only [Act.put, List.setIfInBounds_toArray, List.set_cons_zero, List.set_cons_succ, i64_w, i32_w]
                  rfl
                refine pure_ (i := 23) (N := some 51) (v := undef) (a' := ?_) #[true, true, true, true, true, true, true, true, true, true, true, true, true, true, true, true, true, true, true, true, true, true, true, true, false] rfl rfl (any_of HT_.out (by kernel_rfl)) (fun _ _ _ h => h) (Or.inr ⟨by rfl, rfl⟩) ?_ ?_
                rotate_left
                · simp only [Act.put, List.setIfInBounds_toArray, List.set_cons_zero, List.set_cons_succ, i64_w, i32_w]
                  rfl
                refine pure_ (i := 24) (N := some 52) (v := ?_) (a' := ?_) #[true, true, true, true, true, true, true, true, true, true, true, true, true, true, true, true, true, true, true, true, true, true, true, true, true] rfl rfl (any_of HT_.out (by kernel_rfl)) (fun _ _ _ h => h) (Or.inl ⟨by rfl, ?_⟩) ?_ ?_
                rotate_left
                · intro w'
                  go_simp
                  with_reducible rfl
                rotate_left
                · simp only [Act.put, List.setIfInBounds_toArray, List.set_cons_zero, List.set_cons_succ, i64_w, i32_w]
                  rfl
                refine done_ (done_of HT_.out (by kernel_rfl)) ?_
                try go_wp2
                go_meet
                case rel => exact ⟨_, (true), (by first | rfl | (simp; done) | (simp [*]; done)), H', ⟨by have := HJ3.out; first | omega | exact Nat.le_refl _⟩, ⟨Kd.Q_of_R (by (with_reducible repeat (first | apply Kd.R_alloc | apply Kd.R_drewN | apply Kd.R_drew)); exact HO645.out)⟩, ⟨Kd.Q_of_R (by (with_reducible repeat (first | apply Kd.R_alloc | apply Kd.R_drewN | apply Kd.R_drew)); exact HO648.out)⟩, ⟨by (with_reducible repeat (first | refine blk_drewN ?_ _ | refine blk_drew ?_ | refine blk_alloc ?_ _)); exact BK638.out⟩, ⟨by repeat (first | (with_reducible first | exact HB.out | apply below_alloc | apply pw_below_drewN | apply below_drew1 | refine below_set ?_ GE638.out) | exact HB.out)⟩⟩
            · rw [if_neg c22] at H
              have c22b0 : (t642 == 0) = false := beq_eq_false_iff_ne.mpr c22
              have c22b1 : (t642 != 0) = true := bne_iff_ne.mpr c22
              (first | rw [c22b0] | (simp only [i64_w, i32_w]; rw [c22b0]) | skip)
              have H' := Aside0.mk H
              clear H
              try go_wp2
              have n0_ := Aside0.mk (Kd.R_drew HO645.out)
              have n1_ := Aside0.mk (Kd.R_drew HO648.out)
              have n2_ := Aside0.mk (blk_drew BK638.out)
              have n3_ := Aside0.mk (below_drew1 HB.out)
              clear HO645
              clear HO648
              clear BK638
              clear HB
              have HO645 := n0_
              have HO648 := n1_
              have BK638 := n2_
              have HB := n3_
              clear n0_ n1_ n2_ n3_
              refine start_ (n := 25) (S := fun w' => True) (ds := []) #[false, false, false, false, false, false, false, false, false, false, false, false, false, false, false, false, false, false, false, false, false, false, false, false, false] (by kernel_rfl) rfl rfl trivial (fun hHeld => ?_); refine with_tabW seedcornlaw11_ListingLines.tab8 seedcornlaw11_ListingLines.bits8 (fun HT_ HW_ => ?_)
              generalize w21.drew = w34 at HO645 HO648 BK638 HB hHeld ⊢
              refine pure_ (i := 0) (N := some 28) (v := ?_) (a' := ?_) #[true, false, false, false, false, false, false, false, false, false, false, false, false, false, false, false, false, false, false, false, false, false, false, false, false] rfl rfl (any_of HT_.out (by kernel_rfl)) (fun _ _ _ h => h) (Or.inl ⟨by rfl, ?_⟩) ?_ ?_
              rotate_left
              · intro w'
                go_simp
                with_reducible rfl
              rotate_left
              · simp only [Act.put, List.setIfInBounds_toArray, List.set_cons_zero, List.set_cons_succ, i64_w, i32_w]
                rfl
              refine pure_ (i := 1) (N := some 29) (v := ?_) (a' := ?_) #[true, true, false, false, false, false, false, false, false, false, false, false, false, false, false, false, false, false, false, false, false, false, false, false, false] rfl rfl (any_of HT_.out (by kernel_rfl)) (fun _ _ _ h => h) (Or.inl ⟨by rfl, ?_⟩) ?_ ?_
              rotate_left
              · intro w'
                go_simp
                with_reducible rfl
              rotate_left
              · simp only [Act.put, List.setIfInBounds_toArray, List.set_cons_zero, List.set_cons_succ, i64_w, i32_w]
                rfl
              refine pure_ (i := 2) (N := some 30) (v := ?_) (a' := ?_) #[true, true, true, false, false, false, false, false, false, false, false, false, false, false, false, false, false, false, false, false, false, false, false, false, false] rfl rfl (any_of HT_.out (by kernel_rfl)) (fun _ _ _ h => h) (Or.inl ⟨by rfl, ?_⟩) ?_ ?_
              rotate_left
              · intro w'
                go_simp
                with_reducible rfl
              rotate_left
              · simp only [Act.put, List.setIfInBounds_toArray, List.set_cons_zero, List.set_cons_succ, i64_w, i32_w]
                rfl
              refine pure_ (i := 3) (N := some 31) (v := undef) (a' := ?_) #[true, true, true, true, false, false, false, false, false, false, false, false, false, false, false, false, false, false, false, false, false, false, false, false, false] rfl rfl (any_of HT_.out (by kernel_rfl)) (fun _ _ _ h => h) (Or.inr ⟨by rfl, rfl⟩) ?_ ?_
              rotate_left
              · simp only [Act.put, List.setIfInBounds_toArray, List.set_cons_zero, List.set_cons_succ, i64_w, i32_w]
                rfl
              refine pure_ (i := 4) (N := some 32) (v := undef) (a' := ?_) #[true, true, true, true, true, false, false, false, false, false, false, false, false, false, false, false, false, false, false, false, false, false, false, false, false] rfl rfl (any_of HT_.out (by kernel_rfl)) (fun _ _ _ h => h) (Or.inr ⟨by rfl, rfl⟩) ?_ ?_
              rotate_left
              · simp only [Act.put, List.setIfInBounds_toArray, List.set_cons_zero, List.set_cons_succ, i64_w, i32_w]
                rfl
              refine pure_ (i := 5) (N := some 33) (v := undef) (a' := ?_) #[true, true, true, true, true, true, false, false, false, false, false, false, false, false, false, false, false, false, false, false, false, false, false, false, false] rfl rfl (any_of HT_.out (by kernel_rfl)) (fun _ _ _ h => h) (Or.inr ⟨by rfl, rfl⟩) ?_ ?_
              rotate_left
              · simp only [Act.put, List.setIfInBounds_toArray, List.set_cons_zero, List.set_cons_succ, i64_w, i32_w]
                rfl
              refine pure_ (i := 6) (N := some 34) (v := undef) (a' := ?_) #[true, true, true, true, true, true, true, false, false, false, false, false, false, false, false, false, false, false, false, false, false, false, false, false, false] rfl rfl (any_of HT_.out (by kernel_rfl)) (fun _ _ _ h => h) (Or.inr ⟨by rfl, rfl⟩) ?_ ?_
              rotate_left
              · simp only [Act.put, List.setIfInBounds_toArray, List.set_cons_zero, List.set_cons_succ, i64_w, i32_w]
                rfl
              refine pure_ (i := 7) (N := some 35) (v := undef) (a' := ?_) #[true, true, true, true, true, true, true, true, false, false, false, false, false, false, false, false, false, false, false, false, false, false, false, false, false] rfl rfl (any_of HT_.out (by kernel_rfl)) (fun _ _ _ h => h) (Or.inr ⟨by rfl, rfl⟩) ?_ ?_
              rotate_left
              · simp only [Act.put, List.setIfInBounds_toArray, List.set_cons_zero, List.set_cons_succ, i64_w, i32_w]
                rfl
              refine pure_ (i := 8) (N := some 36) (v := undef) (a' := ?_) #[true, true, true, true, true, true, true, true, true, false, false, false, false, false, false, false, false, false, false, false, false, false, false, false, false] rfl rfl (any_of HT_.out (by kernel_rfl)) (fun _ _ _ h => h) (Or.inr ⟨by rfl, rfl⟩) ?_ ?_
              rotate_left
              · simp only [Act.put, List.setIfInBounds_toArray, List.set_cons_zero, List.set_cons_succ, i64_w, i32_w]
                rfl
              refine pure_ (i := 9) (N := some 37) (v := undef) (a' := ?_) #[true, true, true, true, true, true, true, true, true, true, false, false, false, false, false, false, false, false, false, false, false, false, false, false, false] rfl rfl (any_of HT_.out (by kernel_rfl)) (fun _ _ _ h => h) (Or.inr ⟨by rfl, rfl⟩) ?_ ?_
              rotate_left
              · simp only [Act.put, List.setIfInBounds_toArray, List.set_cons_zero, List.set_cons_succ, i64_w, i32_w]
                rfl
              refine pure_ (i := 10) (N := some 38) (v := undef) (a' := ?_) #[true, true, true, true, true, true, true, true, true, true, true, false, false, false, false, false, false, false, false, false, false, false, false, false, false] rfl rfl (any_of HT_.out (by kernel_rfl)) (fun _ _ _ h => h) (Or.inr ⟨by rfl, rfl⟩) ?_ ?_
              rotate_left
              · simp only [Act.put, List.setIfInBounds_toArray, List.set_cons_zero, List.set_cons_succ, i64_w, i32_w]
                rfl
              refine pure_ (i := 11) (N := some 39) (v := undef) (a' := ?_) #[true, true, true, true, true, true, true, true, true, true, true, true, false, false, false, false, false, false, false, false, false, false, false, false, false] rfl rfl (any_of HT_.out (by kernel_rfl)) (fun _ _ _ h => h) (Or.inr ⟨by rfl, rfl⟩) ?_ ?_
              rotate_left
              · simp only [Act.put, List.setIfInBounds_toArray, List.set_cons_zero, List.set_cons_succ, i64_w, i32_w]
                rfl
              refine pure_ (i := 12) (N := some 40) (v := undef) (a' := ?_) #[true, true, true, true, true, true, true, true, true, true, true, true, true, false, false, false, false, false, false, false, false, false, false, false, false] rfl rfl (any_of HT_.out (by kernel_rfl)) (fun _ _ _ h => h) (Or.inr ⟨by rfl, rfl⟩) ?_ ?_
              rotate_left
              · simp only [Act.put, List.setIfInBounds_toArray, List.set_cons_zero, List.set_cons_succ, i64_w, i32_w]
                rfl
              refine pure_ (i := 13) (N := some 41) (v := ?_) (a' := ?_) #[true, true, true, true, true, true, true, true, true, true, true, true, true, true, false, false, false, false, false, false, false, false, false, false, false] rfl rfl (any_of HT_.out (by kernel_rfl)) (fun _ _ _ h => h) (Or.inl ⟨by rfl, ?_⟩) ?_ ?_
              rotate_left
              · intro w'
                go_simp
                with_reducible rfl
              rotate_left
              · simp only [Act.put, List.setIfInBounds_toArray, List.set_cons_zero, List.set_cons_succ, i64_w, i32_w]
                rfl
              refine pure_ (i := 14) (N := some 42) (v := ?_) (a' := ?_) #[true, true, true, true, true, true, true, true, true, true, true, true, true, true, true, false, false, false, false, false, false, false, false, false, false] rfl rfl (any_of HT_.out (by kernel_rfl)) (fun _ _ _ h => h) (Or.inl ⟨by rfl, ?_⟩) ?_ ?_
              rotate_left
              · intro w'
                go_simp
                with_reducible rfl
              rotate_left
              · simp only [Act.put, List.setIfInBounds_toArray, List.set_cons_zero, List.set_cons_succ, i64_w, i32_w]
                rfl
              refine pure_ (i := 15) (N := some 43) (v := undef) (a' := ?_) #[true, true, true, true, true, true, true, true, true, true, true, true, true, true, true, true, false, false, false, false, false, false, false, false, false] rfl rfl (any_of HT_.out (by kernel_rfl)) (fun _ _ _ h => h) (Or.inr ⟨by rfl, rfl⟩) ?_ ?_
              rotate_left
              · simp only [Act.put, List.setIfInBounds_toArray, List.set_cons_zero, List.set_cons_succ, i64_w, i32_w]
                rfl
              refine pure_ (i := 16) (N := some 44) (v := undef) (a' := ?_) #[true, true, true, true, true, true, true, true, true, true, true, true, true, true, true, true, true, false, false, false, false, false, false, false, false] rfl rfl (any_of HT_.out (by kernel_rfl)) (fun _ _ _ h => h) (Or.inr ⟨by rfl, rfl⟩) ?_ ?_
              rotate_left
              · simp only [Act.put, List.setIfInBounds_toArray, List.set_cons_zero, List.set_cons_succ, i64_w, i32_w]
                rfl
              refine pure_ (i := 17) (N := some 45) (v := undef) (a' := ?_) #[true, true, true, true, true, true, true, true, true, true, true, true, true, true, true, true, true, true, false, false, false, false, false, false, false] rfl rfl (any_of HT_.out (by kernel_rfl)) (fun _ _ _ h => h) (Or.inr ⟨by rfl, rfl⟩) ?_ ?_
              rotate_left
              · simp only [Act.put, List.setIfInBounds_toArray, List.set_cons_zero, List.set_cons_succ, i64_w, i32_w]
                rfl
              refine pure_ (i := 18) (N := some 46) (v := undef) (a' := ?_) #[true, true, true, true, true, true, true, true, true, true, true, true, true, true, true, true, true, true, true, false, false, false, false, false, false] rfl rfl (any_of HT_.out (by kernel_rfl)) (fun _ _ _ h => h) (Or.inr ⟨by rfl, rfl⟩) ?_ ?_
              rotate_left
              · simp only [Act.put, List.setIfInBounds_toArray, List.set_cons_zero, List.set_cons_succ, i64_w, i32_w]
                rfl
              refine pure_ (i := 19) (N := some 47) (v := undef) (a' := ?_) #[true, true, true, true, true, true, true, true, true, true, true, true, true, true, true, true, true, true, true, true, false, false, false, false, false] rfl rfl (any_of HT_.out (by kernel_rfl)) (fun _ _ _ h => h) (Or.inr ⟨by rfl, rfl⟩) ?_ ?_
              rotate_left
              · simp only [Act.put, List.setIfInBounds_toArray, List.set_cons_zero, List.set_cons_succ, i64_w, i32_w]
                rfl
              refine pure_ (i := 20) (N := some 48) (v := undef) (a' := ?_) #[true, true, true, true, true, true, true, true, true, true, true, true, true, true, true, true, true, true, true, true, true, false, false, false, false] rfl rfl (any_of HT_.out (by kernel_rfl)) (fun _ _ _ h => h) (Or.inr ⟨by rfl, rfl⟩) ?_ ?_
              rotate_left
              · simp only [Act.put, List.setIfInBounds_toArray, List.set_cons_zero, List.set_cons_succ, i64_w, i32_w]
                rfl
              refine pure_ (i := 21) (N := some 49) (v := undef) (a' := ?_) #[true, true, true, true, true, true, true, true, true, true, true, true, true, true, true, true, true, true, true, true, true, true, false, false, false] rfl rfl (any_of HT_.out (by kernel_rfl)) (fun _ _ _ h => h) (Or.inr ⟨by rfl, rfl⟩) ?_ ?_
              rotate_left
              · simp only [Act.put, List.setIfInBounds_toArray, List.set_cons_zero, List.set_cons_succ, i64_w, i32_w]
                rfl
              refine pure_ (i := 22) (N := some 50) (v := undef) (a' := ?_) #[true, true, true, true, true, true, true, true, true, true, true, true, true, true, true, true, true, true, true, true, true, true, true, false, false] rfl rfl (any_of HT_.out (by kernel_rfl)) (fun _ _ _ h => h) (Or.inr ⟨by rfl, rfl⟩) ?_ ?_
              rotate_left
              · simp only [Act.put, List.setIfInBounds_toArray, List.set_cons_zero, List.set_cons_succ, i64_w, i32_w]
                rfl
              refine pure_ (i := 23) (N := some 51) (v := undef) (a' := ?_) #[true, true, true, true, true, true, true, true, true, true, true, true, true, true, true, true, true, true, true, true, true, true, true, true, false] rfl rfl (any_of HT_.out (by kernel_rfl)) (fun _ _ _ h => h) (Or.inr ⟨by rfl, rfl⟩) ?_ ?_
              rotate_left
              · simp only [Act.put, List.setIfInBounds_toArray, List.set_cons_zero, List.set_cons_succ, i64_w, i32_w]
                rfl
              refine pure_ (i := 24) (N := some 52) (v := ?_) (a' := ?_) #[true, true, true, true, true, true, true, true, true, true, true, true, true, true, true, true, true, true, true, true, true, true, true, true, true] rfl rfl (any_of HT_.out (by kernel_rfl)) (fun _ _ _ h => h) (Or.inl ⟨by rfl, ?_⟩) ?_ ?_
              rotate_left
              · intro w'
                go_simp
                with_reducible rfl
              rotate_left
              · simp only [Act.put, List.setIfInBounds_toArray, List.set_cons_zero, List.set_cons_succ, i64_w, i32_w]
                rfl
              refine done_ (done_of HT_.out (by kernel_rfl)) ?_
              try go_wp2
              go_meet
              case rel => exact ⟨_, (true), (by first | rfl | (simp; done) | (simp [*]; done)), H', ⟨by have := HJ3.out; first | omega | exact Nat.le_refl _⟩, ⟨Kd.Q_of_R (by (with_reducible repeat (first | apply Kd.R_alloc | apply Kd.R_drewN | apply Kd.R_drew)); exact HO645.out)⟩, ⟨Kd.Q_of_R (by (with_reducible repeat (first | apply Kd.R_alloc | apply Kd.R_drewN | apply Kd.R_drew)); exact HO648.out)⟩, ⟨by (with_reducible repeat (first | refine blk_drewN ?_ _ | refine blk_drew ?_ | refine blk_alloc ?_ _)); exact BK638.out⟩, ⟨by repeat (first | (with_reducible first | exact HB.out | apply below_alloc | apply pw_below_drewN | apply below_drew1 | refine below_set ?_ GE638.out) | exact HB.out)⟩⟩
          case rest =>
            clear HC16
            try clear c2
            try clear p2
            try clear c4
            try clear p6
            try clear q6
            try clear hx6
            try clear qi6
            try clear c22
            try clear c22b0
            try clear c22b1
            try clear c23
            try clear c23b0
            try clear c23b1
            try clear c24
            try clear c26
            try clear hx649_0
            try clear p649
            try clear q649
            obtain ⟨kq, x52_15, rfl, HA, HJ15, HO_5, HO_6, BK638, HB⟩ := hcut
            cases kq with
            | zero => exact absurd HA.out (by simp [seedcornlaw11_ListingLines.j1])
            | succ kj15 =>
              have H := HA.out
              clear HA
              simp only [seedcornlaw11_ListingLines.j1] at H
              by_cases c35 : x52_15 = true
              · subst c35
                have H1 : (some false) = some r := by rw [if_pos rfl] at H; exact H
                clear H
                have H := H1
                clear H1
                obtain rfl := Option.some.inj H
                go_wp2
                go_ret
                exact ⟨by first | rfl | (simp [errW_none, errW_some] <;> rfl) | (simp [*, errW_none, errW_some] <;> rfl), by repeat (first | (with_reducible first | exact HB.out | apply below_alloc | apply pw_below_drewN | apply below_drew1 | refine below_set ?_ GE638.out) | exact HB.out)⟩
              · replace c35 := Bool.eq_false_iff.mpr c35
                subst c35
                have H1 : (if 1 ≤ (t646.length : Int) then (seedcornlaw11_ListingLines.l0 kj15 t643 (t646.drop (1 : Int).toNat) 0 l0_0 a0_1) else (none)) = some r := by rw [if_neg (show ¬ (false = true) by decide)] at H; exact H
                clear H
                have H := H1
                clear H1
                by_cases c36 : 1 ≤ (t646.length : Int)
                · rw [if_pos c36] at H
                  have c36b0 := eq_true c36
                  have c36b1 : decide (1 ≤ (t646.length : Int)) = true := decide_eq_true c36
                  clear c36
                  obtain ⟨y651, hy651⟩ : ∃ y_ : List ByteArray, y_ = (t646.drop (1 : Int).toNat) := ⟨_, rfl⟩
                  replace H : (seedcornlaw11_ListingLines.l0 kj15 t643 y651 0 l0_0 a0_1) = some r := by first | (rw [hy651]; with_reducible exact H) | (have H2_ := (Option.bind_some _ _).symm.trans H; rw [hy651]; with_reducible exact H2_) | (have H2_ := (Option.bind_some _ _).symm.trans H; with_reducible exact H2_) | with_reducible exact H | (rw [hy651]; exact H) | exact H
                  have Ny651 := Aside0.mk hy651
                  clear hy651
                  have H' := Aside0.mk H
                  clear H
                  obtain ⟨Ao37, co37, eo37, _⟩ := Kd.Q_slice HO_6.out
                  subst eo37
                  have q38 : (1 : Int) ≤ ((t646.length : Int) : Int) := of_decide_eq_true (by first | (with_reducible assumption) | assumption)
                  obtain ⟨i038, hi038, _, hsz38, _⟩ := info_parts info9
                  have hcut38 := cut_from (P := Tryd.prog) 65 9 .i64 Tryd.underlying65 hi038 1 hsz38 Ao37 t646.length co37 1 (by omega) q38
                  have hr38 := Kd.Q_drop (k := (1 : Int).toNat) HO_6.out (by omega)
                  obtain ⟨A38, hA38⟩ : ∃ A1, A1 = (if co37 = (1 : Int).toNat then Ao37 else (Ao37 : Option Addr).map (·.add ((1 : Int).toNat * 1))) := ⟨_, rfl⟩
                  obtain ⟨c38, hc38⟩ : ∃ c1, c1 = co37 - (1 : Int).toNat := ⟨_, rfl⟩
                  have hy38 : y651.length = t646.length - (1 : Int).toNat := (by rw [Ny651.out, List.length_drop])
                  rw [← Ny651.out] at hr38
                  rw [← hy38, ← hA38, ← hc38] at hcut38
                  replace hr38 : Kd.Q Kd.string 9 wc w.heap.size (fun _ => True) (.slice A38 y651.length c38) y651 := (by rw [hA38, hc38, hy38]; exact hr38)
                  have HE38 : Aside0 ((Value.slice A38 y651.length c38).ownBlock = (.slice Ao37 t646.length co37 : Value).ownBlock) := ⟨by rw [hA38]; split <;> (cases (Ao37 : Option Addr) <;> rfl)⟩
                  clear hy38 hi038 hsz38 HO_6 hA38 hc38
                  have HO653 := Aside0.mk hr38
                  clear hr38
                  replace q38 := eq_true q38
                  go_wp2
                  go_loopg [5, 6, 7] kj15 (fun kq v5 v6 v7 w' => ∃ (x5_3 : List Int) (x6_3 : List ByteArray) (x7_3 : Int), v7 = .int .i64 x7_3 ∧ Aside0 (seedcornlaw11_ListingLines.l0 kq x5_3 x6_3 x7_3 l0_0 a0_1 = some r) ∧ Aside0 (kq ≤ kj15) ∧ Aside0 (Kd.Q (Kd.int .i64) 3 w' w.heap.size (fun _ => True) v5 x5_3) ∧ Aside0 (Kd.Q Kd.string 9 w' w.heap.size (fun _ => True) v6 x6_3) ∧ Aside0 (w'.heap[gb638]? = some (.cells #[(.slice A0_0 l0_0.length c0_0), .int .i64 a0_1] 28 (0, 0))) ∧ Aside0 (Below w.heap.size w w'))
                  case atStart => exact ⟨(t643), (y651), (0), (by first | rfl | (simp; done) | (simp [*]; done)), H', ⟨Nat.le_refl _⟩, ⟨by (with_reducible repeat (first | apply Kd.Q_alloc | apply Kd.Q_drewN | apply Kd.Q_drew)); exact HO_5.out⟩, ⟨by (with_reducible repeat (first | apply Kd.Q_alloc | apply Kd.Q_drewN | apply Kd.Q_drew)); exact HO653.out⟩, ⟨by (with_reducible repeat (first | refine blk_drewN ?_ _ | refine blk_drew ?_ | refine blk_alloc ?_ _)); exact BK638.out⟩, ⟨by repeat (first | (with_reducible first | exact HB.out | apply below_alloc | apply pw_below_drewN | apply below_drew1 | refine below_set ?_ GE638.out) | exact HB.out)⟩⟩
                  case round =>
                    clear H'
                    try clear c1
                    try clear c2
                    try clear p2
                    try clear c3
                    try clear q3
                    try clear c4
                    try clear p6
                    try clear q6
                    try clear hx6
                    try clear qi6
                    try clear c22
                    try clear c22b0
                    try clear c22b1
                    try clear c23
                    try clear c23b0
                    try clear c23b1
                    try clear c24
                    try clear c26
                    try clear c35
                    try clear c36
                    try clear c36b0
                    try clear c36b1
                    try clear c38
                    try clear q38
                    try clear hx649_0
                    try clear p2
                    try clear p6
                    try clear p649
                    try clear q38
                    try clear q6
                    try clear q649
                    obtain ⟨x5_3, x6_3, x7_3, rfl, HA, HK3, HO_5, HO_6, BK638, HB⟩ := hrel
                    cases gk with
                    | zero => exact absurd HA.out (by simp [seedcornlaw11_ListingLines.l0])
                    | succ k3 =>
                      have H := HA.out
                      clear HA
                      simp only [seedcornlaw11_ListingLines.l0] at H
                      by_cases c39 : x7_3 < (l0_0.length : Int)
                      · rw [if_pos c39] at H
                        have c39b0 : decide (x7_3 < (l0_0.length : Int)) = true := decide_eq_true c39
                        clear c39
                        have HC40 := Aside0.mk H
                        clear H
                        have hcz41_0 : wr.cell? ⟨gb638, 0, none⟩ = some (.slice A0_0 l0_0.length c0_0) := (blk_cell BK638.out 0).trans rfl
                        have hcz41_1 : wr.cell? ⟨gb638, 1, none⟩ = some (.int .i64 a0_1) := (blk_cell BK638.out 1).trans rfl
                        have hfz41_0 := blk_frozen BK638.out 0
                        have hfz41_1 := blk_frozen BK638.out 1
                        go_upto_region 14 with (fail)
                        go_cut [71] (fun v71 wc => ∃ (kq : Nat) (x71_39 : Bool), v71 = .bool x71_39 ∧ Aside0 (seedcornlaw11_ListingLines.j3 kq x5_3 x6_3 x7_3 x71_39 l0_0 a0_1 = some r) ∧ Aside0 (kq ≤ k3) ∧ Aside0 (Kd.Q (Kd.int .i64) 3 wc w.heap.size (fun _ => True) u5 x5_3) ∧ Aside0 (Kd.Q Kd.string 9 wc w.heap.size (fun _ => True) u6 x6_3) ∧ Aside0 (wc.heap[gb638]? = some (.cells #[(.slice A0_0 l0_0.length c0_0), .int .i64 a0_1] 28 (0, 0))) ∧ Aside0 (Below w.heap.size w wc))
                        case first =>
                          have H := HC40.out
                          clear HC40
                          by_cases c42 : (x5_3.length : Int) > 0
                          · rw [if_pos c42] at H
                            have c42b0 : decide (0 < (x5_3.length : Int)) = true := decide_eq_true c42
                            have c42b1 : decide (0 < x5_3.length) = true := decide_eq_true (by omega)
                            clear c42
                            (first | rw [c42b0] | (simp only [i64_w, i32_w]; rw [c42b0]) | skip)
                            by_cases c43 : 0 < (x5_3.length : Int)
                            · rw [if_pos c43] at H
                              have c43b0 : decide (0 < (x5_3.length : Int)) = true := decide_eq_true c43
                              have c43b1 : decide (0 < x5_3.length) = true := decide_eq_true (by omega)
                              clear c43
                              have H' := Aside0.mk H
                              clear H
                              obtain ⟨Ao44, co44, eo44, _⟩ := Kd.Q_slice HO_5.out
                              subst eo44
                              have p654 : 0 ≤ (0 : Int) := (by omega)
                              have q654 : 0 < (x5_3.length : Int) := of_decide_eq_true (by first | (with_reducible assumption) | assumption)
                              obtain ⟨ad654, e654, hx654_0⟩ := Kd.at_int (Kd.Q_reads' HO_5.out).2.2 0 p654 q654
                              cases e654
                              have qi654 : (0 < x5_3.length) = True := eq_true (by omega)
                              (try rw [show ((0 : Int)).toNat = 0 from rfl] at hx654_0)
                              (try rw [Addr.add_zero'] at hx654_0)
                              replace p654 := eq_true p654
                              replace q654 := eq_true q654
                              go_wp2
                              go_meet
                              case rel => exact ⟨_, (((rd x5_3 0) == x7_3)), (by first | rfl | (simp; done) | (simp [*]; done)), H', ⟨by have := HJ3.out; have := HJ15.out; have := HK3.out; first | omega | exact Nat.le_refl _⟩, ⟨by (with_reducible repeat (first | apply Kd.Q_alloc | apply Kd.Q_drewN | apply Kd.Q_drew)); exact HO_5.out⟩, ⟨by (with_reducible repeat (first | apply Kd.Q_alloc | apply Kd.Q_drewN | apply Kd.Q_drew)); exact HO_6.out⟩, ⟨by (with_reducible repeat (first | refine blk_drewN ?_ _ | refine blk_drew ?_ | refine blk_alloc ?_ _)); exact BK638.out⟩, ⟨by repeat (first | (with_reducible first | exact HB.out | apply below_alloc | apply pw_below_drewN | apply below_drew1 | refine below_set ?_ GE638.out) | exact HB.out)⟩⟩
                            · rw [if_neg c43] at H
                              exact absurd H (by simp)
                          · rw [if_neg c42] at H
                            have c42b0 : decide (0 < (x5_3.length : Int)) = false := decide_eq_false c42
                            have c42b1 : decide (0 < x5_3.length) = false := decide_eq_false (by omega)
                            clear c42
                            (first | rw [c42b0] | (simp only [i64_w, i32_w]; rw [c42b0]) | skip)
                            have H' := Aside0.mk H
                            clear H
                            obtain ⟨Ao45, co45, eo45, _⟩ := Kd.Q_slice HO_5.out
                            subst eo45
                            go_wp2
                            go_meet
                            case rel => exact ⟨_, (false), (by first | rfl | (simp; done) | (simp [*]; done)), H', ⟨by have := HJ3.out; have := HJ15.out; have := HK3.out; first | omega | exact Nat.le_refl _⟩, ⟨by (with_reducible repeat (first | apply Kd.Q_alloc | apply Kd.Q_drewN | apply Kd.Q_drew)); exact HO_5.out⟩, ⟨by (with_reducible repeat (first | apply Kd.Q_alloc | apply Kd.Q_drewN | apply Kd.Q_drew)); exact HO_6.out⟩, ⟨by (with_reducible repeat (first | refine blk_drewN ?_ _ | refine blk_drew ?_ | refine blk_alloc ?_ _)); exact BK638.out⟩, ⟨by repeat (first | (with_reducible first | exact HB.out | apply below_alloc | apply pw_below_drewN | apply below_drew1 | refine below_set ?_ GE638.out) | exact HB.out)⟩⟩
                        case rest =>
                          clear HC40
                          try clear c1
                          try clear c2
                          try clear p2
                          try clear c3
                          try clear q3
                          try clear c4
                          try clear p6
                          try clear q6
                          try clear hx6
                          try clear qi6
                          try clear c22
                          try clear c22b0
                          try clear c22b1
                          try clear c23
                          try clear c23b0
                          try clear c23b1
                          try clear c24
                          try clear c26
                          try clear c35
                          try clear c36
                          try clear c36b0
                          try clear c36b1
                          try clear c38
                          try clear q38
                          try clear c39
                          try clear c39b0
                          try clear c42
                          try clear c42b0
                          try clear c42b1
                          try clear c43
                          try clear c43b0
                          try clear c43b1
                          try clear c45
                          try clear hcz41_0
                          try clear hcz41_1
                          try clear hfz41_0
                          try clear hfz41_1
                          try clear hx649_0
                          try clear hx654_0
                          try clear p2
                          try clear p6
                          try clear p649
                          try clear p654
                          try clear q3
                          try clear q38
                          try clear q6
                          try clear q649
                          try clear q654
                          obtain ⟨kq, x71_39, rfl, HA, HJ39, HO_5, HO_6, BK638, HB⟩ := hcut
                          cases kq with
                          | zero => exact absurd HA.out (by simp [seedcornlaw11_ListingLines.j3])
                          | succ kj39 =>
                            have H := HA.out
                            clear HA
                            simp only [seedcornlaw11_ListingLines.j3] at H
                            by_cases c46 : x71_39 = true
                            · subst c46
                              have H1 : (if 0 < (x6_3.length : Int) then ((word_Text.f ((x7_3) % 4294967296)).bind fun t656 => (if 1 + t656.size ≤ 9223372036854775807 then (if ((⟨#[76]⟩ : ByteArray) ++ t656).size + 1 ≤ 9223372036854775807 then (if (rdOf ByteArray.empty x6_3 0).toList = (((⟨#[76]⟩ : ByteArray) ++ t656) ++ (⟨#[58]⟩ : ByteArray)).toList then (if 1 ≤ (x6_3.length : Int) then ((some (x6_3.drop (1 : Int).toNat : List ByteArray)).bind fun y657 => (if 1 ≤ (x5_3.length : Int) then (if (y657.length : Int) = 0 then (some false) else (if 0 < (y657.length : Int) then (if ((rdOf ByteArray.empty y657 0).size : Int) < 3 then (some false) else (if 0 ≤ 2 then (if 2 ≤ ((rdOf ByteArray.empty y657 0).size : Int) then (if ((rdOf ByteArray.empty y657 0).extract 0 2).toList = ([32, 32] : List UInt8) then (if 2 < ((rdOf ByteArray.empty y657 0).size : Int) then (if (bt (rdOf ByteArray.empty y657 0) 2) = 32 then (some false) else (if 1 ≤ (y657.length : Int) then (seedcornlaw11_ListingLines.l0 kj39 (x5_3.drop (1 : Int).toNat) (y657.drop (1 : Int).toNat) (wrap64 (x7_3 + 1)) l0_0 a0_1) else (none))) else (none)) else (some false)) else (none)) else (none))) else (none))) else (none))) else (none)) else (some false)) else (none)) else (none))) else (none)) = some r := by rw [if_pos rfl] at H; exact H
                              clear H
                              have H := H1
                              clear H1
                              by_cases c47 : 0 < (x6_3.length : Int)
                              · rw [if_pos c47] at H
                                have c47b0 : decide (0 < (x6_3.length : Int)) = true := decide_eq_true c47
                                have c47b1 : decide (0 < x6_3.length) = true := decide_eq_true (by omega)
                                clear c47
                                replace H := Option.bind_eq_some_iff.mp H
                                obtain ⟨t656, A480, H⟩ := H
                                replace H : (if 1 + t656.size ≤ 9223372036854775807 then (if ((⟨#[76]⟩ : ByteArray) ++ t656).size + 1 ≤ 9223372036854775807 then (if (rdOf ByteArray.empty x6_3 0).toList = (((⟨#[76]⟩ : ByteArray) ++ t656) ++ (⟨#[58]⟩ : ByteArray)).toList then (if 1 ≤ (x6_3.length : Int) then ((some (x6_3.drop (1 : Int).toNat : List ByteArray)).bind fun y657 => (if 1 ≤ (x5_3.length : Int) then (if (y657.length : Int) = 0 then (some false) else (if 0 < (y657.length : Int) then (if ((rdOf ByteArray.empty y657 0).size : Int) < 3 then (some false) else (if 0 ≤ 2 then (if 2 ≤ ((rdOf ByteArray.empty y657 0).size : Int) then (if ((rdOf ByteArray.empty y657 0).extract 0 2).toList = ([32, 32] : List UInt8) then (if 2 < ((rdOf ByteArray.empty y657 0).size : Int) then (if (bt (rdOf ByteArray.empty y657 0) 2) = 32 then (some false) else (if 1 ≤ (y657.length : Int) then (seedcornlaw11_ListingLines.l0 kj39 (x5_3.drop (1 : Int).toNat) (y657.drop (1 : Int).toNat) (wrap64 (x7_3 + 1)) l0_0 a0_1) else (none))) else (none)) else (some false)) else (none)) else (none))) else (none))) else (none))) else (none)) else (some false)) else (none)) else (none)) = some r := H
                                have A48 := Aside0.mk A480
                                clear A480
                                by_cases c49 : 1 + t656.size ≤ 9223372036854775807
                                · rw [if_pos c49] at H
                                  have c49b0 := eq_true c49
                                  have c49b1 : decide (1 + t656.size ≤ 9223372036854775807) = true := decide_eq_true c49
                                  try have c49b2 : (9223372036854775807 < 1 + t656.size) = False := eq_false (Nat.not_lt.2 c49)
                                  by_cases c50 : ((⟨#[76]⟩ : ByteArray) ++ t656).size + 1 ≤ 9223372036854775807
                                  · rw [if_pos c50] at H
                                    have c50b0 := eq_true c50
                                    have c50b1 : decide (((⟨#[76]⟩ : ByteArray) ++ t656).size + 1 ≤ 9223372036854775807) = true := decide_eq_true c50
                                    try have c50b2 : (9223372036854775807 < ((⟨#[76]⟩ : ByteArray) ++ t656).size + 1) = False := eq_false (Nat.not_lt.2 c50)
                                    try have c50b3 : (9223372036854775807 < 1 + t656.size + 1) = False := eq_false (by have c50z := c50; simp only [ByteArray.size_append] at c50z; (try rw [show (⟨#[76]⟩ : ByteArray).size = 1 from rfl] at c50z); omega)
                                    by_cases c51 : (rdOf ByteArray.empty x6_3 0).toList = (((⟨#[76]⟩ : ByteArray) ++ t656) ++ (⟨#[58]⟩ : ByteArray)).toList
                                    · rw [if_pos c51] at H
                                      have c51b0 : ((rdOf ByteArray.empty x6_3 0).toList == (((⟨#[76]⟩ : ByteArray) ++ t656) ++ (⟨#[58]⟩ : ByteArray)).toList) = true := beq_iff_eq.mpr c51
                                      have c51b1 : ((rdOf ByteArray.empty x6_3 0).toList != (((⟨#[76]⟩ : ByteArray) ++ t656) ++ (⟨#[58]⟩ : ByteArray)).toList) = false := bne_eq_false_iff_eq.mpr c51
                                      clear c51
                                      by_cases c52 : 1 ≤ (x6_3.length : Int)
                                      · rw [if_pos c52] at H
                                        have c52b0 := eq_true c52
                                        have c52b1 : decide (1 ≤ (x6_3.length : Int)) = true := decide_eq_true c52
                                        clear c52
                                        obtain ⟨y657, hy657⟩ : ∃ y_ : List ByteArray, y_ = (x6_3.drop (1 : Int).toNat) := ⟨_, rfl⟩
                                        replace H : (if 1 ≤ (x5_3.length : Int) then (if (y657.length : Int) = 0 then (some false) else (if 0 < (y657.length : Int) then (if ((rdOf ByteArray.empty y657 0).size : Int) < 3 then (some false) else (if 0 ≤ 2 then (if 2 ≤ ((rdOf ByteArray.empty y657 0).size : Int) then (if ((rdOf ByteArray.empty y657 0).extract 0 2).toList = ([32, 32] : List UInt8) then (if 2 < ((rdOf ByteArray.empty y657 0).size : Int) then (if (bt (rdOf ByteArray.empty y657 0) 2) = 32 then (some false) else (if 1 ≤ (y657.length : Int) then (seedcornlaw11_ListingLines.l0 kj39 (x5_3.drop (1 : Int).toNat) (y657.drop (1 : Int).toNat) (wrap64 (x7_3 + 1)) l0_0 a0_1) else (none))) else (none)) else (some false)) else (none)) else (none))) else (none))) else (none)) = some r := by first | (rw [hy657]; with_reducible exact H) | (have H2_ := (Option.bind_some _ _).symm.trans H; rw [hy657]; with_reducible exact H2_) | (have H2_ := (Option.bind_some _ _).symm.trans H; with_reducible exact H2_) | with_reducible exact H | (rw [hy657]; exact H) | exact H
                                        have Ny657 := Aside0.mk hy657
                                        clear hy657
                                        by_cases c53 : 1 ≤ (x5_3.length : Int)
                                        · rw [if_pos c53] at H
                                          have c53b0 := eq_true c53
                                          have c53b1 : decide (1 ≤ (x5_3.length : Int)) = true := decide_eq_true c53
                                          clear c53
                                          obtain ⟨y660, hy660⟩ : ∃ y_ : List Int, y_ = (x5_3.drop (1 : Int).toNat) := ⟨_, rfl⟩
                                          replace H : (if (y657.length : Int) = 0 then (some false) else (if 0 < (y657.length : Int) then (if ((rdOf ByteArray.empty y657 0).size : Int) < 3 then (some false) else (if 0 ≤ 2 then (if 2 ≤ ((rdOf ByteArray.empty y657 0).size : Int) then (if ((rdOf ByteArray.empty y657 0).extract 0 2).toList = ([32, 32] : List UInt8) then (if 2 < ((rdOf ByteArray.empty y657 0).size : Int) then (if (bt (rdOf ByteArray.empty y657 0) 2) = 32 then (some false) else (if 1 ≤ (y657.length : Int) then (seedcornlaw11_ListingLines.l0 kj39 y660 (y657.drop (1 : Int).toNat) (wrap64 (x7_3 + 1)) l0_0 a0_1) else (none))) else (none)) else (some false)) else (none)) else (none))) else (none))) = some r := by first | (rw [hy660]; with_reducible exact H) | (have H2_ := (Option.bind_some _ _).symm.trans H; rw [hy660]; with_reducible exact H2_) | (have H2_ := (Option.bind_some _ _).symm.trans H; with_reducible exact H2_) | with_reducible exact H | (rw [hy660]; exact H) | exact H
                                          have Ny660 := Aside0.mk hy660
                                          clear hy660
                                          by_cases c54 : (y657.length : Int) = 0
                                          · rw [if_pos c54] at H
                                            have c54b0 : ((y657.length : Int) == 0) = true := beq_iff_eq.mpr c54
                                            have c54b1 : ((y657.length : Int) != 0) = false := bne_eq_false_iff_eq.mpr c54
                                            clear c54
                                            obtain rfl := Option.some.inj H
                                            try go_wp2
                                            have n0_ := Aside0.mk (Kd.Q_drew HO_5.out)
                                            have n1_ := Aside0.mk (Kd.Q_drew HO_6.out)
                                            have n2_ := Aside0.mk (blk_drew BK638.out)
                                            have n3_ := Aside0.mk (below_drew1 HB.out)
                                            clear HO_5
                                            clear HO_6
                                            clear BK638
                                            clear HB
                                            have HO_5 := n0_
                                            have HO_6 := n1_
                                            have BK638 := n2_
                                            have HB := n3_
                                            clear n0_ n1_ n2_ n3_
                                            obtain ⟨Ao56, co56, eo56, _⟩ := Kd.Q_slice HO_6.out
                                            (first | subst eo56 | (injection eo56 with f1_ f2_ f3_; have f4_ := f1_.symm; have f5_ := f3_.symm; clear f1_ f2_ f3_; subst f4_; subst f5_))
                                            have p655 : 0 ≤ (0 : Int) := (by omega)
                                            have q655 : 0 < (x6_3.length : Int) := of_decide_eq_true (by first | (with_reducible assumption) | assumption)
                                            obtain ⟨ad655, e655, hx655_0⟩ := Kd.at_string (Kd.Q_reads' HO_6.out).2.2 0 p655 q655
                                            cases e655
                                            have qi655 : (0 < x6_3.length) = True := eq_true (by omega)
                                            (try rw [show ((0 : Int)).toNat = 0 from rfl] at hx655_0)
                                            (try rw [Addr.add_zero'] at hx655_0)
                                            replace p655 := eq_true p655
                                            replace q655 := eq_true q655
                                            refine start_ (n := 9) (S := fun w' => w'.cell? ad655 = some (.string (rdOf ByteArray.empty x6_3 0))) (ds := []) #[false, false, false, false, false, false, false, false, false] (by kernel_rfl) rfl rfl (hx655_0) (fun hHeld => ?_); refine with_tabW seedcornlaw11_ListingLines.tab15 seedcornlaw11_ListingLines.bits15 (fun HT_ HW_ => ?_)
                                            generalize wc.drew = w55 at HO_5 HO_6 BK638 HB hx655_0 hHeld ⊢
                                            refine pure_ (i := 0) (N := some 72) (v := ?_) (a' := ?_) #[true, false, false, false, false, false, false, false, false] rfl rfl (any_of HT_.out (by kernel_rfl)) (fun _ _ _ h => h) (Or.inl ⟨by rfl, ?_⟩) ?_ ?_
                                            rotate_left
                                            · intro w'
                                              go_simp
                                              with_reducible rfl
                                            rotate_left
                                            · simp only [Act.put, List.setIfInBounds_toArray, List.set_cons_zero, List.set_cons_succ, i64_w, i32_w]
                                              rfl
                                            refine pure_ (i := 1) (N := some 73) (v := ?_) (a' := ?_) #[true, true, false, false, false, false, false, false, false] rfl rfl (any_of HT_.out (by kernel_rfl)) (fun _ _ _ h => h) (Or.inl ⟨by rfl, ?_⟩) ?_ ?_
                                            rotate_left
                                            · intro w'
                                              go_simp
                                              with_reducible rfl
                                            rotate_left
                                            · simp only [Act.put, List.setIfInBounds_toArray, List.set_cons_zero, List.set_cons_succ, i64_w, i32_w]
                                              rfl
                                            refine pure_ (i := 3) (N := some 75) (v := ?_) (a' := ?_) #[true, true, false, true, false, false, false, false, false] rfl rfl (any_of HT_.out (by kernel_rfl)) (fun _ _ _ h => h) (Or.inl ⟨by rfl, ?_⟩) ?_ ?_
                                            rotate_left
                                            · intro w'
                                              go_simp
                                              with_reducible rfl
                                            rotate_left
                                            · simp only [Act.put, List.setIfInBounds_toArray, List.set_cons_zero, List.set_cons_succ, i64_w, i32_w]
                                              rfl
                                            refine pure_ (i := 4) (N := some 76) (v := ?_) (a' := ?_) #[true, true, false, true, true, false, false, false, false] rfl rfl (any_of HT_.out (by kernel_rfl)) (fun _ _ _ h => h) (Or.inl ⟨by rfl, ?_⟩) ?_ ?_
                                            rotate_left
                                            · intro w'
                                              go_simp
                                              with_reducible rfl
                                            rotate_left
                                            · simp only [Act.put, List.setIfInBounds_toArray, List.set_cons_zero, List.set_cons_succ, i64_w, i32_w]
                                              rfl
                                            refine take_ (i := 2) (N := some 74) (v := ?_) (a' := ?_) #[true, true, true, true, true, false, false, false, false] rfl rfl (take_ofW HT_.out HW_.out (by kernel_rfl)) (fun _ _ _ h => h) (Or.inl ⟨by rfl, ?_⟩) hHeld ?_ ?_
                                            rotate_left
                                            · intro w' s0
                                              go_simp
                                              with_reducible rfl
                                            rotate_left
                                            · simp only [Act.put, List.setIfInBounds_toArray, List.set_cons_zero, List.set_cons_succ, i64_w, i32_w]
                                              rfl
                                            refine one_ (i := 5) (N := some 77) #[true, true, true, true, true, true, false, false, false] rfl rfl (one_of HT_.out (by kernel_rfl)) (by decide) (fun K hK => ?_)
                                            refine goes_ Tryd.func45 (by kernel_rfl) rfl #[.int .u32 ((x7_3) % 4294967296)] (by rfl) rfl rfl (by (try simp only [List.map_toArray, List.map_cons, List.map_nil]); first | done | rfl | (simp only [List.length_drop, List.length_take]; rfl)) ?_
                                            with_reducible refine (word_Text.calls ((x7_3) % 4294967296) t656 _ ?side1 A48.out).mono ?_
                                            (case side1 => exact GT.below HGT.out (by repeat (first | (with_reducible first | exact HB.out | apply below_alloc | apply pw_below_drewN | apply below_drew1 | refine below_set ?_ GE638.out) | exact HB.out)))
                                            rintro e w57 ⟨rfl, hb⟩
                                            have HS0_ := (hb.cell (World.block_lt_of_cell? _ _ (hHeld))).trans (hHeld)
                                            refine ⟨_, rfl, ?_⟩
                                            have n0_ := Aside0.mk (Kd.Q_below (by (with_reducible repeat (first | apply Kd.Q_alloc | apply Kd.Q_drewN | apply Kd.Q_drew)); exact HO_5.out) hb)
                                            have n1_ := Aside0.mk (Kd.Q_below (by (with_reducible repeat (first | apply Kd.Q_alloc | apply Kd.Q_drewN | apply Kd.Q_drew)); exact HO_6.out) hb)
                                            have n2_ := Aside0.mk (blk_below (g := gb638) (o := .cells #[.slice A0_0 l0_0.length c0_0, .int .i64 a0_1] 28 (0, 0)) (by (with_reducible repeat (first | refine blk_drewN ?_ _ | refine blk_drew ?_ | refine blk_alloc ?_ _)); exact BK638.out) hb)
                                            have n3_ := Aside0.mk (below_step (by repeat (first | (with_reducible first | exact HB.out | apply below_alloc | apply pw_below_drewN | apply below_drew1 | refine below_set ?_ GE638.out) | exact HB.out)) hb)
                                            clear HO_5
                                            clear HO_6
                                            clear BK638
                                            clear HB
                                            have HO_5 := n0_
                                            have HO_6 := n1_
                                            have BK638 := n2_
                                            have HB := n3_
                                            clear n0_ n1_ n2_ n3_
                                            (try clear hb)
                                            (try clear hb2)
                                            (try clear hk)
                                            (try clear hi)
                                            refine hK.out _ _ (HS0_) (fun hHeld => ?_)
                                            clear hK K
                                            refine norm_ (a' := ?_) ?_ ?_
                                            rotate_left
                                            · show Act.put _ (some 77) _ = _
                                              simp only [Act.put, List.setIfInBounds_toArray, List.set_cons_zero, List.set_cons_succ, i64_w, i32_w]
                                              rfl
                                            refine pure_ (i := 6) (N := some 78) (v := ?_) (a' := ?_) #[true, true, true, true, true, true, true, false, false] rfl rfl (any_of HT_.out (by kernel_rfl)) (fun _ _ _ h => h) (Or.inl ⟨by rfl, ?_⟩) ?_ ?_
                                            rotate_left
                                            · intro w'
                                              go_simp
                                              with_reducible rfl
                                            rotate_left
                                            · simp only [Act.put, List.setIfInBounds_toArray, List.set_cons_zero, List.set_cons_succ, i64_w, i32_w]
                                              rfl
                                            refine pure_ (i := 7) (N := some 79) (v := ?_) (a' := ?_) #[true, true, true, true, true, true, true, true, false] rfl rfl (any_of HT_.out (by kernel_rfl)) (fun _ _ _ h => h) (Or.inl ⟨by rfl, ?_⟩) ?_ ?_
                                            rotate_left
                                            · intro w'
                                              go_simp
                                              with_reducible rfl
                                            rotate_left
                                            · simp only [Act.put, List.setIfInBounds_toArray, List.set_cons_zero, List.set_cons_succ, i64_w, i32_w]
                                              rfl
                                            refine pure_ (i := 8) (N := some 80) (v := ?_) (a' := ?_) #[true, true, true, true, true, true, true, true, true] rfl rfl (any_of HT_.out (by kernel_rfl)) (fun _ _ _ h => h) (Or.inl ⟨by rfl, ?_⟩) ?_ ?_
                                            rotate_left
                                            · intro w'
                                              go_simp
                                              with_reducible rfl
                                            rotate_left
                                            · simp only [Act.put, List.setIfInBounds_toArray, List.set_cons_zero, List.set_cons_succ, i64_w, i32_w]
                                              rfl
                                            refine done_ (done_of HT_.out (by kernel_rfl)) ?_
                                            have q58 : (1 : Int) ≤ ((x6_3.length : Int) : Int) := of_decide_eq_true (by first | (with_reducible assumption) | assumption)
                                            obtain ⟨i058, hi058, _, hsz58, _⟩ := info_parts info9
                                            have hcut58 := cut_from (P := Tryd.prog) 65 9 .i64 Tryd.underlying65 hi058 1 hsz58 (some ad655) x6_3.length co56 1 (by omega) q58
                                            have hr58 := Kd.Q_drop (k := (1 : Int).toNat) HO_6.out (by omega)
                                            obtain ⟨A58, hA58⟩ : ∃ A1, A1 = (if co56 = (1 : Int).toNat then (some ad655) else ((some ad655) : Option Addr).map (·.add ((1 : Int).toNat * 1))) := ⟨_, rfl⟩
                                            obtain ⟨c58, hc58⟩ : ∃ c1, c1 = co56 - (1 : Int).toNat := ⟨_, rfl⟩
                                            have hy58 : y657.length = x6_3.length - (1 : Int).toNat := (by rw [Ny657.out, List.length_drop])
                                            rw [← Ny657.out] at hr58
                                            rw [← hy58, ← hA58, ← hc58] at hcut58
                                            replace hr58 : Kd.Q Kd.string 9 w57 w.heap.size (fun _ => True) (.slice A58 y657.length c58) y657 := (by rw [hA58, hc58, hy58]; exact hr58)
                                            have HE58 : Aside0 ((Value.slice A58 y657.length c58).ownBlock = (.slice (some ad655) x6_3.length co56 : Value).ownBlock) := ⟨by rw [hA58]; split <;> (cases ((some ad655) : Option Addr) <;> rfl)⟩
                                            clear hy58 hi058 hsz58 HO_6 hA58 hc58
                                            have HO659 := Aside0.mk hr58
                                            clear hr58
                                            replace q58 := eq_true q58
                                            obtain ⟨Ao59, co59, eo59, _⟩ := Kd.Q_slice HO_5.out
                                            subst eo59
                                            have q60 : (1 : Int) ≤ ((x5_3.length : Int) : Int) := of_decide_eq_true (by first | (with_reducible assumption) | assumption)
                                            obtain ⟨i060, hi060, _, hsz60, _⟩ := info_parts info3
                                            have hcut60 := cut_from (P := Tryd.prog) 42 3 .i64 Tryd.underlying42 hi060 1 hsz60 Ao59 x5_3.length co59 1 (by omega) q60
                                            have hr60 := Kd.Q_drop (k := (1 : Int).toNat) HO_5.out (by omega)
                                            obtain ⟨A60, hA60⟩ : ∃ A1, A1 = (if co59 = (1 : Int).toNat then Ao59 else (Ao59 : Option Addr).map (·.add ((1 : Int).toNat * 1))) := ⟨_, rfl⟩
                                            obtain ⟨c60, hc60⟩ : ∃ c1, c1 = co59 - (1 : Int).toNat := ⟨_, rfl⟩
                                            have hy60 : y660.length = x5_3.length - (1 : Int).toNat := (by rw [Ny660.out, List.length_drop])
                                            rw [← Ny660.out] at hr60
                                            rw [← hy60, ← hA60, ← hc60] at hcut60
                                            replace hr60 : Kd.Q (Kd.int .i64) 3 w57 w.heap.size (fun _ => True) (.slice A60 y660.length c60) y660 := (by rw [hA60, hc60, hy60]; exact hr60)
                                            have HE60 : Aside0 ((Value.slice A60 y660.length c60).ownBlock = (.slice Ao59 x5_3.length co59 : Value).ownBlock) := ⟨by rw [hA60]; split <;> (cases (Ao59 : Option Addr) <;> rfl)⟩
                                            clear hy60 hi060 hsz60 HO_5 hA60 hc60
                                            have HO662 := Aside0.mk hr60
                                            clear hr60
                                            replace q60 := eq_true q60
                                            try go_wp2
                                            go_ret
                                            exact ⟨by first | rfl | (simp [errW_none, errW_some] <;> rfl) | (simp [*, errW_none, errW_some] <;> rfl), by repeat (first | (with_reducible first | exact HB.out | apply below_alloc | apply pw_below_drewN | apply below_drew1 | refine below_set ?_ GE638.out) | exact HB.out)⟩
                                          · rw [if_neg c54] at H
                                            have c54b0 : ((y657.length : Int) == 0) = false := beq_eq_false_iff_ne.mpr c54
                                            have c54b1 : ((y657.length : Int) != 0) = true := bne_iff_ne.mpr c54
                                            have c54b2 : ¬ (y657 = []) := fun h_ => c54 (by rw [h_]; rfl)
                                            by_cases c61 : 0 < (y657.length : Int)
                                            · rw [if_pos c61] at H
                                              have c61b0 : decide (0 < (y657.length : Int)) = true := decide_eq_true c61
                                              have c61b1 : decide (0 < y657.length) = true := decide_eq_true (by omega)
                                              clear c61
                                              by_cases c62 : ((rdOf ByteArray.empty y657 0).size : Int) < 3
                                              · rw [if_pos c62] at H
                                                have c62b0 : decide (((rdOf ByteArray.empty y657 0).size : Int) < 3) = true := decide_eq_true c62
                                                have c62b1 : decide ((rdOf ByteArray.empty y657 0).size < 3) = true := decide_eq_true (by omega)
                                                clear c62
                                                obtain rfl := Option.some.inj H
                                                try go_wp2
                                                have n0_ := Aside0.mk (Kd.Q_drew HO_5.out)
                                                have n1_ := Aside0.mk (Kd.Q_drew HO_6.out)
                                                have n2_ := Aside0.mk (blk_drew BK638.out)
                                                have n3_ := Aside0.mk (below_drew1 HB.out)
                                                clear HO_5
                                                clear HO_6
                                                clear BK638
                                                clear HB
                                                have HO_5 := n0_
                                                have HO_6 := n1_
                                                have BK638 := n2_
                                                have HB := n3_
                                                clear n0_ n1_ n2_ n3_
                                                obtain ⟨Ao64, co64, eo64, _⟩ := Kd.Q_slice HO_6.out
                                                (first | subst eo64 | (injection eo64 with f1_ f2_ f3_; have f4_ := f1_.symm; have f5_ := f3_.symm; clear f1_ f2_ f3_; subst f4_; subst f5_))
                                                have p655 : 0 ≤ (0 : Int) := (by omega)
                                                have q655 : 0 < (x6_3.length : Int) := of_decide_eq_true (by first | (with_reducible assumption) | assumption)
                                                obtain ⟨ad655, e655, hx655_0⟩ := Kd.at_string (Kd.Q_reads' HO_6.out).2.2 0 p655 q655
                                                cases e655
                                                have qi655 : (0 < x6_3.length) = True := eq_true (by omega)
                                                (try rw [show ((0 : Int)).toNat = 0 from rfl] at hx655_0)
                                                (try rw [Addr.add_zero'] at hx655_0)
                                                replace p655 := eq_true p655
                                                replace q655 := eq_true q655
                                                refine start_ (n := 9) (S := fun w' => w'.cell? ad655 = some (.string (rdOf ByteArray.empty x6_3 0))) (ds := []) #[false, false, false, false, false, false, false, false, false] (by kernel_rfl) rfl rfl (hx655_0) (fun hHeld => ?_); refine with_tabW seedcornlaw11_ListingLines.tab15 seedcornlaw11_ListingLines.bits15 (fun HT_ HW_ => ?_)
                                                generalize wc.drew = w63 at HO_5 HO_6 BK638 HB hx655_0 hHeld ⊢
                                                refine pure_ (i := 0) (N := some 72) (v := ?_) (a' := ?_) #[true, false, false, false, false, false, false, false, false] rfl rfl (any_of HT_.out (by kernel_rfl)) (fun _ _ _ h => h) (Or.inl ⟨by rfl, ?_⟩) ?_ ?_
                                                rotate_left
                                                · intro w'
                                                  go_simp
                                                  with_reducible rfl
                                                rotate_left
                                                · simp only [Act.put, List.setIfInBounds_toArray, List.set_cons_zero, List.set_cons_succ, i64_w, i32_w]
                                                  rfl
                                                refine pure_ (i := 1) (N := some 73) (v := ?_) (a' := ?_) #[true, true, false, false, false, false, false, false, false] rfl rfl (any_of HT_.out (by kernel_rfl)) (fun _ _ _ h => h) (Or.inl ⟨by rfl, ?_⟩) ?_ ?_
                                                rotate_left
                                                · intro w'
                                                  go_simp
                                                  with_reducible rfl
                                                rotate_left
                                                · simp only [Act.put, List.setIfInBounds_toArray, List.set_cons_zero, List.set_cons_succ, i64_w, i32_w]
                                                  rfl
                                                refine pure_ (i := 3) (N := some 75) (v := ?_) (a' := ?_) #[true, true, false, true, false, false, false, false, false] rfl rfl (any_of HT_.out (by kernel_rfl)) (fun _ _ _ h => h) (Or.inl ⟨by rfl, ?_⟩) ?_ ?_
                                                rotate_left
                                                · intro w'
                                                  go_simp
                                                  with_reducible rfl
                                                rotate_left
                                                · simp only [Act.put, List.setIfInBounds_toArray, List.set_cons_zero, List.set_cons_succ, i64_w, i32_w]
                                                  rfl
                                                refine pure_ (i := 4) (N := some 76) (v := ?_) (a' := ?_) #[true, true, false, true, true, false, false, false, false] rfl rfl (any_of HT_.out (by kernel_rfl)) (fun _ _ _ h => h) (Or.inl ⟨by rfl, ?_⟩) ?_ ?_
                                                rotate_left
                                                · intro w'
                                                  go_simp
                                                  with_reducible rfl
                                                rotate_left
                                                · simp only [Act.put, List.setIfInBounds_toArray, List.set_cons_zero, List.set_cons_succ, i64_w, i32_w]
                                                  rfl
                                                refine take_ (i := 2) (N := some 74) (v := ?_) (a' := ?_) #[true, true, true, true, true, false, false, false, false] rfl rfl (take_ofW HT_.out HW_.out (by kernel_rfl)) (fun _ _ _ h => h) (Or.inl ⟨by rfl, ?_⟩) hHeld ?_ ?_
                                                rotate_left
                                                · intro w' s0
                                                  go_simp
                                                  with_reducible rfl
                                                rotate_left
                                                · simp only [Act.put, List.setIfInBounds_toArray, List.set_cons_zero, List.set_cons_succ, i64_w, i32_w]
                                                  rfl
                                                refine one_ (i := 5) (N := some 77) #[true, true, true, true, true, true, false, false, false] rfl rfl (one_of HT_.out (by kernel_rfl)) (by decide) (fun K hK => ?_)
                                                refine goes_ Tryd.func45 (by kernel_rfl) rfl #[.int .u32 ((x7_3) % 4294967296)] (by rfl) rfl rfl (by (try simp only [List.map_toArray, List.map_cons, List.map_nil]); first | done | rfl | (simp only [List.length_drop, List.length_take]; rfl)) ?_
                                                with_reducible refine (word_Text.calls ((x7_3) % 4294967296) t656 _ ?side1 A48.out).mono ?_
                                                (case side1 => exact GT.below HGT.out (by repeat (first | (with_reducible first | exact HB.out | apply below_alloc | apply pw_below_drewN | apply below_drew1 | refine below_set ?_ GE638.out) | exact HB.out)))
                                                rintro e w65 ⟨rfl, hb⟩
                                                have HS0_ := (hb.cell (World.block_lt_of_cell? _ _ (hHeld))).trans (hHeld)
                                                refine ⟨_, rfl, ?_⟩
                                                have n0_ := Aside0.mk (Kd.Q_below (by (with_reducible repeat (first | apply Kd.Q_alloc | apply Kd.Q_drewN | apply Kd.Q_drew)); exact HO_5.out) hb)
                                                have n1_ := Aside0.mk (Kd.Q_below (by (with_reducible repeat (first | apply Kd.Q_alloc | apply Kd.Q_drewN | apply Kd.Q_drew)); exact HO_6.out) hb)
                                                have n2_ := Aside0.mk (blk_below (g := gb638) (o := .cells #[.slice A0_0 l0_0.length c0_0, .int .i64 a0_1] 28 (0, 0)) (by (with_reducible repeat (first | refine blk_drewN ?_ _ | refine blk_drew ?_ | refine blk_alloc ?_ _)); exact BK638.out) hb)
                                                have n3_ := Aside0.mk (below_step (by repeat (first | (with_reducible first | exact HB.out | apply below_alloc | apply pw_below_drewN | apply below_drew1 | refine below_set ?_ GE638.out) | exact HB.out)) hb)
                                                clear HO_5
                                                clear HO_6
                                                clear BK638
                                                clear HB
                                                have HO_5 := n0_
                                                have HO_6 := n1_
                                                have BK638 := n2_
                                                have HB := n3_
                                                clear n0_ n1_ n2_ n3_
                                                (try clear hb)
                                                (try clear hb2)
                                                (try clear hk)
                                                (try clear hi)
                                                refine hK.out _ _ (HS0_) (fun hHeld => ?_)
                                                clear hK K
                                                refine norm_ (a' := ?_) ?_ ?_
                                                rotate_left
                                                · show Act.put _ (some 77) _ = _
                                                  simp only [Act.put, List.setIfInBounds_toArray, List.set_cons_zero, List.set_cons_succ, i64_w, i32_w]
                                                  rfl
                                                refine pure_ (i := 6) (N := some 78) (v := ?_) (a' := ?_) #[true, true, true, true, true, true, true, false, false] rfl rfl (any_of HT_.out (by kernel_rfl)) (fun _ _ _ h => h) (Or.inl ⟨by rfl, ?_⟩) ?_ ?_
                                                rotate_left
                                                · intro w'
                                                  go_simp
                                                  with_reducible rfl
                                                rotate_left
                                                · simp only [Act.put, List.setIfInBounds_toArray, List.set_cons_zero, List.set_cons_succ, i64_w, i32_w]
                                                  rfl
                                                refine pure_ (i := 7) (N := some 79) (v := ?_) (a' := ?_) #[true, true, true, true, true, true, true, true, false] rfl rfl (any_of HT_.out (by kernel_rfl)) (fun _ _ _ h => h) (Or.inl ⟨by rfl, ?_⟩) ?_ ?_
                                                rotate_left
                                                · intro w'
                                                  go_simp
                                                  with_reducible rfl
                                                rotate_left
                                                · simp only [Act.put, List.setIfInBounds_toArray, List.set_cons_zero, List.set_cons_succ, i64_w, i32_w]
                                                  rfl
                                                refine pure_ (i := 8) (N := some 80) (v := ?_) (a' := ?_) #[true, true, true, true, true, true, true, true, true] rfl rfl (any_of HT_.out (by kernel_rfl)) (fun _ _ _ h => h) (Or.inl ⟨by rfl, ?_⟩) ?_ ?_
                                                rotate_left
                                                · intro w'
                                                  go_simp
                                                  with_reducible rfl
                                                rotate_left
                                                · simp only [Act.put, List.setIfInBounds_toArray, List.set_cons_zero, List.set_cons_succ, i64_w, i32_w]
                                                  rfl
                                                refine done_ (done_of HT_.out (by kernel_rfl)) ?_
                                                have q66 : (1 : Int) ≤ ((x6_3.length : Int) : Int) := of_decide_eq_true (by first | (with_reducible assumption) | assumption)
                                                obtain ⟨i066, hi066, _, hsz66, _⟩ := info_parts info9
                                                have hcut66 := cut_from (P := Tryd.prog) 65 9 .i64 Tryd.underlying65 hi066 1 hsz66 (some ad655) x6_3.length co64 1 (by omega) q66
                                                have hr66 := Kd.Q_drop (k := (1 : Int).toNat) HO_6.out (by omega)
                                                obtain ⟨A66, hA66⟩ : ∃ A1, A1 = (if co64 = (1 : Int).toNat then (some ad655) else ((some ad655) : Option Addr).map (·.add ((1 : Int).toNat * 1))) := ⟨_, rfl⟩
                                                obtain ⟨c66, hc66⟩ : ∃ c1, c1 = co64 - (1 : Int).toNat := ⟨_, rfl⟩
                                                have hy66 : y657.length = x6_3.length - (1 : Int).toNat := (by rw [Ny657.out, List.length_drop])
                                                rw [← Ny657.out] at hr66
                                                rw [← hy66, ← hA66, ← hc66] at hcut66
                                                replace hr66 : Kd.Q Kd.string 9 w65 w.heap.size (fun _ => True) (.slice A66 y657.length c66) y657 := (by rw [hA66, hc66, hy66]; exact hr66)
                                                have HE66 : Aside0 ((Value.slice A66 y657.length c66).ownBlock = (.slice (some ad655) x6_3.length co64 : Value).ownBlock) := ⟨by rw [hA66]; split <;> (cases ((some ad655) : Option Addr) <;> rfl)⟩
                                                clear hy66 hi066 hsz66 HO_6 hA66 hc66
                                                have HO659 := Aside0.mk hr66
                                                clear hr66
                                                replace q66 := eq_true q66
                                                obtain ⟨Ao67, co67, eo67, _⟩ := Kd.Q_slice HO_5.out
                                                subst eo67
                                                have q68 : (1 : Int) ≤ ((x5_3.length : Int) : Int) := of_decide_eq_true (by first | (with_reducible assumption) | assumption)
                                                obtain ⟨i068, hi068, _, hsz68, _⟩ := info_parts info3
                                                have hcut68 := cut_from (P := Tryd.prog) 42 3 .i64 Tryd.underlying42 hi068 1 hsz68 Ao67 x5_3.length co67 1 (by omega) q68
                                                have hr68 := Kd.Q_drop (k := (1 : Int).toNat) HO_5.out (by omega)
                                                obtain ⟨A68, hA68⟩ : ∃ A1, A1 = (if co67 = (1 : Int).toNat then Ao67 else (Ao67 : Option Addr).map (·.add ((1 : Int).toNat * 1))) := ⟨_, rfl⟩
                                                obtain ⟨c68, hc68⟩ : ∃ c1, c1 = co67 - (1 : Int).toNat := ⟨_, rfl⟩
                                                have hy68 : y660.length = x5_3.length - (1 : Int).toNat := (by rw [Ny660.out, List.length_drop])
                                                rw [← Ny660.out] at hr68
                                                rw [← hy68, ← hA68, ← hc68] at hcut68
                                                replace hr68 : Kd.Q (Kd.int .i64) 3 w65 w.heap.size (fun _ => True) (.slice A68 y660.length c68) y660 := (by rw [hA68, hc68, hy68]; exact hr68)
                                                have HE68 : Aside0 ((Value.slice A68 y660.length c68).ownBlock = (.slice Ao67 x5_3.length co67 : Value).ownBlock) := ⟨by rw [hA68]; split <;> (cases (Ao67 : Option Addr) <;> rfl)⟩
                                                clear hy68 hi068 hsz68 HO_5 hA68 hc68
                                                have HO662 := Aside0.mk hr68
                                                clear hr68
                                                replace q68 := eq_true q68
                                                have p663 : 0 ≤ (0 : Int) := (by omega)
                                                have q663 : 0 < (y657.length : Int) := of_decide_eq_true (by first | (with_reducible assumption) | assumption)
                                                obtain ⟨ad663, e663, hx663_0⟩ := Kd.at_string (Kd.Q_reads' HO659.out).2.2 0 p663 q663
                                                cases e663
                                                have qi663 : (0 < y657.length) = True := eq_true (by omega)
                                                (try rw [show ((0 : Int)).toNat = 0 from rfl] at hx663_0)
                                                (try rw [Addr.add_zero'] at hx663_0)
                                                replace p663 := eq_true p663
                                                replace q663 := eq_true q663
                                                try go_wp2
                                                go_ret
                                                exact ⟨by first | rfl | (simp [errW_none, errW_some] <;> rfl) | (simp [*, errW_none, errW_some] <;> rfl), by repeat (first | (with_reducible first | exact HB.out | apply below_alloc | apply pw_below_drewN | apply below_drew1 | refine below_set ?_ GE638.out) | exact HB.out)⟩
                                              · rw [if_neg c62] at H
                                                have c62b0 : decide (((rdOf ByteArray.empty y657 0).size : Int) < 3) = false := decide_eq_false c62
                                                have c62b1 : decide ((rdOf ByteArray.empty y657 0).size < 3) = false := decide_eq_false (by omega)
                                                clear c62
                                                by_cases c69 : 0 ≤ 2
                                                · rw [if_pos c69] at H
                                                  have c69b0 := eq_true c69
                                                  have c69b1 : decide (0 ≤ 2) = true := decide_eq_true c69
                                                  clear c69
                                                  by_cases c70 : 2 ≤ ((rdOf ByteArray.empty y657 0).size : Int)
                                                  · rw [if_pos c70] at H
                                                    have c70b0 := eq_true c70
                                                    have c70b1 : decide (2 ≤ ((rdOf ByteArray.empty y657 0).size : Int)) = true := decide_eq_true c70
                                                    clear c70
                                                    by_cases c71 : ((rdOf ByteArray.empty y657 0).extract 0 2).toList = ([32, 32] : List UInt8)
                                                    · rw [if_pos c71] at H
                                                      have c71b0 : (((rdOf ByteArray.empty y657 0).extract 0 2).toList == ([32, 32] : List UInt8)) = true := beq_iff_eq.mpr c71
                                                      have c71b1 : (((rdOf ByteArray.empty y657 0).extract 0 2).toList != ([32, 32] : List UInt8)) = false := bne_eq_false_iff_eq.mpr c71
                                                      clear c71
                                                      by_cases c72 : 2 < ((rdOf ByteArray.empty y657 0).size : Int)
                                                      · rw [if_pos c72] at H
                                                        have c72b0 : decide (2 < ((rdOf ByteArray.empty y657 0).size : Int)) = true := decide_eq_true c72
                                                        have c72b1 : decide (2 < (rdOf ByteArray.empty y657 0).size) = true := decide_eq_true (by omega)
                                                        clear c72
                                                        by_cases c74 : (bt (rdOf ByteArray.empty y657 0) 2) = 32
                                                        · rw [if_pos c74] at H
                                                          have c74b0 : ((bt (rdOf ByteArray.empty y657 0) 2) == 32) = true := beq_iff_eq.mpr c74
                                                          have c74b1 : ((bt (rdOf ByteArray.empty y657 0) 2) != 32) = false := bne_eq_false_iff_eq.mpr c74
                                                          clear c74
                                                          obtain rfl := Option.some.inj H
                                                          try go_wp2
                                                          have n0_ := Aside0.mk (Kd.Q_drew HO_5.out)
                                                          have n1_ := Aside0.mk (Kd.Q_drew HO_6.out)
                                                          have n2_ := Aside0.mk (blk_drew BK638.out)
                                                          have n3_ := Aside0.mk (below_drew1 HB.out)
                                                          clear HO_5
                                                          clear HO_6
                                                          clear BK638
                                                          clear HB
                                                          have HO_5 := n0_
                                                          have HO_6 := n1_
                                                          have BK638 := n2_
                                                          have HB := n3_
                                                          clear n0_ n1_ n2_ n3_
                                                          obtain ⟨Ao76, co76, eo76, _⟩ := Kd.Q_slice HO_6.out
                                                          (first | subst eo76 | (injection eo76 with f1_ f2_ f3_; have f4_ := f1_.symm; have f5_ := f3_.symm; clear f1_ f2_ f3_; subst f4_; subst f5_))
                                                          have p655 : 0 ≤ (0 : Int) := (by omega)
                                                          have q655 : 0 < (x6_3.length : Int) := of_decide_eq_true (by first | (with_reducible assumption) | assumption)
                                                          obtain ⟨ad655, e655, hx655_0⟩ := Kd.at_string (Kd.Q_reads' HO_6.out).2.2 0 p655 q655
                                                          cases e655
                                                          have qi655 : (0 < x6_3.length) = True := eq_true (by omega)
                                                          (try rw [show ((0 : Int)).toNat = 0 from rfl] at hx655_0)
                                                          (try rw [Addr.add_zero'] at hx655_0)
                                                          replace p655 := eq_true p655
                                                          replace q655 := eq_true q655
                                                          refine start_ (n := 9) (S := fun w' => w'.cell? ad655 = some (.string (rdOf ByteArray.empty x6_3 0))) (ds := []) #[false, false, false, false, false, false, false, false, false] (by kernel_rfl) rfl rfl (hx655_0) (fun hHeld => ?_); refine with_tabW seedcornlaw11_ListingLines.tab15 seedcornlaw11_ListingLines.bits15 (fun HT_ HW_ => ?_)
                                                          generalize wc.drew = w75 at HO_5 HO_6 BK638 HB hx655_0 hHeld ⊢
                                                          refine pure_ (i := 0) (N := some 72) (v := ?_) (a' := ?_) #[true, false, false, false, false, false, false, false, false] rfl rfl (any_of HT_.out (by kernel_rfl)) (fun _ _ _ h => h) (Or.inl ⟨by rfl, ?_⟩) ?_ ?_
                                                          rotate_left
                                                          · intro w'
                                                            go_simp
                                                            with_reducible rfl
                                                          rotate_left
                                                          · simp only [Act.put, List.setIfInBounds_toArray, List.set_cons_zero, List.set_cons_succ, i64_w, i32_w]
                                                            rfl
                                                          refine pure_ (i := 1) (N := some 73) (v := ?_) (a' := ?_) #[true, true, false, false, false, false, false, false, false] rfl rfl (any_of HT_.out (by kernel_rfl)) (fun _ _ _ h => h) (Or.inl ⟨by rfl, ?_⟩) ?_ ?_
                                                          rotate_left
                                                          · intro w'
                                                            go_simp
                                                            with_reducible rfl
                                                          rotate_left
                                                          · simp only [Act.put, List.setIfInBounds_toArray, List.set_cons_zero, List.set_cons_succ, i64_w, i32_w]
                                                            rfl
                                                          refine pure_ (i := 3) (N := some 75) (v := ?_) (a' := ?_) #[true, true, false, true, false, false, false, false, false] rfl rfl (any_of HT_.out (by kernel_rfl)) (fun _ _ _ h => h) (Or.inl ⟨by rfl, ?_⟩) ?_ ?_
                                                          rotate_left
                                                          · intro w'
                                                            go_simp
                                                            with_reducible rfl
                                                          rotate_left
                                                          · simp only [Act.put, List.setIfInBounds_toArray, List.set_cons_zero, List.set_cons_succ, i64_w, i32_w]
                                                            rfl
                                                          refine pure_ (i := 4) (N := some 76) (v := ?_) (a' := ?_) #[true, true, false, true, true, false, false, false, false] rfl rfl (any_of HT_.out (by kernel_rfl)) (fun _ _ _ h => h) (Or.inl ⟨by rfl, ?_⟩) ?_ ?_
                                                          rotate_left
                                                          · intro w'
                                                            go_simp
                                                            with_reducible rfl
                                                          rotate_left
                                                          · simp only [Act.put, List.setIfInBounds_toArray, List.set_cons_zero, List.set_cons_succ, i64_w, i32_w]
                                                            rfl
                                                          refine take_ (i := 2) (N := some 74) (v := ?_) (a' := ?_) #[true, true, true, true, true, false, false, false, false] rfl rfl (take_ofW HT_.out HW_.out (by kernel_rfl)) (fun _ _ _ h => h) (Or.inl ⟨by rfl, ?_⟩) hHeld ?_ ?_
                                                          rotate_left
                                                          · intro w' s0
                                                            go_simp
                                                            with_reducible rfl
                                                          rotate_left
                                                          · simp only [Act.put, List.setIfInBounds_toArray, List.set_cons_zero, List.set_cons_succ, i64_w, i32_w]
                                                            rfl
                                                          refine one_ (i := 5) (N := some 77) #[true, true, true, true, true, true, false, false, false] rfl rfl (one_of HT_.out (by kernel_rfl)) (by decide) (fun K hK => ?_)
                                                          refine goes_ Tryd.func45 (by kernel_rfl) rfl #[.int .u32 ((x7_3) % 4294967296)] (by rfl) rfl rfl (by (try simp only [List.map_toArray, List.map_cons, List.map_nil]); first | done | rfl | (simp only [List.length_drop, List.length_take]; rfl)) ?_
                                                          with_reducible refine (word_Text.calls ((x7_3) % 4294967296) t656 _ ?side1 A48.out).mono ?_
                                                          (case side1 => exact GT.below HGT.out (by repeat (first | (with_reducible first | exact HB.out | apply below_alloc | apply pw_below_drewN | apply below_drew1 | refine below_set ?_ GE638.out) | exact HB.out)))
                                                          rintro e w77 ⟨rfl, hb⟩
                                                          have HS0_ := (hb.cell (World.block_lt_of_cell? _ _ (hHeld))).trans (hHeld)
                                                          refine ⟨_, rfl, ?_⟩
                                                          have n0_ := Aside0.mk (Kd.Q_below (by (with_reducible repeat (first | apply Kd.Q_alloc | apply Kd.Q_drewN | apply Kd.Q_drew)); exact HO_5.out) hb)
                                                          have n1_ := Aside0.mk (Kd.Q_below (by (with_reducible repeat (first | apply Kd.Q_alloc | apply Kd.Q_drewN | apply Kd.Q_drew)); exact HO_6.out) hb)
                                                          have n2_ := Aside0.mk (blk_below (g := gb638) (o := .cells #[.slice A0_0 l0_0.length c0_0, .int .i64 a0_1] 28 (0, 0)) (by (with_reducible repeat (first | refine blk_drewN ?_ _ | refine blk_drew ?_ | refine blk_alloc ?_ _)); exact BK638.out) hb)
                                                          have n3_ := Aside0.mk (below_step (by repeat (first | (with_reducible first | exact HB.out | apply below_alloc | apply pw_below_drewN | apply below_drew1 | refine below_set ?_ GE638.out) | exact HB.out)) hb)
                                                          clear HO_5
                                                          clear HO_6
                                                          clear BK638
                                                          clear HB
                                                          have HO_5 := n0_
                                                          have HO_6 := n1_
                                                          have BK638 := n2_
                                                          have HB := n3_
                                                          clear n0_ n1_ n2_ n3_
                                                          (try clear hb)
                                                          (try clear hb2)
                                                          (try clear hk)
                                                          (try clear hi)
                                                          refine hK.out _ _ (HS0_) (fun hHeld => ?_)
                                                          clear hK K
                                                          refine norm_ (a' := ?_) ?_ ?_
                                                          rotate_left
                                                          · show Act.put _ (some 77) _ = _
                                                            simp only [Act.put, List.setIfInBounds_toArray, List.set_cons_zero, List.set_cons_succ, i64_w, i32_w]
                                                            rfl
                                                          refine pure_ (i := 6) (N := some 78) (v := ?_) (a' := ?_) #[true, true, true, true, true, true, true, false, false] rfl rfl (any_of HT_.out (by kernel_rfl)) (fun _ _ _ h => h) (Or.inl ⟨by rfl, ?_⟩) ?_ ?_
                                                          rotate_left
                                                          · intro w'
                                                            go_simp
                                                            with_reducible rfl
                                                          rotate_left
                                                          · simp only [Act.put, List.setIfInBounds_toArray, List.set_cons_zero, List.set_cons_succ, i64_w, i32_w]
                                                            rfl
                                                          refine pure_ (i := 7) (N := some 79) (v := ?_) (a' := ?_) #[true, true, true, true, true, true, true, true, false] rfl rfl (any_of HT_.out (by kernel_rfl)) (fun _ _ _ h => h) (Or.inl ⟨by rfl, ?_⟩) ?_ ?_
                                                          rotate_left
                                                          · intro w'
                                                            go_simp
                                                            with_reducible rfl
                                                          rotate_left
                                                          · simp only [Act.put, List.setIfInBounds_toArray, List.set_cons_zero, List.set_cons_succ, i64_w, i32_w]
                                                            rfl
                                                          refine pure_ (i := 8) (N := some 80) (v := ?_) (a' := ?_) #[true, true, true, true, true, true, true, true, true] rfl rfl (any_of HT_.out (by kernel_rfl)) (fun _ _ _ h => h) (Or.inl ⟨by rfl, ?_⟩) ?_ ?_
                                                          rotate_left
                                                          · intro w'
                                                            go_simp
                                                            with_reducible rfl
                                                          rotate_left
                                                          · simp only [Act.put, List.setIfInBounds_toArray, List.set_cons_zero, List.set_cons_succ, i64_w, i32_w]
                                                            rfl
                                                          refine done_ (done_of HT_.out (by kernel_rfl)) ?_
                                                          have q78 : (1 : Int) ≤ ((x6_3.length : Int) : Int) := of_decide_eq_true (by first | (with_reducible assumption) | assumption)
                                                          obtain ⟨i078, hi078, _, hsz78, _⟩ := info_parts info9
                                                          have hcut78 := cut_from (P := Tryd.prog) 65 9 .i64 Tryd.underlying65 hi078 1 hsz78 (some ad655) x6_3.length co76 1 (by omega) q78
                                                          have hr78 := Kd.Q_drop (k := (1 : Int).toNat) HO_6.out (by omega)
                                                          obtain ⟨A78, hA78⟩ : ∃ A1, A1 = (if co76 = (1 : Int).toNat then (some ad655) else ((some ad655) : Option Addr).map (·.add ((1 : Int).toNat * 1))) := ⟨_, rfl⟩
                                                          obtain ⟨c78, hc78⟩ : ∃ c1, c1 = co76 - (1 : Int).toNat := ⟨_, rfl⟩
                                                          have hy78 : y657.length = x6_3.length - (1 : Int).toNat := (by rw [Ny657.out, List.length_drop])
                                                          rw [← Ny657.out] at hr78
                                                          rw [← hy78, ← hA78, ← hc78] at hcut78
                                                          replace hr78 : Kd.Q Kd.string 9 w77 w.heap.size (fun _ => True) (.slice A78 y657.length c78) y657 := (by rw [hA78, hc78, hy78]; exact hr78)
                                                          have HE78 : Aside0 ((Value.slice A78 y657.length c78).ownBlock = (.slice (some ad655) x6_3.length co76 : Value).ownBlock) := ⟨by rw [hA78]; split <;> (cases ((some ad655) : Option Addr) <;> rfl)⟩
                                                          clear hy78 hi078 hsz78 HO_6 hA78 hc78
                                                          have HO659 := Aside0.mk hr78
                                                          clear hr78
                                                          replace q78 := eq_true q78
                                                          obtain ⟨Ao79, co79, eo79, _⟩ := Kd.Q_slice HO_5.out
                                                          subst eo79
                                                          have q80 : (1 : Int) ≤ ((x5_3.length : Int) : Int) := of_decide_eq_true (by first | (with_reducible assumption) | assumption)
                                                          obtain ⟨i080, hi080, _, hsz80, _⟩ := info_parts info3
                                                          have hcut80 := cut_from (P := Tryd.prog) 42 3 .i64 Tryd.underlying42 hi080 1 hsz80 Ao79 x5_3.length co79 1 (by omega) q80
                                                          have hr80 := Kd.Q_drop (k := (1 : Int).toNat) HO_5.out (by omega)
                                                          obtain ⟨A80, hA80⟩ : ∃ A1, A1 = (if co79 = (1 : Int).toNat then Ao79 else (Ao79 : Option Addr).map (·.add ((1 : Int).toNat * 1))) := ⟨_, rfl⟩
                                                          obtain ⟨c80, hc80⟩ : ∃ c1, c1 = co79 - (1 : Int).toNat := ⟨_, rfl⟩
                                                          have hy80 : y660.length = x5_3.length - (1 : Int).toNat := (by rw [Ny660.out, List.length_drop])
                                                          rw [← Ny660.out] at hr80
                                                          rw [← hy80, ← hA80, ← hc80] at hcut80
                                                          replace hr80 : Kd.Q (Kd.int .i64) 3 w77 w.heap.size (fun _ => True) (.slice A80 y660.length c80) y660 := (by rw [hA80, hc80, hy80]; exact hr80)
                                                          have HE80 : Aside0 ((Value.slice A80 y660.length c80).ownBlock = (.slice Ao79 x5_3.length co79 : Value).ownBlock) := ⟨by rw [hA80]; split <;> (cases (Ao79 : Option Addr) <;> rfl)⟩
                                                          clear hy80 hi080 hsz80 HO_5 hA80 hc80
                                                          have HO662 := Aside0.mk hr80
                                                          clear hr80
                                                          replace q80 := eq_true q80
                                                          have p663 : 0 ≤ (0 : Int) := (by omega)
                                                          have q663 : 0 < (y657.length : Int) := of_decide_eq_true (by first | (with_reducible assumption) | assumption)
                                                          obtain ⟨ad663, e663, hx663_0⟩ := Kd.at_string (Kd.Q_reads' HO659.out).2.2 0 p663 q663
                                                          cases e663
                                                          have qi663 : (0 < y657.length) = True := eq_true (by omega)
                                                          (try rw [show ((0 : Int)).toNat = 0 from rfl] at hx663_0)
                                                          (try rw [Addr.add_zero'] at hx663_0)
                                                          replace p663 := eq_true p663
                                                          replace q663 := eq_true q663
                                                          have p664 : 0 ≤ (0 : Int) := (by omega)
                                                          have q664 : 0 < (y657.length : Int) := of_decide_eq_true (by first | (with_reducible assumption) | assumption)
                                                          obtain ⟨ad664, e664, hx664_0⟩ := Kd.at_string (Kd.Q_reads' HO659.out).2.2 0 p664 q664
                                                          obtain rfl : ad663 = ad664 := (by injection e664)
                                                          have qi664 : (0 < y657.length) = True := eq_true (by omega)
                                                          (try rw [show ((0 : Int)).toNat = 0 from rfl] at hx664_0)
                                                          (try rw [Addr.add_zero'] at hx664_0)
                                                          replace p664 := eq_true p664
                                                          replace q664 := eq_true q664
                                                          have p665 : 0 ≤ (0 : Int) := (by omega)
                                                          have q665 : 0 < (y657.length : Int) := of_decide_eq_true (by first | (with_reducible assumption) | assumption)
                                                          obtain ⟨ad665, e665, hx665_0⟩ := Kd.at_string (Kd.Q_reads' HO659.out).2.2 0 p665 q665
                                                          obtain rfl : ad663 = ad665 := (by injection e665)
                                                          have qi665 : (0 < y657.length) = True := eq_true (by omega)
                                                          (try rw [show ((0 : Int)).toNat = 0 from rfl] at hx665_0)
                                                          (try rw [Addr.add_zero'] at hx665_0)
                                                          replace p665 := eq_true p665
                                                          replace q665 := eq_true q665
                                                          have p73 : 0 ≤ (2 : Int) := (by omega)
                                                          have q73 : 2 < (rdOf ByteArray.empty y657 0).size := (by have : (2 : Int) < ((rdOf ByteArray.empty y657 0).size : Int) := of_decide_eq_true (by first | (with_reducible assumption) | assumption); omega)
                                                          have hx73 : ∀ h : 2 < (rdOf ByteArray.empty y657 0).size, (((rdOf ByteArray.empty y657 0)[2]'h).toNat : Int) = bt (rdOf ByteArray.empty y657 0) 2 := bt_at (rdOf ByteArray.empty y657 0) 2
                                                          clear p73
                                                          have qi73 : (2 < ((rdOf ByteArray.empty y657 0).size : Int)) = True := eq_true (of_decide_eq_true (by first | (with_reducible assumption) | assumption))
                                                          replace q73 := eq_true q73
                                                          try go_wp2
                                                          go_ret
                                                          exact ⟨by first | rfl | (simp [errW_none, errW_some] <;> rfl) | (simp [*, errW_none, errW_some] <;> rfl), by repeat (first | (with_reducible first | exact HB.out | apply below_alloc | apply pw_below_drewN | apply below_drew1 | refine below_set ?_ GE638.out) | exact HB.out)⟩
                                                        · rw [if_neg c74] at H
                                                          have c74b0 : ((bt (rdOf ByteArray.empty y657 0) 2) == 32) = false := beq_eq_false_iff_ne.mpr c74
                                                          have c74b1 : ((bt (rdOf ByteArray.empty y657 0) 2) != 32) = true := bne_iff_ne.mpr c74
                                                          by_cases c81 : 1 ≤ (y657.length : Int)
                                                          · rw [if_pos c81] at H
                                                            have c81b0 := eq_true c81
                                                            have c81b1 : decide (1 ≤ (y657.length : Int)) = true := decide_eq_true c81
                                                            clear c81
                                                            obtain ⟨y666, hy666⟩ : ∃ y_ : List ByteArray, y_ = (y657.drop (1 : Int).toNat) := ⟨_, rfl⟩
                                                            replace H : (seedcornlaw11_ListingLines.l0 kj39 y660 y666 (wrap64 (x7_3 + 1)) l0_0 a0_1) = some r := by first | (rw [hy666]; with_reducible exact H) | (have H2_ := (Option.bind_some _ _).symm.trans H; rw [hy666]; with_reducible exact H2_) | (have H2_ := (Option.bind_some _ _).symm.trans H; with_reducible exact H2_) | with_reducible exact H | (rw [hy666]; exact H) | exact H
                                                            have Ny666 := Aside0.mk hy666
                                                            clear hy666
                                                            have H' := Aside0.mk H
                                                            clear H
                                                            try go_wp2
                                                            have n0_ := Aside0.mk (Kd.Q_drew HO_5.out)
                                                            have n1_ := Aside0.mk (Kd.Q_drew HO_6.out)
                                                            have n2_ := Aside0.mk (blk_drew BK638.out)
                                                            have n3_ := Aside0.mk (below_drew1 HB.out)
                                                            clear HO_5
                                                            clear HO_6
                                                            clear BK638
                                                            clear HB
                                                            have HO_5 := n0_
                                                            have HO_6 := n1_
                                                            have BK638 := n2_
                                                            have HB := n3_
                                                            clear n0_ n1_ n2_ n3_
                                                            obtain ⟨Ao83, co83, eo83, _⟩ := Kd.Q_slice HO_6.out
                                                            (first | subst eo83 | (injection eo83 with f1_ f2_ f3_; have f4_ := f1_.symm; have f5_ := f3_.symm; clear f1_ f2_ f3_; subst f4_; subst f5_))
                                                            have p655 : 0 ≤ (0 : Int) := (by omega)
                                                            have q655 : 0 < (x6_3.length : Int) := of_decide_eq_true (by first | (with_reducible assumption) | assumption)
                                                            obtain ⟨ad655, e655, hx655_0⟩ := Kd.at_string (Kd.Q_reads' HO_6.out).2.2 0 p655 q655
                                                            cases e655
                                                            have qi655 : (0 < x6_3.length) = True := eq_true (by omega)
                                                            (try rw [show ((0 : Int)).toNat = 0 from rfl] at hx655_0)
                                                            (try rw [Addr.add_zero'] at hx655_0)
                                                            replace p655 := eq_true p655
                                                            replace q655 := eq_true q655
                                                            refine start_ (n := 9) (S := fun w' => w'.cell? ad655 = some (.string (rdOf ByteArray.empty x6_3 0))) (ds := []) #[false, false, false, false, false, false, false, false, false] (by kernel_rfl) rfl rfl (hx655_0) (fun hHeld => ?_); refine with_tabW seedcornlaw11_ListingLines.tab15 seedcornlaw11_ListingLines.bits15 (fun HT_ HW_ => ?_)
                                                            generalize wc.drew = w82 at HO_5 HO_6 BK638 HB hx655_0 hHeld ⊢
                                                            refine pure_ (i := 0) (N := some 72) (v := ?_) (a' := ?_) #[true, false, false, false, false, false, false, false, false] rfl rfl (any_of HT_.out (by kernel_rfl)) (fun _ _ _ h => h) (Or.inl ⟨by rfl, ?_⟩) ?_ ?_
                                                            rotate_left
                                                            · intro w'
                                                              go_simp
                                                              with_reducible rfl
                                                            rotate_left
                                                            · simp only [Act.put, List.setIfInBounds_toArray, List.set_cons_zero, List.set_cons_succ, i64_w, i32_w]
                                                              rfl
                                                            refine pure_ (i := 1) (N := some 73) (v := ?_) (a' := ?_) #[true, true, false, false, false, false, false, false, false] rfl rfl (any_of HT_.out (by kernel_rfl)) (fun _ _ _ h => h) (Or.inl ⟨by rfl, ?_⟩) ?_ ?_
                                                            rotate_left
                                                            · intro w'
                                                              go_simp
                                                              with_reducible rfl
                                                            rotate_left
                                                            · simp only [Act.put, List.setIfInBounds_toArray, List.set_cons_zero, List.set_cons_succ, i64_w, i32_w]
                                                              rfl
                                                            refine pure_ (i := 3) (N := some 75) (v := ?_) (a' := ?_) #[true, true, false, true, false, false, false, false, false] rfl rfl (any_of HT_.out (by kernel_rfl)) (fun _ _ _ h => h) (Or.inl ⟨by rfl, ?_⟩) ?_ ?_
                                                            rotate_left
                                                            · intro w'
                                                              go_simp
                                                              with_reducible rfl
                                                            rotate_left
                                                            · simp only [Act.put, List.setIfInBounds_toArray, List.set_cons_zero, List.set_cons_succ, i64_w, i32_w]
                                                              rfl
                                                            refine pure_ (i := 4) (N := some 76) (v := ?_) (a' := ?_) #[true, true, false, true, true, false, false, false, false] rfl rfl (any_of HT_.out (by kernel_rfl)) (fun _ _ _ h => h) (Or.inl ⟨by rfl, ?_⟩) ?_ ?_
                                                            rotate_left
                                                            · intro w'
                                                              go_simp
                                                              with_reducible rfl
                                                            rotate_left
                                                            · simp only [Act.put, List.setIfInBounds_toArray, List.set_cons_zero, List.set_cons_succ, i64_w, i32_w]
                                                              rfl
                                                            refine take_ (i := 2) (N := some 74) (v := ?_) (a' := ?_) #[true, true, true, true, true, false, false, false, false] rfl rfl (take_ofW HT_.out HW_.out (by kernel_rfl)) (fun _ _ _ h => h) (Or.inl ⟨by rfl, ?_⟩) hHeld ?_ ?_
                                                            rotate_left
                                                            · intro w' s0
                                                              go_simp
                                                              with_reducible rfl
                                                            rotate_left
                                                            · simp only [Act.put, List.setIfInBounds_toArray, List.set_cons_zero, List.set_cons_succ, i64_w, i32_w]
                                                              rfl
                                                            refine one_ (i := 5) (N := some 77) #[true, true, true, true, true, true, false, false, false] rfl rfl (one_of HT_.out (by kernel_rfl)) (by decide) (fun K hK => ?_)
                                                            refine goes_ Tryd.func45 (by kernel_rfl) rfl #[.int .u32 ((x7_3) % 4294967296)] (by rfl) rfl rfl (by (try simp only [List.map_toArray, List.map_cons, List.map_nil]); first | done | rfl | (simp only [List.length_drop, List.length_take]; rfl)) ?_
                                                            with_reducible refine (word_Text.calls ((x7_3) % 4294967296) t656 _ ?side1 A48.out).mono ?_
                                                            (case side1 => exact GT.below HGT.out (by repeat (first | (with_reducible first | exact HB.out | apply below_alloc | apply pw_below_drewN | apply below_drew1 | refine below_set ?_ GE638.out) | exact HB.out)))
                                                            rintro e w84 ⟨rfl, hb⟩
                                                            have HS0_ := (hb.cell (World.block_lt_of_cell? _ _ (hHeld))).trans (hHeld)
                                                            refine ⟨_, rfl, ?_⟩
                                                            have n0_ := Aside0.mk (Kd.Q_below (by (with_reducible repeat (first | apply Kd.Q_alloc | apply Kd.Q_drewN | apply Kd.Q_drew)); exact HO_5.out) hb)
                                                            have n1_ := Aside0.mk (Kd.Q_below (by (with_reducible repeat (first | apply Kd.Q_alloc | apply Kd.Q_drewN | apply Kd.Q_drew)); exact HO_6.out) hb)
                                                            have n2_ := Aside0.mk (blk_below (g := gb638) (o := .cells #[.slice A0_0 l0_0.length c0_0, .int .i64 a0_1] 28 (0, 0)) (by (with_reducible repeat (first | refine blk_drewN ?_ _ | refine blk_drew ?_ | refine blk_alloc ?_ _)); exact BK638.out) hb)
                                                            have n3_ := Aside0.mk (below_step (by repeat (first | (with_reducible first | exact HB.out | apply below_alloc | apply pw_below_drewN | apply below_drew1 | refine below_set ?_ GE638.out) | exact HB.out)) hb)
                                                            clear HO_5
                                                            clear HO_6
                                                            clear BK638
                                                            clear HB
                                                            have HO_5 := n0_
                                                            have HO_6 := n1_
                                                            have BK638 := n2_
                                                            have HB := n3_
                                                            clear n0_ n1_ n2_ n3_
                                                            (try clear hb)
                                                            (try clear hb2)
                                                            (try clear hk)
                                                            (try clear hi)
                                                            refine hK.out _ _ (HS0_) (fun hHeld => ?_)
                                                            clear hK K
                                                            refine norm_ (a' := ?_) ?_ ?_
                                                            rotate_left
                                                            · show Act.put _ (some 77) _ = _
                                                              simp only [Act.put, List.setIfInBounds_toArray, List.set_cons_zero, List.set_cons_succ, i64_w, i32_w]
                                                              rfl
                                                            refine pure_ (i := 6) (N := some 78) (v := ?_) (a' := ?_) #[true, true, true, true, true, true, true, false, false] rfl rfl (any_of HT_.out (by kernel_rfl)) (fun _ _ _ h => h) (Or.inl ⟨by rfl, ?_⟩) ?_ ?_
                                                            rotate_left
                                                            · intro w'
                                                              go_simp
                                                              with_reducible rfl
                                                            rotate_left
                                                            · simp only [Act.put, List.setIfInBounds_toArray, List.set_cons_zero, List.set_cons_succ, i64_w, i32_w]
                                                              rfl
                                                            refine pure_ (i := 7) (N := some 79) (v := ?_) (a' := ?_) #[true, true, true, true, true, true, true, true, false] rfl rfl (any_of HT_.out (by kernel_rfl)) (fun _ _ _ h => h) (Or.inl ⟨by rfl, ?_⟩) ?_ ?_
                                                            rotate_left
                                                            · intro w'
                                                              go_simp
                                                              with_reducible rfl
                                                            rotate_left
                                                            · simp only [Act.put, List.setIfInBounds_toArray, List.set_cons_zero, List.set_cons_succ, i64_w, i32_w]
                                                              rfl
                                                            refine pure_ (i := 8) (N := some 80) (v := ?_) (a' := ?_) #[true, true, true, true, true, true, true, true, true] rfl rfl (any_of HT_.out (by kernel_rfl)) (fun _ _ _ h => h) (Or.inl ⟨by rfl, ?_⟩) ?_ ?_
                                                            rotate_left
                                                            · intro w'
                                                              go_simp
                                                              with_reducible rfl
                                                            rotate_left
                                                            · simp only [Act.put, List.setIfInBounds_toArray, List.set_cons_zero, List.set_cons_succ, i64_w, i32_w]
                                                              rfl
                                                            refine done_ (done_of HT_.out (by kernel_rfl)) ?_
                                                            have q85 : (1 : Int) ≤ ((x6_3.length : Int) : Int) := of_decide_eq_true (by first | (with_reducible assumption) | assumption)
                                                            obtain ⟨i085, hi085, _, hsz85, _⟩ := info_parts info9
                                                            have hcut85 := cut_from (P := Tryd.prog) 65 9 .i64 Tryd.underlying65 hi085 1 hsz85 (some ad655) x6_3.length co83 1 (by omega) q85
                                                            have hr85 := Kd.Q_drop (k := (1 : Int).toNat) HO_6.out (by omega)
                                                            obtain ⟨A85, hA85⟩ : ∃ A1, A1 = (if co83 = (1 : Int).toNat then (some ad655) else ((some ad655) : Option Addr).map (·.add ((1 : Int).toNat * 1))) := ⟨_, rfl⟩
                                                            obtain ⟨c85, hc85⟩ : ∃ c1, c1 = co83 - (1 : Int).toNat := ⟨_, rfl⟩
                                                            have hy85 : y657.length = x6_3.length - (1 : Int).toNat := (by rw [Ny657.out, List.length_drop])
                                                            rw [← Ny657.out] at hr85
                                                            rw [← hy85, ← hA85, ← hc85] at hcut85
                                                            replace hr85 : Kd.Q Kd.string 9 w84 w.heap.size (fun _ => True) (.slice A85 y657.length c85) y657 := (by rw [hA85, hc85, hy85]; exact hr85)
                                                            have HE85 : Aside0 ((Value.slice A85 y657.length c85).ownBlock = (.slice (some ad655) x6_3.length co83 : Value).ownBlock) := ⟨by rw [hA85]; split <;> (cases ((some ad655) : Option Addr) <;> rfl)⟩
                                                            clear hy85 hi085 hsz85 HO_6 hA85 hc85
                                                            have HO659 := Aside0.mk hr85
                                                            clear hr85
                                                            replace q85 := eq_true q85
                                                            obtain ⟨Ao86, co86, eo86, _⟩ := Kd.Q_slice HO_5.out
                                                            subst eo86
                                                            have q87 : (1 : Int) ≤ ((x5_3.length : Int) : Int) := of_decide_eq_true (by first | (with_reducible assumption) | assumption)
                                                            obtain ⟨i087, hi087, _, hsz87, _⟩ := info_parts info3
                                                            have hcut87 := cut_from (P := Tryd.prog) 42 3 .i64 Tryd.underlying42 hi087 1 hsz87 Ao86 x5_3.length co86 1 (by omega) q87
                                                            have hr87 := Kd.Q_drop (k := (1 : Int).toNat) HO_5.out (by omega)
                                                            obtain ⟨A87, hA87⟩ : ∃ A1, A1 = (if co86 = (1 : Int).toNat then Ao86 else (Ao86 : Option Addr).map (·.add ((1 : Int).toNat * 1))) := ⟨_, rfl⟩
                                                            obtain ⟨c87, hc87⟩ : ∃ c1, c1 = co86 - (1 : Int).toNat := ⟨_, rfl⟩
                                                            have hy87 : y660.length = x5_3.length - (1 : Int).toNat := (by rw [Ny660.out, List.length_drop])
                                                            rw [← Ny660.out] at hr87
                                                            rw [← hy87, ← hA87, ← hc87] at hcut87
                                                            replace hr87 : Kd.Q (Kd.int .i64) 3 w84 w.heap.size (fun _ => True) (.slice A87 y660.length c87) y660 := (by rw [hA87, hc87, hy87]; exact hr87)
                                                            have HE87 : Aside0 ((Value.slice A87 y660.length c87).ownBlock = (.slice Ao86 x5_3.length co86 : Value).ownBlock) := ⟨by rw [hA87]; split <;> (cases (Ao86 : Option Addr) <;> rfl)⟩
                                                            clear hy87 hi087 hsz87 HO_5 hA87 hc87
                                                            have HO662 := Aside0.mk hr87
                                                            clear hr87
                                                            replace q87 := eq_true q87
                                                            have p663 : 0 ≤ (0 : Int) := (by omega)
                                                            have q663 : 0 < (y657.length : Int) := of_decide_eq_true (by first | (with_reducible assumption) | assumption)
                                                            obtain ⟨ad663, e663, hx663_0⟩ := Kd.at_string (Kd.Q_reads' HO659.out).2.2 0 p663 q663
                                                            cases e663
                                                            have qi663 : (0 < y657.length) = True := eq_true (by omega)
                                                            (try rw [show ((0 : Int)).toNat = 0 from rfl] at hx663_0)
                                                            (try rw [Addr.add_zero'] at hx663_0)
                                                            replace p663 := eq_true p663
                                                            replace q663 := eq_true q663
                                                            have p664 : 0 ≤ (0 : Int) := (by omega)
                                                            have q664 : 0 < (y657.length : Int) := of_decide_eq_true (by first | (with_reducible assumption) | assumption)
                                                            obtain ⟨ad664, e664, hx664_0⟩ := Kd.at_string (Kd.Q_reads' HO659.out).2.2 0 p664 q664
                                                            obtain rfl : ad663 = ad664 := (by injection e664)
                                                            have qi664 : (0 < y657.length) = True := eq_true (by omega)
                                                            (try rw [show ((0 : Int)).toNat = 0 from rfl] at hx664_0)
                                                            (try rw [Addr.add_zero'] at hx664_0)
                                                            replace p664 := eq_true p664
                                                            replace q664 := eq_true q664
                                                            have p665 : 0 ≤ (0 : Int) := (by omega)
                                                            have q665 : 0 < (y657.length : Int) := of_decide_eq_true (by first | (with_reducible assumption) | assumption)
                                                            obtain ⟨ad665, e665, hx665_0⟩ := Kd.at_string (Kd.Q_reads' HO659.out).2.2 0 p665 q665
                                                            obtain rfl : ad663 = ad665 := (by injection e665)
                                                            have qi665 : (0 < y657.length) = True := eq_true (by omega)
                                                            (try rw [show ((0 : Int)).toNat = 0 from rfl] at hx665_0)
                                                            (try rw [Addr.add_zero'] at hx665_0)
                                                            replace p665 := eq_true p665
                                                            replace q665 := eq_true q665
                                                            have p73 : 0 ≤ (2 : Int) := (by omega)
                                                            have q73 : 2 < (rdOf ByteArray.empty y657 0).size := (by have : (2 : Int) < ((rdOf ByteArray.empty y657 0).size : Int) := of_decide_eq_true (by first | (with_reducible assumption) | assumption); omega)
                                                            have hx73 : ∀ h : 2 < (rdOf ByteArray.empty y657 0).size, (((rdOf ByteArray.empty y657 0)[2]'h).toNat : Int) = bt (rdOf ByteArray.empty y657 0) 2 := bt_at (rdOf ByteArray.empty y657 0) 2
                                                            clear p73
                                                            have qi73 : (2 < ((rdOf ByteArray.empty y657 0).size : Int)) = True := eq_true (of_decide_eq_true (by first | (with_reducible assumption) | assumption))
                                                            replace q73 := eq_true q73
                                                            have q88 : (1 : Int) ≤ ((y657.length : Int) : Int) := of_decide_eq_true (by first | (with_reducible assumption) | assumption)
                                                            obtain ⟨i088, hi088, _, hsz88, _⟩ := info_parts info9
                                                            have hcut88 := cut_from (P := Tryd.prog) 65 9 .i64 Tryd.underlying65 hi088 1 hsz88 (some ad663) y657.length c85 1 (by omega) q88
                                                            have hr88 := Kd.Q_drop (k := (1 : Int).toNat) HO659.out (by omega)
                                                            obtain ⟨A88, hA88⟩ : ∃ A1, A1 = (if c85 = (1 : Int).toNat then (some ad663) else ((some ad663) : Option Addr).map (·.add ((1 : Int).toNat * 1))) := ⟨_, rfl⟩
                                                            obtain ⟨c88, hc88⟩ : ∃ c1, c1 = c85 - (1 : Int).toNat := ⟨_, rfl⟩
                                                            have hy88 : y666.length = y657.length - (1 : Int).toNat := (by rw [Ny666.out, List.length_drop])
                                                            rw [← Ny666.out] at hr88
                                                            rw [← hy88, ← hA88, ← hc88] at hcut88
                                                            replace hr88 : Kd.Q Kd.string 9 w84 w.heap.size (fun _ => True) (.slice A88 y666.length c88) y666 := (by rw [hA88, hc88, hy88]; exact hr88)
                                                            have HE88 : Aside0 ((Value.slice A88 y666.length c88).ownBlock = (.slice (some ad663) y657.length c85 : Value).ownBlock) := ⟨by rw [hA88]; split <;> (cases ((some ad663) : Option Addr) <;> rfl)⟩
                                                            clear hy88 hi088 hsz88 HO659 hA88 hc88
                                                            have HO668 := Aside0.mk hr88
                                                            clear hr88
                                                            replace q88 := eq_true q88
                                                            try go_wp2
                                                            go_roundg kj39
                                                            case measure => have := HJ3.out; have := HJ15.out; have := HK3.out; have := HJ39.out; omega
                                                            case rel => exact ⟨(y660), (y666), (wrap64 (x7_3 + 1)), (by first | rfl | (simp; done) | (simp [*]; done)), H', ⟨by have := HJ3.out; have := HJ15.out; have := HK3.out; have := HJ39.out; omega⟩, ⟨by (with_reducible repeat (first | apply Kd.Q_alloc | apply Kd.Q_drewN | apply Kd.Q_drew)); exact HO662.out⟩, ⟨by (with_reducible repeat (first | apply Kd.Q_alloc | apply Kd.Q_drewN | apply Kd.Q_drew)); exact HO668.out⟩, ⟨by (with_reducible repeat (first | refine blk_drewN ?_ _ | refine blk_drew ?_ | refine blk_alloc ?_ _)); exact BK638.out⟩, ⟨by repeat (first | (with_reducible first | exact HB.out | apply below_alloc | apply pw_below_drewN | apply below_drew1 | refine below_set ?_ GE638.out) | exact HB.out)⟩⟩
                                                          · rw [if_neg c81] at H
                                                            exact absurd H (by simp)
                                                      · rw [if_neg c72] at H
                                                        exact absurd H (by simp)
                                                    · rw [if_neg c71] at H
                                                      have c71b0 : (((rdOf ByteArray.empty y657 0).extract 0 2).toList == ([32, 32] : List UInt8)) = false := beq_eq_false_iff_ne.mpr c71
                                                      have c71b1 : (((rdOf ByteArray.empty y657 0).extract 0 2).toList != ([32, 32] : List UInt8)) = true := bne_iff_ne.mpr c71
                                                      obtain rfl := Option.some.inj H
                                                      try go_wp2
                                                      have n0_ := Aside0.mk (Kd.Q_drew HO_5.out)
                                                      have n1_ := Aside0.mk (Kd.Q_drew HO_6.out)
                                                      have n2_ := Aside0.mk (blk_drew BK638.out)
                                                      have n3_ := Aside0.mk (below_drew1 HB.out)
                                                      clear HO_5
                                                      clear HO_6
                                                      clear BK638
                                                      clear HB
                                                      have HO_5 := n0_
                                                      have HO_6 := n1_
                                                      have BK638 := n2_
                                                      have HB := n3_
                                                      clear n0_ n1_ n2_ n3_
                                                      obtain ⟨Ao90, co90, eo90, _⟩ := Kd.Q_slice HO_6.out
                                                      (first | subst eo90 | (injection eo90 with f1_ f2_ f3_; have f4_ := f1_.symm; have f5_ := f3_.symm; clear f1_ f2_ f3_; subst f4_; subst f5_))
                                                      have p655 : 0 ≤ (0 : Int) := (by omega)
                                                      have q655 : 0 < (x6_3.length : Int) := of_decide_eq_true (by first | (with_reducible assumption) | assumption)
                                                      obtain ⟨ad655, e655, hx655_0⟩ := Kd.at_string (Kd.Q_reads' HO_6.out).2.2 0 p655 q655
                                                      cases e655
                                                      have qi655 : (0 < x6_3.length) = True := eq_true (by omega)
                                                      (try rw [show ((0 : Int)).toNat = 0 from rfl] at hx655_0)
                                                      (try rw [Addr.add_zero'] at hx655_0)
                                                      replace p655 := eq_true p655
                                                      replace q655 := eq_true q655
                                                      refine start_ (n := 9) (S := fun w' => w'.cell? ad655 = some (.string (rdOf ByteArray.empty x6_3 0))) (ds := []) #[false, false, false, false, false, false, false, false, false] (by kernel_rfl) rfl rfl (hx655_0) (fun hHeld => ?_); refine with_tabW seedcornlaw11_ListingLines.tab15 seedcornlaw11_ListingLines.bits15 (fun HT_ HW_ => ?_)
                                                      generalize wc.drew = w89 at HO_5 HO_6 BK638 HB hx655_0 hHeld ⊢
                                                      refine pure_ (i := 0) (N := some 72) (v := ?_) (a' := ?_) #[true, false, false, false, false, false, false, false, false] rfl rfl (any_of HT_.out (by kernel_rfl)) (fun _ _ _ h => h) (Or.inl ⟨by rfl, ?_⟩) ?_ ?_
                                                      rotate_left
                                                      · intro w'
                                                        go_simp
                                                        with_reducible rfl
                                                      rotate_left
                                                      · simp only [Act.put, List.setIfInBounds_toArray, List.set_cons_zero, List.set_cons_succ, i64_w, i32_w]
                                                        rfl
                                                      refine pure_ (i := 1) (N := some 73) (v := ?_) (a' := ?_) #[true, true, false, false, false, false, false, false, false] rfl rfl (any_of HT_.out (by kernel_rfl)) (fun _ _ _ h => h) (Or.inl ⟨by rfl, ?_⟩) ?_ ?_
                                                      rotate_left
                                                      · intro w'
                                                        go_simp
                                                        with_reducible rfl
                                                      rotate_left
                                                      · simp only [Act.put, List.setIfInBounds_toArray, List.set_cons_zero, List.set_cons_succ, i64_w, i32_w]
                                                        rfl
                                                      refine pure_ (i := 3) (N := some 75) (v := ?_) (a' := ?_) #[true, true, false, true, false, false, false, false, false] rfl rfl (any_of HT_.out (by kernel_rfl)) (fun _ _ _ h => h) (Or.inl ⟨by rfl, ?_⟩) ?_ ?_
                                                      rotate_left
                                                      · intro w'
                                                        go_simp
                                                        with_reducible rfl
                                                      rotate_left
                                                      · simp only [Act.put, List.setIfInBounds_toArray, List.set_cons_zero, List.set_cons_succ, i64_w, i32_w]
                                                        rfl
                                                      refine pure_ (i := 4) (N := some 76) (v := ?_) (a' := ?_) #[true, true, false, true, true, false, false, false, false] rfl rfl (any_of HT_.out (by kernel_rfl)) (fun _ _ _ h => h) (Or.inl ⟨by rfl, ?_⟩) ?_ ?_
                                                      rotate_left
                                                      · intro w'
                                                        go_simp
                                                        with_reducible rfl
                                                      rotate_left
                                                      · simp only [Act.put, List.setIfInBounds_toArray, List.set_cons_zero, List.set_cons_succ, i64_w, i32_w]
                                                        rfl
                                                      refine take_ (i := 2) (N := some 74) (v := ?_) (a' := ?_) #[true, true, true, true, true, false, false, false, false] rfl rfl (take_ofW HT_.out HW_.out (by kernel_rfl)) (fun _ _ _ h => h) (Or.inl ⟨by rfl, ?_⟩) hHeld ?_ ?_
                                                      rotate_left
                                                      · intro w' s0
                                                        go_simp
                                                        with_reducible rfl
                                                      rotate_left
                                                      · simp only [Act.put, List.setIfInBounds_toArray, List.set_cons_zero, List.set_cons_succ, i64_w, i32_w]
                                                        rfl
                                                      refine one_ (i := 5) (N := some 77) #[true, true, true, true, true, true, false, false, false] rfl rfl (one_of HT_.out (by kernel_rfl)) (by decide) (fun K hK => ?_)
                                                      refine goes_ Tryd.func45 (by kernel_rfl) rfl #[.int .u32 ((x7_3) % 4294967296)] (by rfl) rfl rfl (by (try simp only [List.map_toArray, List.map_cons, List.map_nil]); first | done | rfl | (simp only [List.length_drop, List.length_take]; rfl)) ?_
                                                      with_reducible refine (word_Text.calls ((x7_3) % 4294967296) t656 _ ?side1 A48.out).mono ?_
                                                      (case side1 => exact GT.below HGT.out (by repeat (first | (with_reducible first | exact HB.out | apply below_alloc | apply pw_below_drewN | apply below_drew1 | refine below_set ?_ GE638.out) | exact HB.out)))
                                                      rintro e w91 ⟨rfl, hb⟩
                                                      have HS0_ := (hb.cell (World.block_lt_of_cell? _ _ (hHeld))).trans (hHeld)
                                                      refine ⟨_, rfl, ?_⟩
                                                      have n0_ := Aside0.mk (Kd.Q_below (by (with_reducible repeat (first | apply Kd.Q_alloc | apply Kd.Q_drewN | apply Kd.Q_drew)); exact HO_5.out) hb)
                                                      have n1_ := Aside0.mk (Kd.Q_below (by (with_reducible repeat (first | apply Kd.Q_alloc | apply Kd.Q_drewN | apply Kd.Q_drew)); exact HO_6.out) hb)
                                                      have n2_ := Aside0.mk (blk_below (g := gb638) (o := .cells #[.slice A0_0 l0_0.length c0_0, .int .i64 a0_1] 28 (0, 0)) (by (with_reducible repeat (first | refine blk_drewN ?_ _ | refine blk_drew ?_ | refine blk_alloc ?_ _)); exact BK638.out) hb)
                                                      have n3_ := Aside0.mk (below_step (by repeat (first | (with_reducible first | exact HB.out | apply below_alloc | apply pw_below_drewN | apply below_drew1 | refine below_set ?_ GE638.out) | exact HB.out)) hb)
                                                      clear HO_5
                                                      clear HO_6
                                                      clear BK638
                                                      clear HB
                                                      have HO_5 := n0_
                                                      have HO_6 := n1_
                                                      have BK638 := n2_
                                                      have HB := n3_
                                                      clear n0_ n1_ n2_ n3_
                                                      (try clear hb)
                                                      (try clear hb2)
                                                      (try clear hk)
                                                      (try clear hi)
                                                      refine hK.out _ _ (HS0_) (fun hHeld => ?_)
                                                      clear hK K
                                                      refine norm_ (a' := ?_) ?_ ?_
                                                      rotate_left
                                                      · show Act.put _ (some 77) _ = _
                                                        simp only [Act.put, List.setIfInBounds_toArray, List.set_cons_zero, List.set_cons_succ, i64_w, i32_w]
                                                        rfl
                                                      refine pure_ (i := 6) (N := some 78) (v := ?_) (a' := ?_) #[true, true, true, true, true, true, true, false, false] rfl rfl (any_of HT_.out (by kernel_rfl)) (fun _ _ _ h => h) (Or.inl ⟨by rfl, ?_⟩) ?_ ?_
                                                      rotate_left
                                                      · intro w'
                                                        go_simp
                                                        with_reducible rfl
                                                      rotate_left
                                                      · simp only [Act.put, List.setIfInBounds_toArray, List.set_cons_zero, List.set_cons_succ, i64_w, i32_w]
                                                        rfl
                                                      refine pure_ (i := 7) (N := some 79) (v := ?_) (a' := ?_) #[true, true, true, true, true, true, true, true, false] rfl rfl (any_of HT_.out (by kernel_rfl)) (fun _ _ _ h => h) (Or.inl ⟨by rfl, ?_⟩) ?_ ?_
                                                      rotate_left
                                                      · intro w'
                                                        go_simp
                                                        with_reducible rfl
                                                      rotate_left
                                                      · simp only [Act.put, List.setIfInBounds_toArray, List.set_cons_zero, List.set_cons_succ, i64_w, i32_w]
                                                        rfl
                                                      refine pure_ (i := 8) (N := some 80) (v := ?_) (a' := ?_) #[true, true, true, true, true, true, true, true, true] rfl rfl (any_of HT_.out (by kernel_rfl)) (fun _ _ _ h => h) (Or.inl ⟨by rfl, ?_⟩) ?_ ?_
                                                      rotate_left
                                                      · intro w'
                                                        go_simp
                                                        with_reducible rfl
                                                      rotate_left
                                                      · simp only [Act.put, List.setIfInBounds_toArray, List.set_cons_zero, List.set_cons_succ, i64_w, i32_w]
                                                        rfl
                                                      refine done_ (done_of HT_.out (by kernel_rfl)) ?_
                                                      have q92 : (1 : Int) ≤ ((x6_3.length : Int) : Int) := of_decide_eq_true (by first | (with_reducible assumption) | assumption)
                                                      obtain ⟨i092, hi092, _, hsz92, _⟩ := info_parts info9
                                                      have hcut92 := cut_from (P := Tryd.prog) 65 9 .i64 Tryd.underlying65 hi092 1 hsz92 (some ad655) x6_3.length co90 1 (by omega) q92
                                                      have hr92 := Kd.Q_drop (k := (1 : Int).toNat) HO_6.out (by omega)
                                                      obtain ⟨A92, hA92⟩ : ∃ A1, A1 = (if co90 = (1 : Int).toNat then (some ad655) else ((some ad655) : Option Addr).map (·.add ((1 : Int).toNat * 1))) := ⟨_, rfl⟩
                                                      obtain ⟨c92, hc92⟩ : ∃ c1, c1 = co90 - (1 : Int).toNat := ⟨_, rfl⟩
                                                      have hy92 : y657.length = x6_3.length - (1 : Int).toNat := (by rw [Ny657.out, List.length_drop])
                                                      rw [← Ny657.out] at hr92
                                                      rw [← hy92, ← hA92, ← hc92] at hcut92
                                                      replace hr92 : Kd.Q Kd.string 9 w91 w.heap.size (fun _ => True) (.slice A92 y657.length c92) y657 := (by rw [hA92, hc92, hy92]; exact hr92)
                                                      have HE92 : Aside0 ((Value.slice A92 y657.length c92).ownBlock = (.slice (some ad655) x6_3.length co90 : Value).ownBlock) := ⟨by rw [hA92]; split <;> (cases ((some ad655) : Option Addr) <;> rfl)⟩
                                                      clear hy92 hi092 hsz92 HO_6 hA92 hc92
                                                      have HO659 := Aside0.mk hr92
                                                      clear hr92
                                                      replace q92 := eq_true q92
                                                      obtain ⟨Ao93, co93, eo93, _⟩ := Kd.Q_slice HO_5.out
                                                      subst eo93
                                                      have q94 : (1 : Int) ≤ ((x5_3.length : Int) : Int) := of_decide_eq_true (by first | (with_reducible assumption) | assumption)
                                                      obtain ⟨i094, hi094, _, hsz94, _⟩ := info_parts info3
                                                      have hcut94 := cut_from (P := Tryd.prog) 42 3 .i64 Tryd.underlying42 hi094 1 hsz94 Ao93 x5_3.length co93 1 (by omega) q94
                                                      have hr94 := Kd.Q_drop (k := (1 : Int).toNat) HO_5.out (by omega)
                                                      obtain ⟨A94, hA94⟩ : ∃ A1, A1 = (if co93 = (1 : Int).toNat then Ao93 else (Ao93 : Option Addr).map (·.add ((1 : Int).toNat * 1))) := ⟨_, rfl⟩
                                                      obtain ⟨c94, hc94⟩ : ∃ c1, c1 = co93 - (1 : Int).toNat := ⟨_, rfl⟩
                                                      have hy94 : y660.length = x5_3.length - (1 : Int).toNat := (by rw [Ny660.out, List.length_drop])
                                                      rw [← Ny660.out] at hr94
                                                      rw [← hy94, ← hA94, ← hc94] at hcut94
                                                      replace hr94 : Kd.Q (Kd.int .i64) 3 w91 w.heap.size (fun _ => True) (.slice A94 y660.length c94) y660 := (by rw [hA94, hc94, hy94]; exact hr94)
                                                      have HE94 : Aside0 ((Value.slice A94 y660.length c94).ownBlock = (.slice Ao93 x5_3.length co93 : Value).ownBlock) := ⟨by rw [hA94]; split <;> (cases (Ao93 : Option Addr) <;> rfl)⟩
                                                      clear hy94 hi094 hsz94 HO_5 hA94 hc94
                                                      have HO662 := Aside0.mk hr94
                                                      clear hr94
                                                      replace q94 := eq_true q94
                                                      have p663 : 0 ≤ (0 : Int) := (by omega)
                                                      have q663 : 0 < (y657.length : Int) := of_decide_eq_true (by first | (with_reducible assumption) | assumption)
                                                      obtain ⟨ad663, e663, hx663_0⟩ := Kd.at_string (Kd.Q_reads' HO659.out).2.2 0 p663 q663
                                                      cases e663
                                                      have qi663 : (0 < y657.length) = True := eq_true (by omega)
                                                      (try rw [show ((0 : Int)).toNat = 0 from rfl] at hx663_0)
                                                      (try rw [Addr.add_zero'] at hx663_0)
                                                      replace p663 := eq_true p663
                                                      replace q663 := eq_true q663
                                                      have p664 : 0 ≤ (0 : Int) := (by omega)
                                                      have q664 : 0 < (y657.length : Int) := of_decide_eq_true (by first | (with_reducible assumption) | assumption)
                                                      obtain ⟨ad664, e664, hx664_0⟩ := Kd.at_string (Kd.Q_reads' HO659.out).2.2 0 p664 q664
                                                      obtain rfl : ad663 = ad664 := (by injection e664)
                                                      have qi664 : (0 < y657.length) = True := eq_true (by omega)
                                                      (try rw [show ((0 : Int)).toNat = 0 from rfl] at hx664_0)
                                                      (try rw [Addr.add_zero'] at hx664_0)
                                                      replace p664 := eq_true p664
                                                      replace q664 := eq_true q664
                                                      try go_wp2
                                                      go_ret
                                                      exact ⟨by first | rfl | (simp [errW_none, errW_some] <;> rfl) | (simp [*, errW_none, errW_some] <;> rfl), by repeat (first | (with_reducible first | exact HB.out | apply below_alloc | apply pw_below_drewN | apply below_drew1 | refine below_set ?_ GE638.out) | exact HB.out)⟩
                                                  · rw [if_neg c70] at H
                                                    exact absurd H (by simp)
                                                · rw [if_neg c69] at H
                                                  exact absurd H (by simp)
                                            · rw [if_neg c61] at H
                                              exact absurd H (by simp)
                                        · rw [if_neg c53] at H
                                          exact absurd H (by simp)
                                      · rw [if_neg c52] at H
                                        exact absurd H (by simp)
                                    · rw [if_neg c51] at H
                                      have c51b0 : ((rdOf ByteArray.empty x6_3 0).toList == (((⟨#[76]⟩ : ByteArray) ++ t656) ++ (⟨#[58]⟩ : ByteArray)).toList) = false := beq_eq_false_iff_ne.mpr c51
                                      have c51b1 : ((rdOf ByteArray.empty x6_3 0).toList != (((⟨#[76]⟩ : ByteArray) ++ t656) ++ (⟨#[58]⟩ : ByteArray)).toList) = true := bne_iff_ne.mpr c51
                                      obtain rfl := Option.some.inj H
                                      try go_wp2
                                      have n0_ := Aside0.mk (Kd.Q_drew HO_5.out)
                                      have n1_ := Aside0.mk (Kd.Q_drew HO_6.out)
                                      have n2_ := Aside0.mk (blk_drew BK638.out)
                                      have n3_ := Aside0.mk (below_drew1 HB.out)
                                      clear HO_5
                                      clear HO_6
                                      clear BK638
                                      clear HB
                                      have HO_5 := n0_
                                      have HO_6 := n1_
                                      have BK638 := n2_
                                      have HB := n3_
                                      clear n0_ n1_ n2_ n3_
                                      obtain ⟨Ao96, co96, eo96, _⟩ := Kd.Q_slice HO_6.out
                                      (first | subst eo96 | (injection eo96 with f1_ f2_ f3_; have f4_ := f1_.symm; have f5_ := f3_.symm; clear f1_ f2_ f3_; subst f4_; subst f5_))
                                      have p655 : 0 ≤ (0 : Int) := (by omega)
                                      have q655 : 0 < (x6_3.length : Int) := of_decide_eq_true (by first | (with_reducible assumption) | assumption)
                                      obtain ⟨ad655, e655, hx655_0⟩ := Kd.at_string (Kd.Q_reads' HO_6.out).2.2 0 p655 q655
                                      cases e655
                                      have qi655 : (0 < x6_3.length) = True := eq_true (by omega)
                                      (try rw [show ((0 : Int)).toNat = 0 from rfl] at hx655_0)
                                      (try rw [Addr.add_zero'] at hx655_0)
                                      replace p655 := eq_true p655
                                      replace q655 := eq_true q655
                                      refine start_ (n := 9) (S := fun w' => w'.cell? ad655 = some (.string (rdOf ByteArray.empty x6_3 0))) (ds := []) #[false, false, false, false, false, false, false, false, false] (by kernel_rfl) rfl rfl (hx655_0) (fun hHeld => ?_); refine with_tabW seedcornlaw11_ListingLines.tab15 seedcornlaw11_ListingLines.bits15 (fun HT_ HW_ => ?_)
                                      generalize wc.drew = w95 at HO_5 HO_6 BK638 HB hx655_0 hHeld ⊢
                                      refine pure_ (i := 0) (N := some 72) (v := ?_) (a' := ?_) #[true, false, false, false, false, false, false, false, false] rfl rfl (any_of HT_.out (by kernel_rfl)) (fun _ _ _ h => h) (Or.inl ⟨by rfl, ?_⟩) ?_ ?_
                                      rotate_left
                                      · intro w'
                                        go_simp
                                        with_reducible rfl
                                      rotate_left
                                      · simp only [Act.put, List.setIfInBounds_toArray, List.set_cons_zero, List.set_cons_succ, i64_w, i32_w]
                                        rfl
                                      refine pure_ (i := 1) (N := some 73) (v := ?_) (a' := ?_) #[true, true, false, false, false, false, false, false, false] rfl rfl (any_of HT_.out (by kernel_rfl)) (fun _ _ _ h => h) (Or.inl ⟨by rfl, ?_⟩) ?_ ?_
                                      rotate_left
                                      · intro w'
                                        go_simp
                                        with_reducible rfl
                                      rotate_left
                                      · simp only [Act.put, List.setIfInBounds_toArray, List.set_cons_zero, List.set_cons_succ, i64_w, i32_w]
                                        rfl
                                      refine pure_ (i := 3) (N := some 75) (v := ?_) (a' := ?_) #[true, true, false, true, false, false, false, false, false] rfl rfl (any_of HT_.out (by kernel_rfl)) (fun _ _ _ h => h) (Or.inl ⟨by rfl, ?_⟩) ?_ ?_
                                      rotate_left
                                      · intro w'
                                        go_simp
                                        with_reducible rfl
                                      rotate_left
                                      · simp only [Act.put, List.setIfInBounds_toArray, List.set_cons_zero, List.set_cons_succ, i64_w, i32_w]
                                        rfl
                                      refine pure_ (i := 4) (N := some 76) (v := ?_) (a' := ?_) #[true, true, false, true, true, false, false, false, false] rfl rfl (any_of HT_.out (by kernel_rfl)) (fun _ _ _ h => h) (Or.inl ⟨by rfl, ?_⟩) ?_ ?_
                                      rotate_left
                                      · intro w'
                                        go_simp
                                        with_reducible rfl
                                      rotate_left
                                      · simp only [Act.put, List.setIfInBounds_toArray, List.set_cons_zero, List.set_cons_succ, i64_w, i32_w]
                                        rfl
                                      refine take_ (i := 2) (N := some 74) (v := ?_) (a' := ?_) #[true, true, true, true, true, false, false, false, false] rfl rfl (take_ofW HT_.out HW_.out (by kernel_rfl)) (fun _ _ _ h => h) (Or.inl ⟨by rfl, ?_⟩) hHeld ?_ ?_
                                      rotate_left
                                      · intro w' s0
                                        go_simp
                                        with_reducible rfl
                                      rotate_left
                                      · simp only [Act.put, List.setIfInBounds_toArray, List.set_cons_zero, List.set_cons_succ, i64_w, i32_w]
                                        rfl
                                      refine one_ (i := 5) (N := some 77) #[true, true, true, true, true, true, false, false, false] rfl rfl (one_of HT_.out (by kernel_rfl)) (by decide) (fun K hK => ?_)
                                      refine goes_ Tryd.func45 (by kernel_rfl) rfl #[.int .u32 ((x7_3) % 4294967296)] (by rfl) rfl rfl (by (try simp only [List.map_toArray, List.map_cons, List.map_nil]); first | done | rfl | (simp only [List.length_drop, List.length_take]; rfl)) ?_
                                      with_reducible refine (word_Text.calls ((x7_3) % 4294967296) t656 _ ?side1 A48.out).mono ?_
                                      (case side1 => exact GT.below HGT.out (by repeat (first | (with_reducible first | exact HB.out | apply below_alloc | apply pw_below_drewN | apply below_drew1 | refine below_set ?_ GE638.out) | exact HB.out)))
                                      rintro e w97 ⟨rfl, hb⟩
                                      have HS0_ := (hb.cell (World.block_lt_of_cell? _ _ (hHeld))).trans (hHeld)
                                      refine ⟨_, rfl, ?_⟩
                                      have n0_ := Aside0.mk (Kd.Q_below (by (with_reducible repeat (first | apply Kd.Q_alloc | apply Kd.Q_drewN | apply Kd.Q_drew)); exact HO_5.out) hb)
                                      have n1_ := Aside0.mk (Kd.Q_below (by (with_reducible repeat (first | apply Kd.Q_alloc | apply Kd.Q_drewN | apply Kd.Q_drew)); exact HO_6.out) hb)
                                      have n2_ := Aside0.mk (blk_below (g := gb638) (o := .cells #[.slice A0_0 l0_0.length c0_0, .int .i64 a0_1] 28 (0, 0)) (by (with_reducible repeat (first | refine blk_drewN ?_ _ | refine blk_drew ?_ | refine blk_alloc ?_ _)); exact BK638.out) hb)
                                      have n3_ := Aside0.mk (below_step (by repeat (first | (with_reducible first | exact HB.out | apply below_alloc | apply pw_below_drewN | apply below_drew1 | refine below_set ?_ GE638.out) | exact HB.out)) hb)
                                      clear HO_5
                                      clear HO_6
                                      clear BK638
                                      clear HB
                                      have HO_5 := n0_
                                      have HO_6 := n1_
                                      have BK638 := n2_
                                      have HB := n3_
                                      clear n0_ n1_ n2_ n3_
                                      (try clear hb)
                                      (try clear hb2)
                                      (try clear hk)
                                      (try clear hi)
                                      refine hK.out _ _ (HS0_) (fun hHeld => ?_)
                                      clear hK K
                                      refine norm_ (a' := ?_) ?_ ?_
                                      rotate_left
                                      · show Act.put _ (some 77) _ = _
                                        simp only [Act.put, List.setIfInBounds_toArray, List.set_cons_zero, List.set_cons_succ, i64_w, i32_w]
                                        rfl
                                      refine pure_ (i := 6) (N := some 78) (v := ?_) (a' := ?_) #[true, true, true, true, true, true, true, false, false] rfl rfl (any_of HT_.out (by kernel_rfl)) (fun _ _ _ h => h) (Or.inl ⟨by rfl, ?_⟩) ?_ ?_
                                      rotate_left
                                      · intro w'
                                        go_simp
                                        with_reducible rfl
                                      rotate_left
                                      · simp only [Act.put, List.setIfInBounds_toArray, List.set_cons_zero, List.set_cons_succ, i64_w, i32_w]
                                        rfl
                                      refine pure_ (i := 7) (N := some 79) (v := ?_) (a' := ?_) #[true, true, true, true, true, true, true, true, false] rfl rfl (any_of HT_.out (by kernel_rfl)) (fun _ _ _ h => h) (Or.inl ⟨by rfl, ?_⟩) ?_ ?_
                                      rotate_left
                                      · intro w'
                                        go_simp
                                        with_reducible rfl
                                      rotate_left
                                      · simp only [Act.put, List.setIfInBounds_toArray, List.set_cons_zero, List.set_cons_succ, i64_w, i32_w]
                                        rfl
                                      refine pure_ (i := 8) (N := some 80) (v := ?_) (a' := ?_) #[true, true, true, true, true, true, true, true, true] rfl rfl (any_of HT_.out (by kernel_rfl)) (fun _ _ _ h => h) (Or.inl ⟨by rfl, ?_⟩) ?_ ?_
                                      rotate_left
                                      · intro w'
                                        go_simp
                                        with_reducible rfl
                                      rotate_left
                                      · simp only [Act.put, List.setIfInBounds_toArray, List.set_cons_zero, List.set_cons_succ, i64_w, i32_w]
                                        rfl
                                      refine done_ (done_of HT_.out (by kernel_rfl)) ?_
                                      try go_wp2
                                      go_ret
                                      exact ⟨by first | rfl | (simp [errW_none, errW_some] <;> rfl) | (simp [*, errW_none, errW_some] <;> rfl), by repeat (first | (with_reducible first | exact HB.out | apply below_alloc | apply pw_below_drewN | apply below_drew1 | refine below_set ?_ GE638.out) | exact HB.out)⟩
                                  · rw [if_neg c50] at H
                                    exact absurd H (by simp)
                                · rw [if_neg c49] at H
                                  exact absurd H (by simp)
                              · rw [if_neg c47] at H
                                exact absurd H (by simp)
                            · replace c46 := Bool.eq_false_iff.mpr c46
                              subst c46
                              have H1 : (if (x6_3.length : Int) = 0 then (some false) else (if 0 < (x6_3.length : Int) then (if ((rdOf ByteArray.empty x6_3 0).size : Int) < 3 then (some false) else (if 0 ≤ 2 then (if 2 ≤ ((rdOf ByteArray.empty x6_3 0).size : Int) then (if ((rdOf ByteArray.empty x6_3 0).extract 0 2).toList = ([32, 32] : List UInt8) then (if 2 < ((rdOf ByteArray.empty x6_3 0).size : Int) then (if (bt (rdOf ByteArray.empty x6_3 0) 2) = 32 then (some false) else (if 1 ≤ (x6_3.length : Int) then (seedcornlaw11_ListingLines.l0 kj39 x5_3 (x6_3.drop (1 : Int).toNat) (wrap64 (x7_3 + 1)) l0_0 a0_1) else (none))) else (none)) else (some false)) else (none)) else (none))) else (none))) = some r := by rw [if_neg (show ¬ (false = true) by decide)] at H; exact H
                              clear H
                              have H := H1
                              clear H1
                              by_cases c98 : (x6_3.length : Int) = 0
                              · rw [if_pos c98] at H
                                have c98b0 : ((x6_3.length : Int) == 0) = true := beq_iff_eq.mpr c98
                                have c98b1 : ((x6_3.length : Int) != 0) = false := bne_eq_false_iff_eq.mpr c98
                                clear c98
                                obtain rfl := Option.some.inj H
                                obtain ⟨Ao99, co99, eo99, _⟩ := Kd.Q_slice HO_6.out
                                subst eo99
                                go_wp2
                                go_ret
                                exact ⟨by first | rfl | (simp [errW_none, errW_some] <;> rfl) | (simp [*, errW_none, errW_some] <;> rfl), by repeat (first | (with_reducible first | exact HB.out | apply below_alloc | apply pw_below_drewN | apply below_drew1 | refine below_set ?_ GE638.out) | exact HB.out)⟩
                              · rw [if_neg c98] at H
                                have c98b0 : ((x6_3.length : Int) == 0) = false := beq_eq_false_iff_ne.mpr c98
                                have c98b1 : ((x6_3.length : Int) != 0) = true := bne_iff_ne.mpr c98
                                have c98b2 : ¬ (x6_3 = []) := fun h_ => c98 (by rw [h_]; rfl)
                                by_cases c100 : 0 < (x6_3.length : Int)
                                · rw [if_pos c100] at H
                                  have c100b0 : decide (0 < (x6_3.length : Int)) = true := decide_eq_true c100
                                  have c100b1 : decide (0 < x6_3.length) = true := decide_eq_true (by omega)
                                  clear c100
                                  by_cases c101 : ((rdOf ByteArray.empty x6_3 0).size : Int) < 3
                                  · rw [if_pos c101] at H
                                    have c101b0 : decide (((rdOf ByteArray.empty x6_3 0).size : Int) < 3) = true := decide_eq_true c101
                                    have c101b1 : decide ((rdOf ByteArray.empty x6_3 0).size < 3) = true := decide_eq_true (by omega)
                                    clear c101
                                    obtain rfl := Option.some.inj H
                                    obtain ⟨Ao102, co102, eo102, _⟩ := Kd.Q_slice HO_6.out
                                    subst eo102
                                    have p669 : 0 ≤ (0 : Int) := (by omega)
                                    have q669 : 0 < (x6_3.length : Int) := of_decide_eq_true (by first | (with_reducible assumption) | assumption)
                                    obtain ⟨ad669, e669, hx669_0⟩ := Kd.at_string (Kd.Q_reads' HO_6.out).2.2 0 p669 q669
                                    cases e669
                                    have qi669 : (0 < x6_3.length) = True := eq_true (by omega)
                                    (try rw [show ((0 : Int)).toNat = 0 from rfl] at hx669_0)
                                    (try rw [Addr.add_zero'] at hx669_0)
                                    replace p669 := eq_true p669
                                    replace q669 := eq_true q669
                                    go_wp2
                                    go_ret
                                    exact ⟨by first | rfl | (simp [errW_none, errW_some] <;> rfl) | (simp [*, errW_none, errW_some] <;> rfl), by repeat (first | (with_reducible first | exact HB.out | apply below_alloc | apply pw_below_drewN | apply below_drew1 | refine below_set ?_ GE638.out) | exact HB.out)⟩
                                  · rw [if_neg c101] at H
                                    have c101b0 : decide (((rdOf ByteArray.empty x6_3 0).size : Int) < 3) = false := decide_eq_false c101
                                    have c101b1 : decide ((rdOf ByteArray.empty x6_3 0).size < 3) = false := decide_eq_false (by omega)
                                    clear c101
                                    by_cases c103 : 0 ≤ 2
                                    · rw [if_pos c103] at H
                                      have c103b0 := eq_true c103
                                      have c103b1 : decide (0 ≤ 2) = true := decide_eq_true c103
                                      clear c103
                                      by_cases c104 : 2 ≤ ((rdOf ByteArray.empty x6_3 0).size : Int)
                                      · rw [if_pos c104] at H
                                        have c104b0 := eq_true c104
                                        have c104b1 : decide (2 ≤ ((rdOf ByteArray.empty x6_3 0).size : Int)) = true := decide_eq_true c104
                                        clear c104
                                        by_cases c105 : ((rdOf ByteArray.empty x6_3 0).extract 0 2).toList = ([32, 32] : List UInt8)
                                        · rw [if_pos c105] at H
                                          have c105b0 : (((rdOf ByteArray.empty x6_3 0).extract 0 2).toList == ([32, 32] : List UInt8)) = true := beq_iff_eq.mpr c105
                                          have c105b1 : (((rdOf ByteArray.empty x6_3 0).extract 0 2).toList != ([32, 32] : List UInt8)) = false := bne_eq_false_iff_eq.mpr c105
                                          clear c105
                                          by_cases c106 : 2 < ((rdOf ByteArray.empty x6_3 0).size : Int)
                                          · rw [if_pos c106] at H
                                            have c106b0 : decide (2 < ((rdOf ByteArray.empty x6_3 0).size : Int)) = true := decide_eq_true c106
                                            have c106b1 : decide (2 < (rdOf ByteArray.empty x6_3 0).size) = true := decide_eq_true (by omega)
                                            clear c106
                                            by_cases c108 : (bt (rdOf ByteArray.empty x6_3 0) 2) = 32
                                            · rw [if_pos c108] at H
                                              have c108b0 : ((bt (rdOf ByteArray.empty x6_3 0) 2) == 32) = true := beq_iff_eq.mpr c108
                                              have c108b1 : ((bt (rdOf ByteArray.empty x6_3 0) 2) != 32) = false := bne_eq_false_iff_eq.mpr c108
                                              clear c108
                                              obtain rfl := Option.some.inj H
                                              obtain ⟨Ao109, co109, eo109, _⟩ := Kd.Q_slice HO_6.out
                                              subst eo109
                                              have p669 : 0 ≤ (0 : Int) := (by omega)
                                              have q669 : 0 < (x6_3.length : Int) := of_decide_eq_true (by first | (with_reducible assumption) | assumption)
                                              obtain ⟨ad669, e669, hx669_0⟩ := Kd.at_string (Kd.Q_reads' HO_6.out).2.2 0 p669 q669
                                              cases e669
                                              have qi669 : (0 < x6_3.length) = True := eq_true (by omega)
                                              (try rw [show ((0 : Int)).toNat = 0 from rfl] at hx669_0)
                                              (try rw [Addr.add_zero'] at hx669_0)
                                              replace p669 := eq_true p669
                                              replace q669 := eq_true q669
                                              have p670 : 0 ≤ (0 : Int) := (by omega)
                                              have q670 : 0 < (x6_3.length : Int) := of_decide_eq_true (by first | (with_reducible assumption) | assumption)
                                              obtain ⟨ad670, e670, hx670_0⟩ := Kd.at_string (Kd.Q_reads' HO_6.out).2.2 0 p670 q670
                                              obtain rfl : ad669 = ad670 := (by injection e670)
                                              have qi670 : (0 < x6_3.length) = True := eq_true (by omega)
                                              (try rw [show ((0 : Int)).toNat = 0 from rfl] at hx670_0)
                                              (try rw [Addr.add_zero'] at hx670_0)
                                              replace p670 := eq_true p670
                                              replace q670 := eq_true q670
                                              have p671 : 0 ≤ (0 : Int) := (by omega)
                                              have q671 : 0 < (x6_3.length : Int) := of_decide_eq_true (by first | (with_reducible assumption) | assumption)
                                              obtain ⟨ad671, e671, hx671_0⟩ := Kd.at_string (Kd.Q_reads' HO_6.out).2.2 0 p671 q671
                                              obtain rfl : ad669 = ad671 := (by injection e671)
                                              have qi671 : (0 < x6_3.length) = True := eq_true (by omega)
                                              (try rw [show ((0 : Int)).toNat = 0 from rfl] at hx671_0)
                                              (try rw [Addr.add_zero'] at hx671_0)
                                              replace p671 := eq_true p671
                                              replace q671 := eq_true q671
                                              have p107 : 0 ≤ (2 : Int) := (by omega)
                                              have q107 : 2 < (rdOf ByteArray.empty x6_3 0).size := (by have : (2 : Int) < ((rdOf ByteArray.empty x6_3 0).size : Int) := of_decide_eq_true (by first | (with_reducible assumption) | assumption); omega)
                                              have hx107 : ∀ h : 2 < (rdOf ByteArray.empty x6_3 0).size, (((rdOf ByteArray.empty x6_3 0)[2]'h).toNat : Int) = bt (rdOf ByteArray.empty x6_3 0) 2 := bt_at (rdOf ByteArray.empty x6_3 0) 2
                                              clear p107
                                              have qi107 : (2 < ((rdOf ByteArray.empty x6_3 0).size : Int)) = True := eq_true (of_decide_eq_true (by first | (with_reducible assumption) | assumption))
                                              replace q107 := eq_true q107
                                              go_wp2
                                              go_ret
                                              exact ⟨by first | rfl | (simp [errW_none, errW_some] <;> rfl) | (simp [*, errW_none, errW_some] <;> rfl), by repeat (first | (with_reducible first | exact HB.out | apply below_alloc | apply pw_below_drewN | apply below_drew1 | refine below_set ?_ GE638.out) | exact HB.out)⟩
                                            · rw [if_neg c108] at H
                                              have c108b0 : ((bt (rdOf ByteArray.empty x6_3 0) 2) == 32) = false := beq_eq_false_iff_ne.mpr c108
                                              have c108b1 : ((bt (rdOf ByteArray.empty x6_3 0) 2) != 32) = true := bne_iff_ne.mpr c108
                                              by_cases c110 : 1 ≤ (x6_3.length : Int)
                                              · rw [if_pos c110] at H
                                                have c110b0 := eq_true c110
                                                have c110b1 : decide (1 ≤ (x6_3.length : Int)) = true := decide_eq_true c110
                                                clear c110
                                                obtain ⟨y672, hy672⟩ : ∃ y_ : List ByteArray, y_ = (x6_3.drop (1 : Int).toNat) := ⟨_, rfl⟩
                                                replace H : (seedcornlaw11_ListingLines.l0 kj39 x5_3 y672 (wrap64 (x7_3 + 1)) l0_0 a0_1) = some r := by first | (rw [hy672]; with_reducible exact H) | (have H2_ := (Option.bind_some _ _).symm.trans H; rw [hy672]; with_reducible exact H2_) | (have H2_ := (Option.bind_some _ _).symm.trans H; with_reducible exact H2_) | with_reducible exact H | (rw [hy672]; exact H) | exact H
                                                have Ny672 := Aside0.mk hy672
                                                clear hy672
                                                have H' := Aside0.mk H
                                                clear H
                                                obtain ⟨Ao111, co111, eo111, _⟩ := Kd.Q_slice HO_6.out
                                                subst eo111
                                                have p669 : 0 ≤ (0 : Int) := (by omega)
                                                have q669 : 0 < (x6_3.length : Int) := of_decide_eq_true (by first | (with_reducible assumption) | assumption)
                                                obtain ⟨ad669, e669, hx669_0⟩ := Kd.at_string (Kd.Q_reads' HO_6.out).2.2 0 p669 q669
                                                cases e669
                                                have qi669 : (0 < x6_3.length) = True := eq_true (by omega)
                                                (try rw [show ((0 : Int)).toNat = 0 from rfl] at hx669_0)
                                                (try rw [Addr.add_zero'] at hx669_0)
                                                replace p669 := eq_true p669
                                                replace q669 := eq_true q669
                                                have p670 : 0 ≤ (0 : Int) := (by omega)
                                                have q670 : 0 < (x6_3.length : Int) := of_decide_eq_true (by first | (with_reducible assumption) | assumption)
                                                obtain ⟨ad670, e670, hx670_0⟩ := Kd.at_string (Kd.Q_reads' HO_6.out).2.2 0 p670 q670
                                                obtain rfl : ad669 = ad670 := (by injection e670)
                                                have qi670 : (0 < x6_3.length) = True := eq_true (by omega)
                                                (try rw [show ((0 : Int)).toNat = 0 from rfl] at hx670_0)
                                                (try rw [Addr.add_zero'] at hx670_0)
                                                replace p670 := eq_true p670
                                                replace q670 := eq_true q670
                                                have p671 : 0 ≤ (0 : Int) := (by omega)
                                                have q671 : 0 < (x6_3.length : Int) := of_decide_eq_true (by first | (with_reducible assumption) | assumption)
                                                obtain ⟨ad671, e671, hx671_0⟩ := Kd.at_string (Kd.Q_reads' HO_6.out).2.2 0 p671 q671
                                                obtain rfl : ad669 = ad671 := (by injection e671)
                                                have qi671 : (0 < x6_3.length) = True := eq_true (by omega)
                                                (try rw [show ((0 : Int)).toNat = 0 from rfl] at hx671_0)
                                                (try rw [Addr.add_zero'] at hx671_0)
                                                replace p671 := eq_true p671
                                                replace q671 := eq_true q671
                                                have p107 : 0 ≤ (2 : Int) := (by omega)
                                                have q107 : 2 < (rdOf ByteArray.empty x6_3 0).size := (by have : (2 : Int) < ((rdOf ByteArray.empty x6_3 0).size : Int) := of_decide_eq_true (by first | (with_reducible assumption) | assumption); omega)
                                                have hx107 : ∀ h : 2 < (rdOf ByteArray.empty x6_3 0).size, (((rdOf ByteArray.empty x6_3 0)[2]'h).toNat : Int) = bt (rdOf ByteArray.empty x6_3 0) 2 := bt_at (rdOf ByteArray.empty x6_3 0) 2
                                                clear p107
                                                have qi107 : (2 < ((rdOf ByteArray.empty x6_3 0).size : Int)) = True := eq_true (of_decide_eq_true (by first | (with_reducible assumption) | assumption))
                                                replace q107 := eq_true q107
                                                have q112 : (1 : Int) ≤ ((x6_3.length : Int) : Int) := of_decide_eq_true (by first | (with_reducible assumption) | assumption)
                                                obtain ⟨i0112, hi0112, _, hsz112, _⟩ := info_parts info9
                                                have hcut112 := cut_from (P := Tryd.prog) 65 9 .i64 Tryd.underlying65 hi0112 1 hsz112 (some ad669) x6_3.length co111 1 (by omega) q112
                                                have hr112 := Kd.Q_drop (k := (1 : Int).toNat) HO_6.out (by omega)
                                                obtain ⟨A112, hA112⟩ : ∃ A1, A1 = (if co111 = (1 : Int).toNat then (some ad669) else ((some ad669) : Option Addr).map (·.add ((1 : Int).toNat * 1))) := ⟨_, rfl⟩
                                                obtain ⟨c112, hc112⟩ : ∃ c1, c1 = co111 - (1 : Int).toNat := ⟨_, rfl⟩
                                                have hy112 : y672.length = x6_3.length - (1 : Int).toNat := (by rw [Ny672.out, List.length_drop])
                                                rw [← Ny672.out] at hr112
                                                rw [← hy112, ← hA112, ← hc112] at hcut112
                                                replace hr112 : Kd.Q Kd.string 9 wc w.heap.size (fun _ => True) (.slice A112 y672.length c112) y672 := (by rw [hA112, hc112, hy112]; exact hr112)
                                                have HE112 : Aside0 ((Value.slice A112 y672.length c112).ownBlock = (.slice (some ad669) x6_3.length co111 : Value).ownBlock) := ⟨by rw [hA112]; split <;> (cases ((some ad669) : Option Addr) <;> rfl)⟩
                                                clear hy112 hi0112 hsz112 HO_6 hA112 hc112
                                                have HO674 := Aside0.mk hr112
                                                clear hr112
                                                replace q112 := eq_true q112
                                                go_wp2
                                                go_roundg kj39
                                                case measure => have := HJ3.out; have := HJ15.out; have := HK3.out; have := HJ39.out; omega
                                                case rel => exact ⟨(x5_3), (y672), (wrap64 (x7_3 + 1)), (by first | rfl | (simp; done) | (simp [*]; done)), H', ⟨by have := HJ3.out; have := HJ15.out; have := HK3.out; have := HJ39.out; omega⟩, ⟨by (with_reducible repeat (first | apply Kd.Q_alloc | apply Kd.Q_drewN | apply Kd.Q_drew)); exact HO_5.out⟩, ⟨by (with_reducible repeat (first | apply Kd.Q_alloc | apply Kd.Q_drewN | apply Kd.Q_drew)); exact HO674.out⟩, ⟨by (with_reducible repeat (first | refine blk_drewN ?_ _ | refine blk_drew ?_ | refine blk_alloc ?_ _)); exact BK638.out⟩, ⟨by repeat (first | (with_reducible first | exact HB.out | apply below_alloc | apply pw_below_drewN | apply below_drew1 | refine below_set ?_ GE638.out) | exact HB.out)⟩⟩
                                              · rw [if_neg c110] at H
                                                exact absurd H (by simp)
                                          · rw [if_neg c106] at H
                                            exact absurd H (by simp)
                                        · rw [if_neg c105] at H
                                          have c105b0 : (((rdOf ByteArray.empty x6_3 0).extract 0 2).toList == ([32, 32] : List UInt8)) = false := beq_eq_false_iff_ne.mpr c105
                                          have c105b1 : (((rdOf ByteArray.empty x6_3 0).extract 0 2).toList != ([32, 32] : List UInt8)) = true := bne_iff_ne.mpr c105
                                          obtain rfl := Option.some.inj H
                                          obtain ⟨Ao113, co113, eo113, _⟩ := Kd.Q_slice HO_6.out
                                          subst eo113
                                          have p669 : 0 ≤ (0 : Int) := (by omega)
                                          have q669 : 0 < (x6_3.length : Int) := of_decide_eq_true (by first | (with_reducible assumption) | assumption)
                                          obtain ⟨ad669, e669, hx669_0⟩ := Kd.at_string (Kd.Q_reads' HO_6.out).2.2 0 p669 q669
                                          cases e669
                                          have qi669 : (0 < x6_3.length) = True := eq_true (by omega)
                                          (try rw [show ((0 : Int)).toNat = 0 from rfl] at hx669_0)
                                          (try rw [Addr.add_zero'] at hx669_0)
                                          replace p669 := eq_true p669
                                          replace q669 := eq_true q669
                                          have p670 : 0 ≤ (0 : Int) := (by omega)
                                          have q670 : 0 < (x6_3.length : Int) := of_decide_eq_true (by first | (with_reducible assumption) | assumption)
                                          obtain ⟨ad670, e670, hx670_0⟩ := Kd.at_string (Kd.Q_reads' HO_6.out).2.2 0 p670 q670
                                          obtain rfl : ad669 = ad670 := (by injection e670)
                                          have qi670 : (0 < x6_3.length) = True := eq_true (by omega)
                                          (try rw [show ((0 : Int)).toNat = 0 from rfl] at hx670_0)
                                          (try rw [Addr.add_zero'] at hx670_0)
                                          replace p670 := eq_true p670
                                          replace q670 := eq_true q670
                                          go_wp2
                                          go_ret
                                          exact ⟨by first | rfl | (simp [errW_none, errW_some] <;> rfl) | (simp [*, errW_none, errW_some] <;> rfl), by repeat (first | (with_reducible first | exact HB.out | apply below_alloc | apply pw_below_drewN | apply below_drew1 | refine below_set ?_ GE638.out) | exact HB.out)⟩
                                      · rw [if_neg c104] at H
                                        exact absurd H (by simp)
                                    · rw [if_neg c103] at H
                                      exact absurd H (by simp)
                                · rw [if_neg c100] at H
                                  exact absurd H (by simp)
                      · rw [if_neg c39] at H
                        have c39b0 : decide (x7_3 < (l0_0.length : Int)) = false := decide_eq_false c39
                        clear c39
                        obtain rfl := Option.some.inj H
                        have hcz114_0 : wr.cell? ⟨gb638, 0, none⟩ = some (.slice A0_0 l0_0.length c0_0) := (blk_cell BK638.out 0).trans rfl
                        have hcz114_1 : wr.cell? ⟨gb638, 1, none⟩ = some (.int .i64 a0_1) := (blk_cell BK638.out 1).trans rfl
                        have hfz114_0 := blk_frozen BK638.out 0
                        have hfz114_1 := blk_frozen BK638.out 1
                        obtain ⟨Ao115, co115, eo115, _⟩ := Kd.Q_slice HO_5.out
                        subst eo115
                        go_wp2
                        go_ret
                        exact ⟨by first | rfl | (simp [errW_none, errW_some] <;> rfl) | (simp [*, errW_none, errW_some] <;> rfl), by repeat (first | (with_reducible first | exact HB.out | apply below_alloc | apply pw_below_drewN | apply below_drew1 | refine below_set ?_ GE638.out) | exact HB.out)⟩
                · rw [if_neg c36] at H
                  exact absurd H (by simp)
  · replace c3 := Bool.eq_false_iff.mpr c3
    subst c3
    have H1 : (some false) = some r := by rw [if_neg (show ¬ (false = true) by decide)] at H; exact H
    clear H
    have H := H1
    clear H1
    obtain rfl := Option.some.inj H
    go_enter Tryd.func19, Tryd.ntmps19
    go_wp2_with (first | ((with_reducible refine gate_dst (N := 1) rfl ?_); (try (refine gate_guard (by rfl) ?_; dsimp only)); refine box_event ?hg (N := 1) ?hd (cs := #[.slice A0_0 l0_0.length c0_0, .int .i64 a0_1]) (t := 28) ?hr ?_; (case hd => rfl); (case hg => rfl); (case hr => first | (go_simp; done) | (go_simp; rfl)); intro gb638 hg w116 hbox hb; have n0_ := Aside0.mk (below_step (by repeat (first | (with_reducible first | exact HB.out | apply below_alloc | apply pw_below_drewN | apply below_drew1) | exact HB.out)) hb); have n1_ := Aside0.mk (hbox); have n2_ := Aside0.mk ((by rw [hg]; exact (below_size (by repeat (first | (with_reducible first | exact HB.out | apply below_alloc | apply pw_below_drewN | apply below_drew1) | exact HB.out))) : w.heap.size ≤ gb638)); have n3_ := Aside0.mk ((by rw [hg]; exact (below_size (by repeat (first | (with_reducible first | exact HB.out | apply below_alloc | apply pw_below_drewN | apply below_drew1) | exact HB.out))) : w.heap.size ≤ gb638)); clear HB; have HB := n0_; have BK638 := n1_; have GW638 := n2_; have GE638 := n3_; clear n0_ n1_ n2_ n3_; clear hb hbox hg) | ((with_reducible refine gate_callee (f := 33) rfl ?_); refine goesL_ (some 8) rfl rfl Tryd.func33 (by kernel_rfl) rfl #[] rfl (by (try simp only [List.map_toArray, List.map_cons, List.map_nil]); first | done | rfl | (simp only [List.length_drop, List.length_take]; rfl)) ?_; (with_reducible refine (seedcornlaw11_awake.calls  false _ ?side1 ?side2 A2.out).mono ?_); (case side1 => exact GK.below HGK.out (by repeat (first | (with_reducible first | exact HB.out | apply below_alloc | apply pw_below_drewN | apply below_drew1 | refine below_set ?_ GE638.out) | exact HB.out))); (case side2 => exact GT.below HGT.out (by repeat (first | (with_reducible first | exact HB.out | apply below_alloc | apply pw_below_drewN | apply below_drew1 | refine below_set ?_ GE638.out) | exact HB.out))); rintro e w117 ⟨rfl, hb⟩; refine ⟨_, rfl, ?_⟩; have n0_ := Aside0.mk (blk_below (g := gb638) (o := .cells #[.slice A0_0 l0_0.length c0_0, .int .i64 a0_1] 28 (0, 0)) (by (with_reducible repeat (first | refine blk_drewN ?_ _ | refine blk_drew ?_ | refine blk_alloc ?_ _)); exact BK638.out) hb); have n1_ := Aside0.mk (below_step (by repeat (first | (with_reducible first | exact HB.out | apply below_alloc | apply pw_below_drewN | apply below_drew1 | refine below_set ?_ GE638.out) | exact HB.out)) hb); clear BK638; clear HB; have BK638 := n0_; have HB := n1_; clear n0_ n1_; (try clear hb); (try clear hb2); (try clear hk); (try clear hi)))
    go_ret
    exact ⟨by first | rfl | (simp [errW_none, errW_some] <;> rfl) | (simp [*, errW_none, errW_some] <;> rfl), by repeat (first | (with_reducible first | exact HB.out | apply below_alloc | apply pw_below_drewN | apply below_drew1 | refine below_set ?_ GE638.out) | exact HB.out)⟩
end Go.Proofs.YtdhkmdgieflioaaDoor.F
namespace Go.Proofs.YtdhkmdgieflioaaDoor.F
open Go.RowKit Go.Proofs.YtdhkmdgieflioaaDoorW.PrintWords Go.Proofs.YtdhkmdgieflioaaDoorW.PrintLast Go.Proofs.YtdhkmdgieflioaaDoorW.PrintMore
set_option linter.unusedVariables false
set_option linter.unusedSimpArgs false
open Go.ChangeShapes
section
variable {H : Type} {enc : TypeId × Value → H} {P : Program} {w : World} {base : Nat} {spare : Nat → Bool} {held : Bool} {fuel : Nat} {t : TypeId} {cs : List Value}
theorem list_ext_parts (m : Nat) (hm : 0 < m) : ∀ (n : Nat) (cs : List Value) (gs : List (List Value)), cs.length = n * m → gs.length = n → (∀ i, i < n → (cs.drop (i * m)).take m = gs.getD i []) → cs = gs.flatMap id
  | 0, cs, gs, hl, hg, _ => by
    have h1 : cs = [] := List.eq_nil_of_length_eq_zero (by omega)
    have h2 : gs = [] := List.eq_nil_of_length_eq_zero hg
    subst h1 h2
    rfl
  | n + 1, cs, gs, hl, hg, h => by
    match gs, hg with
    | g :: gs, hg =>
      have h0 : cs.take m = g := by have := h 0 (by omega); simpa using this
      have hr := list_ext_parts m hm n (cs.drop m) gs (by rw [List.length_drop, hl, Nat.add_mul]; omega) (by simpa using hg) (fun i hi => by
        have := h (i + 1) (by omega)
        rw [List.drop_drop, show m + i * m = (i + 1) * m by rw [Nat.add_mul]; omega, this]
        rfl)
      rw [List.flatMap_cons, ← hr]
      show cs = g ++ cs.drop m
      rw [← h0, List.take_append_drop]
theorem cells_of_rows {n e m : Nat} (fl : DataW H → List Value) (ht : P.underlying t = some (.array n e)) (hm : 0 < m) (hce : P.cellsOf e = m) (hct : P.cellsOf t = n * m)
    (hel : ∀ (f : Nat) (c : List Value) (x : DataW H × List MemPlace), DataW.trod enc P w base spare held f e c = some x → c = fl x.1)
    {Ds : List (DataW H)} {p : List MemPlace} (h : DataW.trod enc P w base spare held fuel t cs = some (.agg Ds, p)) : cs = (Ds.map fl).flatMap id := by
  obtain ⟨xs, f, _, hx, hl, hn, hi⟩ := DataW.trod_array ht h
  have hD : Ds = xs.map (·.1) := by have := congrArg Prod.fst hx; simpa using this
  refine list_ext_parts m hm n cs _ (by rw [hl, hct]) (by rw [List.length_map, hD, List.length_map, hn]) (fun i hlt => ?_)
  have h1 := hi i hlt
  rw [hce] at h1
  have h2 : i < xs.length := by omega
  rw [List.getElem?_eq_getElem h2] at h1
  have h3 := hel _ _ _ h1
  rw [h3, hD]
  simp [List.getD_eq_getElem?_getD, h2]
end
def flKind {H : Type} : DataW H → List Value
  | .agg [.lit (.string a), .lit (.string b)] => [.string ⟨a.toArray⟩, .string ⟨b.toArray⟩]
  | _ => []
theorem split2 {α : Type} (l : List α) (k : Nat) : l = l.take k ++ l.drop k := (List.take_append_drop k l).symm
theorem fl_kind {H : Type} {enc : TypeId × Value → H} {w : World} {base : Nat} {spare : Nat → Bool} {held : Bool} (f : Nat) (c : List Value) (x : DataW H × List MemPlace) (h : DataW.trod enc Tryd.prog w base spare held f 89 c = some x) : c = flKind x.1 := by
  obtain ⟨y0, y1, n, rfl, hl, h0, h1⟩ := trod_struct2 Tryd.underlying89 h
  have c9 : Tryd.prog.cellsOf 9 = 1 := by kernel_rfl
  have c89 : Tryd.prog.cellsOf 89 = 2 := by kernel_rfl
  rw [c89] at hl
  obtain ⟨s0, e0, rfl, _⟩ := DataW.trod_string Tryd.underlying9 h0
  obtain ⟨s1, e1, rfl, _⟩ := DataW.trod_string Tryd.underlying9 h1
  have e0' : c.take 1 = [.string s0] := by have h := e0; rw [c9] at h; exact h
  have e1' : (c.drop 1).take 1 = [.string s1] := by have h := e1; rw [c9] at h; exact h
  have hd : (c.drop 1).take 1 = c.drop 1 := List.take_of_length_le (by rw [List.length_drop, hl]; decide)
  rw [split2 c 1, e0', ← hd, e1']
  rfl
theorem tyKinds : (Tryd.prog.globals[0]?).map (·.type) = some 90 := by kernel_rfl
theorem tyPow : (Tryd.prog.globals[2]?).map (·.type) = some 154 := by kernel_rfl
theorem gk_of {W : World} {rest : List (String × DataW Unit)} (h : laidMet Tryd.prog (("seedcorn/inst.kinds", Rows.laid_seedcorn_inst_kinds) :: rest) W) : GK W := by
  obtain ⟨ps, ⟨g', t', cs, fuel, p, q, hg', ht', hvar, hd, _, _⟩, _⟩ := h
  obtain rfl := Option.some.inj (g_kinds.symm.trans hg')
  obtain rfl := Option.some.inj (tyKinds.symm.trans ht')
  have hc := cells_of_rows (n := 28) (e := 89) (m := 2) flKind Tryd.underlying90 (by omega) (by kernel_rfl) (by kernel_rfl) fl_kind hd
  refine ⟨?_⟩
  rw [hvar]
  cases cs with
  | mk l =>
    simp only at hc
    subst hc
    rfl
theorem cp154 : Tryd.prog.cellsOf 154 = 20 := by kernel_rfl
theorem cp96 : Tryd.prog.cellsOf 96 = 1 := by kernel_rfl
theorem gt_of {W : World} {rest : List (String × DataW Unit)} (h : laidMet Tryd.prog (("internal/strconv.uint64pow10", Rows.laid_internal_strconv_uint64pow10) :: rest) W) : GT W :=
  ⟨Lib.tabIs_of_head (zs := Lib.pow10Tab) g_pow tyPow Tryd.underlying154 Tryd.underlying96 cp96 cp154 h⟩
theorem laid_inst {W : World} (h : laidMet Tryd.prog [("math/bits.deBruijn32tab", Rows.laid_math_bits_deBruijn32tab), ("math/bits.deBruijn64tab", Rows.laid_math_bits_deBruijn64tab), ("internal/strconv.uint64pow10", Rows.laid_internal_strconv_uint64pow10), ("seedcorn/inst.kinds", Rows.laid_seedcorn_inst_kinds)] W) : GT W ∧ GK W := ⟨gt_of h.tail.tail, gk_of h.tail.tail.tail⟩
end Go.Proofs.YtdhkmdgieflioaaDoor.F
namespace Go.Proofs.YtdhkmdgieflioaaDoor.F
open Go.RowKit Go.Proofs.YtdhkmdgieflioaaDoorW.PrintWords Go.Proofs.YtdhkmdgieflioaaDoorW.PrintLast Go.Proofs.YtdhkmdgieflioaaDoorW.PrintMore
set_option linter.unusedVariables false
set_option linter.unusedSimpArgs false
theorem wrapI {x : Int} (h0 : -9223372036854775808 ≤ x) (h1 : x ≤ 9223372036854775807) : wrap64 x = x := by unfold wrap64; omega
theorem filled_all : ((List.range 28).all fun i => decide (i = 0) || !((nameOf (i : Int)).data.toList == [])) = true := by kernel_rfl
theorem name_filled (i : Int) (h1 : 1 ≤ i) (h2 : i < 28) : (nameOf i).toList ≠ [] := by
  obtain ⟨n, rfl⟩ : ∃ n : Nat, i = n := ⟨i.toNat, by omega⟩
  have h3 := List.all_eq_true.1 filled_all n (List.mem_range.2 (by omega))
  rw [ByteArray.toList_eq]
  intro h
  rw [h, decide_eq_false (show ¬ n = 0 by omega)] at h3
  simp at h3
end Go.Proofs.YtdhkmdgieflioaaDoor.F
namespace Go.Proofs.YtdhkmdgieflioaaDoor.F
open Go.RowKit Go.Proofs.YtdhkmdgieflioaaDoorW.PrintWords Go.Proofs.YtdhkmdgieflioaaDoorW.PrintLast Go.Proofs.YtdhkmdgieflioaaDoorW.PrintMore
attribute [local go_sem] max2_int min2_int max_two min_two max_three min_three max_four min_four
set_option linter.unusedVariables false
set_option linter.unusedSimpArgs false
theorem eqA46 (d : Nat) (w : World) (x0 y0 : Int) (x1 y1 : Int) (x2 y2 : Int) (x3 y3 : Int) :
    (Op.equalIn (d + 2) 46 (.agg #[.int .i64 x0, .int .i64 x1, .int .i64 x2, .int .i64 x3]) (.agg #[.int .i64 y0, .int .i64 y1, .int .i64 y2, .int .i64 y3])).run Tryd.prog w = .ok (x0 == y0 && (x1 == y1 && (x2 == y2 && (x3 == y3)))) w := by
  refine eqA_of Tryd.underlying46 (by kernel_rfl) ?_
  refine eqf_cons (by rfl) (by go_simp; rfl) (by go_simp; rfl) (by go_simp) ?_
  refine eqf_cons (by rfl) (by go_simp; rfl) (by go_simp; rfl) (by go_simp) ?_
  refine eqf_cons (by rfl) (by go_simp; rfl) (by go_simp; rfl) (by go_simp) ?_
  exact eqf_last (by rfl) (by go_simp; rfl) (by go_simp; rfl) (by go_simp)
end Go.Proofs.YtdhkmdgieflioaaDoor.F
