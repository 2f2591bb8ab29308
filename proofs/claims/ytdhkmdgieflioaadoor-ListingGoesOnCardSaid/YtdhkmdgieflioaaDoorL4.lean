/- Texts of this claim: contracts of functions that the law reaches, and plain lemmas. -/
import Derived.Test.YtdhkmdgieflioaaDoorL1
import Derived.Test.YtdhkmdgieflioaaDoorL2
import Derived.Test.YtdhkmdgieflioaaDoorL3
namespace Go.Proofs.YtdhkmdgieflioaaDoor.F
open Go.RowKit Go.Proofs.YtdhkmdgieflioaaDoorW.PrintWords Go.Proofs.YtdhkmdgieflioaaDoorW.PrintLast Go.Proofs.YtdhkmdgieflioaaDoorW.PrintMore
attribute [local go_sem] max2_int min2_int max_two min_two max_three min_three max_four min_four
set_option linter.unusedVariables false
set_option linter.unusedSimpArgs false
mutual
def seedcornlaw11_ListingGoesOn.j0 : Nat → List Int → Bool → List Int → Int → Option (Bool)
  | 0, _, _, _, _ => none
  | k + 1, x1, x28, x550000, x550001 => if x28 = true then (some true) else ((some (([] : List Int) : List Int)).bind fun y552 => (if y552.length + x550000.length < 35184372088832 then ((some (y552 ++ x550000 : List Int)).bind fun y555 => (if y555.length + x1.length < 35184372088832 then ((some (y555 ++ x1 : List Int)).bind fun y558 => ((listing_Targets.f x550000 x550001).bind fun t562 => ((listing_Targets.f y558 x550001).bind fun t565 => (if (t562.length : Int) = (t565.length : Int) then (seedcornlaw11_ListingGoesOn.l0 k t562 t565 0 x550000 x550001 y558 x550001) else (some true))))) else (none))) else (none)))
def seedcornlaw11_ListingGoesOn.l0 : Nat → List Int → List Int → Int → List Int → Int → List Int → Int → Option (Bool)
  | 0, _, _, _, _, _, _, _ => none
  | k + 1, x6, x7, x8, x550000, x550001, x562000, x562001 => if x8 < (x6.length : Int) then (if 0 ≤ x8 then (if x8 < (x7.length : Int) then (if (rd x6 x8) = (rd x7 x8) then (seedcornlaw11_ListingGoesOn.l0 k x6 x7 (wrap64 (x8 + 1)) x550000 x550001 x562000 x562001) else (some true)) else (none)) else (none)) else ((listing_Text.f x550000 x550001).bind fun bt570 => ((listing_Text.f x562000 x562001).bind fun bt572 => (if bt570.2 = 0 then (if bt572.2 = 0 then (if (bt572.1.size : Int) ≥ (bt570.1.size : Int) then (if 0 ≤ (bt570.1.size : Int) then (if (bt570.1.size : Int) ≤ (bt572.1.size : Int) then (some ((bt572.1.extract 0 ((bt570.1.size : Int) : Int).toNat).toList == bt570.1.toList)) else (none)) else (none)) else (some false)) else (some false)) else (some false))))
end
def seedcornlaw11_ListingGoesOn.f (k : Nat) (l0_0 : List Int) (a0_1 : Int) (l1 : List Int) : Option (Bool) := (seedcornlaw11_awake.f).bind fun t550 => (if t550 = true then (if (l0_0.length : Int) > 100 then (seedcornlaw11_ListingGoesOn.j0 k l1 true l0_0 a0_1) else (if (l1.length : Int) > 100 then (seedcornlaw11_ListingGoesOn.j0 k l1 true l0_0 a0_1) else ((seedcornref08_Right.f l0_0 a0_1).bind fun t551 => (seedcornlaw11_ListingGoesOn.j0 k l1 (!t551) l0_0 a0_1)))) else (some false))
theorem seedcornlaw11_ListingGoesOn.mono_l : ∀ k, (∀ y0 y1 y2 y3, LeO (seedcornlaw11_ListingGoesOn.j0 k y0 y1 y2 y3) (seedcornlaw11_ListingGoesOn.j0 (k + 1) y0 y1 y2 y3)) ∧ (∀ y0 y1 y2 y3 y4 y5 y6, LeO (seedcornlaw11_ListingGoesOn.l0 k y0 y1 y2 y3 y4 y5 y6) (seedcornlaw11_ListingGoesOn.l0 (k + 1) y0 y1 y2 y3 y4 y5 y6))
  | 0 => ⟨fun _ _ _ _ r h => by simp [seedcornlaw11_ListingGoesOn.j0] at h, fun _ _ _ _ _ _ _ r h => by simp [seedcornlaw11_ListingGoesOn.l0] at h⟩
  | k + 1 => by
    obtain ⟨ih0, ih1⟩ := seedcornlaw11_ListingGoesOn.mono_l k
    refine ⟨?_, ?_⟩
    · intro y0 y1 y2 y3
      unfold seedcornlaw11_ListingGoesOn.j0
      repeat' first
      | (with_reducible exact ih0 _ _ _ _)
      | (with_reducible exact ih1 _ _ _ _ _ _ _)
      | (with_reducible exact LeO.refl _)
      | (with_reducible exact LeO.none _)
      | (with_reducible refine LeO.ite ?_ ?_)
      | (with_reducible refine LeO.bind ?_ (fun _ => ?_))
      | exact ih0 _ _ _ _
      | exact ih1 _ _ _ _ _ _ _
      | exact LeO.none _
      | refine LeO.ite ?_ ?_
      | refine LeO.bind ?_ (fun _ => ?_)
    · intro y0 y1 y2 y3 y4 y5 y6
      unfold seedcornlaw11_ListingGoesOn.l0
      repeat' first
      | (with_reducible exact ih0 _ _ _ _)
      | (with_reducible exact ih1 _ _ _ _ _ _ _)
      | (with_reducible exact LeO.refl _)
      | (with_reducible exact LeO.none _)
      | (with_reducible refine LeO.ite ?_ ?_)
      | (with_reducible refine LeO.bind ?_ (fun _ => ?_))
      | exact ih0 _ _ _ _
      | exact ih1 _ _ _ _ _ _ _
      | exact LeO.none _
      | refine LeO.ite ?_ ?_
      | refine LeO.bind ?_ (fun _ => ?_)
theorem seedcornlaw11_ListingGoesOn.mono : ∀ a0 a1 a2 k, LeO (seedcornlaw11_ListingGoesOn.f k a0 a1 a2) (seedcornlaw11_ListingGoesOn.f (k + 1) a0 a1 a2) := by
  intro a0 a1 a2 k
  obtain ⟨ih0, ih1⟩ := seedcornlaw11_ListingGoesOn.mono_l k
  unfold seedcornlaw11_ListingGoesOn.f
  repeat' first
      | (with_reducible exact ih0 _ _ _ _)
      | (with_reducible exact ih1 _ _ _ _ _ _ _)
      | (with_reducible exact LeO.refl _)
      | (with_reducible exact LeO.none _)
      | (with_reducible refine LeO.ite ?_ ?_)
      | (with_reducible refine LeO.bind ?_ (fun _ => ?_))
      | exact ih0 _ _ _ _
      | exact ih1 _ _ _ _ _ _ _
      | exact LeO.none _
      | refine LeO.ite ?_ ?_
      | refine LeO.bind ?_ (fun _ => ?_)
def seedcornlaw11_ListingGoesOn.T5 : Bool × List (List Nat × List Nat) := (true, [([], []), ([], []), ([1], [1]), ([0, 2], [0, 2]), ([], []), ([3, 4, 3], [3, 4]), ([], []), ([6], [6]), ([5, 7], [5, 7]), ([], []), ([9, 8, 5, 0, 1, 2, 3, 4, 5, 6, 7, 8, 9], [8, 9])])
def seedcornlaw11_ListingGoesOn.B5 : List Nat := [0, 0, 2, 7, 0, 31, 0, 64, 255, 0, 1023]
theorem seedcornlaw11_ListingGoesOn.tab5 : rtab .any (opsOf Tryd.f8 5) = seedcornlaw11_ListingGoesOn.T5 := by kernel_rfl
theorem seedcornlaw11_ListingGoesOn.bits5 : waitsOk seedcornlaw11_ListingGoesOn.T5.2 seedcornlaw11_ListingGoesOn.B5 = true := by kernel_rfl
def seedcornlaw11_ListingGoesOn.T13 : Bool × List (List Nat × List Nat) := (true, [([], []), ([], []), ([0, 1], [0, 1]), ([2], [2]), ([], []), ([], []), ([4, 5], [4, 5]), ([6], [6]), ([3, 7], [3, 7])])
def seedcornlaw11_ListingGoesOn.B13 : List Nat := [0, 0, 3, 7, 0, 0, 48, 112, 255]
theorem seedcornlaw11_ListingGoesOn.tab13 : rtab .any (opsOf Tryd.f8 13) = seedcornlaw11_ListingGoesOn.T13 := by kernel_rfl
theorem seedcornlaw11_ListingGoesOn.bits13 : waitsOk seedcornlaw11_ListingGoesOn.T13.2 seedcornlaw11_ListingGoesOn.B13 = true := by kernel_rfl
set_option maxHeartbeats 8000000 in
set_option maxRecDepth 100000 in
theorem seedcornlaw11_ListingGoesOn.calls (k : Nat) (A0_0 : Option Addr) (c0_0 : Nat) (l0_0 : List Int) (a0_1 : Int) (A1 : Option Addr) (c1 : Nat) (l1 : List Int) (r : Bool) (w : World) (hGK : GK w) (hGT : GT w) (hr0_0 : Kd.C (Kd.int .u32) w A0_0 l0_0.length l0_0) (hc0_0 : l0_0.length ≤ c0_0) (hr1 : Kd.C (Kd.int .u32) w A1 l1.length l1) (hc1 : l1.length ≤ c1) (h : seedcornlaw11_ListingGoesOn.f k l0_0 a0_1 l1 = some r) :
    Calls Tryd.prog 8 #[.agg #[.slice A0_0 l0_0.length c0_0, .int .i64 a0_1], .slice A1 l1.length c1] w fun e w' => e = .returned (.bool r) ∧ Below w.heap.size w w' := by
  have hu28 := Tryd.underlying28
  have HR0_0 := Aside0.mk hr0_0
  have HC0_0 := Aside0.mk hc0_0
  clear hr0_0 hc0_0
  have HR1 := Aside0.mk hr1
  have HC1 := Aside0.mk hc1
  clear hr1 hc1
  have HGK := Aside0.mk hGK
  clear hGK
  have HGT := Aside0.mk hGT
  clear hGT
  have HB := Aside0.mk (Below.refl w.heap.size w)
  have H : ((seedcornlaw11_awake.f).bind fun t550 => (if t550 = true then (if (l0_0.length : Int) > 100 then (seedcornlaw11_ListingGoesOn.j0 k l1 true l0_0 a0_1) else (if (l1.length : Int) > 100 then (seedcornlaw11_ListingGoesOn.j0 k l1 true l0_0 a0_1) else ((seedcornref08_Right.f l0_0 a0_1).bind fun t551 => (seedcornlaw11_ListingGoesOn.j0 k l1 (!t551) l0_0 a0_1)))) else (some false))) = some r := h
  clear h
  replace H := Option.bind_eq_some_iff.mp H
  obtain ⟨t550, A30, H⟩ := H
  replace H : (if t550 = true then (if (l0_0.length : Int) > 100 then (seedcornlaw11_ListingGoesOn.j0 k l1 true l0_0 a0_1) else (if (l1.length : Int) > 100 then (seedcornlaw11_ListingGoesOn.j0 k l1 true l0_0 a0_1) else ((seedcornref08_Right.f l0_0 a0_1).bind fun t551 => (seedcornlaw11_ListingGoesOn.j0 k l1 (!t551) l0_0 a0_1)))) else (some false)) = some r := H
  have A3 := Aside0.mk A30
  clear A30
  by_cases c4 : t550 = true
  · subst c4
    have H1 : (if (l0_0.length : Int) > 100 then (seedcornlaw11_ListingGoesOn.j0 k l1 true l0_0 a0_1) else (if (l1.length : Int) > 100 then (seedcornlaw11_ListingGoesOn.j0 k l1 true l0_0 a0_1) else ((seedcornref08_Right.f l0_0 a0_1).bind fun t551 => (seedcornlaw11_ListingGoesOn.j0 k l1 (!t551) l0_0 a0_1)))) = some r := by rw [if_pos rfl] at H; exact H
    clear H
    have H := H1
    clear H1
    have HC5 := Aside0.mk H
    clear H
    go_enter Tryd.func8, Tryd.ntmps8
    go_upto_region 3 with (first | ((with_reducible refine gate_dst (N := 2) rfl ?_); (try (refine gate_guard (by rfl) ?_; dsimp only)); refine box_event ?hg (N := 2) ?hd (cs := #[.slice A0_0 l0_0.length c0_0, .int .i64 a0_1]) (t := 28) ?hr ?_; (case hd => rfl); (case hg => rfl); (case hr => first | (go_simp; done) | (go_simp; rfl)); intro gb549 hg w6 hbox hb; have n0_ := Aside0.mk (below_step (by repeat (first | (with_reducible first | exact HB.out | apply below_alloc | apply pw_below_drewN | apply below_drew1) | exact HB.out)) hb); have n1_ := Aside0.mk (hbox); have n2_ := Aside0.mk ((by rw [hg]; exact (below_size (by repeat (first | (with_reducible first | exact HB.out | apply below_alloc | apply pw_below_drewN | apply below_drew1) | exact HB.out))) : w.heap.size ≤ gb549)); have n3_ := Aside0.mk ((by rw [hg]; exact (below_size (by repeat (first | (with_reducible first | exact HB.out | apply below_alloc | apply pw_below_drewN | apply below_drew1) | exact HB.out))) : w.heap.size ≤ gb549)); clear HB; have HB := n0_; have BK549 := n1_; have GW549 := n2_; have GE549 := n3_; clear n0_ n1_ n2_ n3_; clear hb hbox hg) | ((with_reducible refine gate_callee (f := 33) rfl ?_); refine goesL_ (some 13) rfl rfl Tryd.func33 (by kernel_rfl) rfl #[] rfl (by (try simp only [List.map_toArray, List.map_cons, List.map_nil]); first | done | rfl | (simp only [List.length_drop, List.length_take]; rfl)) ?_; (with_reducible refine (seedcornlaw11_awake.calls  true _ ?side1 ?side2 A3.out).mono ?_); (case side1 => exact GK.below HGK.out (by repeat (first | (with_reducible first | exact HB.out | apply below_alloc | apply pw_below_drewN | apply below_drew1 | refine below_set ?_ GE549.out) | exact HB.out))); (case side2 => exact GT.below HGT.out (by repeat (first | (with_reducible first | exact HB.out | apply below_alloc | apply pw_below_drewN | apply below_drew1 | refine below_set ?_ GE549.out) | exact HB.out))); rintro e w7 ⟨rfl, hb⟩; refine ⟨_, rfl, ?_⟩; have n0_ := Aside0.mk (blk_below (g := gb549) (o := .cells #[.slice A0_0 l0_0.length c0_0, .int .i64 a0_1] 28 (0, 0)) (by (with_reducible repeat (first | refine blk_drewN ?_ _ | refine blk_drew ?_ | refine blk_alloc ?_ _)); exact BK549.out) hb); have n1_ := Aside0.mk (below_step (by repeat (first | (with_reducible first | exact HB.out | apply below_alloc | apply pw_below_drewN | apply below_drew1 | refine below_set ?_ GE549.out) | exact HB.out)) hb); clear BK549; clear HB; have BK549 := n0_; have HB := n1_; clear n0_ n1_; (try clear hb); (try clear hb2); (try clear hk); (try clear hi)))
    (try simp only [Act.put, List.setIfInBounds_toArray, List.set_cons_zero, List.set_cons_succ])
    go_cut [28] (fun v28 wc => ∃ (kq : Nat) (x28_4 : Bool), v28 = .bool x28_4 ∧ Aside0 (seedcornlaw11_ListingGoesOn.j0 kq l1 x28_4 l0_0 a0_1 = some r) ∧ Aside0 (kq ≤ k) ∧ Aside0 (wc.heap[gb549]? = some (.cells #[(.slice A0_0 l0_0.length c0_0), .int .i64 a0_1] 28 (0, 0))) ∧ Aside0 (Below w.heap.size w wc))
    case first =>
      have H := HC5.out
      clear HC5
      by_cases c8 : (l0_0.length : Int) > 100
      · rw [if_pos c8] at H
        have c8b0 : decide (100 < (l0_0.length : Int)) = true := decide_eq_true c8
        have c8b1 : decide (100 < l0_0.length) = true := decide_eq_true (by omega)
        clear c8
        (first | rw [c8b0] | (simp only [i64_w, i32_w]; rw [c8b0]) | skip)
        have H' := Aside0.mk H
        clear H
        have hcz9_0 : w7.cell? ⟨gb549, 0, none⟩ = some (.slice A0_0 l0_0.length c0_0) := (blk_cell BK549.out 0).trans rfl
        have hcz9_1 : w7.cell? ⟨gb549, 1, none⟩ = some (.int .i64 a0_1) := (blk_cell BK549.out 1).trans rfl
        have hfz9_0 := blk_frozen BK549.out 0
        have hfz9_1 := blk_frozen BK549.out 1
        go_wp2
        go_meet
        case rel => exact ⟨_, (true), (by first | rfl | (simp; done) | (simp [*]; done)), H', ⟨by first | omega | exact Nat.le_refl _⟩, ⟨by (with_reducible repeat (first | refine blk_drewN ?_ _ | refine blk_drew ?_ | refine blk_alloc ?_ _)); exact BK549.out⟩, ⟨by repeat (first | (with_reducible first | exact HB.out | apply below_alloc | apply pw_below_drewN | apply below_drew1 | refine below_set ?_ GE549.out) | exact HB.out)⟩⟩
      · rw [if_neg c8] at H
        have c8b0 : decide (100 < (l0_0.length : Int)) = false := decide_eq_false c8
        have c8b1 : decide (100 < l0_0.length) = false := decide_eq_false (by omega)
        clear c8
        (first | rw [c8b0] | (simp only [i64_w, i32_w]; rw [c8b0]) | skip)
        by_cases c10 : (l1.length : Int) > 100
        · rw [if_pos c10] at H
          have c10b0 : decide (100 < (l1.length : Int)) = true := decide_eq_true c10
          have c10b1 : decide (100 < l1.length) = true := decide_eq_true (by omega)
          clear c10
          have H' := Aside0.mk H
          clear H
          have hcz11_0 : w7.cell? ⟨gb549, 0, none⟩ = some (.slice A0_0 l0_0.length c0_0) := (blk_cell BK549.out 0).trans rfl
          have hcz11_1 : w7.cell? ⟨gb549, 1, none⟩ = some (.int .i64 a0_1) := (blk_cell BK549.out 1).trans rfl
          have hfz11_0 := blk_frozen BK549.out 0
          have hfz11_1 := blk_frozen BK549.out 1
          go_wp2
          go_meet
          case rel => exact ⟨_, (true), (by first | rfl | (simp; done) | (simp [*]; done)), H', ⟨by first | omega | exact Nat.le_refl _⟩, ⟨by (with_reducible repeat (first | refine blk_drewN ?_ _ | refine blk_drew ?_ | refine blk_alloc ?_ _)); exact BK549.out⟩, ⟨by repeat (first | (with_reducible first | exact HB.out | apply below_alloc | apply pw_below_drewN | apply below_drew1 | refine below_set ?_ GE549.out) | exact HB.out)⟩⟩
        · rw [if_neg c10] at H
          have c10b0 : decide (100 < (l1.length : Int)) = false := decide_eq_false c10
          have c10b1 : decide (100 < l1.length) = false := decide_eq_false (by omega)
          clear c10
          replace H := Option.bind_eq_some_iff.mp H
          obtain ⟨t551, A120, H⟩ := H
          replace H : (seedcornlaw11_ListingGoesOn.j0 k l1 (!t551) l0_0 a0_1) = some r := H
          have A12 := Aside0.mk A120
          clear A120
          have H' := Aside0.mk H
          clear H
          have hcz13_0 : w7.cell? ⟨gb549, 0, none⟩ = some (.slice A0_0 l0_0.length c0_0) := (blk_cell BK549.out 0).trans rfl
          have hcz13_1 : w7.cell? ⟨gb549, 1, none⟩ = some (.int .i64 a0_1) := (blk_cell BK549.out 1).trans rfl
          have hfz13_0 := blk_frozen BK549.out 0
          have hfz13_1 := blk_frozen BK549.out 1
          go_wp2_with (first | (go_at_call 34; (with_reducible refine (seedcornref08_Right.calls _ _ l0_0 a0_1 t551 _ ?side1 ?side2 A12.out).mono ?_); (case side1 => repeat (first | exact (Kd.C_below HR0_0.out HB.out) | (with_reducible refine Kd.C_alloc ?_ _) | (with_reducible refine Kd.C_drewN ?_ _) | (with_reducible refine Kd.C_drew ?_))); (case side2 => exact HC0_0.out); rintro e w14 ⟨rfl, hb⟩; have n0_ := Aside0.mk (blk_below (g := gb549) (o := .cells #[.slice A0_0 l0_0.length c0_0, .int .i64 a0_1] 28 (0, 0)) (by (with_reducible repeat (first | refine blk_drewN ?_ _ | refine blk_drew ?_ | refine blk_alloc ?_ _)); exact BK549.out) hb); have n1_ := Aside0.mk (below_step (by repeat (first | (with_reducible first | exact HB.out | apply below_alloc | apply pw_below_drewN | apply below_drew1 | refine below_set ?_ GE549.out) | exact HB.out)) hb); clear BK549; clear HB; have BK549 := n0_; have HB := n1_; clear n0_ n1_; (try clear hb); (try clear hb2); (try clear hk); (try clear hi)))
          go_meet
          case rel => exact ⟨_, (!t551), (by first | rfl | (simp; done) | (simp [*]; done)), H', ⟨by first | omega | exact Nat.le_refl _⟩, ⟨by (with_reducible repeat (first | refine blk_drewN ?_ _ | refine blk_drew ?_ | refine blk_alloc ?_ _)); exact BK549.out⟩, ⟨by repeat (first | (with_reducible first | exact HB.out | apply below_alloc | apply pw_below_drewN | apply below_drew1 | refine below_set ?_ GE549.out) | exact HB.out)⟩⟩
    case rest =>
      clear HC5
      try clear c1
      try clear p2
      try clear c3
      try clear c4
      try clear c8
      try clear c8b0
      try clear c8b1
      try clear c10
      try clear c10b0
      try clear c10b1
      try clear hcz11_0
      try clear hcz11_1
      try clear hcz13_0
      try clear hcz13_1
      try clear hcz9_0
      try clear hcz9_1
      try clear hfz11_0
      try clear hfz11_1
      try clear hfz13_0
      try clear hfz13_1
      try clear hfz9_0
      try clear hfz9_1
      obtain ⟨kq, x28_4, rfl, HA, HJ4, BK549, HB⟩ := hcut
      cases kq with
      | zero => exact absurd HA.out (by simp [seedcornlaw11_ListingGoesOn.j0])
      | succ kj4 =>
        have H := HA.out
        clear HA
        simp only [seedcornlaw11_ListingGoesOn.j0] at H
        by_cases c15 : x28_4 = true
        · subst c15
          have H1 : (some true) = some r := by rw [if_pos rfl] at H; exact H
          clear H
          have H := H1
          clear H1
          obtain rfl := Option.some.inj H
          go_wp2
          go_ret
          exact ⟨by first | rfl | (simp [errW_none, errW_some] <;> rfl) | (simp [*, errW_none, errW_some] <;> rfl), by repeat (first | (with_reducible first | exact HB.out | apply below_alloc | apply pw_below_drewN | apply below_drew1 | refine below_set ?_ GE549.out) | exact HB.out)⟩
        · replace c15 := Bool.eq_false_iff.mpr c15
          subst c15
          have H1 : ((some (([] : List Int) : List Int)).bind fun y552 => (if y552.length + l0_0.length < 35184372088832 then ((some (y552 ++ l0_0 : List Int)).bind fun y555 => (if y555.length + l1.length < 35184372088832 then ((some (y555 ++ l1 : List Int)).bind fun y558 => ((listing_Targets.f l0_0 a0_1).bind fun t562 => ((listing_Targets.f y558 a0_1).bind fun t565 => (if (t562.length : Int) = (t565.length : Int) then (seedcornlaw11_ListingGoesOn.l0 kj4 t562 t565 0 l0_0 a0_1 y558 a0_1) else (some true))))) else (none))) else (none))) = some r := by rw [if_neg (show ¬ (false = true) by decide)] at H; exact H
          clear H
          have H := H1
          clear H1
          obtain ⟨y552, hy552⟩ : ∃ y_ : List Int, y_ = (([] : List Int)) := ⟨_, rfl⟩
          replace H : (if y552.length + l0_0.length < 35184372088832 then ((some (y552 ++ l0_0 : List Int)).bind fun y555 => (if y555.length + l1.length < 35184372088832 then ((some (y555 ++ l1 : List Int)).bind fun y558 => ((listing_Targets.f l0_0 a0_1).bind fun t562 => ((listing_Targets.f y558 a0_1).bind fun t565 => (if (t562.length : Int) = (t565.length : Int) then (seedcornlaw11_ListingGoesOn.l0 kj4 t562 t565 0 l0_0 a0_1 y558 a0_1) else (some true))))) else (none))) else (none)) = some r := by first | (rw [hy552]; with_reducible exact H) | (have H2_ := (Option.bind_some _ _).symm.trans H; rw [hy552]; with_reducible exact H2_) | (have H2_ := (Option.bind_some _ _).symm.trans H; with_reducible exact H2_) | with_reducible exact H | (rw [hy552]; exact H) | exact H
          have Ny552 := Aside0.mk hy552
          clear hy552
          by_cases c16 : y552.length + l0_0.length < 35184372088832
          · rw [if_pos c16] at H
            have LMc16 := Aside0.mk c16
            clear c16
            obtain ⟨y555, hy555⟩ : ∃ y_ : List Int, y_ = (y552 ++ l0_0) := ⟨_, rfl⟩
            replace H : (if y555.length + l1.length < 35184372088832 then ((some (y555 ++ l1 : List Int)).bind fun y558 => ((listing_Targets.f l0_0 a0_1).bind fun t562 => ((listing_Targets.f y558 a0_1).bind fun t565 => (if (t562.length : Int) = (t565.length : Int) then (seedcornlaw11_ListingGoesOn.l0 kj4 t562 t565 0 l0_0 a0_1 y558 a0_1) else (some true))))) else (none)) = some r := by first | (rw [hy555]; with_reducible exact H) | (have H2_ := (Option.bind_some _ _).symm.trans H; rw [hy555]; with_reducible exact H2_) | (have H2_ := (Option.bind_some _ _).symm.trans H; with_reducible exact H2_) | with_reducible exact H | (rw [hy555]; exact H) | exact H
            have Ny555 := Aside0.mk hy555
            clear hy555
            by_cases c17 : y555.length + l1.length < 35184372088832
            · rw [if_pos c17] at H
              have LMc17 := Aside0.mk c17
              clear c17
              obtain ⟨y558, hy558⟩ : ∃ y_ : List Int, y_ = (y555 ++ l1) := ⟨_, rfl⟩
              replace H : ((listing_Targets.f l0_0 a0_1).bind fun t562 => ((listing_Targets.f y558 a0_1).bind fun t565 => (if (t562.length : Int) = (t565.length : Int) then (seedcornlaw11_ListingGoesOn.l0 kj4 t562 t565 0 l0_0 a0_1 y558 a0_1) else (some true)))) = some r := by first | (rw [hy558]; with_reducible exact H) | (have H2_ := (Option.bind_some _ _).symm.trans H; rw [hy558]; with_reducible exact H2_) | (have H2_ := (Option.bind_some _ _).symm.trans H; with_reducible exact H2_) | with_reducible exact H | (rw [hy558]; exact H) | exact H
              have Ny558 := Aside0.mk hy558
              clear hy558
              replace H := Option.bind_eq_some_iff.mp H
              obtain ⟨t562, A180, H⟩ := H
              replace H : ((listing_Targets.f y558 a0_1).bind fun t565 => (if (t562.length : Int) = (t565.length : Int) then (seedcornlaw11_ListingGoesOn.l0 kj4 t562 t565 0 l0_0 a0_1 y558 a0_1) else (some true))) = some r := H
              have A18 := Aside0.mk A180
              clear A180
              replace H := Option.bind_eq_some_iff.mp H
              obtain ⟨t565, A190, H⟩ := H
              replace H : (if (t562.length : Int) = (t565.length : Int) then (seedcornlaw11_ListingGoesOn.l0 kj4 t562 t565 0 l0_0 a0_1 y558 a0_1) else (some true)) = some r := H
              have A19 := Aside0.mk A190
              clear A190
              by_cases c20 : (t562.length : Int) = (t565.length : Int)
              · rw [if_pos c20] at H
                have c20b0 : ((t562.length : Int) == (t565.length : Int)) = true := beq_iff_eq.mpr c20
                have c20b1 : ((t562.length : Int) != (t565.length : Int)) = false := bne_eq_false_iff_eq.mpr c20
                have c20b2 : (t562.length == t565.length) = true := by first | simpa using c20 | (simp at c20 ⊢; omega)
                clear c20
                have H' := Aside0.mk H
                clear H
                try go_wp2
                have n0_ := Aside0.mk (blk_drew BK549.out)
                have n1_ := Aside0.mk (below_drew1 HB.out)
                clear BK549
                clear HB
                have BK549 := n0_
                have HB := n1_
                clear n0_ n1_
                refine start_ (n := 11) (S := fun w' => w'.cell? ⟨gb549, 0, none⟩ = some (.slice A0_0 l0_0.length c0_0) ∧ w'.cell? ⟨gb549, 1, none⟩ = some (.int .i64 a0_1)) (ds := []) #[false, false, false, false, false, false, false, false, false, false, false] (by kernel_rfl) rfl rfl ⟨(blk_cell BK549.out 0).trans rfl, (blk_cell BK549.out 1).trans rfl⟩ (fun hHeld => ?_); refine with_tabW seedcornlaw11_ListingGoesOn.tab5 seedcornlaw11_ListingGoesOn.bits5 (fun HT_ HW_ => ?_)
                generalize wc.drew = w21 at BK549 HB hHeld ⊢
                refine pure_ (i := 1) (N := some 30) (v := ?_) (a' := ?_) #[false, true, false, false, false, false, false, false, false, false, false] rfl rfl (any_of HT_.out (by kernel_rfl)) (fun _ _ _ h => h) (Or.inl ⟨by rfl, ?_⟩) ?_ ?_
                rotate_left
                · intro w'
                  go_simp
                  with_reducible rfl
                rotate_left
                · simp only [Act.put, List.setIfInBounds_toArray, List.set_cons_zero, List.set_cons_succ, i64_w, i32_w]
                  rfl
                refine pure_ (i := 4) (N := some 33) (v := ?_) (a' := ?_) #[false, true, false, false, true, false, false, false, false, false, false] rfl rfl (any_of HT_.out (by kernel_rfl)) (fun _ _ _ h => h) (Or.inl ⟨by rfl, ?_⟩) ?_ ?_
                rotate_left
                · intro w'
                  go_simp
                  with_reducible rfl
                rotate_left
                · simp only [Act.put, List.setIfInBounds_toArray, List.set_cons_zero, List.set_cons_succ, i64_w, i32_w]
                  rfl
                refine pure_ (i := 6) (N := some 35) (v := ?_) (a' := ?_) #[false, true, false, false, true, false, true, false, false, false, false] rfl rfl (any_of HT_.out (by kernel_rfl)) (fun _ _ _ h => h) (Or.inl ⟨by rfl, ?_⟩) ?_ ?_
                rotate_left
                · intro w'
                  go_simp
                  with_reducible rfl
                rotate_left
                · simp only [Act.put, List.setIfInBounds_toArray, List.set_cons_zero, List.set_cons_succ, i64_w, i32_w]
                  rfl
                refine take_ (i := 2) (N := some 31) (v := ?_) (a' := ?_) #[false, true, true, false, true, false, true, false, false, false, false] rfl rfl (take_ofW HT_.out HW_.out (by kernel_rfl)) (fun _ _ _ h => h) (Or.inl ⟨by rfl, ?_⟩) hHeld ?_ ?_
                rotate_left
                · rintro w' ⟨s0, s1⟩
                  go_simp
                  with_reducible rfl
                rotate_left
                · simp only [Act.put, List.setIfInBounds_toArray, List.set_cons_zero, List.set_cons_succ, i64_w, i32_w]
                  rfl
                refine take_ (i := 7) (N := some 36) (v := ?_) (a' := ?_) #[false, true, true, false, true, false, true, true, false, false, false] rfl rfl (take_ofW HT_.out HW_.out (by kernel_rfl)) (fun _ _ _ h => h) (Or.inl ⟨by rfl, ?_⟩) hHeld ?_ ?_
                rotate_left
                · rintro w' ⟨s0, s1⟩
                  go_simp
                  with_reducible rfl
                rotate_left
                · simp only [Act.put, List.setIfInBounds_toArray, List.set_cons_zero, List.set_cons_succ, i64_w, i32_w]
                  rfl
                refine join_ (σ := Value × Value × Value × Nat) 1 #[true, true, true, true, true, true, true, true, true, true, false] (fun s_ => [(29, s_.1), (32, s_.2.1), (34, s_.2.2.1), (5, .pointer (some ⟨s_.2.2.2, 0, none⟩)), (37, .agg #[s_.2.2.1, .int .i64 a0_1])]) (fun s_ w' => (w'.cell? ⟨gb549, 0, none⟩ = some (.slice A0_0 l0_0.length c0_0) ∧ w'.cell? ⟨gb549, 1, none⟩ = some (.int .i64 a0_1)) ∧ (Kd.R (Kd.int .u32) 47 w' w.heap.size (fun _ => True) s_.2.2.1 y558) ∧ (w'.heap[gb549]? = some (.cells #[.slice A0_0 l0_0.length c0_0, .int .i64 a0_1] 28 (0, 0))) ∧ (w'.heap[s_.2.2.2]? = some (.cells #[.slice none 0 0, .int .i64 0] 28 (0, 0))) ∧ (w.heap.size ≤ s_.2.2.2) ∧ (w.heap.size ≤ s_.2.2.2) ∧ (gb549 ≠ s_.2.2.2) ∧ (s_.2.2.2 ≠ gb549) ∧ (Below w.heap.size w w')) ?_ ?_
                rotate_left
                · intro hCont
                  refine two_ (i := 0) (j := 9) (Ni := some 29) (Nj := some 5) #[true, true, true, false, true, false, true, true, false, false, false] #[false, true, true, false, true, false, true, true, false, true, false] rfl rfl rfl rfl (two_of HT_.out (by kernel_rfl)) (by decide) (by decide) (fun K hK => ?_) (fun K hK => ?_)
                  · skip
                    refine Kd.R_lit_step (Kd.int .u32) _ 47 ?hg (N := 29) ?hd (xs := ([] : List Int)) (inner := []) (ok := fun _ => True) (okp := fun _ => True) ?hr ?hp (fun _ hk => hk) trivial (Below.refl _ _) (Nat.le_refl _) (by simp) ?_; (case hd => rfl); (case hg => rfl); (case hr => first | (go_simp; done) | (go_simp; rfl)); (case hp => exact (Reps.none _ _))
                    intro v553 w22 ho23 hb hg_ hnew_
                    clear hg_ hnew_
                    (first | rw [← Ny552.out] at ho23 | (simp only [Int.reduceToNat] at ho23; rw [← Ny552.out] at ho23))
                    have n0_ := Aside0.mk (Kd.R_lower ho23 (below_size (by repeat (first | (with_reducible first | exact HB.out | apply below_alloc | apply pw_below_drewN | apply below_drew1 | refine below_set ?_ GE549.out) | exact HB.out))))
                    have n1_ := Aside0.mk (blk_below (g := gb549) (o := .cells #[.slice A0_0 l0_0.length c0_0, .int .i64 a0_1] 28 (0, 0)) (by (with_reducible repeat (first | refine blk_drewN ?_ _ | refine blk_drew ?_ | refine blk_alloc ?_ _)); exact BK549.out) hb)
                    have n2_ := Aside0.mk (below_step (by repeat (first | (with_reducible first | exact HB.out | apply below_alloc | apply pw_below_drewN | apply below_drew1 | refine below_set ?_ GE549.out) | exact HB.out)) hb)
                    clear BK549
                    clear HB
                    have HO554 := n0_
                    have BK549 := n1_
                    have HB := n2_
                    clear n0_ n1_ n2_
                    clear hb ho23
                    refine hK.out _ _ ⟨(blk_cell BK549.out 0).trans rfl, (blk_cell BK549.out 1).trans rfl⟩ (fun hHeld => ?_)
                    clear hK K
                    refine norm_ (a' := ?_) ?_ ?_
                    rotate_left
                    · show Act.put _ (some 29) _ = _
                      simp only [Act.put, List.setIfInBounds_toArray, List.set_cons_zero, List.set_cons_succ, i64_w, i32_w]
                      rfl
                    refine two_ (i := 3) (j := 9) (Ni := some 32) (Nj := some 5) #[true, true, true, true, true, false, true, true, false, false, false] #[true, true, true, false, true, false, true, true, false, true, false] rfl rfl rfl rfl (two_of HT_.out (by kernel_rfl)) (by decide) (by decide) (fun K hK => ?_) (fun K hK => ?_)
                    · skip
                      refine Kd.R_append_rows_step (Kd.int .u32) (w0 := w) w.heap.size (by rfl) (.tmp 29) (.tmp 31) 26 47 (.int .u32 0) 4 rfl Tryd.underlying26 info47 rfl (by decide) (by omega) v553 y552 l0_0 _ _ _ (fun _ => True) (fun _ => False) rfl rfl ?aO ?aR (fun _ _ h => h) (fun _ h => h.elim) ?aF ?aB ?aS ?aL ?_
                      (case aR => repeat (first | exact (Kd.C_below HR0_0.out HB.out) | (with_reducible refine Kd.C_alloc ?_ _) | (with_reducible refine Kd.C_drewN ?_ _) | (with_reducible refine Kd.C_drew ?_)))
                      (case aB => exact (by repeat (first | (with_reducible first | exact HB.out | apply below_alloc | apply pw_below_drewN | apply below_drew1 | refine below_set ?_ GE549.out) | exact HB.out)))
                      (case aF => exact (fun _ _ => trivial))
                      (case aO => exact (by (with_reducible repeat (first | apply Kd.R_alloc | apply Kd.R_drewN | apply Kd.R_drew)); exact HO554.out))
                      (case aS => exact (below_size (by repeat (first | (with_reducible first | exact HB.out | apply below_alloc | apply pw_below_drewN | apply below_drew1 | refine below_set ?_ GE549.out) | exact HB.out))))
                      (case aL => have := LMc16.out; omega)
                      intro v556 w24 ho hb hg hat
                      rw [← Ny555.out] at ho
                      have n0_ := Aside0.mk (blk_grown (g := gb549) (o := .cells #[.slice A0_0 l0_0.length c0_0, .int .i64 a0_1] 28 (0, 0)) (by (with_reducible repeat (first | refine blk_drewN ?_ _ | refine blk_drew ?_ | refine blk_alloc ?_ _)); exact BK549.out) hg (Kd.R_ne HO554.out BK549.out (by decide)))
                      have n1_ := Aside0.mk (hb)
                      have n2_ := Aside0.mk (ho)
                      clear BK549
                      clear HB
                      clear HO554
                      have BK549 := n0_
                      have HB := n1_
                      have HO557 := n2_
                      clear n0_ n1_ n2_
                      clear ho hb hg hat
                      refine hK.out _ _ ⟨(blk_cell BK549.out 0).trans rfl, (blk_cell BK549.out 1).trans rfl⟩ (fun hHeld => ?_)
                      clear hK K
                      refine norm_ (a' := ?_) ?_ ?_
                      rotate_left
                      · show Act.put _ (some 32) _ = _
                        simp only [Act.put, List.setIfInBounds_toArray, List.set_cons_zero, List.set_cons_succ, i64_w, i32_w]
                        rfl
                      refine two_ (i := 5) (j := 9) (Ni := some 34) (Nj := some 5) #[true, true, true, true, true, true, true, true, false, false, false] #[true, true, true, true, true, false, true, true, false, true, false] rfl rfl rfl rfl (two_of HT_.out (by kernel_rfl)) (by decide) (by decide) (fun K hK => ?_) (fun K hK => ?_)
                      · skip
                        refine Kd.R_append_rows_step (Kd.int .u32) (w0 := w) w.heap.size (by rfl) (.tmp 32) (.tmp 33) 26 47 (.int .u32 0) 4 rfl Tryd.underlying26 info47 rfl (by decide) (by omega) v556 y555 l1 _ _ _ (fun _ => True) (fun _ => False) rfl rfl ?aO ?aR (fun _ _ h => h) (fun _ h => h.elim) ?aF ?aB ?aS ?aL ?_
                        (case aR => repeat (first | exact (Kd.C_below HR1.out HB.out) | (with_reducible refine Kd.C_alloc ?_ _) | (with_reducible refine Kd.C_drewN ?_ _) | (with_reducible refine Kd.C_drew ?_)))
                        (case aB => exact (by repeat (first | (with_reducible first | exact HB.out | apply below_alloc | apply pw_below_drewN | apply below_drew1 | refine below_set ?_ GE549.out) | exact HB.out)))
                        (case aF => exact (fun _ _ => trivial))
                        (case aO => exact (by (with_reducible repeat (first | apply Kd.R_alloc | apply Kd.R_drewN | apply Kd.R_drew)); exact HO557.out))
                        (case aS => exact (below_size (by repeat (first | (with_reducible first | exact HB.out | apply below_alloc | apply pw_below_drewN | apply below_drew1 | refine below_set ?_ GE549.out) | exact HB.out))))
                        (case aL => have := LMc17.out; omega)
                        intro v559 w25 ho hb hg hat
                        rw [← Ny558.out] at ho
                        have n0_ := Aside0.mk (blk_grown (g := gb549) (o := .cells #[.slice A0_0 l0_0.length c0_0, .int .i64 a0_1] 28 (0, 0)) (by (with_reducible repeat (first | refine blk_drewN ?_ _ | refine blk_drew ?_ | refine blk_alloc ?_ _)); exact BK549.out) hg (Kd.R_ne HO557.out BK549.out (by decide)))
                        have n1_ := Aside0.mk (hb)
                        have n2_ := Aside0.mk (ho)
                        clear BK549
                        clear HB
                        clear HO557
                        have BK549 := n0_
                        have HB := n1_
                        have HO560 := n2_
                        clear n0_ n1_ n2_
                        clear ho hb hg hat
                        obtain ⟨Ao26, co26, eo26⟩ := Kd.R_slice HO560.out
                        (first | subst eo26 | (injection eo26 with f1_ f2_ f3_; have f4_ := f1_.symm; have f5_ := f3_.symm; clear f1_ f2_ f3_; subst f4_; subst f5_))
                        refine hK.out _ _ ⟨(blk_cell BK549.out 0).trans rfl, (blk_cell BK549.out 1).trans rfl⟩ (fun hHeld => ?_)
                        clear hK K
                        refine norm_ (a' := ?_) ?_ ?_
                        rotate_left
                        · show Act.put _ (some 34) _ = _
                          simp only [Act.put, List.setIfInBounds_toArray, List.set_cons_zero, List.set_cons_succ, i64_w, i32_w]
                          rfl
                        refine pure_ (i := 8) (N := some 37) (v := ?_) (a' := ?_) #[true, true, true, true, true, true, true, true, true, false, false] rfl rfl (any_of HT_.out (by kernel_rfl)) (fun _ _ _ h => h) (Or.inl ⟨by rfl, ?_⟩) ?_ ?_
                        rotate_left
                        · intro w'
                          go_simp
                          with_reducible rfl
                        rotate_left
                        · simp only [Act.put, List.setIfInBounds_toArray, List.set_cons_zero, List.set_cons_succ, i64_w, i32_w]
                          rfl
                        refine one_ (i := 9) (N := some 5) #[true, true, true, true, true, true, true, true, true, true, false] rfl rfl (one_of HT_.out (by kernel_rfl)) (by decide) (fun K hK => ?_)
                        refine box_step ?hg (N := 5) ?hd (cs := #[.slice none 0 0, .int .i64 0]) (t := 28) ?hr ?_; (case hd => rfl); (case hg => rfl); (case hr => first | (go_simp; done) | (go_simp; rfl))
                        intro gb561 hg w27 hbox hb
                        have n0_ := Aside0.mk (Kd.R_below (by (with_reducible repeat (first | apply Kd.R_alloc | apply Kd.R_drewN | apply Kd.R_drew)); exact HO560.out) hb)
                        have n1_ := Aside0.mk (blk_below (g := gb549) (o := .cells #[.slice A0_0 l0_0.length c0_0, .int .i64 a0_1] 28 (0, 0)) (by (with_reducible repeat (first | refine blk_drewN ?_ _ | refine blk_drew ?_ | refine blk_alloc ?_ _)); exact BK549.out) hb)
                        have n2_ := Aside0.mk (below_step (by repeat (first | (with_reducible first | exact HB.out | apply below_alloc | apply pw_below_drewN | apply below_drew1 | refine below_set ?_ GE549.out) | exact HB.out)) hb)
                        have n3_ := Aside0.mk (hbox)
                        have n4_ := Aside0.mk ((by rw [hg]; exact (below_size (by repeat (first | (with_reducible first | exact HB.out | apply below_alloc | apply pw_below_drewN | apply below_drew1 | refine below_set ?_ GE549.out) | exact HB.out))) : w.heap.size ≤ gb561))
                        have n5_ := Aside0.mk ((by rw [hg]; exact (below_size (by repeat (first | (with_reducible first | exact HB.out | apply below_alloc | apply pw_below_drewN | apply below_drew1 | refine below_set ?_ GE549.out) | exact HB.out))) : w.heap.size ≤ gb561))
                        have n6_ := Aside0.mk ((by rw [hg]; exact Nat.ne_of_lt (blk_lt (g := gb549) (o := .cells #[.slice A0_0 l0_0.length c0_0, .int .i64 a0_1] 28 (0, 0)) (by (with_reducible repeat (first | refine blk_drewN ?_ _ | refine blk_drew ?_ | refine blk_alloc ?_ _)); exact BK549.out)) : gb549 ≠ gb561))
                        have n7_ := Aside0.mk ((by rw [hg]; exact Nat.ne_of_gt (blk_lt (g := gb549) (o := .cells #[.slice A0_0 l0_0.length c0_0, .int .i64 a0_1] 28 (0, 0)) (by (with_reducible repeat (first | refine blk_drewN ?_ _ | refine blk_drew ?_ | refine blk_alloc ?_ _)); exact BK549.out)) : gb561 ≠ gb549))
                        clear HO560
                        clear BK549
                        clear HB
                        have HO560 := n0_
                        have BK549 := n1_
                        have HB := n2_
                        have BK561 := n3_
                        have GW561 := n4_
                        have GE561 := n5_
                        have NB549_561 := n6_
                        have NB561_549 := n7_
                        clear n0_ n1_ n2_ n3_ n4_ n5_ n6_ n7_
                        clear hb hbox hg
                        refine hK.out _ _ ⟨(blk_cell BK549.out 0).trans rfl, (blk_cell BK549.out 1).trans rfl⟩ (fun hHeld => ?_)
                        clear hK K
                        refine norm_ (a' := ?_) ?_ ?_
                        rotate_left
                        · show Act.put _ (some 5) _ = _
                          simp only [Act.put, List.setIfInBounds_toArray, List.set_cons_zero, List.set_cons_succ, i64_w, i32_w]
                          rfl
                        exact norm_ (by simp only [putAll, Act.put, List.setIfInBounds_toArray, List.set_cons_zero, List.set_cons_succ]) (hCont (v553, v556, .slice Ao26 y558.length co26, gb561) _ ⟨hHeld, (by (with_reducible repeat (first | apply Kd.R_alloc | apply Kd.R_drewN | apply Kd.R_drew)); exact HO560.out), (by (with_reducible repeat (first | refine blk_drewN ?_ _ | refine blk_drew ?_ | refine blk_alloc ?_ _)); exact BK549.out), (by (with_reducible repeat (first | refine blk_drewN ?_ _ | refine blk_drew ?_ | refine blk_alloc ?_ _)); exact BK561.out), GW561.out, GE561.out, NB549_561.out, NB561_549.out, (by repeat (first | (with_reducible first | exact HB.out | apply below_alloc | apply pw_below_drewN | apply below_drew1 | refine below_set ?_ GE549.out | refine below_set ?_ GE561.out) | exact HB.out))⟩)
                      · skip
                        refine box_step ?hg (N := 5) ?hd (cs := #[.slice none 0 0, .int .i64 0]) (t := 28) ?hr ?_; (case hd => rfl); (case hg => rfl); (case hr => first | (go_simp; done) | (go_simp; rfl))
                        intro gb561 hg w25 hbox hb
                        have n0_ := Aside0.mk (Kd.R_below (by (with_reducible repeat (first | apply Kd.R_alloc | apply Kd.R_drewN | apply Kd.R_drew)); exact HO557.out) hb)
                        have n1_ := Aside0.mk (blk_below (g := gb549) (o := .cells #[.slice A0_0 l0_0.length c0_0, .int .i64 a0_1] 28 (0, 0)) (by (with_reducible repeat (first | refine blk_drewN ?_ _ | refine blk_drew ?_ | refine blk_alloc ?_ _)); exact BK549.out) hb)
                        have n2_ := Aside0.mk (below_step (by repeat (first | (with_reducible first | exact HB.out | apply below_alloc | apply pw_below_drewN | apply below_drew1 | refine below_set ?_ GE549.out) | exact HB.out)) hb)
                        have n3_ := Aside0.mk (hbox)
                        have n4_ := Aside0.mk ((by rw [hg]; exact (below_size (by repeat (first | (with_reducible first | exact HB.out | apply below_alloc | apply pw_below_drewN | apply below_drew1 | refine below_set ?_ GE549.out) | exact HB.out))) : w.heap.size ≤ gb561))
                        have n5_ := Aside0.mk ((by rw [hg]; exact (below_size (by repeat (first | (with_reducible first | exact HB.out | apply below_alloc | apply pw_below_drewN | apply below_drew1 | refine below_set ?_ GE549.out) | exact HB.out))) : w.heap.size ≤ gb561))
                        have n6_ := Aside0.mk ((by rw [hg]; exact Nat.ne_of_lt (blk_lt (g := gb549) (o := .cells #[.slice A0_0 l0_0.length c0_0, .int .i64 a0_1] 28 (0, 0)) (by (with_reducible repeat (first | refine blk_drewN ?_ _ | refine blk_drew ?_ | refine blk_alloc ?_ _)); exact BK549.out)) : gb549 ≠ gb561))
                        have n7_ := Aside0.mk ((by rw [hg]; exact Nat.ne_of_gt (blk_lt (g := gb549) (o := .cells #[.slice A0_0 l0_0.length c0_0, .int .i64 a0_1] 28 (0, 0)) (by (with_reducible repeat (first | refine blk_drewN ?_ _ | refine blk_drew ?_ | refine blk_alloc ?_ _)); exact BK549.out)) : gb561 ≠ gb549))
                        clear HO557
                        clear BK549
                        clear HB
                        have HO557 := n0_
                        have BK549 := n1_
                        have HB := n2_
                        have BK561 := n3_
                        have GW561 := n4_
                        have GE561 := n5_
                        have NB549_561 := n6_
                        have NB561_549 := n7_
                        clear n0_ n1_ n2_ n3_ n4_ n5_ n6_ n7_
                        clear hb hbox hg
                        refine hK.out _ _ ⟨(blk_cell BK549.out 0).trans rfl, (blk_cell BK549.out 1).trans rfl⟩ (fun hHeld => ?_)
                        clear hK K
                        refine norm_ (a' := ?_) ?_ ?_
                        rotate_left
                        · show Act.put _ (some 5) _ = _
                          simp only [Act.put, List.setIfInBounds_toArray, List.set_cons_zero, List.set_cons_succ, i64_w, i32_w]
                          rfl
                        refine one_ (i := 5) (N := some 34) #[true, true, true, true, true, true, true, true, false, true, false] rfl rfl (one_of HT_.out (by kernel_rfl)) (by decide) (fun K hK => ?_)
                        refine Kd.R_append_rows_step (Kd.int .u32) (w0 := w) w.heap.size (by rfl) (.tmp 32) (.tmp 33) 26 47 (.int .u32 0) 4 rfl Tryd.underlying26 info47 rfl (by decide) (by omega) v556 y555 l1 _ _ _ (fun _ => True) (fun _ => False) rfl rfl ?aO ?aR (fun _ _ h => h) (fun _ h => h.elim) ?aF ?aB ?aS ?aL ?_
                        (case aR => repeat (first | exact (Kd.C_below HR1.out HB.out) | (with_reducible refine Kd.C_alloc ?_ _) | (with_reducible refine Kd.C_drewN ?_ _) | (with_reducible refine Kd.C_drew ?_)))
                        (case aB => exact (by repeat (first | (with_reducible first | exact HB.out | apply below_alloc | apply pw_below_drewN | apply below_drew1 | refine below_set ?_ GE549.out | refine below_set ?_ GE561.out) | exact HB.out)))
                        (case aF => exact (fun _ _ => trivial))
                        (case aO => exact (by (with_reducible repeat (first | apply Kd.R_alloc | apply Kd.R_drewN | apply Kd.R_drew)); exact HO557.out))
                        (case aS => exact (below_size (by repeat (first | (with_reducible first | exact HB.out | apply below_alloc | apply pw_below_drewN | apply below_drew1 | refine below_set ?_ GE549.out | refine below_set ?_ GE561.out) | exact HB.out))))
                        (case aL => have := LMc17.out; omega)
                        intro v559 w26 ho hb hg hat
                        rw [← Ny558.out] at ho
                        have n0_ := Aside0.mk (blk_grown (g := gb549) (o := .cells #[.slice A0_0 l0_0.length c0_0, .int .i64 a0_1] 28 (0, 0)) (by (with_reducible repeat (first | refine blk_drewN ?_ _ | refine blk_drew ?_ | refine blk_alloc ?_ _)); exact BK549.out) hg (Kd.R_ne HO557.out BK549.out (by decide)))
                        have n1_ := Aside0.mk (blk_grown (g := gb561) (o := .cells #[.slice none 0 0, .int .i64 0] 28 (0, 0)) (by (with_reducible repeat (first | refine blk_drewN ?_ _ | refine blk_drew ?_ | refine blk_alloc ?_ _)); exact BK561.out) hg (Kd.R_ne HO557.out BK561.out (by decide)))
                        have n2_ := Aside0.mk (hb)
                        have n3_ := Aside0.mk (ho)
                        clear BK549
                        clear BK561
                        clear HB
                        clear HO557
                        have BK549 := n0_
                        have BK561 := n1_
                        have HB := n2_
                        have HO560 := n3_
                        clear n0_ n1_ n2_ n3_
                        clear ho hb hg hat
                        obtain ⟨Ao27, co27, eo27⟩ := Kd.R_slice HO560.out
                        (first | subst eo27 | (injection eo27 with f1_ f2_ f3_; have f4_ := f1_.symm; have f5_ := f3_.symm; clear f1_ f2_ f3_; subst f4_; subst f5_))
                        refine hK.out _ _ ⟨(blk_cell BK549.out 0).trans rfl, (blk_cell BK549.out 1).trans rfl⟩ (fun hHeld => ?_)
                        clear hK K
                        refine norm_ (a' := ?_) ?_ ?_
                        rotate_left
                        · show Act.put _ (some 34) _ = _
                          simp only [Act.put, List.setIfInBounds_toArray, List.set_cons_zero, List.set_cons_succ, i64_w, i32_w]
                          rfl
                        refine pure_ (i := 8) (N := some 37) (v := ?_) (a' := ?_) #[true, true, true, true, true, true, true, true, true, true, false] rfl rfl (any_of HT_.out (by kernel_rfl)) (fun _ _ _ h => h) (Or.inl ⟨by rfl, ?_⟩) ?_ ?_
                        rotate_left
                        · intro w'
                          go_simp
                          with_reducible rfl
                        rotate_left
                        · simp only [Act.put, List.setIfInBounds_toArray, List.set_cons_zero, List.set_cons_succ, i64_w, i32_w]
                          rfl
                        exact norm_ (by simp only [putAll, Act.put, List.setIfInBounds_toArray, List.set_cons_zero, List.set_cons_succ]) (hCont (v553, v556, .slice Ao27 y558.length co27, gb561) _ ⟨hHeld, (by (with_reducible repeat (first | apply Kd.R_alloc | apply Kd.R_drewN | apply Kd.R_drew)); exact HO560.out), (by (with_reducible repeat (first | refine blk_drewN ?_ _ | refine blk_drew ?_ | refine blk_alloc ?_ _)); exact BK549.out), (by (with_reducible repeat (first | refine blk_drewN ?_ _ | refine blk_drew ?_ | refine blk_alloc ?_ _)); exact BK561.out), GW561.out, GE561.out, NB549_561.out, NB561_549.out, (by repeat (first | (with_reducible first | exact HB.out | apply below_alloc | apply pw_below_drewN | apply below_drew1 | refine below_set ?_ GE549.out | refine below_set ?_ GE561.out) | exact HB.out))⟩)
                    · skip
                      refine box_step ?hg (N := 5) ?hd (cs := #[.slice none 0 0, .int .i64 0]) (t := 28) ?hr ?_; (case hd => rfl); (case hg => rfl); (case hr => first | (go_simp; done) | (go_simp; rfl))
                      intro gb561 hg w24 hbox hb
                      have n0_ := Aside0.mk (Kd.R_below (by (with_reducible repeat (first | apply Kd.R_alloc | apply Kd.R_drewN | apply Kd.R_drew)); exact HO554.out) hb)
                      have n1_ := Aside0.mk (blk_below (g := gb549) (o := .cells #[.slice A0_0 l0_0.length c0_0, .int .i64 a0_1] 28 (0, 0)) (by (with_reducible repeat (first | refine blk_drewN ?_ _ | refine blk_drew ?_ | refine blk_alloc ?_ _)); exact BK549.out) hb)
                      have n2_ := Aside0.mk (below_step (by repeat (first | (with_reducible first | exact HB.out | apply below_alloc | apply pw_below_drewN | apply below_drew1 | refine below_set ?_ GE549.out) | exact HB.out)) hb)
                      have n3_ := Aside0.mk (hbox)
                      have n4_ := Aside0.mk ((by rw [hg]; exact (below_size (by repeat (first | (with_reducible first | exact HB.out | apply below_alloc | apply pw_below_drewN | apply below_drew1 | refine below_set ?_ GE549.out) | exact HB.out))) : w.heap.size ≤ gb561))
                      have n5_ := Aside0.mk ((by rw [hg]; exact (below_size (by repeat (first | (with_reducible first | exact HB.out | apply below_alloc | apply pw_below_drewN | apply below_drew1 | refine below_set ?_ GE549.out) | exact HB.out))) : w.heap.size ≤ gb561))
                      have n6_ := Aside0.mk ((by rw [hg]; exact Nat.ne_of_lt (blk_lt (g := gb549) (o := .cells #[.slice A0_0 l0_0.length c0_0, .int .i64 a0_1] 28 (0, 0)) (by (with_reducible repeat (first | refine blk_drewN ?_ _ | refine blk_drew ?_ | refine blk_alloc ?_ _)); exact BK549.out)) : gb549 ≠ gb561))
                      have n7_ := Aside0.mk ((by rw [hg]; exact Nat.ne_of_gt (blk_lt (g := gb549) (o := .cells #[.slice A0_0 l0_0.length c0_0, .int .i64 a0_1] 28 (0, 0)) (by (with_reducible repeat (first | refine blk_drewN ?_ _ | refine blk_drew ?_ | refine blk_alloc ?_ _)); exact BK549.out)) : gb561 ≠ gb549))
                      clear HO554
                      clear BK549
                      clear HB
                      have HO554 := n0_
                      have BK549 := n1_
                      have HB := n2_
                      have BK561 := n3_
                      have GW561 := n4_
                      have GE561 := n5_
                      have NB549_561 := n6_
                      have NB561_549 := n7_
                      clear n0_ n1_ n2_ n3_ n4_ n5_ n6_ n7_
                      clear hb hbox hg
                      refine hK.out _ _ ⟨(blk_cell BK549.out 0).trans rfl, (blk_cell BK549.out 1).trans rfl⟩ (fun hHeld => ?_)
                      clear hK K
                      refine norm_ (a' := ?_) ?_ ?_
                      rotate_left
                      · show Act.put _ (some 5) _ = _
                        simp only [Act.put, List.setIfInBounds_toArray, List.set_cons_zero, List.set_cons_succ, i64_w, i32_w]
                        rfl
                      refine one_ (i := 3) (N := some 32) #[true, true, true, true, true, false, true, true, false, true, false] rfl rfl (one_of HT_.out (by kernel_rfl)) (by decide) (fun K hK => ?_)
                      refine Kd.R_append_rows_step (Kd.int .u32) (w0 := w) w.heap.size (by rfl) (.tmp 29) (.tmp 31) 26 47 (.int .u32 0) 4 rfl Tryd.underlying26 info47 rfl (by decide) (by omega) v553 y552 l0_0 _ _ _ (fun _ => True) (fun _ => False) rfl rfl ?aO ?aR (fun _ _ h => h) (fun _ h => h.elim) ?aF ?aB ?aS ?aL ?_
                      (case aR => repeat (first | exact (Kd.C_below HR0_0.out HB.out) | (with_reducible refine Kd.C_alloc ?_ _) | (with_reducible refine Kd.C_drewN ?_ _) | (with_reducible refine Kd.C_drew ?_)))
                      (case aB => exact (by repeat (first | (with_reducible first | exact HB.out | apply below_alloc | apply pw_below_drewN | apply below_drew1 | refine below_set ?_ GE549.out | refine below_set ?_ GE561.out) | exact HB.out)))
                      (case aF => exact (fun _ _ => trivial))
                      (case aO => exact (by (with_reducible repeat (first | apply Kd.R_alloc | apply Kd.R_drewN | apply Kd.R_drew)); exact HO554.out))
                      (case aS => exact (below_size (by repeat (first | (with_reducible first | exact HB.out | apply below_alloc | apply pw_below_drewN | apply below_drew1 | refine below_set ?_ GE549.out | refine below_set ?_ GE561.out) | exact HB.out))))
                      (case aL => have := LMc16.out; omega)
                      intro v556 w25 ho hb hg hat
                      rw [← Ny555.out] at ho
                      have n0_ := Aside0.mk (blk_grown (g := gb549) (o := .cells #[.slice A0_0 l0_0.length c0_0, .int .i64 a0_1] 28 (0, 0)) (by (with_reducible repeat (first | refine blk_drewN ?_ _ | refine blk_drew ?_ | refine blk_alloc ?_ _)); exact BK549.out) hg (Kd.R_ne HO554.out BK549.out (by decide)))
                      have n1_ := Aside0.mk (blk_grown (g := gb561) (o := .cells #[.slice none 0 0, .int .i64 0] 28 (0, 0)) (by (with_reducible repeat (first | refine blk_drewN ?_ _ | refine blk_drew ?_ | refine blk_alloc ?_ _)); exact BK561.out) hg (Kd.R_ne HO554.out BK561.out (by decide)))
                      have n2_ := Aside0.mk (hb)
                      have n3_ := Aside0.mk (ho)
                      clear BK549
                      clear BK561
                      clear HB
                      clear HO554
                      have BK549 := n0_
                      have BK561 := n1_
                      have HB := n2_
                      have HO557 := n3_
                      clear n0_ n1_ n2_ n3_
                      clear ho hb hg hat
                      refine hK.out _ _ ⟨(blk_cell BK549.out 0).trans rfl, (blk_cell BK549.out 1).trans rfl⟩ (fun hHeld => ?_)
                      clear hK K
                      refine norm_ (a' := ?_) ?_ ?_
                      rotate_left
                      · show Act.put _ (some 32) _ = _
                        simp only [Act.put, List.setIfInBounds_toArray, List.set_cons_zero, List.set_cons_succ, i64_w, i32_w]
                        rfl
                      refine one_ (i := 5) (N := some 34) #[true, true, true, true, true, true, true, true, false, true, false] rfl rfl (one_of HT_.out (by kernel_rfl)) (by decide) (fun K hK => ?_)
                      refine Kd.R_append_rows_step (Kd.int .u32) (w0 := w) w.heap.size (by rfl) (.tmp 32) (.tmp 33) 26 47 (.int .u32 0) 4 rfl Tryd.underlying26 info47 rfl (by decide) (by omega) v556 y555 l1 _ _ _ (fun _ => True) (fun _ => False) rfl rfl ?aO ?aR (fun _ _ h => h) (fun _ h => h.elim) ?aF ?aB ?aS ?aL ?_
                      (case aR => repeat (first | exact (Kd.C_below HR1.out HB.out) | (with_reducible refine Kd.C_alloc ?_ _) | (with_reducible refine Kd.C_drewN ?_ _) | (with_reducible refine Kd.C_drew ?_)))
                      (case aB => exact (by repeat (first | (with_reducible first | exact HB.out | apply below_alloc | apply pw_below_drewN | apply below_drew1 | refine below_set ?_ GE549.out | refine below_set ?_ GE561.out) | exact HB.out)))
                      (case aF => exact (fun _ _ => trivial))
                      (case aO => exact (by (with_reducible repeat (first | apply Kd.R_alloc | apply Kd.R_drewN | apply Kd.R_drew)); exact HO557.out))
                      (case aS => exact (below_size (by repeat (first | (with_reducible first | exact HB.out | apply below_alloc | apply pw_below_drewN | apply below_drew1 | refine below_set ?_ GE549.out | refine below_set ?_ GE561.out) | exact HB.out))))
                      (case aL => have := LMc17.out; omega)
                      intro v559 w26 ho hb hg hat
                      rw [← Ny558.out] at ho
                      have n0_ := Aside0.mk (blk_grown (g := gb549) (o := .cells #[.slice A0_0 l0_0.length c0_0, .int .i64 a0_1] 28 (0, 0)) (by (with_reducible repeat (first | refine blk_drewN ?_ _ | refine blk_drew ?_ | refine blk_alloc ?_ _)); exact BK549.out) hg (Kd.R_ne HO557.out BK549.out (by decide)))
                      have n1_ := Aside0.mk (blk_grown (g := gb561) (o := .cells #[.slice none 0 0, .int .i64 0] 28 (0, 0)) (by (with_reducible repeat (first | refine blk_drewN ?_ _ | refine blk_drew ?_ | refine blk_alloc ?_ _)); exact BK561.out) hg (Kd.R_ne HO557.out BK561.out (by decide)))
                      have n2_ := Aside0.mk (hb)
                      have n3_ := Aside0.mk (ho)
                      clear BK549
                      clear BK561
                      clear HB
                      clear HO557
                      have BK549 := n0_
                      have BK561 := n1_
                      have HB := n2_
                      have HO560 := n3_
                      clear n0_ n1_ n2_ n3_
                      clear ho hb hg hat
                      obtain ⟨Ao27, co27, eo27⟩ := Kd.R_slice HO560.out
                      (first | subst eo27 | (injection eo27 with f1_ f2_ f3_; have f4_ := f1_.symm; have f5_ := f3_.symm; clear f1_ f2_ f3_; subst f4_; subst f5_))
                      refine hK.out _ _ ⟨(blk_cell BK549.out 0).trans rfl, (blk_cell BK549.out 1).trans rfl⟩ (fun hHeld => ?_)
                      clear hK K
                      refine norm_ (a' := ?_) ?_ ?_
                      rotate_left
                      · show Act.put _ (some 34) _ = _
                        simp only [Act.put, List.setIfInBounds_toArray, List.set_cons_zero, List.set_cons_succ, i64_w, i32_w]
                        rfl
                      refine pure_ (i := 8) (N := some 37) (v := ?_) (a' := ?_) #[true, true, true, true, true, true, true, true, true, true, false] rfl rfl (any_of HT_.out (by kernel_rfl)) (fun _ _ _ h => h) (Or.inl ⟨by rfl, ?_⟩) ?_ ?_
                      rotate_left
                      · intro w'
                        go_simp
                        with_reducible rfl
                      rotate_left
                      · simp only [Act.put, List.setIfInBounds_toArray, List.set_cons_zero, List.set_cons_succ, i64_w, i32_w]
                        rfl
                      exact norm_ (by simp only [putAll, Act.put, List.setIfInBounds_toArray, List.set_cons_zero, List.set_cons_succ]) (hCont (v553, v556, .slice Ao27 y558.length co27, gb561) _ ⟨hHeld, (by (with_reducible repeat (first | apply Kd.R_alloc | apply Kd.R_drewN | apply Kd.R_drew)); exact HO560.out), (by (with_reducible repeat (first | refine blk_drewN ?_ _ | refine blk_drew ?_ | refine blk_alloc ?_ _)); exact BK549.out), (by (with_reducible repeat (first | refine blk_drewN ?_ _ | refine blk_drew ?_ | refine blk_alloc ?_ _)); exact BK561.out), GW561.out, GE561.out, NB549_561.out, NB561_549.out, (by repeat (first | (with_reducible first | exact HB.out | apply below_alloc | apply pw_below_drewN | apply below_drew1 | refine below_set ?_ GE549.out | refine below_set ?_ GE561.out) | exact HB.out))⟩)
                  · skip
                    refine box_step ?hg (N := 5) ?hd (cs := #[.slice none 0 0, .int .i64 0]) (t := 28) ?hr ?_; (case hd => rfl); (case hg => rfl); (case hr => first | (go_simp; done) | (go_simp; rfl))
                    intro gb561 hg w22 hbox hb
                    have n0_ := Aside0.mk (blk_below (g := gb549) (o := .cells #[.slice A0_0 l0_0.length c0_0, .int .i64 a0_1] 28 (0, 0)) (by (with_reducible repeat (first | refine blk_drewN ?_ _ | refine blk_drew ?_ | refine blk_alloc ?_ _)); exact BK549.out) hb)
                    have n1_ := Aside0.mk (below_step (by repeat (first | (with_reducible first | exact HB.out | apply below_alloc | apply pw_below_drewN | apply below_drew1 | refine below_set ?_ GE549.out) | exact HB.out)) hb)
                    have n2_ := Aside0.mk (hbox)
                    have n3_ := Aside0.mk ((by rw [hg]; exact (below_size (by repeat (first | (with_reducible first | exact HB.out | apply below_alloc | apply pw_below_drewN | apply below_drew1 | refine below_set ?_ GE549.out) | exact HB.out))) : w.heap.size ≤ gb561))
                    have n4_ := Aside0.mk ((by rw [hg]; exact (below_size (by repeat (first | (with_reducible first | exact HB.out | apply below_alloc | apply pw_below_drewN | apply below_drew1 | refine below_set ?_ GE549.out) | exact HB.out))) : w.heap.size ≤ gb561))
                    have n5_ := Aside0.mk ((by rw [hg]; exact Nat.ne_of_lt (blk_lt (g := gb549) (o := .cells #[.slice A0_0 l0_0.length c0_0, .int .i64 a0_1] 28 (0, 0)) (by (with_reducible repeat (first | refine blk_drewN ?_ _ | refine blk_drew ?_ | refine blk_alloc ?_ _)); exact BK549.out)) : gb549 ≠ gb561))
                    have n6_ := Aside0.mk ((by rw [hg]; exact Nat.ne_of_gt (blk_lt (g := gb549) (o := .cells #[.slice A0_0 l0_0.length c0_0, .int .i64 a0_1] 28 (0, 0)) (by (with_reducible repeat (first | refine blk_drewN ?_ _ | refine blk_drew ?_ | refine blk_alloc ?_ _)); exact BK549.out)) : gb561 ≠ gb549))
                    clear BK549
                    clear HB
                    have BK549 := n0_
                    have HB := n1_
                    have BK561 := n2_
                    have GW561 := n3_
                    have GE561 := n4_
                    have NB549_561 := n5_
                    have NB561_549 := n6_
                    clear n0_ n1_ n2_ n3_ n4_ n5_ n6_
                    clear hb hbox hg
                    refine hK.out _ _ ⟨(blk_cell BK549.out 0).trans rfl, (blk_cell BK549.out 1).trans rfl⟩ (fun hHeld => ?_)
                    clear hK K
                    refine norm_ (a' := ?_) ?_ ?_
                    rotate_left
                    · show Act.put _ (some 5) _ = _
                      simp only [Act.put, List.setIfInBounds_toArray, List.set_cons_zero, List.set_cons_succ, i64_w, i32_w]
                      rfl
                    refine one_ (i := 0) (N := some 29) #[true, true, true, false, true, false, true, true, false, true, false] rfl rfl (one_of HT_.out (by kernel_rfl)) (by decide) (fun K hK => ?_)
                    refine Kd.R_lit_step (Kd.int .u32) _ 47 ?hg (N := 29) ?hd (xs := ([] : List Int)) (inner := []) (ok := fun _ => True) (okp := fun _ => True) ?hr ?hp (fun _ hk => hk) trivial (Below.refl _ _) (Nat.le_refl _) (by simp) ?_; (case hd => rfl); (case hg => rfl); (case hr => first | (go_simp; done) | (go_simp; rfl)); (case hp => exact (Reps.none _ _))
                    intro v553 w23 ho24 hb hg_ hnew_
                    clear hg_ hnew_
                    (first | rw [← Ny552.out] at ho24 | (simp only [Int.reduceToNat] at ho24; rw [← Ny552.out] at ho24))
                    have n0_ := Aside0.mk (Kd.R_lower ho24 (below_size (by repeat (first | (with_reducible first | exact HB.out | apply below_alloc | apply pw_below_drewN | apply below_drew1 | refine below_set ?_ GE549.out | refine below_set ?_ GE561.out) | exact HB.out))))
                    have n1_ := Aside0.mk (blk_below (g := gb549) (o := .cells #[.slice A0_0 l0_0.length c0_0, .int .i64 a0_1] 28 (0, 0)) (by (with_reducible repeat (first | refine blk_drewN ?_ _ | refine blk_drew ?_ | refine blk_alloc ?_ _)); exact BK549.out) hb)
                    have n2_ := Aside0.mk (blk_below (g := gb561) (o := .cells #[.slice none 0 0, .int .i64 0] 28 (0, 0)) (by (with_reducible repeat (first | refine blk_drewN ?_ _ | refine blk_drew ?_ | refine blk_alloc ?_ _)); exact BK561.out) hb)
                    have n3_ := Aside0.mk (below_step (by repeat (first | (with_reducible first | exact HB.out | apply below_alloc | apply pw_below_drewN | apply below_drew1 | refine below_set ?_ GE549.out | refine below_set ?_ GE561.out) | exact HB.out)) hb)
                    clear BK549
                    clear BK561
                    clear HB
                    have HO554 := n0_
                    have BK549 := n1_
                    have BK561 := n2_
                    have HB := n3_
                    clear n0_ n1_ n2_ n3_
                    clear hb ho24
                    refine hK.out _ _ ⟨(blk_cell BK549.out 0).trans rfl, (blk_cell BK549.out 1).trans rfl⟩ (fun hHeld => ?_)
                    clear hK K
                    refine norm_ (a' := ?_) ?_ ?_
                    rotate_left
                    · show Act.put _ (some 29) _ = _
                      simp only [Act.put, List.setIfInBounds_toArray, List.set_cons_zero, List.set_cons_succ, i64_w, i32_w]
                      rfl
                    refine one_ (i := 3) (N := some 32) #[true, true, true, true, true, false, true, true, false, true, false] rfl rfl (one_of HT_.out (by kernel_rfl)) (by decide) (fun K hK => ?_)
                    refine Kd.R_append_rows_step (Kd.int .u32) (w0 := w) w.heap.size (by rfl) (.tmp 29) (.tmp 31) 26 47 (.int .u32 0) 4 rfl Tryd.underlying26 info47 rfl (by decide) (by omega) v553 y552 l0_0 _ _ _ (fun _ => True) (fun _ => False) rfl rfl ?aO ?aR (fun _ _ h => h) (fun _ h => h.elim) ?aF ?aB ?aS ?aL ?_
                    (case aR => repeat (first | exact (Kd.C_below HR0_0.out HB.out) | (with_reducible refine Kd.C_alloc ?_ _) | (with_reducible refine Kd.C_drewN ?_ _) | (with_reducible refine Kd.C_drew ?_)))
                    (case aB => exact (by repeat (first | (with_reducible first | exact HB.out | apply below_alloc | apply pw_below_drewN | apply below_drew1 | refine below_set ?_ GE549.out | refine below_set ?_ GE561.out) | exact HB.out)))
                    (case aF => exact (fun _ _ => trivial))
                    (case aO => exact (by (with_reducible repeat (first | apply Kd.R_alloc | apply Kd.R_drewN | apply Kd.R_drew)); exact HO554.out))
                    (case aS => exact (below_size (by repeat (first | (with_reducible first | exact HB.out | apply below_alloc | apply pw_below_drewN | apply below_drew1 | refine below_set ?_ GE549.out | refine below_set ?_ GE561.out) | exact HB.out))))
                    (case aL => have := LMc16.out; omega)
                    intro v556 w25 ho hb hg hat
                    rw [← Ny555.out] at ho
                    have n0_ := Aside0.mk (blk_grown (g := gb549) (o := .cells #[.slice A0_0 l0_0.length c0_0, .int .i64 a0_1] 28 (0, 0)) (by (with_reducible repeat (first | refine blk_drewN ?_ _ | refine blk_drew ?_ | refine blk_alloc ?_ _)); exact BK549.out) hg (Kd.R_ne HO554.out BK549.out (by decide)))
                    have n1_ := Aside0.mk (blk_grown (g := gb561) (o := .cells #[.slice none 0 0, .int .i64 0] 28 (0, 0)) (by (with_reducible repeat (first | refine blk_drewN ?_ _ | refine blk_drew ?_ | refine blk_alloc ?_ _)); exact BK561.out) hg (Kd.R_ne HO554.out BK561.out (by decide)))
                    have n2_ := Aside0.mk (hb)
                    have n3_ := Aside0.mk (ho)
                    clear BK549
                    clear BK561
                    clear HB
                    clear HO554
                    have BK549 := n0_
                    have BK561 := n1_
                    have HB := n2_
                    have HO557 := n3_
                    clear n0_ n1_ n2_ n3_
                    clear ho hb hg hat
                    refine hK.out _ _ ⟨(blk_cell BK549.out 0).trans rfl, (blk_cell BK549.out 1).trans rfl⟩ (fun hHeld => ?_)
                    clear hK K
                    refine norm_ (a' := ?_) ?_ ?_
                    rotate_left
                    · show Act.put _ (some 32) _ = _
                      simp only [Act.put, List.setIfInBounds_toArray, List.set_cons_zero, List.set_cons_succ, i64_w, i32_w]
                      rfl
                    refine one_ (i := 5) (N := some 34) #[true, true, true, true, true, true, true, true, false, true, false] rfl rfl (one_of HT_.out (by kernel_rfl)) (by decide) (fun K hK => ?_)
                    refine Kd.R_append_rows_step (Kd.int .u32) (w0 := w) w.heap.size (by rfl) (.tmp 32) (.tmp 33) 26 47 (.int .u32 0) 4 rfl Tryd.underlying26 info47 rfl (by decide) (by omega) v556 y555 l1 _ _ _ (fun _ => True) (fun _ => False) rfl rfl ?aO ?aR (fun _ _ h => h) (fun _ h => h.elim) ?aF ?aB ?aS ?aL ?_
                    (case aR => repeat (first | exact (Kd.C_below HR1.out HB.out) | (with_reducible refine Kd.C_alloc ?_ _) | (with_reducible refine Kd.C_drewN ?_ _) | (with_reducible refine Kd.C_drew ?_)))
                    (case aB => exact (by repeat (first | (with_reducible first | exact HB.out | apply below_alloc | apply pw_below_drewN | apply below_drew1 | refine below_set ?_ GE549.out | refine below_set ?_ GE561.out) | exact HB.out)))
                    (case aF => exact (fun _ _ => trivial))
                    (case aO => exact (by (with_reducible repeat (first | apply Kd.R_alloc | apply Kd.R_drewN | apply Kd.R_drew)); exact HO557.out))
                    (case aS => exact (below_size (by repeat (first | (with_reducible first | exact HB.out | apply below_alloc | apply pw_below_drewN | apply below_drew1 | refine below_set ?_ GE549.out | refine below_set ?_ GE561.out) | exact HB.out))))
                    (case aL => have := LMc17.out; omega)
                    intro v559 w26 ho hb hg hat
                    rw [← Ny558.out] at ho
                    have n0_ := Aside0.mk (blk_grown (g := gb549) (o := .cells #[.slice A0_0 l0_0.length c0_0, .int .i64 a0_1] 28 (0, 0)) (by (with_reducible repeat (first | refine blk_drewN ?_ _ | refine blk_drew ?_ | refine blk_alloc ?_ _)); exact BK549.out) hg (Kd.R_ne HO557.out BK549.out (by decide)))
                    have n1_ := Aside0.mk (blk_grown (g := gb561) (o := .cells #[.slice none 0 0, .int .i64 0] 28 (0, 0)) (by (with_reducible repeat (first | refine blk_drewN ?_ _ | refine blk_drew ?_ | refine blk_alloc ?_ _)); exact BK561.out) hg (Kd.R_ne HO557.out BK561.out (by decide)))
                    have n2_ := Aside0.mk (hb)
                    have n3_ := Aside0.mk (ho)
                    clear BK549
                    clear BK561
                    clear HB
                    clear HO557
                    have BK549 := n0_
                    have BK561 := n1_
                    have HB := n2_
                    have HO560 := n3_
                    clear n0_ n1_ n2_ n3_
                    clear ho hb hg hat
                    obtain ⟨Ao27, co27, eo27⟩ := Kd.R_slice HO560.out
                    (first | subst eo27 | (injection eo27 with f1_ f2_ f3_; have f4_ := f1_.symm; have f5_ := f3_.symm; clear f1_ f2_ f3_; subst f4_; subst f5_))
                    refine hK.out _ _ ⟨(blk_cell BK549.out 0).trans rfl, (blk_cell BK549.out 1).trans rfl⟩ (fun hHeld => ?_)
                    clear hK K
                    refine norm_ (a' := ?_) ?_ ?_
                    rotate_left
                    · show Act.put _ (some 34) _ = _
                      simp only [Act.put, List.setIfInBounds_toArray, List.set_cons_zero, List.set_cons_succ, i64_w, i32_w]
                      rfl
                    refine pure_ (i := 8) (N := some 37) (v := ?_) (a' := ?_) #[true, true, true, true, true, true, true, true, true, true, false] rfl rfl (any_of HT_.out (by kernel_rfl)) (fun _ _ _ h => h) (Or.inl ⟨by rfl, ?_⟩) ?_ ?_
                    rotate_left
                    · intro w'
                      go_simp
                      with_reducible rfl
                    rotate_left
                    · simp only [Act.put, List.setIfInBounds_toArray, List.set_cons_zero, List.set_cons_succ, i64_w, i32_w]
                      rfl
                    exact norm_ (by simp only [putAll, Act.put, List.setIfInBounds_toArray, List.set_cons_zero, List.set_cons_succ]) (hCont (v553, v556, .slice Ao27 y558.length co27, gb561) _ ⟨hHeld, (by (with_reducible repeat (first | apply Kd.R_alloc | apply Kd.R_drewN | apply Kd.R_drew)); exact HO560.out), (by (with_reducible repeat (first | refine blk_drewN ?_ _ | refine blk_drew ?_ | refine blk_alloc ?_ _)); exact BK549.out), (by (with_reducible repeat (first | refine blk_drewN ?_ _ | refine blk_drew ?_ | refine blk_alloc ?_ _)); exact BK561.out), GW561.out, GE561.out, NB549_561.out, NB561_549.out, (by repeat (first | (with_reducible first | exact HB.out | apply below_alloc | apply pw_below_drewN | apply below_drew1 | refine below_set ?_ GE549.out | refine below_set ?_ GE561.out) | exact HB.out))⟩)
                rintro ⟨v553, v556, v559, gb561⟩ w28 ⟨hS_, h0_, h1_, h2_, h3_, h4_, h5_, h6_, h7_⟩
                have n0_ : Aside0 (Kd.R (Kd.int .u32) 47 w28 w.heap.size (fun _ => True) v559 y558) := ⟨h0_⟩
                have n1_ : Aside0 (w28.heap[gb549]? = some (.cells #[.slice A0_0 l0_0.length c0_0, .int .i64 a0_1] 28 (0, 0))) := ⟨h1_⟩
                have n2_ : Aside0 (w28.heap[gb561]? = some (.cells #[.slice none 0 0, .int .i64 0] 28 (0, 0))) := ⟨h2_⟩
                have n3_ : Aside0 (w.heap.size ≤ gb561) := ⟨h3_⟩
                have n4_ : Aside0 (w.heap.size ≤ gb561) := ⟨h4_⟩
                have n5_ : Aside0 (gb549 ≠ gb561) := ⟨h5_⟩
                have n6_ : Aside0 (gb561 ≠ gb549) := ⟨h6_⟩
                have n7_ : Aside0 (Below w.heap.size w w28) := ⟨h7_⟩
                clear BK549
                clear HB
                clear h0_ h1_ h2_ h3_ h4_ h5_ h6_ h7_
                have HO560 := n0_
                have BK549 := n1_
                have BK561 := n2_
                have GW561 := n3_
                have GE561 := n4_
                have NB549_561 := n5_
                have NB561_549 := n6_
                have HB := n7_
                clear n0_ n1_ n2_ n3_ n4_ n5_ n6_ n7_
                have hHeld : w28.cell? ⟨gb549, 0, none⟩ = some (.slice A0_0 l0_0.length c0_0) ∧ w28.cell? ⟨gb549, 1, none⟩ = some (.int .i64 a0_1) := hS_
                obtain ⟨Ao29, co29, eo29⟩ := Kd.R_slice HO560.out
                (first | subst eo29 | (injection eo29 with f1_ f2_ f3_; have f4_ := f1_.symm; have f5_ := f3_.symm; clear f1_ f2_ f3_; subst f4_; subst f5_))
                refine norm_ (a' := ?_) ?_ ?_
                rotate_left
                · simp only [putAll, Act.put, List.setIfInBounds_toArray, List.set_cons_zero, List.set_cons_succ]
                  rfl
                refine one_ (i := 10) (N := none) #[true, true, true, true, true, true, true, true, true, true, true] rfl rfl (one_of HT_.out (by kernel_rfl)) (by decide) (fun K hK => ?_)
                have hs30 : w28.cell? ⟨gb561, 0, none⟩ = some (.slice none 0 0) := (blk_cell BK561.out 0).trans rfl
                have hfs30 := blk_frozen BK561.out 0
                have hns30_0 := NB549_561.out
                have hms30_0 := NB561_549.out
                have hs31 : w28.cell? ⟨gb561, 1, none⟩ = some (.int .i64 0) := (blk_cell BK561.out 1).trans rfl
                have hfs31 := blk_frozen BK561.out 1
                have hns31_0 := NB549_561.out
                have hms31_0 := NB561_549.out
                refine skip_ (w1 := ?_) (by rfl) rfl ?_ ?_
                rotate_left
                · go_simp
                  rfl
                refine hK.out _ _ ⟨((cell_far (p := ⟨gb561, _, none⟩) NB549_561.out _).trans (((cell_far (p := ⟨gb561, _, none⟩) NB549_561.out _).trans (hHeld.1)))), ((cell_far (p := ⟨gb561, _, none⟩) NB549_561.out _).trans (((cell_far (p := ⟨gb561, _, none⟩) NB549_561.out _).trans (hHeld.2))))⟩ (fun hHeld => ?_)
                clear hK K
                refine done_ (done_of HT_.out (by kernel_rfl)) ?_
                have hnb32 := NB549_561.out
                have hnc32 := NB561_549.out
                have hcz33_0 : w28.cell? ⟨gb549, 0, none⟩ = some (.slice A0_0 l0_0.length c0_0) := (blk_cell BK549.out 0).trans rfl
                have hcz33_1 : w28.cell? ⟨gb549, 1, none⟩ = some (.int .i64 a0_1) := (blk_cell BK549.out 1).trans rfl
                have hfz33_0 := blk_frozen BK549.out 0
                have hfz33_1 := blk_frozen BK549.out 1
                try go_wp2_with (first | ((with_reducible refine gate_callee (f := 35) rfl ?_); refine goesL_ (some 39) rfl rfl Tryd.func35 (by kernel_rfl) rfl #[.agg #[.slice A0_0 l0_0.length c0_0, .int .i64 a0_1]] rfl (by (try simp only [List.map_toArray, List.map_cons, List.map_nil]); first | done | rfl | (simp only [List.length_drop, List.length_take]; rfl)) ?_; (with_reducible refine (listing_Targets.calls _ _ l0_0 a0_1 t562 _ ?side1 ?side2 ?side3 A18.out).mono ?_); (case side1 => exact GK.below HGK.out (by repeat (first | (with_reducible first | exact HB.out | apply below_alloc | apply pw_below_drewN | apply below_drew1 | refine below_set ?_ GE549.out | refine below_set ?_ GE561.out) | exact HB.out))); (case side2 => exact Kd.C_below HR0_0.out (by repeat (first | (with_reducible first | exact HB.out | apply below_alloc | apply pw_below_drewN | apply below_drew1 | refine below_set ?_ GE549.out | refine below_set ?_ GE561.out) | exact HB.out))); (case side3 => exact HC0_0.out); rintro e w34 ⟨v563, rfl, ho0, hb⟩; refine ⟨_, rfl, ?_⟩; have n0_ := Aside0.mk (Kd.R_below (by (with_reducible repeat (first | apply Kd.R_alloc | apply Kd.R_drewN | apply Kd.R_drew)); exact (Kd.R_mono (Kd.R_far (p := ⟨gb561, 1, none⟩) (Kd.R_far (p := ⟨gb561, 0, none⟩) (Kd.R_types HO560.out BK561.out (by decide)) (fun _ hk => hk.2) (.slice Ao29 y558.length co29)) (fun _ hk => hk.2) (.int .i64 a0_1)) (fun _ h_ => h_.1))) hb); have n1_ := Aside0.mk (Kd.R_lower ho0 (below_size (by repeat (first | (with_reducible first | exact HB.out | apply below_alloc | apply pw_below_drewN | apply below_drew1 | refine below_set ?_ GE549.out | refine below_set ?_ GE561.out) | exact HB.out)))); have n2_ := Aside0.mk (blk_below (g := gb549) (o := .cells #[.slice A0_0 l0_0.length c0_0, .int .i64 a0_1] 28 (0, 0)) (by (with_reducible repeat (first | refine blk_drewN ?_ _ | refine blk_drew ?_ | refine blk_alloc ?_ _)); refine blk_far ?_ NB549_561.out _; (with_reducible repeat (first | refine blk_drewN ?_ _ | refine blk_drew ?_ | refine blk_alloc ?_ _)); refine blk_far ?_ NB549_561.out _; (with_reducible repeat (first | refine blk_drewN ?_ _ | refine blk_drew ?_ | refine blk_alloc ?_ _)); exact BK549.out) hb); have n3_ := Aside0.mk (blk_below (g := gb561) (o := .cells #[.slice Ao29 y558.length co29, .int .i64 a0_1] 28 (0, 0)) (by (with_reducible repeat (first | refine blk_drewN ?_ _ | refine blk_drew ?_ | refine blk_alloc ?_ _)); refine blk_put (cs := #[.slice Ao29 y558.length co29, .int .i64 0]) ?_ 1 _ rfl; (with_reducible repeat (first | refine blk_drewN ?_ _ | refine blk_drew ?_ | refine blk_alloc ?_ _)); refine blk_put (cs := #[.slice none 0 0, .int .i64 0]) ?_ 0 _ rfl; (with_reducible repeat (first | refine blk_drewN ?_ _ | refine blk_drew ?_ | refine blk_alloc ?_ _)); exact BK561.out) hb); have n4_ := Aside0.mk (below_step (by repeat (first | (with_reducible first | exact HB.out | apply below_alloc | apply pw_below_drewN | apply below_drew1 | refine below_set ?_ GE549.out | refine below_set ?_ GE561.out) | exact HB.out)) hb); clear HO560; clear BK549; clear BK561; clear HB; have HO560 := n0_; have HO564 := n1_; have BK549 := n2_; have BK561 := n3_; have HB := n4_; clear n0_ n1_ n2_ n3_ n4_; (try clear hb); (try clear hb2); (try clear hk); (try clear hi); (try clear ho0); have hcz35_0 : w34.cell? ⟨gb561, 0, none⟩ = some (.slice Ao29 y558.length co29) := (blk_cell BK561.out 0).trans rfl; have hcz35_1 : w34.cell? ⟨gb561, 1, none⟩ = some (.int .i64 a0_1) := (blk_cell BK561.out 1).trans rfl; have hfz35_0 := blk_frozen BK561.out 0; have hfz35_1 := blk_frozen BK561.out 1) | ((with_reducible refine gate_callee (f := 35) rfl ?_); refine goesL_ (some 41) rfl rfl Tryd.func35 (by kernel_rfl) rfl #[.agg #[.slice Ao29 y558.length co29, .int .i64 a0_1]] rfl (by (try simp only [List.map_toArray, List.map_cons, List.map_nil]); first | done | rfl | (simp only [List.length_drop, List.length_take]; rfl)) ?_; (with_reducible refine (listing_Targets.calls _ _ y558 a0_1 t565 _ ?side1 ?side2 ?side3 A19.out).mono ?_); (case side1 => exact GK.below HGK.out (by repeat (first | (with_reducible first | exact HB.out | apply below_alloc | apply pw_below_drewN | apply below_drew1 | refine below_set ?_ GE549.out | refine below_set ?_ GE561.out) | exact HB.out))); (case side2 => repeat (first | exact (Kd.R_reads' HO560.out).2.2 | (with_reducible refine Kd.C_alloc ?_ _) | (with_reducible refine Kd.C_drewN ?_ _) | (with_reducible refine Kd.C_drew ?_))); (case side3 => exact (Kd.R_reads' HO560.out).2.1); rintro e w36 ⟨v566, rfl, ho0, hb⟩; refine ⟨_, rfl, ?_⟩; have n0_ := Aside0.mk (Kd.R_below (by (with_reducible repeat (first | apply Kd.R_alloc | apply Kd.R_drewN | apply Kd.R_drew)); exact HO560.out) hb); have n1_ := Aside0.mk (Kd.R_elder' (by (with_reducible repeat (first | apply Kd.R_alloc | apply Kd.R_drewN | apply Kd.R_drew)); exact HO564.out) (Kd.R_base ho0) hb); have n2_ := Aside0.mk (Kd.R_lower (Kd.R_new' ho0 (Kd.R_lt (by (with_reducible repeat (first | apply Kd.R_alloc | apply Kd.R_drewN | apply Kd.R_drew)); exact HO564.out))) (below_size (by repeat (first | (with_reducible first | exact HB.out | apply below_alloc | apply pw_below_drewN | apply below_drew1 | refine below_set ?_ GE549.out | refine below_set ?_ GE561.out) | exact HB.out)))); have n3_ := Aside0.mk (blk_below (g := gb549) (o := .cells #[.slice A0_0 l0_0.length c0_0, .int .i64 a0_1] 28 (0, 0)) (by (with_reducible repeat (first | refine blk_drewN ?_ _ | refine blk_drew ?_ | refine blk_alloc ?_ _)); exact BK549.out) hb); have n4_ := Aside0.mk (blk_below (g := gb561) (o := .cells #[.slice Ao29 y558.length co29, .int .i64 a0_1] 28 (0, 0)) (by (with_reducible repeat (first | refine blk_drewN ?_ _ | refine blk_drew ?_ | refine blk_alloc ?_ _)); exact BK561.out) hb); have n5_ := Aside0.mk (below_step (by repeat (first | (with_reducible first | exact HB.out | apply below_alloc | apply pw_below_drewN | apply below_drew1 | refine below_set ?_ GE549.out | refine below_set ?_ GE561.out) | exact HB.out)) hb); clear HO560; clear HO564; clear BK549; clear BK561; clear HB; have HO560 := n0_; have HO564 := n1_; have HO567 := n2_; have BK549 := n3_; have BK561 := n4_; have HB := n5_; clear n0_ n1_ n2_ n3_ n4_ n5_; (try clear hb); (try clear hb2); (try clear hk); (try clear hi); (try clear ho0); obtain ⟨Ao37, co37, eo37⟩ := Kd.R_slice HO564.out; subst eo37; obtain ⟨Ao38, co38, eo38⟩ := Kd.R_slice HO567.out; subst eo38))
                go_loopg [8] kj4 (fun kq v8 w' => ∃ (x8_2 : Int), v8 = .int .i64 x8_2 ∧ Aside0 (seedcornlaw11_ListingGoesOn.l0 kq t562 t565 x8_2 l0_0 a0_1 y558 a0_1 = some r) ∧ Aside0 (kq ≤ kj4) ∧ Aside0 (Kd.R (Kd.int .i64) 3 w' w.heap.size (fun k_ => some k_ ≠ ((.slice Ao38 t565.length co38) : Value).ownBlock) (.slice Ao37 t562.length co37) t562) ∧ Aside0 (Kd.R (Kd.int .i64) 3 w' w.heap.size (fun k_ => some k_ ≠ ((.slice Ao37 t562.length co37) : Value).ownBlock) (.slice Ao38 t565.length co38) t565) ∧ Aside0 (Kd.R (Kd.int .u32) 47 w' w.heap.size (fun _ => True) (.slice Ao29 y558.length co29) y558) ∧ Aside0 (w'.heap[gb549]? = some (.cells #[(.slice A0_0 l0_0.length c0_0), .int .i64 a0_1] 28 (0, 0))) ∧ Aside0 (w'.heap[gb561]? = some (.cells #[(.slice Ao29 y558.length co29), .int .i64 a0_1] 28 (0, 0))) ∧ Aside0 (Below w.heap.size w w'))
                case atStart => exact ⟨(0), (by first | rfl | (simp; done) | (simp [*]; done)), H', ⟨Nat.le_refl _⟩, ⟨by (with_reducible repeat (first | apply Kd.R_alloc | apply Kd.R_drewN | apply Kd.R_drew)); exact Kd.R_mono HO564.out (fun _ hk => hk.2)⟩, ⟨by (with_reducible repeat (first | apply Kd.R_alloc | apply Kd.R_drewN | apply Kd.R_drew)); exact Kd.R_mono HO567.out (fun _ hk => hk.2)⟩, ⟨by (with_reducible repeat (first | apply Kd.R_alloc | apply Kd.R_drewN | apply Kd.R_drew)); exact HO560.out⟩, ⟨by (with_reducible repeat (first | refine blk_drewN ?_ _ | refine blk_drew ?_ | refine blk_alloc ?_ _)); exact BK549.out⟩, ⟨by (with_reducible repeat (first | refine blk_drewN ?_ _ | refine blk_drew ?_ | refine blk_alloc ?_ _)); exact BK561.out⟩, ⟨by repeat (first | (with_reducible first | exact HB.out | apply below_alloc | apply pw_below_drewN | apply below_drew1 | refine below_set ?_ GE549.out | refine below_set ?_ GE561.out) | exact HB.out)⟩⟩
                case round =>
                  clear H'
                  try clear c1
                  try clear c2
                  try clear p2
                  try clear c3
                  try clear c15
                  try clear c16
                  try clear c17
                  try clear c20
                  try clear c20b0
                  try clear c20b1
                  try clear c20b2
                  try clear c32
                  try clear c35
                  try clear hcz33_0
                  try clear hcz33_1
                  try clear hcz35_0
                  try clear hcz35_1
                  try clear hfz11_1
                  try clear hfz13_0
                  try clear hfz13_1
                  try clear hfz33_0
                  try clear hfz33_1
                  try clear hfz35_0
                  try clear hfz35_1
                  try clear hfz9_0
                  try clear hfz9_1
                  obtain ⟨x8_2, rfl, HA, HK2, HO_6, HO_7, HO_562000, BK549, BK561, HB⟩ := hrel
                  cases gk with
                  | zero => exact absurd HA.out (by simp [seedcornlaw11_ListingGoesOn.l0])
                  | succ k2 =>
                    have H := HA.out
                    clear HA
                    simp only [seedcornlaw11_ListingGoesOn.l0] at H
                    by_cases c39 : x8_2 < (t562.length : Int)
                    · rw [if_pos c39] at H
                      have c39b0 : decide (x8_2 < (t562.length : Int)) = true := decide_eq_true c39
                      clear c39
                      by_cases c40 : 0 ≤ x8_2
                      · rw [if_pos c40] at H
                        have c40b0 : decide (0 ≤ x8_2) = true := decide_eq_true c40
                        clear c40
                        by_cases c41 : x8_2 < (t565.length : Int)
                        · rw [if_pos c41] at H
                          have c41b0 : decide (x8_2 < (t565.length : Int)) = true := decide_eq_true c41
                          clear c41
                          by_cases c42 : (rd t562 x8_2) = (rd t565 x8_2)
                          · rw [if_pos c42] at H
                            have c42b0 : ((rd t562 x8_2) == (rd t565 x8_2)) = true := beq_iff_eq.mpr c42
                            have c42b1 : ((rd t562 x8_2) != (rd t565 x8_2)) = false := bne_eq_false_iff_eq.mpr c42
                            clear c42
                            have H' := Aside0.mk H
                            clear H
                            try go_wp2
                            have n0_ := Aside0.mk (Kd.R_drew HO_6.out)
                            have n1_ := Aside0.mk (Kd.R_drew HO_7.out)
                            have n2_ := Aside0.mk (Kd.R_drew HO_562000.out)
                            have n3_ := Aside0.mk (blk_drew BK549.out)
                            have n4_ := Aside0.mk (blk_drew BK561.out)
                            have n5_ := Aside0.mk (below_drew1 HB.out)
                            clear HO_6
                            clear HO_7
                            clear HO_562000
                            clear BK549
                            clear BK561
                            clear HB
                            have HO_6 := n0_
                            have HO_7 := n1_
                            have HO_562000 := n2_
                            have BK549 := n3_
                            have BK561 := n4_
                            have HB := n5_
                            clear n0_ n1_ n2_ n3_ n4_ n5_
                            have p568 : 0 ≤ (x8_2 : Int) := of_decide_eq_true (by first | (with_reducible assumption) | assumption)
                            have q568 : x8_2 < (t562.length : Int) := of_decide_eq_true (by first | (with_reducible assumption) | assumption)
                            obtain ⟨ad568, e568, hx568_0⟩ := Kd.at_int (Kd.R_reads' HO_6.out).2.2 x8_2 p568 q568
                            cases e568
                            replace p568 := eq_true p568
                            replace q568 := eq_true q568
                            have p569 : 0 ≤ (x8_2 : Int) := of_decide_eq_true (by first | (with_reducible assumption) | assumption)
                            have q569 : x8_2 < (t565.length : Int) := of_decide_eq_true (by first | (with_reducible assumption) | assumption)
                            obtain ⟨ad569, e569, hx569_0⟩ := Kd.at_int (Kd.R_reads' HO_7.out).2.2 x8_2 p569 q569
                            cases e569
                            replace p569 := eq_true p569
                            replace q569 := eq_true q569
                            refine start_ (n := 9) (S := fun w' => w'.cell? (ad568.add (x8_2).toNat) = some (.int .i64 (rd t562 x8_2)) ∧ w'.cell? (ad569.add (x8_2).toNat) = some (.int .i64 (rd t565 x8_2))) (ds := []) #[false, false, false, false, false, false, false, false, false] (by kernel_rfl) rfl rfl ⟨hx568_0, hx569_0⟩ (fun hHeld => ?_); refine with_tabW seedcornlaw11_ListingGoesOn.tab13 seedcornlaw11_ListingGoesOn.bits13 (fun HT_ HW_ => ?_)
                            generalize wr.drew = w43 at HO_6 HO_7 HO_562000 BK549 BK561 HB hx568_0 hx569_0 hHeld ⊢
                            refine pure_ (i := 0) (N := some 53) (v := ?_) (a' := ?_) #[true, false, false, false, false, false, false, false, false] rfl rfl (any_of HT_.out (by kernel_rfl)) (fun _ _ _ h => h) (Or.inl ⟨by rfl, ?_⟩) ?_ ?_
                            rotate_left
                            · intro w'
                              go_simp
                              with_reducible rfl
                            rotate_left
                            · simp only [Act.put, List.setIfInBounds_toArray, List.set_cons_zero, List.set_cons_succ, i64_w, i32_w]
                              rfl
                            refine pure_ (i := 1) (N := some 54) (v := ?_) (a' := ?_) #[true, true, false, false, false, false, false, false, false] rfl rfl (any_of HT_.out (by kernel_rfl)) (fun _ _ _ h => h) (Or.inl ⟨by rfl, ?_⟩) ?_ ?_
                            rotate_left
                            · intro w'
                              go_simp
                              with_reducible rfl
                            rotate_left
                            · simp only [Act.put, List.setIfInBounds_toArray, List.set_cons_zero, List.set_cons_succ, i64_w, i32_w]
                              rfl
                            refine pure_ (i := 2) (N := some 55) (v := ?_) (a' := ?_) #[true, true, true, false, false, false, false, false, false] rfl rfl (any_of HT_.out (by kernel_rfl)) (fun _ _ _ h => h) (Or.inl ⟨by rfl, ?_⟩) ?_ ?_
                            rotate_left
                            · intro w'
                              go_simp
                              with_reducible rfl
                            rotate_left
                            · simp only [Act.put, List.setIfInBounds_toArray, List.set_cons_zero, List.set_cons_succ, i64_w, i32_w]
                              rfl
                            refine pure_ (i := 4) (N := some 57) (v := ?_) (a' := ?_) #[true, true, true, false, true, false, false, false, false] rfl rfl (any_of HT_.out (by kernel_rfl)) (fun _ _ _ h => h) (Or.inl ⟨by rfl, ?_⟩) ?_ ?_
                            rotate_left
                            · intro w'
                              go_simp
                              with_reducible rfl
                            rotate_left
                            · simp only [Act.put, List.setIfInBounds_toArray, List.set_cons_zero, List.set_cons_succ, i64_w, i32_w]
                              rfl
                            refine pure_ (i := 5) (N := some 58) (v := ?_) (a' := ?_) #[true, true, true, false, true, true, false, false, false] rfl rfl (any_of HT_.out (by kernel_rfl)) (fun _ _ _ h => h) (Or.inl ⟨by rfl, ?_⟩) ?_ ?_
                            rotate_left
                            · intro w'
                              go_simp
                              with_reducible rfl
                            rotate_left
                            · simp only [Act.put, List.setIfInBounds_toArray, List.set_cons_zero, List.set_cons_succ, i64_w, i32_w]
                              rfl
                            refine pure_ (i := 6) (N := some 59) (v := ?_) (a' := ?_) #[true, true, true, false, true, true, true, false, false] rfl rfl (any_of HT_.out (by kernel_rfl)) (fun _ _ _ h => h) (Or.inl ⟨by rfl, ?_⟩) ?_ ?_
                            rotate_left
                            · intro w'
                              go_simp
                              with_reducible rfl
                            rotate_left
                            · simp only [Act.put, List.setIfInBounds_toArray, List.set_cons_zero, List.set_cons_succ, i64_w, i32_w]
                              rfl
                            refine take_ (i := 3) (N := some 56) (v := ?_) (a' := ?_) #[true, true, true, true, true, true, true, false, false] rfl rfl (take_ofW HT_.out HW_.out (by kernel_rfl)) (fun _ _ _ h => h) (Or.inl ⟨by rfl, ?_⟩) hHeld ?_ ?_
                            rotate_left
                            · rintro w' ⟨s0, s1⟩
                              go_simp
                              with_reducible rfl
                            rotate_left
                            · simp only [Act.put, List.setIfInBounds_toArray, List.set_cons_zero, List.set_cons_succ, i64_w, i32_w]
                              rfl
                            refine take_ (i := 7) (N := some 60) (v := ?_) (a' := ?_) #[true, true, true, true, true, true, true, true, false] rfl rfl (take_ofW HT_.out HW_.out (by kernel_rfl)) (fun _ _ _ h => h) (Or.inl ⟨by rfl, ?_⟩) hHeld ?_ ?_
                            rotate_left
                            · rintro w' ⟨s0, s1⟩
                              go_simp
                              with_reducible rfl
                            rotate_left
                            · simp only [Act.put, List.setIfInBounds_toArray, List.set_cons_zero, List.set_cons_succ, i64_w, i32_w]
                              rfl
                            refine pure_ (i := 8) (N := some 61) (v := ?_) (a' := ?_) #[true, true, true, true, true, true, true, true, true] rfl rfl (any_of HT_.out (by kernel_rfl)) (fun _ _ _ h => h) (Or.inl ⟨by rfl, ?_⟩) ?_ ?_
                            rotate_left
                            · intro w'
                              go_simp
                              with_reducible rfl
                            rotate_left
                            · simp only [Act.put, List.setIfInBounds_toArray, List.set_cons_zero, List.set_cons_succ, i64_w, i32_w]
                              rfl
                            refine done_ (done_of HT_.out (by kernel_rfl)) ?_
                            try go_wp2
                            go_roundg k2
                            case measure => have := HJ4.out; have := HK2.out; omega
                            case rel => exact ⟨(wrap64 (x8_2 + 1)), (by first | rfl | (simp; done) | (simp [*]; done)), H', ⟨by have := HJ4.out; have := HK2.out; omega⟩, ⟨by (with_reducible repeat (first | apply Kd.R_alloc | apply Kd.R_drewN | apply Kd.R_drew)); exact HO_6.out⟩, ⟨by (with_reducible repeat (first | apply Kd.R_alloc | apply Kd.R_drewN | apply Kd.R_drew)); exact HO_7.out⟩, ⟨by (with_reducible repeat (first | apply Kd.R_alloc | apply Kd.R_drewN | apply Kd.R_drew)); exact HO_562000.out⟩, ⟨by (with_reducible repeat (first | refine blk_drewN ?_ _ | refine blk_drew ?_ | refine blk_alloc ?_ _)); exact BK549.out⟩, ⟨by (with_reducible repeat (first | refine blk_drewN ?_ _ | refine blk_drew ?_ | refine blk_alloc ?_ _)); exact BK561.out⟩, ⟨by repeat (first | (with_reducible first | exact HB.out | apply below_alloc | apply pw_below_drewN | apply below_drew1 | refine below_set ?_ GE549.out | refine below_set ?_ GE561.out) | exact HB.out)⟩⟩
                          · rw [if_neg c42] at H
                            have c42b0 : ((rd t562 x8_2) == (rd t565 x8_2)) = false := beq_eq_false_iff_ne.mpr c42
                            have c42b1 : ((rd t562 x8_2) != (rd t565 x8_2)) = true := bne_iff_ne.mpr c42
                            obtain rfl := Option.some.inj H
                            try go_wp2
                            have n0_ := Aside0.mk (Kd.R_drew HO_6.out)
                            have n1_ := Aside0.mk (Kd.R_drew HO_7.out)
                            have n2_ := Aside0.mk (Kd.R_drew HO_562000.out)
                            have n3_ := Aside0.mk (blk_drew BK549.out)
                            have n4_ := Aside0.mk (blk_drew BK561.out)
                            have n5_ := Aside0.mk (below_drew1 HB.out)
                            clear HO_6
                            clear HO_7
                            clear HO_562000
                            clear BK549
                            clear BK561
                            clear HB
                            have HO_6 := n0_
                            have HO_7 := n1_
                            have HO_562000 := n2_
                            have BK549 := n3_
                            have BK561 := n4_
                            have HB := n5_
                            clear n0_ n1_ n2_ n3_ n4_ n5_
                            have p568 : 0 ≤ (x8_2 : Int) := of_decide_eq_true (by first | (with_reducible assumption) | assumption)
                            have q568 : x8_2 < (t562.length : Int) := of_decide_eq_true (by first | (with_reducible assumption) | assumption)
                            obtain ⟨ad568, e568, hx568_0⟩ := Kd.at_int (Kd.R_reads' HO_6.out).2.2 x8_2 p568 q568
                            cases e568
                            replace p568 := eq_true p568
                            replace q568 := eq_true q568
                            have p569 : 0 ≤ (x8_2 : Int) := of_decide_eq_true (by first | (with_reducible assumption) | assumption)
                            have q569 : x8_2 < (t565.length : Int) := of_decide_eq_true (by first | (with_reducible assumption) | assumption)
                            obtain ⟨ad569, e569, hx569_0⟩ := Kd.at_int (Kd.R_reads' HO_7.out).2.2 x8_2 p569 q569
                            cases e569
                            replace p569 := eq_true p569
                            replace q569 := eq_true q569
                            refine start_ (n := 9) (S := fun w' => w'.cell? (ad568.add (x8_2).toNat) = some (.int .i64 (rd t562 x8_2)) ∧ w'.cell? (ad569.add (x8_2).toNat) = some (.int .i64 (rd t565 x8_2))) (ds := []) #[false, false, false, false, false, false, false, false, false] (by kernel_rfl) rfl rfl ⟨hx568_0, hx569_0⟩ (fun hHeld => ?_); refine with_tabW seedcornlaw11_ListingGoesOn.tab13 seedcornlaw11_ListingGoesOn.bits13 (fun HT_ HW_ => ?_)
                            generalize wr.drew = w44 at HO_6 HO_7 HO_562000 BK549 BK561 HB hx568_0 hx569_0 hHeld ⊢
                            refine pure_ (i := 0) (N := some 53) (v := ?_) (a' := ?_) #[true, false, false, false, false, false, false, false, false] rfl rfl (any_of HT_.out (by kernel_rfl)) (fun _ _ _ h => h) (Or.inl ⟨by rfl, ?_⟩) ?_ ?_
                            rotate_left
                            · intro w'
                              go_simp
                              with_reducible rfl
                            rotate_left
                            · simp only [Act.put, List.setIfInBounds_toArray, List.set_cons_zero, List.set_cons_succ, i64_w, i32_w]
                              rfl
                            refine pure_ (i := 1) (N := some 54) (v := ?_) (a' := ?_) #[true, true, false, false, false, false, false, false, false] rfl rfl (any_of HT_.out (by kernel_rfl)) (fun _ _ _ h => h) (Or.inl ⟨by rfl, ?_⟩) ?_ ?_
                            rotate_left
                            · intro w'
                              go_simp
                              with_reducible rfl
                            rotate_left
                            · simp only [Act.put, List.setIfInBounds_toArray, List.set_cons_zero, List.set_cons_succ, i64_w, i32_w]
                              rfl
                            refine pure_ (i := 2) (N := some 55) (v := ?_) (a' := ?_) #[true, true, true, false, false, false, false, false, false] rfl rfl (any_of HT_.out (by kernel_rfl)) (fun _ _ _ h => h) (Or.inl ⟨by rfl, ?_⟩) ?_ ?_
                            rotate_left
                            · intro w'
                              go_simp
                              with_reducible rfl
                            rotate_left
                            · simp only [Act.put, List.setIfInBounds_toArray, List.set_cons_zero, List.set_cons_succ, i64_w, i32_w]
                              rfl
                            refine pure_ (i := 4) (N := some 57) (v := ?_) (a' := ?_) #[true, true, true, false, true, false, false, false, false] rfl rfl (any_of HT_.out (by kernel_rfl)) (fun _ _ _ h => h) (Or.inl ⟨by rfl, ?_⟩) ?_ ?_
                            rotate_left
                            · intro w'
                              go_simp
                              with_reducible rfl
                            rotate_left
                            · simp only [Act.put, List.setIfInBounds_toArray, List.set_cons_zero, List.set_cons_succ, i64_w, i32_w]
                              rfl
                            refine pure_ (i := 5) (N := some 58) (v := ?_) (a' := ?_) #[true, true, true, false, true, true, false, false, false] rfl rfl (any_of HT_.out (by kernel_rfl)) (fun _ _ _ h => h) (Or.inl ⟨by rfl, ?_⟩) ?_ ?_
                            rotate_left
                            · intro w'
                              go_simp
                              with_reducible rfl
                            rotate_left
                            · simp only [Act.put, List.setIfInBounds_toArray, List.set_cons_zero, List.set_cons_succ, i64_w, i32_w]
                              rfl
                            refine pure_ (i := 6) (N := some 59) (v := ?_) (a' := ?_) #[true, true, true, false, true, true, true, false, false] rfl rfl (any_of HT_.out (by kernel_rfl)) (fun _ _ _ h => h) (Or.inl ⟨by rfl, ?_⟩) ?_ ?_
                            rotate_left
                            · intro w'
                              go_simp
                              with_reducible rfl
                            rotate_left
                            · simp only [Act.put, List.setIfInBounds_toArray, List.set_cons_zero, List.set_cons_succ, i64_w, i32_w]
                              rfl
                            refine take_ (i := 3) (N := some 56) (v := ?_) (a' := ?_) #[true, true, true, true, true, true, true, false, false] rfl rfl (take_ofW HT_.out HW_.out (by kernel_rfl)) (fun _ _ _ h => h) (Or.inl ⟨by rfl, ?_⟩) hHeld ?_ ?_
                            rotate_left
                            · rintro w' ⟨s0, s1⟩
                              go_simp
                              with_reducible rfl
                            rotate_left
                            · simp only [Act.put, List.setIfInBounds_toArray, List.set_cons_zero, List.set_cons_succ, i64_w, i32_w]
                              rfl
                            refine take_ (i := 7) (N := some 60) (v := ?_) (a' := ?_) #[true, true, true, true, true, true, true, true, false] rfl rfl (take_ofW HT_.out HW_.out (by kernel_rfl)) (fun _ _ _ h => h) (Or.inl ⟨by rfl, ?_⟩) hHeld ?_ ?_
                            rotate_left
                            · rintro w' ⟨s0, s1⟩
                              go_simp
                              with_reducible rfl
                            rotate_left
                            · simp only [Act.put, List.setIfInBounds_toArray, List.set_cons_zero, List.set_cons_succ, i64_w, i32_w]
                              rfl
                            refine pure_ (i := 8) (N := some 61) (v := ?_) (a' := ?_) #[true, true, true, true, true, true, true, true, true] rfl rfl (any_of HT_.out (by kernel_rfl)) (fun _ _ _ h => h) (Or.inl ⟨by rfl, ?_⟩) ?_ ?_
                            rotate_left
                            · intro w'
                              go_simp
                              with_reducible rfl
                            rotate_left
                            · simp only [Act.put, List.setIfInBounds_toArray, List.set_cons_zero, List.set_cons_succ, i64_w, i32_w]
                              rfl
                            refine done_ (done_of HT_.out (by kernel_rfl)) ?_
                            try go_wp2
                            go_ret
                            exact ⟨by first | rfl | (simp [errW_none, errW_some] <;> rfl) | (simp [*, errW_none, errW_some] <;> rfl), by repeat (first | (with_reducible first | exact HB.out | apply below_alloc | apply pw_below_drewN | apply below_drew1 | refine below_set ?_ GE549.out | refine below_set ?_ GE561.out) | exact HB.out)⟩
                        · rw [if_neg c41] at H
                          exact absurd H (by simp)
                      · rw [if_neg c40] at H
                        exact absurd H (by simp)
                    · rw [if_neg c39] at H
                      have c39b0 : decide (x8_2 < (t562.length : Int)) = false := decide_eq_false c39
                      clear c39
                      replace H := Option.bind_eq_some_iff.mp H
                      obtain ⟨⟨t570, t571⟩, A450, H⟩ := H
                      replace H : ((listing_Text.f y558 a0_1).bind fun bt572 => (if t571 = 0 then (if bt572.2 = 0 then (if (bt572.1.size : Int) ≥ (t570.size : Int) then (if 0 ≤ (t570.size : Int) then (if (t570.size : Int) ≤ (bt572.1.size : Int) then (some ((bt572.1.extract 0 ((t570.size : Int) : Int).toNat).toList == t570.toList)) else (none)) else (none)) else (some false)) else (some false)) else (some false))) = some r := H
                      have A45 := Aside0.mk A450
                      clear A450
                      replace H := Option.bind_eq_some_iff.mp H
                      obtain ⟨⟨t572, t573⟩, A460, H⟩ := H
                      replace H : (if t571 = 0 then (if t573 = 0 then (if (t572.size : Int) ≥ (t570.size : Int) then (if 0 ≤ (t570.size : Int) then (if (t570.size : Int) ≤ (t572.size : Int) then (some ((t572.extract 0 ((t570.size : Int) : Int).toNat).toList == t570.toList)) else (none)) else (none)) else (some false)) else (some false)) else (some false)) = some r := H
                      have A46 := Aside0.mk A460
                      clear A460
                      by_cases c47 : t571 = 0
                      · rw [if_pos c47] at H
                        have c47b0 : (t571 == 0) = true := beq_iff_eq.mpr c47
                        have c47b1 : (t571 != 0) = false := bne_eq_false_iff_eq.mpr c47
                        clear c47
                        by_cases c48 : t573 = 0
                        · rw [if_pos c48] at H
                          have c48b0 : (t573 == 0) = true := beq_iff_eq.mpr c48
                          have c48b1 : (t573 != 0) = false := bne_eq_false_iff_eq.mpr c48
                          clear c48
                          by_cases c49 : (t572.size : Int) ≥ (t570.size : Int)
                          · rw [if_pos c49] at H
                            have c49b0 : decide ((t570.size : Int) ≤ (t572.size : Int)) = true := decide_eq_true c49
                            have c49b1 : decide (t570.size ≤ t572.size) = true := decide_eq_true (Int.ofNat_le.mp c49)
                            clear c49
                            by_cases c50 : 0 ≤ (t570.size : Int)
                            · rw [if_pos c50] at H
                              have c50b0 := eq_true c50
                              have c50b1 : decide (0 ≤ (t570.size : Int)) = true := decide_eq_true c50
                              clear c50
                              by_cases c51 : (t570.size : Int) ≤ (t572.size : Int)
                              · rw [if_pos c51] at H
                                have c51b0 := eq_true c51
                                have c51b1 : decide ((t570.size : Int) ≤ (t572.size : Int)) = true := decide_eq_true c51
                                clear c51
                                obtain rfl := Option.some.inj H
                                have hnb52 := NB549_561.out
                                have hnc52 := NB561_549.out
                                have hcz53_0 : wr.cell? ⟨gb549, 0, none⟩ = some (.slice A0_0 l0_0.length c0_0) := (blk_cell BK549.out 0).trans rfl
                                have hcz53_1 : wr.cell? ⟨gb549, 1, none⟩ = some (.int .i64 a0_1) := (blk_cell BK549.out 1).trans rfl
                                have hfz53_0 := blk_frozen BK549.out 0
                                have hfz53_1 := blk_frozen BK549.out 1
                                go_wp2_with (first | ((with_reducible refine gate_callee (f := 36) rfl ?_); refine goesL_ (some 64) rfl rfl Tryd.func36 (by kernel_rfl) rfl #[.agg #[.slice A0_0 l0_0.length c0_0, .int .i64 a0_1]] rfl (by (try simp only [List.map_toArray, List.map_cons, List.map_nil]); first | done | rfl | (simp only [List.length_drop, List.length_take]; rfl)) ?_; (with_reducible refine (listing_Text.calls _ _ l0_0 a0_1 t570 t571 _ ?side1 ?side2 ?side3 ?side4 A45.out).mono ?_); (case side1 => exact GK.below HGK.out (by repeat (first | (with_reducible first | exact HB.out | apply below_alloc | apply pw_below_drewN | apply below_drew1 | refine below_set ?_ GE549.out | refine below_set ?_ GE561.out) | exact HB.out))); (case side2 => exact GT.below HGT.out (by repeat (first | (with_reducible first | exact HB.out | apply below_alloc | apply pw_below_drewN | apply below_drew1 | refine below_set ?_ GE549.out | refine below_set ?_ GE561.out) | exact HB.out))); (case side3 => repeat (first | exact (Kd.C_below HR0_0.out HB.out) | (with_reducible refine Kd.C_alloc ?_ _) | (with_reducible refine Kd.C_drewN ?_ _) | (with_reducible refine Kd.C_drew ?_))); (case side4 => exact HC0_0.out); rintro e w54 ⟨rfl, hb⟩; refine ⟨_, rfl, ?_⟩; have n0_ := Aside0.mk (Kd.R_below (by (with_reducible repeat (first | apply Kd.R_alloc | apply Kd.R_drewN | apply Kd.R_drew)); exact HO_6.out) hb); have n1_ := Aside0.mk (Kd.R_below (by (with_reducible repeat (first | apply Kd.R_alloc | apply Kd.R_drewN | apply Kd.R_drew)); exact HO_7.out) hb); have n2_ := Aside0.mk (Kd.R_below (by (with_reducible repeat (first | apply Kd.R_alloc | apply Kd.R_drewN | apply Kd.R_drew)); exact HO_562000.out) hb); have n3_ := Aside0.mk (blk_below (g := gb549) (o := .cells #[.slice A0_0 l0_0.length c0_0, .int .i64 a0_1] 28 (0, 0)) (by (with_reducible repeat (first | refine blk_drewN ?_ _ | refine blk_drew ?_ | refine blk_alloc ?_ _)); exact BK549.out) hb); have n4_ := Aside0.mk (blk_below (g := gb561) (o := .cells #[.slice Ao29 y558.length co29, .int .i64 a0_1] 28 (0, 0)) (by (with_reducible repeat (first | refine blk_drewN ?_ _ | refine blk_drew ?_ | refine blk_alloc ?_ _)); exact BK561.out) hb); have n5_ := Aside0.mk (below_step (by repeat (first | (with_reducible first | exact HB.out | apply below_alloc | apply pw_below_drewN | apply below_drew1 | refine below_set ?_ GE549.out | refine below_set ?_ GE561.out) | exact HB.out)) hb); clear HO_6; clear HO_7; clear HO_562000; clear BK549; clear BK561; clear HB; have HO_6 := n0_; have HO_7 := n1_; have HO_562000 := n2_; have BK549 := n3_; have BK561 := n4_; have HB := n5_; clear n0_ n1_ n2_ n3_ n4_ n5_; (try clear hb); (try clear hb2); (try clear hk); (try clear hi); have hcz55_0 : w54.cell? ⟨gb561, 0, none⟩ = some (.slice Ao29 y558.length co29) := (blk_cell BK561.out 0).trans rfl; have hcz55_1 : w54.cell? ⟨gb561, 1, none⟩ = some (.int .i64 a0_1) := (blk_cell BK561.out 1).trans rfl; have hfz55_0 := blk_frozen BK561.out 0; have hfz55_1 := blk_frozen BK561.out 1) | ((with_reducible refine gate_callee (f := 36) rfl ?_); refine goesL_ (some 69) rfl rfl Tryd.func36 (by kernel_rfl) rfl #[.agg #[.slice Ao29 y558.length co29, .int .i64 a0_1]] rfl (by (try simp only [List.map_toArray, List.map_cons, List.map_nil]); first | done | rfl | (simp only [List.length_drop, List.length_take]; rfl)) ?_; (with_reducible refine (listing_Text.calls _ _ y558 a0_1 t572 t573 _ ?side1 ?side2 ?side3 ?side4 A46.out).mono ?_); (case side1 => exact GK.below HGK.out (by repeat (first | (with_reducible first | exact HB.out | apply below_alloc | apply pw_below_drewN | apply below_drew1 | refine below_set ?_ GE549.out | refine below_set ?_ GE561.out) | exact HB.out))); (case side2 => exact GT.below HGT.out (by repeat (first | (with_reducible first | exact HB.out | apply below_alloc | apply pw_below_drewN | apply below_drew1 | refine below_set ?_ GE549.out | refine below_set ?_ GE561.out) | exact HB.out))); (case side3 => repeat (first | exact (Kd.R_reads' HO_562000.out).2.2 | (with_reducible refine Kd.C_alloc ?_ _) | (with_reducible refine Kd.C_drewN ?_ _) | (with_reducible refine Kd.C_drew ?_))); (case side4 => exact (Kd.R_reads' HO_562000.out).2.1); rintro e w56 ⟨rfl, hb⟩; refine ⟨_, rfl, ?_⟩; have n0_ := Aside0.mk (Kd.R_below (by (with_reducible repeat (first | apply Kd.R_alloc | apply Kd.R_drewN | apply Kd.R_drew)); exact HO_6.out) hb); have n1_ := Aside0.mk (Kd.R_below (by (with_reducible repeat (first | apply Kd.R_alloc | apply Kd.R_drewN | apply Kd.R_drew)); exact HO_7.out) hb); have n2_ := Aside0.mk (Kd.R_below (by (with_reducible repeat (first | apply Kd.R_alloc | apply Kd.R_drewN | apply Kd.R_drew)); exact HO_562000.out) hb); have n3_ := Aside0.mk (blk_below (g := gb549) (o := .cells #[.slice A0_0 l0_0.length c0_0, .int .i64 a0_1] 28 (0, 0)) (by (with_reducible repeat (first | refine blk_drewN ?_ _ | refine blk_drew ?_ | refine blk_alloc ?_ _)); exact BK549.out) hb); have n4_ := Aside0.mk (blk_below (g := gb561) (o := .cells #[.slice Ao29 y558.length co29, .int .i64 a0_1] 28 (0, 0)) (by (with_reducible repeat (first | refine blk_drewN ?_ _ | refine blk_drew ?_ | refine blk_alloc ?_ _)); exact BK561.out) hb); have n5_ := Aside0.mk (below_step (by repeat (first | (with_reducible first | exact HB.out | apply below_alloc | apply pw_below_drewN | apply below_drew1 | refine below_set ?_ GE549.out | refine below_set ?_ GE561.out) | exact HB.out)) hb); clear HO_6; clear HO_7; clear HO_562000; clear BK549; clear BK561; clear HB; have HO_6 := n0_; have HO_7 := n1_; have HO_562000 := n2_; have BK549 := n3_; have BK561 := n4_; have HB := n5_; clear n0_ n1_ n2_ n3_ n4_ n5_; (try clear hb); (try clear hb2); (try clear hk); (try clear hi)))
                                go_ret
                                exact ⟨by first | rfl | (simp [errW_none, errW_some] <;> rfl) | (simp [*, errW_none, errW_some] <;> rfl), by repeat (first | (with_reducible first | exact HB.out | apply below_alloc | apply pw_below_drewN | apply below_drew1 | refine below_set ?_ GE549.out | refine below_set ?_ GE561.out) | exact HB.out)⟩
                              · rw [if_neg c51] at H
                                exact absurd H (by simp)
                            · rw [if_neg c50] at H
                              exact absurd H (by simp)
                          · rw [if_neg c49] at H
                            have c49b0 : decide ((t570.size : Int) ≤ (t572.size : Int)) = false := decide_eq_false c49
                            have c49b1 : decide (t570.size ≤ t572.size) = false := decide_eq_false (fun h => c49 (Int.ofNat_le.mpr h))
                            clear c49
                            obtain rfl := Option.some.inj H
                            have hnb57 := NB549_561.out
                            have hnc57 := NB561_549.out
                            have hcz58_0 : wr.cell? ⟨gb549, 0, none⟩ = some (.slice A0_0 l0_0.length c0_0) := (blk_cell BK549.out 0).trans rfl
                            have hcz58_1 : wr.cell? ⟨gb549, 1, none⟩ = some (.int .i64 a0_1) := (blk_cell BK549.out 1).trans rfl
                            have hfz58_0 := blk_frozen BK549.out 0
                            have hfz58_1 := blk_frozen BK549.out 1
                            go_wp2_with (first | ((with_reducible refine gate_callee (f := 36) rfl ?_); refine goesL_ (some 64) rfl rfl Tryd.func36 (by kernel_rfl) rfl #[.agg #[.slice A0_0 l0_0.length c0_0, .int .i64 a0_1]] rfl (by (try simp only [List.map_toArray, List.map_cons, List.map_nil]); first | done | rfl | (simp only [List.length_drop, List.length_take]; rfl)) ?_; (with_reducible refine (listing_Text.calls _ _ l0_0 a0_1 t570 t571 _ ?side1 ?side2 ?side3 ?side4 A45.out).mono ?_); (case side1 => exact GK.below HGK.out (by repeat (first | (with_reducible first | exact HB.out | apply below_alloc | apply pw_below_drewN | apply below_drew1 | refine below_set ?_ GE549.out | refine below_set ?_ GE561.out) | exact HB.out))); (case side2 => exact GT.below HGT.out (by repeat (first | (with_reducible first | exact HB.out | apply below_alloc | apply pw_below_drewN | apply below_drew1 | refine below_set ?_ GE549.out | refine below_set ?_ GE561.out) | exact HB.out))); (case side3 => repeat (first | exact (Kd.C_below HR0_0.out HB.out) | (with_reducible refine Kd.C_alloc ?_ _) | (with_reducible refine Kd.C_drewN ?_ _) | (with_reducible refine Kd.C_drew ?_))); (case side4 => exact HC0_0.out); rintro e w59 ⟨rfl, hb⟩; refine ⟨_, rfl, ?_⟩; have n0_ := Aside0.mk (Kd.R_below (by (with_reducible repeat (first | apply Kd.R_alloc | apply Kd.R_drewN | apply Kd.R_drew)); exact HO_6.out) hb); have n1_ := Aside0.mk (Kd.R_below (by (with_reducible repeat (first | apply Kd.R_alloc | apply Kd.R_drewN | apply Kd.R_drew)); exact HO_7.out) hb); have n2_ := Aside0.mk (Kd.R_below (by (with_reducible repeat (first | apply Kd.R_alloc | apply Kd.R_drewN | apply Kd.R_drew)); exact HO_562000.out) hb); have n3_ := Aside0.mk (blk_below (g := gb549) (o := .cells #[.slice A0_0 l0_0.length c0_0, .int .i64 a0_1] 28 (0, 0)) (by (with_reducible repeat (first | refine blk_drewN ?_ _ | refine blk_drew ?_ | refine blk_alloc ?_ _)); exact BK549.out) hb); have n4_ := Aside0.mk (blk_below (g := gb561) (o := .cells #[.slice Ao29 y558.length co29, .int .i64 a0_1] 28 (0, 0)) (by (with_reducible repeat (first | refine blk_drewN ?_ _ | refine blk_drew ?_ | refine blk_alloc ?_ _)); exact BK561.out) hb); have n5_ := Aside0.mk (below_step (by repeat (first | (with_reducible first | exact HB.out | apply below_alloc | apply pw_below_drewN | apply below_drew1 | refine below_set ?_ GE549.out | refine below_set ?_ GE561.out) | exact HB.out)) hb); clear HO_6; clear HO_7; clear HO_562000; clear BK549; clear BK561; clear HB; have HO_6 := n0_; have HO_7 := n1_; have HO_562000 := n2_; have BK549 := n3_; have BK561 := n4_; have HB := n5_; clear n0_ n1_ n2_ n3_ n4_ n5_; (try clear hb); (try clear hb2); (try clear hk); (try clear hi); have hcz60_0 : w59.cell? ⟨gb561, 0, none⟩ = some (.slice Ao29 y558.length co29) := (blk_cell BK561.out 0).trans rfl; have hcz60_1 : w59.cell? ⟨gb561, 1, none⟩ = some (.int .i64 a0_1) := (blk_cell BK561.out 1).trans rfl; have hfz60_0 := blk_frozen BK561.out 0; have hfz60_1 := blk_frozen BK561.out 1) | ((with_reducible refine gate_callee (f := 36) rfl ?_); refine goesL_ (some 69) rfl rfl Tryd.func36 (by kernel_rfl) rfl #[.agg #[.slice Ao29 y558.length co29, .int .i64 a0_1]] rfl (by (try simp only [List.map_toArray, List.map_cons, List.map_nil]); first | done | rfl | (simp only [List.length_drop, List.length_take]; rfl)) ?_; (with_reducible refine (listing_Text.calls _ _ y558 a0_1 t572 t573 _ ?side1 ?side2 ?side3 ?side4 A46.out).mono ?_); (case side1 => exact GK.below HGK.out (by repeat (first | (with_reducible first | exact HB.out | apply below_alloc | apply pw_below_drewN | apply below_drew1 | refine below_set ?_ GE549.out | refine below_set ?_ GE561.out) | exact HB.out))); (case side2 => exact GT.below HGT.out (by repeat (first | (with_reducible first | exact HB.out | apply below_alloc | apply pw_below_drewN | apply below_drew1 | refine below_set ?_ GE549.out | refine below_set ?_ GE561.out) | exact HB.out))); (case side3 => repeat (first | exact (Kd.R_reads' HO_562000.out).2.2 | (with_reducible refine Kd.C_alloc ?_ _) | (with_reducible refine Kd.C_drewN ?_ _) | (with_reducible refine Kd.C_drew ?_))); (case side4 => exact (Kd.R_reads' HO_562000.out).2.1); rintro e w61 ⟨rfl, hb⟩; refine ⟨_, rfl, ?_⟩; have n0_ := Aside0.mk (Kd.R_below (by (with_reducible repeat (first | apply Kd.R_alloc | apply Kd.R_drewN | apply Kd.R_drew)); exact HO_6.out) hb); have n1_ := Aside0.mk (Kd.R_below (by (with_reducible repeat (first | apply Kd.R_alloc | apply Kd.R_drewN | apply Kd.R_drew)); exact HO_7.out) hb); have n2_ := Aside0.mk (Kd.R_below (by (with_reducible repeat (first | apply Kd.R_alloc | apply Kd.R_drewN | apply Kd.R_drew)); exact HO_562000.out) hb); have n3_ := Aside0.mk (blk_below (g := gb549) (o := .cells #[.slice A0_0 l0_0.length c0_0, .int .i64 a0_1] 28 (0, 0)) (by (with_reducible repeat (first | refine blk_drewN ?_ _ | refine blk_drew ?_ | refine blk_alloc ?_ _)); exact BK549.out) hb); have n4_ := Aside0.mk (blk_below (g := gb561) (o := .cells #[.slice Ao29 y558.length co29, .int .i64 a0_1] 28 (0, 0)) (by (with_reducible repeat (first | refine blk_drewN ?_ _ | refine blk_drew ?_ | refine blk_alloc ?_ _)); exact BK561.out) hb); have n5_ := Aside0.mk (below_step (by repeat (first | (with_reducible first | exact HB.out | apply below_alloc | apply pw_below_drewN | apply below_drew1 | refine below_set ?_ GE549.out | refine below_set ?_ GE561.out) | exact HB.out)) hb); clear HO_6; clear HO_7; clear HO_562000; clear BK549; clear BK561; clear HB; have HO_6 := n0_; have HO_7 := n1_; have HO_562000 := n2_; have BK549 := n3_; have BK561 := n4_; have HB := n5_; clear n0_ n1_ n2_ n3_ n4_ n5_; (try clear hb); (try clear hb2); (try clear hk); (try clear hi)))
                            go_ret
                            exact ⟨by first | rfl | (simp [errW_none, errW_some] <;> rfl) | (simp [*, errW_none, errW_some] <;> rfl), by repeat (first | (with_reducible first | exact HB.out | apply below_alloc | apply pw_below_drewN | apply below_drew1 | refine below_set ?_ GE549.out | refine below_set ?_ GE561.out) | exact HB.out)⟩
                        · rw [if_neg c48] at H
                          have c48b0 : (t573 == 0) = false := beq_eq_false_iff_ne.mpr c48
                          have c48b1 : (t573 != 0) = true := bne_iff_ne.mpr c48
                          obtain rfl := Option.some.inj H
                          have hnb62 := NB549_561.out
                          have hnc62 := NB561_549.out
                          have hcz63_0 : wr.cell? ⟨gb549, 0, none⟩ = some (.slice A0_0 l0_0.length c0_0) := (blk_cell BK549.out 0).trans rfl
                          have hcz63_1 : wr.cell? ⟨gb549, 1, none⟩ = some (.int .i64 a0_1) := (blk_cell BK549.out 1).trans rfl
                          have hfz63_0 := blk_frozen BK549.out 0
                          have hfz63_1 := blk_frozen BK549.out 1
                          go_wp2_with (first | ((with_reducible refine gate_callee (f := 36) rfl ?_); refine goesL_ (some 64) rfl rfl Tryd.func36 (by kernel_rfl) rfl #[.agg #[.slice A0_0 l0_0.length c0_0, .int .i64 a0_1]] rfl (by (try simp only [List.map_toArray, List.map_cons, List.map_nil]); first | done | rfl | (simp only [List.length_drop, List.length_take]; rfl)) ?_; (with_reducible refine (listing_Text.calls _ _ l0_0 a0_1 t570 t571 _ ?side1 ?side2 ?side3 ?side4 A45.out).mono ?_); (case side1 => exact GK.below HGK.out (by repeat (first | (with_reducible first | exact HB.out | apply below_alloc | apply pw_below_drewN | apply below_drew1 | refine below_set ?_ GE549.out | refine below_set ?_ GE561.out) | exact HB.out))); (case side2 => exact GT.below HGT.out (by repeat (first | (with_reducible first | exact HB.out | apply below_alloc | apply pw_below_drewN | apply below_drew1 | refine below_set ?_ GE549.out | refine below_set ?_ GE561.out) | exact HB.out))); (case side3 => repeat (first | exact (Kd.C_below HR0_0.out HB.out) | (with_reducible refine Kd.C_alloc ?_ _) | (with_reducible refine Kd.C_drewN ?_ _) | (with_reducible refine Kd.C_drew ?_))); (case side4 => exact HC0_0.out); rintro e w64 ⟨rfl, hb⟩; refine ⟨_, rfl, ?_⟩; have n0_ := Aside0.mk (Kd.R_below (by (with_reducible repeat (first | apply Kd.R_alloc | apply Kd.R_drewN | apply Kd.R_drew)); exact HO_6.out) hb); have n1_ := Aside0.mk (Kd.R_below (by (with_reducible repeat (first | apply Kd.R_alloc | apply Kd.R_drewN | apply Kd.R_drew)); exact HO_7.out) hb); have n2_ := Aside0.mk (Kd.R_below (by (with_reducible repeat (first | apply Kd.R_alloc | apply Kd.R_drewN | apply Kd.R_drew)); exact HO_562000.out) hb); have n3_ := Aside0.mk (blk_below (g := gb549) (o := .cells #[.slice A0_0 l0_0.length c0_0, .int .i64 a0_1] 28 (0, 0)) (by (with_reducible repeat (first | refine blk_drewN ?_ _ | refine blk_drew ?_ | refine blk_alloc ?_ _)); exact BK549.out) hb); have n4_ := Aside0.mk (blk_below (g := gb561) (o := .cells #[.slice Ao29 y558.length co29, .int .i64 a0_1] 28 (0, 0)) (by (with_reducible repeat (first | refine blk_drewN ?_ _ | refine blk_drew ?_ | refine blk_alloc ?_ _)); exact BK561.out) hb); have n5_ := Aside0.mk (below_step (by repeat (first | (with_reducible first | exact HB.out | apply below_alloc | apply pw_below_drewN | apply below_drew1 | refine below_set ?_ GE549.out | refine below_set ?_ GE561.out) | exact HB.out)) hb); clear HO_6; clear HO_7; clear HO_562000; clear BK549; clear BK561; clear HB; have HO_6 := n0_; have HO_7 := n1_; have HO_562000 := n2_; have BK549 := n3_; have BK561 := n4_; have HB := n5_; clear n0_ n1_ n2_ n3_ n4_ n5_; (try clear hb); (try clear hb2); (try clear hk); (try clear hi); have hcz65_0 : w64.cell? ⟨gb561, 0, none⟩ = some (.slice Ao29 y558.length co29) := (blk_cell BK561.out 0).trans rfl; have hcz65_1 : w64.cell? ⟨gb561, 1, none⟩ = some (.int .i64 a0_1) := (blk_cell BK561.out 1).trans rfl; have hfz65_0 := blk_frozen BK561.out 0; have hfz65_1 := blk_frozen BK561.out 1) | ((with_reducible refine gate_callee (f := 36) rfl ?_); refine goesL_ (some 69) rfl rfl Tryd.func36 (by kernel_rfl) rfl #[.agg #[.slice Ao29 y558.length co29, .int .i64 a0_1]] rfl (by (try simp only [List.map_toArray, List.map_cons, List.map_nil]); first | done | rfl | (simp only [List.length_drop, List.length_take]; rfl)) ?_; (with_reducible refine (listing_Text.calls _ _ y558 a0_1 t572 t573 _ ?side1 ?side2 ?side3 ?side4 A46.out).mono ?_); (case side1 => exact GK.below HGK.out (by repeat (first | (with_reducible first | exact HB.out | apply below_alloc | apply pw_below_drewN | apply below_drew1 | refine below_set ?_ GE549.out | refine below_set ?_ GE561.out) | exact HB.out))); (case side2 => exact GT.below HGT.out (by repeat (first | (with_reducible first | exact HB.out | apply below_alloc | apply pw_below_drewN | apply below_drew1 | refine below_set ?_ GE549.out | refine below_set ?_ GE561.out) | exact HB.out))); (case side3 => repeat (first | exact (Kd.R_reads' HO_562000.out).2.2 | (with_reducible refine Kd.C_alloc ?_ _) | (with_reducible refine Kd.C_drewN ?_ _) | (with_reducible refine Kd.C_drew ?_))); (case side4 => exact (Kd.R_reads' HO_562000.out).2.1); rintro e w66 ⟨rfl, hb⟩; refine ⟨_, rfl, ?_⟩; have n0_ := Aside0.mk (Kd.R_below (by (with_reducible repeat (first | apply Kd.R_alloc | apply Kd.R_drewN | apply Kd.R_drew)); exact HO_6.out) hb); have n1_ := Aside0.mk (Kd.R_below (by (with_reducible repeat (first | apply Kd.R_alloc | apply Kd.R_drewN | apply Kd.R_drew)); exact HO_7.out) hb); have n2_ := Aside0.mk (Kd.R_below (by (with_reducible repeat (first | apply Kd.R_alloc | apply Kd.R_drewN | apply Kd.R_drew)); exact HO_562000.out) hb); have n3_ := Aside0.mk (blk_below (g := gb549) (o := .cells #[.slice A0_0 l0_0.length c0_0, .int .i64 a0_1] 28 (0, 0)) (by (with_reducible repeat (first | refine blk_drewN ?_ _ | refine blk_drew ?_ | refine blk_alloc ?_ _)); exact BK549.out) hb); have n4_ := Aside0.mk (blk_below (g := gb561) (o := .cells #[.slice Ao29 y558.length co29, .int .i64 a0_1] 28 (0, 0)) (by (with_reducible repeat (first | refine blk_drewN ?_ _ | refine blk_drew ?_ | refine blk_alloc ?_ _)); exact BK561.out) hb); have n5_ := Aside0.mk (below_step (by repeat (first | (with_reducible first | exact HB.out | apply below_alloc | apply pw_below_drewN | apply below_drew1 | refine below_set ?_ GE549.out | refine below_set ?_ GE561.out) | exact HB.out)) hb); clear HO_6; clear HO_7; clear HO_562000; clear BK549; clear BK561; clear HB; have HO_6 := n0_; have HO_7 := n1_; have HO_562000 := n2_; have BK549 := n3_; have BK561 := n4_; have HB := n5_; clear n0_ n1_ n2_ n3_ n4_ n5_; (try clear hb); (try clear hb2); (try clear hk); (try clear hi)))
                          go_ret
                          exact ⟨by first | rfl | (simp [errW_none, errW_some] <;> rfl) | (simp [*, errW_none, errW_some] <;> rfl), by repeat (first | (with_reducible first | exact HB.out | apply below_alloc | apply pw_below_drewN | apply below_drew1 | refine below_set ?_ GE549.out | refine below_set ?_ GE561.out) | exact HB.out)⟩
                      · rw [if_neg c47] at H
                        have c47b0 : (t571 == 0) = false := beq_eq_false_iff_ne.mpr c47
                        have c47b1 : (t571 != 0) = true := bne_iff_ne.mpr c47
                        obtain rfl := Option.some.inj H
                        have hnb67 := NB549_561.out
                        have hnc67 := NB561_549.out
                        have hcz68_0 : wr.cell? ⟨gb549, 0, none⟩ = some (.slice A0_0 l0_0.length c0_0) := (blk_cell BK549.out 0).trans rfl
                        have hcz68_1 : wr.cell? ⟨gb549, 1, none⟩ = some (.int .i64 a0_1) := (blk_cell BK549.out 1).trans rfl
                        have hfz68_0 := blk_frozen BK549.out 0
                        have hfz68_1 := blk_frozen BK549.out 1
                        go_wp2_with (first | ((with_reducible refine gate_callee (f := 36) rfl ?_); refine goesL_ (some 64) rfl rfl Tryd.func36 (by kernel_rfl) rfl #[.agg #[.slice A0_0 l0_0.length c0_0, .int .i64 a0_1]] rfl (by (try simp only [List.map_toArray, List.map_cons, List.map_nil]); first | done | rfl | (simp only [List.length_drop, List.length_take]; rfl)) ?_; (with_reducible refine (listing_Text.calls _ _ l0_0 a0_1 t570 t571 _ ?side1 ?side2 ?side3 ?side4 A45.out).mono ?_); (case side1 => exact GK.below HGK.out (by repeat (first | (with_reducible first | exact HB.out | apply below_alloc | apply pw_below_drewN | apply below_drew1 | refine below_set ?_ GE549.out | refine below_set ?_ GE561.out) | exact HB.out))); (case side2 => exact GT.below HGT.out (by repeat (first | (with_reducible first | exact HB.out | apply below_alloc | apply pw_below_drewN | apply below_drew1 | refine below_set ?_ GE549.out | refine below_set ?_ GE561.out) | exact HB.out))); (case side3 => repeat (first | exact (Kd.C_below HR0_0.out HB.out) | (with_reducible refine Kd.C_alloc ?_ _) | (with_reducible refine Kd.C_drewN ?_ _) | (with_reducible refine Kd.C_drew ?_))); (case side4 => exact HC0_0.out); rintro e w69 ⟨rfl, hb⟩; refine ⟨_, rfl, ?_⟩; have n0_ := Aside0.mk (Kd.R_below (by (with_reducible repeat (first | apply Kd.R_alloc | apply Kd.R_drewN | apply Kd.R_drew)); exact HO_6.out) hb); have n1_ := Aside0.mk (Kd.R_below (by (with_reducible repeat (first | apply Kd.R_alloc | apply Kd.R_drewN | apply Kd.R_drew)); exact HO_7.out) hb); have n2_ := Aside0.mk (Kd.R_below (by (with_reducible repeat (first | apply Kd.R_alloc | apply Kd.R_drewN | apply Kd.R_drew)); exact HO_562000.out) hb); have n3_ := Aside0.mk (blk_below (g := gb549) (o := .cells #[.slice A0_0 l0_0.length c0_0, .int .i64 a0_1] 28 (0, 0)) (by (with_reducible repeat (first | refine blk_drewN ?_ _ | refine blk_drew ?_ | refine blk_alloc ?_ _)); exact BK549.out) hb); have n4_ := Aside0.mk (blk_below (g := gb561) (o := .cells #[.slice Ao29 y558.length co29, .int .i64 a0_1] 28 (0, 0)) (by (with_reducible repeat (first | refine blk_drewN ?_ _ | refine blk_drew ?_ | refine blk_alloc ?_ _)); exact BK561.out) hb); have n5_ := Aside0.mk (below_step (by repeat (first | (with_reducible first | exact HB.out | apply below_alloc | apply pw_below_drewN | apply below_drew1 | refine below_set ?_ GE549.out | refine below_set ?_ GE561.out) | exact HB.out)) hb); clear HO_6; clear HO_7; clear HO_562000; clear BK549; clear BK561; clear HB; have HO_6 := n0_; have HO_7 := n1_; have HO_562000 := n2_; have BK549 := n3_; have BK561 := n4_; have HB := n5_; clear n0_ n1_ n2_ n3_ n4_ n5_; (try clear hb); (try clear hb2); (try clear hk); (try clear hi); have hcz70_0 : w69.cell? ⟨gb561, 0, none⟩ = some (.slice Ao29 y558.length co29) := (blk_cell BK561.out 0).trans rfl; have hcz70_1 : w69.cell? ⟨gb561, 1, none⟩ = some (.int .i64 a0_1) := (blk_cell BK561.out 1).trans rfl; have hfz70_0 := blk_frozen BK561.out 0; have hfz70_1 := blk_frozen BK561.out 1) | ((with_reducible refine gate_callee (f := 36) rfl ?_); refine goesL_ (some 69) rfl rfl Tryd.func36 (by kernel_rfl) rfl #[.agg #[.slice Ao29 y558.length co29, .int .i64 a0_1]] rfl (by (try simp only [List.map_toArray, List.map_cons, List.map_nil]); first | done | rfl | (simp only [List.length_drop, List.length_take]; rfl)) ?_; (with_reducible refine (listing_Text.calls _ _ y558 a0_1 t572 t573 _ ?side1 ?side2 ?side3 ?side4 A46.out).mono ?_); (case side1 => exact GK.below HGK.out (by repeat (first | (with_reducible first | exact HB.out | apply below_alloc | apply pw_below_drewN | apply below_drew1 | refine below_set ?_ GE549.out | refine below_set ?_ GE561.out) | exact HB.out))); (case side2 => exact GT.below HGT.out (by repeat (first | (with_reducible first | exact HB.out | apply below_alloc | apply pw_below_drewN | apply below_drew1 | refine below_set ?_ GE549.out | refine below_set ?_ GE561.out) | exact HB.out))); (case side3 => repeat (first | exact (Kd.R_reads' HO_562000.out).2.2 | (with_reducible refine Kd.C_alloc ?_ _) | (with_reducible refine Kd.C_drewN ?_ _) | (with_reducible refine Kd.C_drew ?_))); (case side4 => exact (Kd.R_reads' HO_562000.out).2.1); rintro e w71 ⟨rfl, hb⟩; refine ⟨_, rfl, ?_⟩; have n0_ := Aside0.mk (Kd.R_below (by (with_reducible repeat (first | apply Kd.R_alloc | apply Kd.R_drewN | apply Kd.R_drew)); exact HO_6.out) hb); have n1_ := Aside0.mk (Kd.R_below (by (with_reducible repeat (first | apply Kd.R_alloc | apply Kd.R_drewN | apply Kd.R_drew)); exact HO_7.out) hb); have n2_ := Aside0.mk (Kd.R_below (by (with_reducible repeat (first | apply Kd.R_alloc | apply Kd.R_drewN | apply Kd.R_drew)); exact HO_562000.out) hb); have n3_ := Aside0.mk (blk_below (g := gb549) (o := .cells #[.slice A0_0 l0_0.length c0_0, .int .i64 a0_1] 28 (0, 0)) (by (with_reducible repeat (first | refine blk_drewN ?_ _ | refine blk_drew ?_ | refine blk_alloc ?_ _)); exact BK549.out) hb); have n4_ := Aside0.mk (blk_below (g := gb561) (o := .cells #[.slice Ao29 y558.length co29, .int .i64 a0_1] 28 (0, 0)) (by (with_reducible repeat (first | refine blk_drewN ?_ _ | refine blk_drew ?_ | refine blk_alloc ?_ _)); exact BK561.out) hb); have n5_ := Aside0.mk (below_step (by repeat (first | (with_reducible first | exact HB.out | apply below_alloc | apply pw_below_drewN | apply below_drew1 | refine below_set ?_ GE549.out | refine below_set ?_ GE561.out) | exact HB.out)) hb); clear HO_6; clear HO_7; clear HO_562000; clear BK549; clear BK561; clear HB; have HO_6 := n0_; have HO_7 := n1_; have HO_562000 := n2_; have BK549 := n3_; have BK561 := n4_; have HB := n5_; clear n0_ n1_ n2_ n3_ n4_ n5_; (try clear hb); (try clear hb2); (try clear hk); (try clear hi)))
                        go_ret
                        exact ⟨by first | rfl | (simp [errW_none, errW_some] <;> rfl) | (simp [*, errW_none, errW_some] <;> rfl), by repeat (first | (with_reducible first | exact HB.out | apply below_alloc | apply pw_below_drewN | apply below_drew1 | refine below_set ?_ GE549.out | refine below_set ?_ GE561.out) | exact HB.out)⟩
              · rw [if_neg c20] at H
                have c20b0 : ((t562.length : Int) == (t565.length : Int)) = false := beq_eq_false_iff_ne.mpr c20
                have c20b1 : ((t562.length : Int) != (t565.length : Int)) = true := bne_iff_ne.mpr c20
                have c20b2 : (t562.length == t565.length) = false := by first | simpa using c20 | (simp at c20 ⊢; omega)
                obtain rfl := Option.some.inj H
                try go_wp2
                have n0_ := Aside0.mk (blk_drew BK549.out)
                have n1_ := Aside0.mk (below_drew1 HB.out)
                clear BK549
                clear HB
                have BK549 := n0_
                have HB := n1_
                clear n0_ n1_
                refine start_ (n := 11) (S := fun w' => w'.cell? ⟨gb549, 0, none⟩ = some (.slice A0_0 l0_0.length c0_0) ∧ w'.cell? ⟨gb549, 1, none⟩ = some (.int .i64 a0_1)) (ds := []) #[false, false, false, false, false, false, false, false, false, false, false] (by kernel_rfl) rfl rfl ⟨(blk_cell BK549.out 0).trans rfl, (blk_cell BK549.out 1).trans rfl⟩ (fun hHeld => ?_); refine with_tabW seedcornlaw11_ListingGoesOn.tab5 seedcornlaw11_ListingGoesOn.bits5 (fun HT_ HW_ => ?_)
                generalize wc.drew = w72 at BK549 HB hHeld ⊢
                refine pure_ (i := 1) (N := some 30) (v := ?_) (a' := ?_) #[false, true, false, false, false, false, false, false, false, false, false] rfl rfl (any_of HT_.out (by kernel_rfl)) (fun _ _ _ h => h) (Or.inl ⟨by rfl, ?_⟩) ?_ ?_
                rotate_left
                · intro w'
                  go_simp
                  with_reducible rfl
                rotate_left
                · simp only [Act.put, List.setIfInBounds_toArray, List.set_cons_zero, List.set_cons_succ, i64_w, i32_w]
                  rfl
                refine pure_ (i := 4) (N := some 33) (v := ?_) (a' := ?_) #[false, true, false, false, true, false, false, false, false, false, false] rfl rfl (any_of HT_.out (by kernel_rfl)) (fun _ _ _ h => h) (Or.inl ⟨by rfl, ?_⟩) ?_ ?_
                rotate_left
                · intro w'
                  go_simp
                  with_reducible rfl
                rotate_left
                · simp only [Act.put, List.setIfInBounds_toArray, List.set_cons_zero, List.set_cons_succ, i64_w, i32_w]
                  rfl
                refine pure_ (i := 6) (N := some 35) (v := ?_) (a' := ?_) #[false, true, false, false, true, false, true, false, false, false, false] rfl rfl (any_of HT_.out (by kernel_rfl)) (fun _ _ _ h => h) (Or.inl ⟨by rfl, ?_⟩) ?_ ?_
                rotate_left
                · intro w'
                  go_simp
                  with_reducible rfl
                rotate_left
                · simp only [Act.put, List.setIfInBounds_toArray, List.set_cons_zero, List.set_cons_succ, i64_w, i32_w]
                  rfl
                refine take_ (i := 2) (N := some 31) (v := ?_) (a' := ?_) #[false, true, true, false, true, false, true, false, false, false, false] rfl rfl (take_ofW HT_.out HW_.out (by kernel_rfl)) (fun _ _ _ h => h) (Or.inl ⟨by rfl, ?_⟩) hHeld ?_ ?_
                rotate_left
                · rintro w' ⟨s0, s1⟩
                  go_simp
                  with_reducible rfl
                rotate_left
                · simp only [Act.put, List.setIfInBounds_toArray, List.set_cons_zero, List.set_cons_succ, i64_w, i32_w]
                  rfl
                refine take_ (i := 7) (N := some 36) (v := ?_) (a' := ?_) #[false, true, true, false, true, false, true, true, false, false, false] rfl rfl (take_ofW HT_.out HW_.out (by kernel_rfl)) (fun _ _ _ h => h) (Or.inl ⟨by rfl, ?_⟩) hHeld ?_ ?_
                rotate_left
                · rintro w' ⟨s0, s1⟩
                  go_simp
                  with_reducible rfl
                rotate_left
                · simp only [Act.put, List.setIfInBounds_toArray, List.set_cons_zero, List.set_cons_succ, i64_w, i32_w]
                  rfl
                refine join_ (σ := Value × Value × Value × Nat) 1 #[true, true, true, true, true, true, true, true, true, true, false] (fun s_ => [(29, s_.1), (32, s_.2.1), (34, s_.2.2.1), (5, .pointer (some ⟨s_.2.2.2, 0, none⟩)), (37, .agg #[s_.2.2.1, .int .i64 a0_1])]) (fun s_ w' => (w'.cell? ⟨gb549, 0, none⟩ = some (.slice A0_0 l0_0.length c0_0) ∧ w'.cell? ⟨gb549, 1, none⟩ = some (.int .i64 a0_1)) ∧ (Kd.R (Kd.int .u32) 47 w' w.heap.size (fun _ => True) s_.2.2.1 y558) ∧ (w'.heap[gb549]? = some (.cells #[.slice A0_0 l0_0.length c0_0, .int .i64 a0_1] 28 (0, 0))) ∧ (w'.heap[s_.2.2.2]? = some (.cells #[.slice none 0 0, .int .i64 0] 28 (0, 0))) ∧ (w.heap.size ≤ s_.2.2.2) ∧ (w.heap.size ≤ s_.2.2.2) ∧ (gb549 ≠ s_.2.2.2) ∧ (s_.2.2.2 ≠ gb549) ∧ (Below w.heap.size w w')) ?_ ?_
                rotate_left
                · intro hCont
                  refine two_ (i := 0) (j := 9) (Ni := some 29) (Nj := some 5) #[true, true, true, false, true, false, true, true, false, false, false] #[false, true, true, false, true, false, true, true, false, true, false] rfl rfl rfl rfl (two_of HT_.out (by kernel_rfl)) (by decide) (by decide) (fun K hK => ?_) (fun K hK => ?_)
                  · skip
                    refine Kd.R_lit_step (Kd.int .u32) _ 47 ?hg (N := 29) ?hd (xs := ([] : List Int)) (inner := []) (ok := fun _ => True) (okp := fun _ => True) ?hr ?hp (fun _ hk => hk) trivial (Below.refl _ _) (Nat.le_refl _) (by simp) ?_; (case hd => rfl); (case hg => rfl); (case hr => first | (go_simp; done) | (go_simp; rfl)); (case hp => exact (Reps.none _ _))
                    intro v553 w73 ho74 hb hg_ hnew_
                    clear hg_ hnew_
                    (first | rw [← Ny552.out] at ho74 | (simp only [Int.reduceToNat] at ho74; rw [← Ny552.out] at ho74))
                    have n0_ := Aside0.mk (Kd.R_lower ho74 (below_size (by repeat (first | (with_reducible first | exact HB.out | apply below_alloc | apply pw_below_drewN | apply below_drew1 | refine below_set ?_ GE549.out) | exact HB.out))))
                    have n1_ := Aside0.mk (blk_below (g := gb549) (o := .cells #[.slice A0_0 l0_0.length c0_0, .int .i64 a0_1] 28 (0, 0)) (by (with_reducible repeat (first | refine blk_drewN ?_ _ | refine blk_drew ?_ | refine blk_alloc ?_ _)); exact BK549.out) hb)
                    have n2_ := Aside0.mk (below_step (by repeat (first | (with_reducible first | exact HB.out | apply below_alloc | apply pw_below_drewN | apply below_drew1 | refine below_set ?_ GE549.out) | exact HB.out)) hb)
                    clear BK549
                    clear HB
                    have HO554 := n0_
                    have BK549 := n1_
                    have HB := n2_
                    clear n0_ n1_ n2_
                    clear hb ho74
                    refine hK.out _ _ ⟨(blk_cell BK549.out 0).trans rfl, (blk_cell BK549.out 1).trans rfl⟩ (fun hHeld => ?_)
                    clear hK K
                    refine norm_ (a' := ?_) ?_ ?_
                    rotate_left
                    · show Act.put _ (some 29) _ = _
                      simp only [Act.put, List.setIfInBounds_toArray, List.set_cons_zero, List.set_cons_succ, i64_w, i32_w]
                      rfl
                    refine two_ (i := 3) (j := 9) (Ni := some 32) (Nj := some 5) #[true, true, true, true, true, false, true, true, false, false, false] #[true, true, true, false, true, false, true, true, false, true, false] rfl rfl rfl rfl (two_of HT_.out (by kernel_rfl)) (by decide) (by decide) (fun K hK => ?_) (fun K hK => ?_)
                    · skip
                      refine Kd.R_append_rows_step (Kd.int .u32) (w0 := w) w.heap.size (by rfl) (.tmp 29) (.tmp 31) 26 47 (.int .u32 0) 4 rfl Tryd.underlying26 info47 rfl (by decide) (by omega) v553 y552 l0_0 _ _ _ (fun _ => True) (fun _ => False) rfl rfl ?aO ?aR (fun _ _ h => h) (fun _ h => h.elim) ?aF ?aB ?aS ?aL ?_
                      (case aR => repeat (first | exact (Kd.C_below HR0_0.out HB.out) | (with_reducible refine Kd.C_alloc ?_ _) | (with_reducible refine Kd.C_drewN ?_ _) | (with_reducible refine Kd.C_drew ?_)))
                      (case aB => exact (by repeat (first | (with_reducible first | exact HB.out | apply below_alloc | apply pw_below_drewN | apply below_drew1 | refine below_set ?_ GE549.out) | exact HB.out)))
                      (case aF => exact (fun _ _ => trivial))
                      (case aO => exact (by (with_reducible repeat (first | apply Kd.R_alloc | apply Kd.R_drewN | apply Kd.R_drew)); exact HO554.out))
                      (case aS => exact (below_size (by repeat (first | (with_reducible first | exact HB.out | apply below_alloc | apply pw_below_drewN | apply below_drew1 | refine below_set ?_ GE549.out) | exact HB.out))))
                      (case aL => have := LMc16.out; omega)
                      intro v556 w75 ho hb hg hat
                      rw [← Ny555.out] at ho
                      have n0_ := Aside0.mk (blk_grown (g := gb549) (o := .cells #[.slice A0_0 l0_0.length c0_0, .int .i64 a0_1] 28 (0, 0)) (by (with_reducible repeat (first | refine blk_drewN ?_ _ | refine blk_drew ?_ | refine blk_alloc ?_ _)); exact BK549.out) hg (Kd.R_ne HO554.out BK549.out (by decide)))
                      have n1_ := Aside0.mk (hb)
                      have n2_ := Aside0.mk (ho)
                      clear BK549
                      clear HB
                      clear HO554
                      have BK549 := n0_
                      have HB := n1_
                      have HO557 := n2_
                      clear n0_ n1_ n2_
                      clear ho hb hg hat
                      refine hK.out _ _ ⟨(blk_cell BK549.out 0).trans rfl, (blk_cell BK549.out 1).trans rfl⟩ (fun hHeld => ?_)
                      clear hK K
                      refine norm_ (a' := ?_) ?_ ?_
                      rotate_left
                      · show Act.put _ (some 32) _ = _
                        simp only [Act.put, List.setIfInBounds_toArray, List.set_cons_zero, List.set_cons_succ, i64_w, i32_w]
                        rfl
                      refine two_ (i := 5) (j := 9) (Ni := some 34) (Nj := some 5) #[true, true, true, true, true, true, true, true, false, false, false] #[true, true, true, true, true, false, true, true, false, true, false] rfl rfl rfl rfl (two_of HT_.out (by kernel_rfl)) (by decide) (by decide) (fun K hK => ?_) (fun K hK => ?_)
                      · skip
                        refine Kd.R_append_rows_step (Kd.int .u32) (w0 := w) w.heap.size (by rfl) (.tmp 32) (.tmp 33) 26 47 (.int .u32 0) 4 rfl Tryd.underlying26 info47 rfl (by decide) (by omega) v556 y555 l1 _ _ _ (fun _ => True) (fun _ => False) rfl rfl ?aO ?aR (fun _ _ h => h) (fun _ h => h.elim) ?aF ?aB ?aS ?aL ?_
                        (case aR => repeat (first | exact (Kd.C_below HR1.out HB.out) | (with_reducible refine Kd.C_alloc ?_ _) | (with_reducible refine Kd.C_drewN ?_ _) | (with_reducible refine Kd.C_drew ?_)))
                        (case aB => exact (by repeat (first | (with_reducible first | exact HB.out | apply below_alloc | apply pw_below_drewN | apply below_drew1 | refine below_set ?_ GE549.out) | exact HB.out)))
                        (case aF => exact (fun _ _ => trivial))
                        (case aO => exact (by (with_reducible repeat (first | apply Kd.R_alloc | apply Kd.R_drewN | apply Kd.R_drew)); exact HO557.out))
                        (case aS => exact (below_size (by repeat (first | (with_reducible first | exact HB.out | apply below_alloc | apply pw_below_drewN | apply below_drew1 | refine below_set ?_ GE549.out) | exact HB.out))))
                        (case aL => have := LMc17.out; omega)
                        intro v559 w76 ho hb hg hat
                        rw [← Ny558.out] at ho
                        have n0_ := Aside0.mk (blk_grown (g := gb549) (o := .cells #[.slice A0_0 l0_0.length c0_0, .int .i64 a0_1] 28 (0, 0)) (by (with_reducible repeat (first | refine blk_drewN ?_ _ | refine blk_drew ?_ | refine blk_alloc ?_ _)); exact BK549.out) hg (Kd.R_ne HO557.out BK549.out (by decide)))
                        have n1_ := Aside0.mk (hb)
                        have n2_ := Aside0.mk (ho)
                        clear BK549
                        clear HB
                        clear HO557
                        have BK549 := n0_
                        have HB := n1_
                        have HO560 := n2_
                        clear n0_ n1_ n2_
                        clear ho hb hg hat
                        obtain ⟨Ao77, co77, eo77⟩ := Kd.R_slice HO560.out
                        (first | subst eo77 | (injection eo77 with f1_ f2_ f3_; have f4_ := f1_.symm; have f5_ := f3_.symm; clear f1_ f2_ f3_; subst f4_; subst f5_))
                        refine hK.out _ _ ⟨(blk_cell BK549.out 0).trans rfl, (blk_cell BK549.out 1).trans rfl⟩ (fun hHeld => ?_)
                        clear hK K
                        refine norm_ (a' := ?_) ?_ ?_
                        rotate_left
                        · show Act.put _ (some 34) _ = _
                          simp only [Act.put, List.setIfInBounds_toArray, List.set_cons_zero, List.set_cons_succ, i64_w, i32_w]
                          rfl
                        refine pure_ (i := 8) (N := some 37) (v := ?_) (a' := ?_) #[true, true, true, true, true, true, true, true, true, false, false] rfl rfl (any_of HT_.out (by kernel_rfl)) (fun _ _ _ h => h) (Or.inl ⟨by rfl, ?_⟩) ?_ ?_
                        rotate_left
                        · intro w'
                          go_simp
                          with_reducible rfl
                        rotate_left
                        · simp only [Act.put, List.setIfInBounds_toArray, List.set_cons_zero, List.set_cons_succ, i64_w, i32_w]
                          rfl
                        refine one_ (i := 9) (N := some 5) #[true, true, true, true, true, true, true, true, true, true, false] rfl rfl (one_of HT_.out (by kernel_rfl)) (by decide) (fun K hK => ?_)
                        refine box_step ?hg (N := 5) ?hd (cs := #[.slice none 0 0, .int .i64 0]) (t := 28) ?hr ?_; (case hd => rfl); (case hg => rfl); (case hr => first | (go_simp; done) | (go_simp; rfl))
                        intro gb561 hg w78 hbox hb
                        have n0_ := Aside0.mk (Kd.R_below (by (with_reducible repeat (first | apply Kd.R_alloc | apply Kd.R_drewN | apply Kd.R_drew)); exact HO560.out) hb)
                        have n1_ := Aside0.mk (blk_below (g := gb549) (o := .cells #[.slice A0_0 l0_0.length c0_0, .int .i64 a0_1] 28 (0, 0)) (by (with_reducible repeat (first | refine blk_drewN ?_ _ | refine blk_drew ?_ | refine blk_alloc ?_ _)); exact BK549.out) hb)
                        have n2_ := Aside0.mk (below_step (by repeat (first | (with_reducible first | exact HB.out | apply below_alloc | apply pw_below_drewN | apply below_drew1 | refine below_set ?_ GE549.out) | exact HB.out)) hb)
                        have n3_ := Aside0.mk (hbox)
                        have n4_ := Aside0.mk ((by rw [hg]; exact (below_size (by repeat (first | (with_reducible first | exact HB.out | apply below_alloc | apply pw_below_drewN | apply below_drew1 | refine below_set ?_ GE549.out) | exact HB.out))) : w.heap.size ≤ gb561))
                        have n5_ := Aside0.mk ((by rw [hg]; exact (below_size (by repeat (first | (with_reducible first | exact HB.out | apply below_alloc | apply pw_below_drewN | apply below_drew1 | refine below_set ?_ GE549.out) | exact HB.out))) : w.heap.size ≤ gb561))
                        have n6_ := Aside0.mk ((by rw [hg]; exact Nat.ne_of_lt (blk_lt (g := gb549) (o := .cells #[.slice A0_0 l0_0.length c0_0, .int .i64 a0_1] 28 (0, 0)) (by (with_reducible repeat (first | refine blk_drewN ?_ _ | refine blk_drew ?_ | refine blk_alloc ?_ _)); exact BK549.out)) : gb549 ≠ gb561))
                        have n7_ := Aside0.mk ((by rw [hg]; exact Nat.ne_of_gt (blk_lt (g := gb549) (o := .cells #[.slice A0_0 l0_0.length c0_0, .int .i64 a0_1] 28 (0, 0)) (by (with_reducible repeat (first | refine blk_drewN ?_ _ | refine blk_drew ?_ | refine blk_alloc ?_ _)); exact BK549.out)) : gb561 ≠ gb549))
                        clear HO560
                        clear BK549
                        clear HB
                        have HO560 := n0_
                        have BK549 := n1_
                        have HB := n2_
                        have BK561 := n3_
                        have GW561 := n4_
                        have GE561 := n5_
                        have NB549_561 := n6_
                        have NB561_549 := n7_
                        clear n0_ n1_ n2_ n3_ n4_ n5_ n6_ n7_
                        clear hb hbox hg
                        refine hK.out _ _ ⟨(blk_cell BK549.out 0).trans rfl, (blk_cell BK549.out 1).trans rfl⟩ (fun hHeld => ?_)
                        clear hK K
                        refine norm_ (a' := ?_) ?_ ?_
                        rotate_left
                        · show Act.put _ (some 5) _ = _
                          simp only [Act.put, List.setIfInBounds_toArray, List.set_cons_zero, List.set_cons_succ, i64_w, i32_w]
                          rfl
                        exact norm_ (by simp only [putAll, Act.put, List.setIfInBounds_toArray, List.set_cons_zero, List.set_cons_succ]) (hCont (v553, v556, .slice Ao77 y558.length co77, gb561) _ ⟨hHeld, (by (with_reducible repeat (first | apply Kd.R_alloc | apply Kd.R_drewN | apply Kd.R_drew)); exact HO560.out), (by (with_reducible repeat (first | refine blk_drewN ?_ _ | refine blk_drew ?_ | refine blk_alloc ?_ _)); exact BK549.out), (by (with_reducible repeat (first | refine blk_drewN ?_ _ | refine blk_drew ?_ | refine blk_alloc ?_ _)); exact BK561.out), GW561.out, GE561.out, NB549_561.out, NB561_549.out, (by repeat (first | (with_reducible first | exact HB.out | apply below_alloc | apply pw_below_drewN | apply below_drew1 | refine below_set ?_ GE549.out | refine below_set ?_ GE561.out) | exact HB.out))⟩)
                      · skip
                        refine box_step ?hg (N := 5) ?hd (cs := #[.slice none 0 0, .int .i64 0]) (t := 28) ?hr ?_; (case hd => rfl); (case hg => rfl); (case hr => first | (go_simp; done) | (go_simp; rfl))
                        intro gb561 hg w76 hbox hb
                        have n0_ := Aside0.mk (Kd.R_below (by (with_reducible repeat (first | apply Kd.R_alloc | apply Kd.R_drewN | apply Kd.R_drew)); exact HO557.out) hb)
                        have n1_ := Aside0.mk (blk_below (g := gb549) (o := .cells #[.slice A0_0 l0_0.length c0_0, .int .i64 a0_1] 28 (0, 0)) (by (with_reducible repeat (first | refine blk_drewN ?_ _ | refine blk_drew ?_ | refine blk_alloc ?_ _)); exact BK549.out) hb)
                        have n2_ := Aside0.mk (below_step (by repeat (first | (with_reducible first | exact HB.out | apply below_alloc | apply pw_below_drewN | apply below_drew1 | refine below_set ?_ GE549.out) | exact HB.out)) hb)
                        have n3_ := Aside0.mk (hbox)
                        have n4_ := Aside0.mk ((by rw [hg]; exact (below_size (by repeat (first | (with_reducible first | exact HB.out | apply below_alloc | apply pw_below_drewN | apply below_drew1 | refine below_set ?_ GE549.out) | exact HB.out))) : w.heap.size ≤ gb561))
                        have n5_ := Aside0.mk ((by rw [hg]; exact (below_size (by repeat (first | (with_reducible first | exact HB.out | apply below_alloc | apply pw_below_drewN | apply below_drew1 | refine below_set ?_ GE549.out) | exact HB.out))) : w.heap.size ≤ gb561))
                        have n6_ := Aside0.mk ((by rw [hg]; exact Nat.ne_of_lt (blk_lt (g := gb549) (o := .cells #[.slice A0_0 l0_0.length c0_0, .int .i64 a0_1] 28 (0, 0)) (by (with_reducible repeat (first | refine blk_drewN ?_ _ | refine blk_drew ?_ | refine blk_alloc ?_ _)); exact BK549.out)) : gb549 ≠ gb561))
                        have n7_ := Aside0.mk ((by rw [hg]; exact Nat.ne_of_gt (blk_lt (g := gb549) (o := .cells #[.slice A0_0 l0_0.length c0_0, .int .i64 a0_1] 28 (0, 0)) (by (with_reducible repeat (first | refine blk_drewN ?_ _ | refine blk_drew ?_ | refine blk_alloc ?_ _)); exact BK549.out)) : gb561 ≠ gb549))
                        clear HO557
                        clear BK549
                        clear HB
                        have HO557 := n0_
                        have BK549 := n1_
                        have HB := n2_
                        have BK561 := n3_
                        have GW561 := n4_
                        have GE561 := n5_
                        have NB549_561 := n6_
                        have NB561_549 := n7_
                        clear n0_ n1_ n2_ n3_ n4_ n5_ n6_ n7_
                        clear hb hbox hg
                        refine hK.out _ _ ⟨(blk_cell BK549.out 0).trans rfl, (blk_cell BK549.out 1).trans rfl⟩ (fun hHeld => ?_)
                        clear hK K
                        refine norm_ (a' := ?_) ?_ ?_
                        rotate_left
                        · show Act.put _ (some 5) _ = _
                          simp only [Act.put, List.setIfInBounds_toArray, List.set_cons_zero, List.set_cons_succ, i64_w, i32_w]
                          rfl
                        refine one_ (i := 5) (N := some 34) #[true, true, true, true, true, true, true, true, false, true, false] rfl rfl (one_of HT_.out (by kernel_rfl)) (by decide) (fun K hK => ?_)
                        refine Kd.R_append_rows_step (Kd.int .u32) (w0 := w) w.heap.size (by rfl) (.tmp 32) (.tmp 33) 26 47 (.int .u32 0) 4 rfl Tryd.underlying26 info47 rfl (by decide) (by omega) v556 y555 l1 _ _ _ (fun _ => True) (fun _ => False) rfl rfl ?aO ?aR (fun _ _ h => h) (fun _ h => h.elim) ?aF ?aB ?aS ?aL ?_
                        (case aR => repeat (first | exact (Kd.C_below HR1.out HB.out) | (with_reducible refine Kd.C_alloc ?_ _) | (with_reducible refine Kd.C_drewN ?_ _) | (with_reducible refine Kd.C_drew ?_)))
                        (case aB => exact (by repeat (first | (with_reducible first | exact HB.out | apply below_alloc | apply pw_below_drewN | apply below_drew1 | refine below_set ?_ GE549.out | refine below_set ?_ GE561.out) | exact HB.out)))
                        (case aF => exact (fun _ _ => trivial))
                        (case aO => exact (by (with_reducible repeat (first | apply Kd.R_alloc | apply Kd.R_drewN | apply Kd.R_drew)); exact HO557.out))
                        (case aS => exact (below_size (by repeat (first | (with_reducible first | exact HB.out | apply below_alloc | apply pw_below_drewN | apply below_drew1 | refine below_set ?_ GE549.out | refine below_set ?_ GE561.out) | exact HB.out))))
                        (case aL => have := LMc17.out; omega)
                        intro v559 w77 ho hb hg hat
                        rw [← Ny558.out] at ho
                        have n0_ := Aside0.mk (blk_grown (g := gb549) (o := .cells #[.slice A0_0 l0_0.length c0_0, .int .i64 a0_1] 28 (0, 0)) (by (with_reducible repeat (first | refine blk_drewN ?_ _ | refine blk_drew ?_ | refine blk_alloc ?_ _)); exact BK549.out) hg (Kd.R_ne HO557.out BK549.out (by decide)))
                        have n1_ := Aside0.mk (blk_grown (g := gb561) (o := .cells #[.slice none 0 0, .int .i64 0] 28 (0, 0)) (by (with_reducible repeat (first | refine blk_drewN ?_ _ | refine blk_drew ?_ | refine blk_alloc ?_ _)); exact BK561.out) hg (Kd.R_ne HO557.out BK561.out (by decide)))
                        have n2_ := Aside0.mk (hb)
                        have n3_ := Aside0.mk (ho)
                        clear BK549
                        clear BK561
                        clear HB
                        clear HO557
                        have BK549 := n0_
                        have BK561 := n1_
                        have HB := n2_
                        have HO560 := n3_
                        clear n0_ n1_ n2_ n3_
                        clear ho hb hg hat
                        obtain ⟨Ao78, co78, eo78⟩ := Kd.R_slice HO560.out
                        (first | subst eo78 | (injection eo78 with f1_ f2_ f3_; have f4_ := f1_.symm; have f5_ := f3_.symm; clear f1_ f2_ f3_; subst f4_; subst f5_))
                        refine hK.out _ _ ⟨(blk_cell BK549.out 0).trans rfl, (blk_cell BK549.out 1).trans rfl⟩ (fun hHeld => ?_)
                        clear hK K
                        refine norm_ (a' := ?_) ?_ ?_
                        rotate_left
                        · show Act.put _ (some 34) _ = _
                          simp only [Act.put, List.setIfInBounds_toArray, List.set_cons_zero, List.set_cons_succ, i64_w, i32_w]
                          rfl
                        refine pure_ (i := 8) (N := some 37) (v := ?_) (a' := ?_) #[true, true, true, true, true, true, true, true, true, true, false] rfl rfl (any_of HT_.out (by kernel_rfl)) (fun _ _ _ h => h) (Or.inl ⟨by rfl, ?_⟩) ?_ ?_
                        rotate_left
                        · intro w'
                          go_simp
                          with_reducible rfl
                        rotate_left
                        · simp only [Act.put, List.setIfInBounds_toArray, List.set_cons_zero, List.set_cons_succ, i64_w, i32_w]
                          rfl
                        exact norm_ (by simp only [putAll, Act.put, List.setIfInBounds_toArray, List.set_cons_zero, List.set_cons_succ]) (hCont (v553, v556, .slice Ao78 y558.length co78, gb561) _ ⟨hHeld, (by (with_reducible repeat (first | apply Kd.R_alloc | apply Kd.R_drewN | apply Kd.R_drew)); exact HO560.out), (by (with_reducible repeat (first | refine blk_drewN ?_ _ | refine blk_drew ?_ | refine blk_alloc ?_ _)); exact BK549.out), (by (with_reducible repeat (first | refine blk_drewN ?_ _ | refine blk_drew ?_ | refine blk_alloc ?_ _)); exact BK561.out), GW561.out, GE561.out, NB549_561.out, NB561_549.out, (by repeat (first | (with_reducible first | exact HB.out | apply below_alloc | apply pw_below_drewN | apply below_drew1 | refine below_set ?_ GE549.out | refine below_set ?_ GE561.out) | exact HB.out))⟩)
                    · skip
                      refine box_step ?hg (N := 5) ?hd (cs := #[.slice none 0 0, .int .i64 0]) (t := 28) ?hr ?_; (case hd => rfl); (case hg => rfl); (case hr => first | (go_simp; done) | (go_simp; rfl))
                      intro gb561 hg w75 hbox hb
                      have n0_ := Aside0.mk (Kd.R_below (by (with_reducible repeat (first | apply Kd.R_alloc | apply Kd.R_drewN | apply Kd.R_drew)); exact HO554.out) hb)
                      have n1_ := Aside0.mk (blk_below (g := gb549) (o := .cells #[.slice A0_0 l0_0.length c0_0, .int .i64 a0_1] 28 (0, 0)) (by (with_reducible repeat (first | refine blk_drewN ?_ _ | refine blk_drew ?_ | refine blk_alloc ?_ _)); exact BK549.out) hb)
                      have n2_ := Aside0.mk (below_step (by repeat (first | (with_reducible first | exact HB.out | apply below_alloc | apply pw_below_drewN | apply below_drew1 | refine below_set ?_ GE549.out) | exact HB.out)) hb)
                      have n3_ := Aside0.mk (hbox)
                      have n4_ := Aside0.mk ((by rw [hg]; exact (below_size (by repeat (first | (with_reducible first | exact HB.out | apply below_alloc | apply pw_below_drewN | apply below_drew1 | refine below_set ?_ GE549.out) | exact HB.out))) : w.heap.size ≤ gb561))
                      have n5_ := Aside0.mk ((by rw [hg]; exact (below_size (by repeat (first | (with_reducible first | exact HB.out | apply below_alloc | apply pw_below_drewN | apply below_drew1 | refine below_set ?_ GE549.out) | exact HB.out))) : w.heap.size ≤ gb561))
                      have n6_ := Aside0.mk ((by rw [hg]; exact Nat.ne_of_lt (blk_lt (g := gb549) (o := .cells #[.slice A0_0 l0_0.length c0_0, .int .i64 a0_1] 28 (0, 0)) (by (with_reducible repeat (first | refine blk_drewN ?_ _ | refine blk_drew ?_ | refine blk_alloc ?_ _)); exact BK549.out)) : gb549 ≠ gb561))
                      have n7_ := Aside0.mk ((by rw [hg]; exact Nat.ne_of_gt (blk_lt (g := gb549) (o := .cells #[.slice A0_0 l0_0.length c0_0, .int .i64 a0_1] 28 (0, 0)) (by (with_reducible repeat (first | refine blk_drewN ?_ _ | refine blk_drew ?_ | refine blk_alloc ?_ _)); exact BK549.out)) : gb561 ≠ gb549))
                      clear HO554
                      clear BK549
                      clear HB
                      have HO554 := n0_
                      have BK549 := n1_
                      have HB := n2_
                      have BK561 := n3_
                      have GW561 := n4_
                      have GE561 := n5_
                      have NB549_561 := n6_
                      have NB561_549 := n7_
                      clear n0_ n1_ n2_ n3_ n4_ n5_ n6_ n7_
                      clear hb hbox hg
                      refine hK.out _ _ ⟨(blk_cell BK549.out 0).trans rfl, (blk_cell BK549.out 1).trans rfl⟩ (fun hHeld => ?_)
                      clear hK K
                      refine norm_ (a' := ?_) ?_ ?_
                      rotate_left
                      · show Act.put _ (some 5) _ = _
                        simp only [Act.put, List.setIfInBounds_toArray, List.set_cons_zero, List.set_cons_succ, i64_w, i32_w]
                        rfl
                      refine one_ (i := 3) (N := some 32) #[true, true, true, true, true, false, true, true, false, true, false] rfl rfl (one_of HT_.out (by kernel_rfl)) (by decide) (fun K hK => ?_)
                      refine Kd.R_append_rows_step (Kd.int .u32) (w0 := w) w.heap.size (by rfl) (.tmp 29) (.tmp 31) 26 47 (.int .u32 0) 4 rfl Tryd.underlying26 info47 rfl (by decide) (by omega) v553 y552 l0_0 _ _ _ (fun _ => True) (fun _ => False) rfl rfl ?aO ?aR (fun _ _ h => h) (fun _ h => h.elim) ?aF ?aB ?aS ?aL ?_
                      (case aR => repeat (first | exact (Kd.C_below HR0_0.out HB.out) | (with_reducible refine Kd.C_alloc ?_ _) | (with_reducible refine Kd.C_drewN ?_ _) | (with_reducible refine Kd.C_drew ?_)))
                      (case aB => exact (by repeat (first | (with_reducible first | exact HB.out | apply below_alloc | apply pw_below_drewN | apply below_drew1 | refine below_set ?_ GE549.out | refine below_set ?_ GE561.out) | exact HB.out)))
                      (case aF => exact (fun _ _ => trivial))
                      (case aO => exact (by (with_reducible repeat (first | apply Kd.R_alloc | apply Kd.R_drewN | apply Kd.R_drew)); exact HO554.out))
                      (case aS => exact (below_size (by repeat (first | (with_reducible first | exact HB.out | apply below_alloc | apply pw_below_drewN | apply below_drew1 | refine below_set ?_ GE549.out | refine below_set ?_ GE561.out) | exact HB.out))))
                      (case aL => have := LMc16.out; omega)
                      intro v556 w76 ho hb hg hat
                      rw [← Ny555.out] at ho
                      have n0_ := Aside0.mk (blk_grown (g := gb549) (o := .cells #[.slice A0_0 l0_0.length c0_0, .int .i64 a0_1] 28 (0, 0)) (by (with_reducible repeat (first | refine blk_drewN ?_ _ | refine blk_drew ?_ | refine blk_alloc ?_ _)); exact BK549.out) hg (Kd.R_ne HO554.out BK549.out (by decide)))
                      have n1_ := Aside0.mk (blk_grown (g := gb561) (o := .cells #[.slice none 0 0, .int .i64 0] 28 (0, 0)) (by (with_reducible repeat (first | refine blk_drewN ?_ _ | refine blk_drew ?_ | refine blk_alloc ?_ _)); exact BK561.out) hg (Kd.R_ne HO554.out BK561.out (by decide)))
                      have n2_ := Aside0.mk (hb)
                      have n3_ := Aside0.mk (ho)
                      clear BK549
                      clear BK561
                      clear HB
                      clear HO554
                      have BK549 := n0_
                      have BK561 := n1_
                      have HB := n2_
                      have HO557 := n3_
                      clear n0_ n1_ n2_ n3_
                      clear ho hb hg hat
                      refine hK.out _ _ ⟨(blk_cell BK549.out 0).trans rfl, (blk_cell BK549.out 1).trans rfl⟩ (fun hHeld => ?_)
                      clear hK K
                      refine norm_ (a' := ?_) ?_ ?_
                      rotate_left
                      · show Act.put _ (some 32) _ = _
                        simp only [Act.put, List.setIfInBounds_toArray, List.set_cons_zero, List.set_cons_succ, i64_w, i32_w]
                        rfl
                      refine one_ (i := 5) (N := some 34) #[true, true, true, true, true, true, true, true, false, true, false] rfl rfl (one_of HT_.out (by kernel_rfl)) (by decide) (fun K hK => ?_)
                      refine Kd.R_append_rows_step (Kd.int .u32) (w0 := w) w.heap.size (by rfl) (.tmp 32) (.tmp 33) 26 47 (.int .u32 0) 4 rfl Tryd.underlying26 info47 rfl (by decide) (by omega) v556 y555 l1 _ _ _ (fun _ => True) (fun _ => False) rfl rfl ?aO ?aR (fun _ _ h => h) (fun _ h => h.elim) ?aF ?aB ?aS ?aL ?_
                      (case aR => repeat (first | exact (Kd.C_below HR1.out HB.out) | (with_reducible refine Kd.C_alloc ?_ _) | (with_reducible refine Kd.C_drewN ?_ _) | (with_reducible refine Kd.C_drew ?_)))
                      (case aB => exact (by repeat (first | (with_reducible first | exact HB.out | apply below_alloc | apply pw_below_drewN | apply below_drew1 | refine below_set ?_ GE549.out | refine below_set ?_ GE561.out) | exact HB.out)))
                      (case aF => exact (fun _ _ => trivial))
                      (case aO => exact (by (with_reducible repeat (first | apply Kd.R_alloc | apply Kd.R_drewN | apply Kd.R_drew)); exact HO557.out))
                      (case aS => exact (below_size (by repeat (first | (with_reducible first | exact HB.out | apply below_alloc | apply pw_below_drewN | apply below_drew1 | refine below_set ?_ GE549.out | refine below_set ?_ GE561.out) | exact HB.out))))
                      (case aL => have := LMc17.out; omega)
                      intro v559 w77 ho hb hg hat
                      rw [← Ny558.out] at ho
                      have n0_ := Aside0.mk (blk_grown (g := gb549) (o := .cells #[.slice A0_0 l0_0.length c0_0, .int .i64 a0_1] 28 (0, 0)) (by (with_reducible repeat (first | refine blk_drewN ?_ _ | refine blk_drew ?_ | refine blk_alloc ?_ _)); exact BK549.out) hg (Kd.R_ne HO557.out BK549.out (by decide)))
                      have n1_ := Aside0.mk (blk_grown (g := gb561) (o := .cells #[.slice none 0 0, .int .i64 0] 28 (0, 0)) (by (with_reducible repeat (first | refine blk_drewN ?_ _ | refine blk_drew ?_ | refine blk_alloc ?_ _)); exact BK561.out) hg (Kd.R_ne HO557.out BK561.out (by decide)))
                      have n2_ := Aside0.mk (hb)
                      have n3_ := Aside0.mk (ho)
                      clear BK549
                      clear BK561
                      clear HB
                      clear HO557
                      have BK549 := n0_
                      have BK561 := n1_
                      have HB := n2_
                      have HO560 := n3_
                      clear n0_ n1_ n2_ n3_
                      clear ho hb hg hat
                      obtain ⟨Ao78, co78, eo78⟩ := Kd.R_slice HO560.out
                      (first | subst eo78 | (injection eo78 with f1_ f2_ f3_; have f4_ := f1_.symm; have f5_ := f3_.symm; clear f1_ f2_ f3_; subst f4_; subst f5_))
                      refine hK.out _ _ ⟨(blk_cell BK549.out 0).trans rfl, (blk_cell BK549.out 1).trans rfl⟩ (fun hHeld => ?_)
                      clear hK K
                      refine norm_ (a' := ?_) ?_ ?_
                      rotate_left
                      · show Act.put _ (some 34) _ = _
                        simp only [Act.put, List.setIfInBounds_toArray, List.set_cons_zero, List.set_cons_succ, i64_w, i32_w]
                        rfl
                      refine pure_ (i := 8) (N := some 37) (v := ?_) (a' := ?_) #[true, true, true, true, true, true, true, true, true, true, false] rfl rfl (any_of HT_.out (by kernel_rfl)) (fun _ _ _ h => h) (Or.inl ⟨by rfl, ?_⟩) ?_ ?_
                      rotate_left
                      · intro w'
                        go_simp
                        with_reducible rfl
                      rotate_left
                      · simp only [Act.put, List.setIfInBounds_toArray, List.set_cons_zero, List.set_cons_succ, i64_w, i32_w]
                        rfl
                      exact norm_ (by simp only [putAll, Act.put, List.setIfInBounds_toArray, List.set_cons_zero, List.set_cons_succ]) (hCont (v553, v556, .slice Ao78 y558.length co78, gb561) _ ⟨hHeld, (by (with_reducible repeat (first | apply Kd.R_alloc | apply Kd.R_drewN | apply Kd.R_drew)); exact HO560.out), (by (with_reducible repeat (first | refine blk_drewN ?_ _ | refine blk_drew ?_ | refine blk_alloc ?_ _)); exact BK549.out), (by (with_reducible repeat (first | refine blk_drewN ?_ _ | refine blk_drew ?_ | refine blk_alloc ?_ _)); exact BK561.out), GW561.out, GE561.out, NB549_561.out, NB561_549.out, (by repeat (first | (with_reducible first | exact HB.out | apply below_alloc | apply pw_below_drewN | apply below_drew1 | refine below_set ?_ GE549.out | refine below_set ?_ GE561.out) | exact HB.out))⟩)
                  · skip
                    refine box_step ?hg (N := 5) ?hd (cs := #[.slice none 0 0, .int .i64 0]) (t := 28) ?hr ?_; (case hd => rfl); (case hg => rfl); (case hr => first | (go_simp; done) | (go_simp; rfl))
                    intro gb561 hg w73 hbox hb
                    have n0_ := Aside0.mk (blk_below (g := gb549) (o := .cells #[.slice A0_0 l0_0.length c0_0, .int .i64 a0_1] 28 (0, 0)) (by (with_reducible repeat (first | refine blk_drewN ?_ _ | refine blk_drew ?_ | refine blk_alloc ?_ _)); exact BK549.out) hb)
                    have n1_ := Aside0.mk (below_step (by repeat (first | (with_reducible first | exact HB.out | apply below_alloc | apply pw_below_drewN | apply below_drew1 | refine below_set ?_ GE549.out) | exact HB.out)) hb)
                    have n2_ := Aside0.mk (hbox)
                    have n3_ := Aside0.mk ((by rw [hg]; exact (below_size (by repeat (first | (with_reducible first | exact HB.out | apply below_alloc | apply pw_below_drewN | apply below_drew1 | refine below_set ?_ GE549.out) | exact HB.out))) : w.heap.size ≤ gb561))
                    have n4_ := Aside0.mk ((by rw [hg]; exact (below_size (by repeat (first | (with_reducible first | exact HB.out | apply below_alloc | apply pw_below_drewN | apply below_drew1 | refine below_set ?_ GE549.out) | exact HB.out))) : w.heap.size ≤ gb561))
                    have n5_ := Aside0.mk ((by rw [hg]; exact Nat.ne_of_lt (blk_lt (g := gb549) (o := .cells #[.slice A0_0 l0_0.length c0_0, .int .i64 a0_1] 28 (0, 0)) (by (with_reducible repeat (first | refine blk_drewN ?_ _ | refine blk_drew ?_ | refine blk_alloc ?_ _)); exact BK549.out)) : gb549 ≠ gb561))
                    have n6_ := Aside0.mk ((by rw [hg]; exact Nat.ne_of_gt (blk_lt (g := gb549) (o := .cells #[.slice A0_0 l0_0.length c0_0, .int .i64 a0_1] 28 (0, 0)) (by (with_reducible repeat (first | refine blk_drewN ?_ _ | refine blk_drew ?_ | refine blk_alloc ?_ _)); exact BK549.out)) : gb561 ≠ gb549))
                    clear BK549
                    clear HB
                    have BK549 := n0_
                    have HB := n1_
                    have BK561 := n2_
                    have GW561 := n3_
                    have GE561 := n4_
                    have NB549_561 := n5_
                    have NB561_549 := n6_
                    clear n0_ n1_ n2_ n3_ n4_ n5_ n6_
                    clear hb hbox hg
                    refine hK.out _ _ ⟨(blk_cell BK549.out 0).trans rfl, (blk_cell BK549.out 1).trans rfl⟩ (fun hHeld => ?_)
                    clear hK K
                    refine norm_ (a' := ?_) ?_ ?_
                    rotate_left
                    · show Act.put _ (some 5) _ = _
                      simp only [Act.put, List.setIfInBounds_toArray, List.set_cons_zero, List.set_cons_succ, i64_w, i32_w]
                      rfl
                    refine one_ (i := 0) (N := some 29) #[true, true, true, false, true, false, true, true, false, true, false] rfl rfl (one_of HT_.out (by kernel_rfl)) (by decide) (fun K hK => ?_)
                    refine Kd.R_lit_step (Kd.int .u32) _ 47 ?hg (N := 29) ?hd (xs := ([] : List Int)) (inner := []) (ok := fun _ => True) (okp := fun _ => True) ?hr ?hp (fun _ hk => hk) trivial (Below.refl _ _) (Nat.le_refl _) (by simp) ?_; (case hd => rfl); (case hg => rfl); (case hr => first | (go_simp; done) | (go_simp; rfl)); (case hp => exact (Reps.none _ _))
                    intro v553 w74 ho75 hb hg_ hnew_
                    clear hg_ hnew_
                    (first | rw [← Ny552.out] at ho75 | (simp only [Int.reduceToNat] at ho75; rw [← Ny552.out] at ho75))
                    have n0_ := Aside0.mk (Kd.R_lower ho75 (below_size (by repeat (first | (with_reducible first | exact HB.out | apply below_alloc | apply pw_below_drewN | apply below_drew1 | refine below_set ?_ GE549.out | refine below_set ?_ GE561.out) | exact HB.out))))
                    have n1_ := Aside0.mk (blk_below (g := gb549) (o := .cells #[.slice A0_0 l0_0.length c0_0, .int .i64 a0_1] 28 (0, 0)) (by (with_reducible repeat (first | refine blk_drewN ?_ _ | refine blk_drew ?_ | refine blk_alloc ?_ _)); exact BK549.out) hb)
                    have n2_ := Aside0.mk (blk_below (g := gb561) (o := .cells #[.slice none 0 0, .int .i64 0] 28 (0, 0)) (by (with_reducible repeat (first | refine blk_drewN ?_ _ | refine blk_drew ?_ | refine blk_alloc ?_ _)); exact BK561.out) hb)
                    have n3_ := Aside0.mk (below_step (by repeat (first | (with_reducible first | exact HB.out | apply below_alloc | apply pw_below_drewN | apply below_drew1 | refine below_set ?_ GE549.out | refine below_set ?_ GE561.out) | exact HB.out)) hb)
                    clear BK549
                    clear BK561
                    clear HB
                    have HO554 := n0_
                    have BK549 := n1_
                    have BK561 := n2_
                    have HB := n3_
                    clear n0_ n1_ n2_ n3_
                    clear hb ho75
                    refine hK.out _ _ ⟨(blk_cell BK549.out 0).trans rfl, (blk_cell BK549.out 1).trans rfl⟩ (fun hHeld => ?_)
                    clear hK K
                    refine norm_ (a' := ?_) ?_ ?_
                    rotate_left
                    · show Act.put _ (some 29) _ = _
                      simp only [Act.put, List.setIfInBounds_toArray, List.set_cons_zero, List.set_cons_succ, i64_w, i32_w]
                      rfl
                    refine one_ (i := 3) (N := some 32) #[true, true, true, true, true, false, true, true, false, true, false] rfl rfl (one_of HT_.out (by kernel_rfl)) (by decide) (fun K hK => ?_)
                    refine Kd.R_append_rows_step (Kd.int .u32) (w0 := w) w.heap.size (by rfl) (.tmp 29) (.tmp 31) 26 47 (.int .u32 0) 4 rfl Tryd.underlying26 info47 rfl (by decide) (by omega) v553 y552 l0_0 _ _ _ (fun _ => True) (fun _ => False) rfl rfl ?aO ?aR (fun _ _ h => h) (fun _ h => h.elim) ?aF ?aB ?aS ?aL ?_
                    (case aR => repeat (first | exact (Kd.C_below HR0_0.out HB.out) | (with_reducible refine Kd.C_alloc ?_ _) | (with_reducible refine Kd.C_drewN ?_ _) | (with_reducible refine Kd.C_drew ?_)))
                    (case aB => exact (by repeat (first | (with_reducible first | exact HB.out | apply below_alloc | apply pw_below_drewN | apply below_drew1 | refine below_set ?_ GE549.out | refine below_set ?_ GE561.out) | exact HB.out)))
                    (case aF => exact (fun _ _ => trivial))
                    (case aO => exact (by (with_reducible repeat (first | apply Kd.R_alloc | apply Kd.R_drewN | apply Kd.R_drew)); exact HO554.out))
                    (case aS => exact (below_size (by repeat (first | (with_reducible first | exact HB.out | apply below_alloc | apply pw_below_drewN | apply below_drew1 | refine below_set ?_ GE549.out | refine below_set ?_ GE561.out) | exact HB.out))))
                    (case aL => have := LMc16.out; omega)
                    intro v556 w76 ho hb hg hat
                    rw [← Ny555.out] at ho
                    have n0_ := Aside0.mk (blk_grown (g := gb549) (o := .cells #[.slice A0_0 l0_0.length c0_0, .int .i64 a0_1] 28 (0, 0)) (by (with_reducible repeat (first | refine blk_drewN ?_ _ | refine blk_drew ?_ | refine blk_alloc ?_ _)); exact BK549.out) hg (Kd.R_ne HO554.out BK549.out (by decide)))
                    have n1_ := Aside0.mk (blk_grown (g := gb561) (o := .cells #[.slice none 0 0, .int .i64 0] 28 (0, 0)) (by (with_reducible repeat (first | refine blk_drewN ?_ _ | refine blk_drew ?_ | refine blk_alloc ?_ _)); exact BK561.out) hg (Kd.R_ne HO554.out BK561.out (by decide)))
                    have n2_ := Aside0.mk (hb)
                    have n3_ := Aside0.mk (ho)
                    clear BK549
                    clear BK561
                    clear HB
                    clear HO554
                    have BK549 := n0_
                    have BK561 := n1_
                    have HB := n2_
                    have HO557 := n3_
                    clear n0_ n1_ n2_ n3_
                    clear ho hb hg hat
                    refine hK.out _ _ ⟨(blk_cell BK549.out 0).trans rfl, (blk_cell BK549.out 1).trans rfl⟩ (fun hHeld => ?_)
                    clear hK K
                    refine norm_ (a' := ?_) ?_ ?_
                    rotate_left
                    · show Act.put _ (some 32) _ = _
                      simp only [Act.put, List.setIfInBounds_toArray, List.set_cons_zero, List.set_cons_succ, i64_w, i32_w]
                      rfl
                    refine one_ (i := 5) (N := some 34) #[true, true, true, true, true, true, true, true, false, true, false] rfl rfl (one_of HT_.out (by kernel_rfl)) (by decide) (fun K hK => ?_)
                    refine Kd.R_append_rows_step (Kd.int .u32) (w0 := w) w.heap.size (by rfl) (.tmp 32) (.tmp 33) 26 47 (.int .u32 0) 4 rfl Tryd.underlying26 info47 rfl (by decide) (by omega) v556 y555 l1 _ _ _ (fun _ => True) (fun _ => False) rfl rfl ?aO ?aR (fun _ _ h => h) (fun _ h => h.elim) ?aF ?aB ?aS ?aL ?_
                    (case aR => repeat (first | exact (Kd.C_below HR1.out HB.out) | (with_reducible refine Kd.C_alloc ?_ _) | (with_reducible refine Kd.C_drewN ?_ _) | (with_reducible refine Kd.C_drew ?_)))
                    (case aB => exact (by repeat (first | (with_reducible first | exact HB.out | apply below_alloc | apply pw_below_drewN | apply below_drew1 | refine below_set ?_ GE549.out | refine below_set ?_ GE561.out) | exact HB.out)))
                    (case aF => exact (fun _ _ => trivial))
                    (case aO => exact (by (with_reducible repeat (first | apply Kd.R_alloc | apply Kd.R_drewN | apply Kd.R_drew)); exact HO557.out))
                    (case aS => exact (below_size (by repeat (first | (with_reducible first | exact HB.out | apply below_alloc | apply pw_below_drewN | apply below_drew1 | refine below_set ?_ GE549.out | refine below_set ?_ GE561.out) | exact HB.out))))
                    (case aL => have := LMc17.out; omega)
                    intro v559 w77 ho hb hg hat
                    rw [← Ny558.out] at ho
                    have n0_ := Aside0.mk (blk_grown (g := gb549) (o := .cells #[.slice A0_0 l0_0.length c0_0, .int .i64 a0_1] 28 (0, 0)) (by (with_reducible repeat (first | refine blk_drewN ?_ _ | refine blk_drew ?_ | refine blk_alloc ?_ _)); exact BK549.out) hg (Kd.R_ne HO557.out BK549.out (by decide)))
                    have n1_ := Aside0.mk (blk_grown (g := gb561) (o := .cells #[.slice none 0 0, .int .i64 0] 28 (0, 0)) (by (with_reducible repeat (first | refine blk_drewN ?_ _ | refine blk_drew ?_ | refine blk_alloc ?_ _)); exact BK561.out) hg (Kd.R_ne HO557.out BK561.out (by decide)))
                    have n2_ := Aside0.mk (hb)
                    have n3_ := Aside0.mk (ho)
                    clear BK549
                    clear BK561
                    clear HB
                    clear HO557
                    have BK549 := n0_
                    have BK561 := n1_
                    have HB := n2_
                    have HO560 := n3_
                    clear n0_ n1_ n2_ n3_
                    clear ho hb hg hat
                    obtain ⟨Ao78, co78, eo78⟩ := Kd.R_slice HO560.out
                    (first | subst eo78 | (injection eo78 with f1_ f2_ f3_; have f4_ := f1_.symm; have f5_ := f3_.symm; clear f1_ f2_ f3_; subst f4_; subst f5_))
                    refine hK.out _ _ ⟨(blk_cell BK549.out 0).trans rfl, (blk_cell BK549.out 1).trans rfl⟩ (fun hHeld => ?_)
                    clear hK K
                    refine norm_ (a' := ?_) ?_ ?_
                    rotate_left
                    · show Act.put _ (some 34) _ = _
                      simp only [Act.put, List.setIfInBounds_toArray, List.set_cons_zero, List.set_cons_succ, i64_w, i32_w]
                      rfl
                    refine pure_ (i := 8) (N := some 37) (v := ?_) (a' := ?_) #[true, true, true, true, true, true, true, true, true, true, false] rfl rfl (any_of HT_.out (by kernel_rfl)) (fun _ _ _ h => h) (Or.inl ⟨by rfl, ?_⟩) ?_ ?_
                    rotate_left
                    · intro w'
                      go_simp
                      with_reducible rfl
                    rotate_left
                    · simp only [Act.put, List.setIfInBounds_toArray, List.set_cons_zero, List.set_cons_succ, i64_w, i32_w]
                      rfl
                    exact norm_ (by simp only [putAll, Act.put, List.setIfInBounds_toArray, List.set_cons_zero, List.set_cons_succ]) (hCont (v553, v556, .slice Ao78 y558.length co78, gb561) _ ⟨hHeld, (by (with_reducible repeat (first | apply Kd.R_alloc | apply Kd.R_drewN | apply Kd.R_drew)); exact HO560.out), (by (with_reducible repeat (first | refine blk_drewN ?_ _ | refine blk_drew ?_ | refine blk_alloc ?_ _)); exact BK549.out), (by (with_reducible repeat (first | refine blk_drewN ?_ _ | refine blk_drew ?_ | refine blk_alloc ?_ _)); exact BK561.out), GW561.out, GE561.out, NB549_561.out, NB561_549.out, (by repeat (first | (with_reducible first | exact HB.out | apply below_alloc | apply pw_below_drewN | apply below_drew1 | refine below_set ?_ GE549.out | refine below_set ?_ GE561.out) | exact HB.out))⟩)
                rintro ⟨v553, v556, v559, gb561⟩ w79 ⟨hS_, h0_, h1_, h2_, h3_, h4_, h5_, h6_, h7_⟩
                have n0_ : Aside0 (Kd.R (Kd.int .u32) 47 w79 w.heap.size (fun _ => True) v559 y558) := ⟨h0_⟩
                have n1_ : Aside0 (w79.heap[gb549]? = some (.cells #[.slice A0_0 l0_0.length c0_0, .int .i64 a0_1] 28 (0, 0))) := ⟨h1_⟩
                have n2_ : Aside0 (w79.heap[gb561]? = some (.cells #[.slice none 0 0, .int .i64 0] 28 (0, 0))) := ⟨h2_⟩
                have n3_ : Aside0 (w.heap.size ≤ gb561) := ⟨h3_⟩
                have n4_ : Aside0 (w.heap.size ≤ gb561) := ⟨h4_⟩
                have n5_ : Aside0 (gb549 ≠ gb561) := ⟨h5_⟩
                have n6_ : Aside0 (gb561 ≠ gb549) := ⟨h6_⟩
                have n7_ : Aside0 (Below w.heap.size w w79) := ⟨h7_⟩
                clear BK549
                clear HB
                clear h0_ h1_ h2_ h3_ h4_ h5_ h6_ h7_
                have HO560 := n0_
                have BK549 := n1_
                have BK561 := n2_
                have GW561 := n3_
                have GE561 := n4_
                have NB549_561 := n5_
                have NB561_549 := n6_
                have HB := n7_
                clear n0_ n1_ n2_ n3_ n4_ n5_ n6_ n7_
                have hHeld : w79.cell? ⟨gb549, 0, none⟩ = some (.slice A0_0 l0_0.length c0_0) ∧ w79.cell? ⟨gb549, 1, none⟩ = some (.int .i64 a0_1) := hS_
                obtain ⟨Ao80, co80, eo80⟩ := Kd.R_slice HO560.out
                (first | subst eo80 | (injection eo80 with f1_ f2_ f3_; have f4_ := f1_.symm; have f5_ := f3_.symm; clear f1_ f2_ f3_; subst f4_; subst f5_))
                refine norm_ (a' := ?_) ?_ ?_
                rotate_left
                · simp only [putAll, Act.put, List.setIfInBounds_toArray, List.set_cons_zero, List.set_cons_succ]
                  rfl
                refine one_ (i := 10) (N := none) #[true, true, true, true, true, true, true, true, true, true, true] rfl rfl (one_of HT_.out (by kernel_rfl)) (by decide) (fun K hK => ?_)
                have hs81 : w79.cell? ⟨gb561, 0, none⟩ = some (.slice none 0 0) := (blk_cell BK561.out 0).trans rfl
                have hfs81 := blk_frozen BK561.out 0
                have hns81_0 := NB549_561.out
                have hms81_0 := NB561_549.out
                have hs82 : w79.cell? ⟨gb561, 1, none⟩ = some (.int .i64 0) := (blk_cell BK561.out 1).trans rfl
                have hfs82 := blk_frozen BK561.out 1
                have hns82_0 := NB549_561.out
                have hms82_0 := NB561_549.out
                refine skip_ (w1 := ?_) (by rfl) rfl ?_ ?_
                rotate_left
                · go_simp
                  rfl
                refine hK.out _ _ ⟨((cell_far (p := ⟨gb561, _, none⟩) NB549_561.out _).trans (((cell_far (p := ⟨gb561, _, none⟩) NB549_561.out _).trans (hHeld.1)))), ((cell_far (p := ⟨gb561, _, none⟩) NB549_561.out _).trans (((cell_far (p := ⟨gb561, _, none⟩) NB549_561.out _).trans (hHeld.2))))⟩ (fun hHeld => ?_)
                clear hK K
                refine done_ (done_of HT_.out (by kernel_rfl)) ?_
                have hnb83 := NB549_561.out
                have hnc83 := NB561_549.out
                have hcz84_0 : w79.cell? ⟨gb549, 0, none⟩ = some (.slice A0_0 l0_0.length c0_0) := (blk_cell BK549.out 0).trans rfl
                have hcz84_1 : w79.cell? ⟨gb549, 1, none⟩ = some (.int .i64 a0_1) := (blk_cell BK549.out 1).trans rfl
                have hfz84_0 := blk_frozen BK549.out 0
                have hfz84_1 := blk_frozen BK549.out 1
                try go_wp2_with (first | ((with_reducible refine gate_callee (f := 35) rfl ?_); refine goesL_ (some 39) rfl rfl Tryd.func35 (by kernel_rfl) rfl #[.agg #[.slice A0_0 l0_0.length c0_0, .int .i64 a0_1]] rfl (by (try simp only [List.map_toArray, List.map_cons, List.map_nil]); first | done | rfl | (simp only [List.length_drop, List.length_take]; rfl)) ?_; (with_reducible refine (listing_Targets.calls _ _ l0_0 a0_1 t562 _ ?side1 ?side2 ?side3 A18.out).mono ?_); (case side1 => exact GK.below HGK.out (by repeat (first | (with_reducible first | exact HB.out | apply below_alloc | apply pw_below_drewN | apply below_drew1 | refine below_set ?_ GE549.out | refine below_set ?_ GE561.out) | exact HB.out))); (case side2 => exact Kd.C_below HR0_0.out (by repeat (first | (with_reducible first | exact HB.out | apply below_alloc | apply pw_below_drewN | apply below_drew1 | refine below_set ?_ GE549.out | refine below_set ?_ GE561.out) | exact HB.out))); (case side3 => exact HC0_0.out); rintro e w85 ⟨v563, rfl, ho0, hb⟩; refine ⟨_, rfl, ?_⟩; have n0_ := Aside0.mk (Kd.R_below (by (with_reducible repeat (first | apply Kd.R_alloc | apply Kd.R_drewN | apply Kd.R_drew)); exact (Kd.R_mono (Kd.R_far (p := ⟨gb561, 1, none⟩) (Kd.R_far (p := ⟨gb561, 0, none⟩) (Kd.R_types HO560.out BK561.out (by decide)) (fun _ hk => hk.2) (.slice Ao80 y558.length co80)) (fun _ hk => hk.2) (.int .i64 a0_1)) (fun _ h_ => h_.1))) hb); have n1_ := Aside0.mk (Kd.R_lower ho0 (below_size (by repeat (first | (with_reducible first | exact HB.out | apply below_alloc | apply pw_below_drewN | apply below_drew1 | refine below_set ?_ GE549.out | refine below_set ?_ GE561.out) | exact HB.out)))); have n2_ := Aside0.mk (blk_below (g := gb549) (o := .cells #[.slice A0_0 l0_0.length c0_0, .int .i64 a0_1] 28 (0, 0)) (by (with_reducible repeat (first | refine blk_drewN ?_ _ | refine blk_drew ?_ | refine blk_alloc ?_ _)); refine blk_far ?_ NB549_561.out _; (with_reducible repeat (first | refine blk_drewN ?_ _ | refine blk_drew ?_ | refine blk_alloc ?_ _)); refine blk_far ?_ NB549_561.out _; (with_reducible repeat (first | refine blk_drewN ?_ _ | refine blk_drew ?_ | refine blk_alloc ?_ _)); exact BK549.out) hb); have n3_ := Aside0.mk (blk_below (g := gb561) (o := .cells #[.slice Ao80 y558.length co80, .int .i64 a0_1] 28 (0, 0)) (by (with_reducible repeat (first | refine blk_drewN ?_ _ | refine blk_drew ?_ | refine blk_alloc ?_ _)); refine blk_put (cs := #[.slice Ao80 y558.length co80, .int .i64 0]) ?_ 1 _ rfl; (with_reducible repeat (first | refine blk_drewN ?_ _ | refine blk_drew ?_ | refine blk_alloc ?_ _)); refine blk_put (cs := #[.slice none 0 0, .int .i64 0]) ?_ 0 _ rfl; (with_reducible repeat (first | refine blk_drewN ?_ _ | refine blk_drew ?_ | refine blk_alloc ?_ _)); exact BK561.out) hb); have n4_ := Aside0.mk (below_step (by repeat (first | (with_reducible first | exact HB.out | apply below_alloc | apply pw_below_drewN | apply below_drew1 | refine below_set ?_ GE549.out | refine below_set ?_ GE561.out) | exact HB.out)) hb); clear HO560; clear BK549; clear BK561; clear HB; have HO560 := n0_; have HO564 := n1_; have BK549 := n2_; have BK561 := n3_; have HB := n4_; clear n0_ n1_ n2_ n3_ n4_; (try clear hb); (try clear hb2); (try clear hk); (try clear hi); (try clear ho0); have hcz86_0 : w85.cell? ⟨gb561, 0, none⟩ = some (.slice Ao80 y558.length co80) := (blk_cell BK561.out 0).trans rfl; have hcz86_1 : w85.cell? ⟨gb561, 1, none⟩ = some (.int .i64 a0_1) := (blk_cell BK561.out 1).trans rfl; have hfz86_0 := blk_frozen BK561.out 0; have hfz86_1 := blk_frozen BK561.out 1) | ((with_reducible refine gate_callee (f := 35) rfl ?_); refine goesL_ (some 41) rfl rfl Tryd.func35 (by kernel_rfl) rfl #[.agg #[.slice Ao80 y558.length co80, .int .i64 a0_1]] rfl (by (try simp only [List.map_toArray, List.map_cons, List.map_nil]); first | done | rfl | (simp only [List.length_drop, List.length_take]; rfl)) ?_; (with_reducible refine (listing_Targets.calls _ _ y558 a0_1 t565 _ ?side1 ?side2 ?side3 A19.out).mono ?_); (case side1 => exact GK.below HGK.out (by repeat (first | (with_reducible first | exact HB.out | apply below_alloc | apply pw_below_drewN | apply below_drew1 | refine below_set ?_ GE549.out | refine below_set ?_ GE561.out) | exact HB.out))); (case side2 => repeat (first | exact (Kd.R_reads' HO560.out).2.2 | (with_reducible refine Kd.C_alloc ?_ _) | (with_reducible refine Kd.C_drewN ?_ _) | (with_reducible refine Kd.C_drew ?_))); (case side3 => exact (Kd.R_reads' HO560.out).2.1); rintro e w87 ⟨v566, rfl, ho0, hb⟩; refine ⟨_, rfl, ?_⟩; have n0_ := Aside0.mk (Kd.R_below (by (with_reducible repeat (first | apply Kd.R_alloc | apply Kd.R_drewN | apply Kd.R_drew)); exact HO560.out) hb); have n1_ := Aside0.mk (Kd.R_elder' (by (with_reducible repeat (first | apply Kd.R_alloc | apply Kd.R_drewN | apply Kd.R_drew)); exact HO564.out) (Kd.R_base ho0) hb); have n2_ := Aside0.mk (Kd.R_lower (Kd.R_new' ho0 (Kd.R_lt (by (with_reducible repeat (first | apply Kd.R_alloc | apply Kd.R_drewN | apply Kd.R_drew)); exact HO564.out))) (below_size (by repeat (first | (with_reducible first | exact HB.out | apply below_alloc | apply pw_below_drewN | apply below_drew1 | refine below_set ?_ GE549.out | refine below_set ?_ GE561.out) | exact HB.out)))); have n3_ := Aside0.mk (blk_below (g := gb549) (o := .cells #[.slice A0_0 l0_0.length c0_0, .int .i64 a0_1] 28 (0, 0)) (by (with_reducible repeat (first | refine blk_drewN ?_ _ | refine blk_drew ?_ | refine blk_alloc ?_ _)); exact BK549.out) hb); have n4_ := Aside0.mk (blk_below (g := gb561) (o := .cells #[.slice Ao80 y558.length co80, .int .i64 a0_1] 28 (0, 0)) (by (with_reducible repeat (first | refine blk_drewN ?_ _ | refine blk_drew ?_ | refine blk_alloc ?_ _)); exact BK561.out) hb); have n5_ := Aside0.mk (below_step (by repeat (first | (with_reducible first | exact HB.out | apply below_alloc | apply pw_below_drewN | apply below_drew1 | refine below_set ?_ GE549.out | refine below_set ?_ GE561.out) | exact HB.out)) hb); clear HO560; clear HO564; clear BK549; clear BK561; clear HB; have HO560 := n0_; have HO564 := n1_; have HO567 := n2_; have BK549 := n3_; have BK561 := n4_; have HB := n5_; clear n0_ n1_ n2_ n3_ n4_ n5_; (try clear hb); (try clear hb2); (try clear hk); (try clear hi); (try clear ho0); obtain ⟨Ao88, co88, eo88⟩ := Kd.R_slice HO564.out; subst eo88; obtain ⟨Ao89, co89, eo89⟩ := Kd.R_slice HO567.out; subst eo89))
                go_ret
                exact ⟨by first | rfl | (simp [errW_none, errW_some] <;> rfl) | (simp [*, errW_none, errW_some] <;> rfl), by repeat (first | (with_reducible first | exact HB.out | apply below_alloc | apply pw_below_drewN | apply below_drew1 | refine below_set ?_ GE549.out | refine below_set ?_ GE561.out) | exact HB.out)⟩
            · rw [if_neg c17] at H
              exact absurd H (by simp)
          · rw [if_neg c16] at H
            exact absurd H (by simp)
  · replace c4 := Bool.eq_false_iff.mpr c4
    subst c4
    have H1 : (some false) = some r := by rw [if_neg (show ¬ (false = true) by decide)] at H; exact H
    clear H
    have H := H1
    clear H1
    obtain rfl := Option.some.inj H
    go_enter Tryd.func8, Tryd.ntmps8
    go_wp2_with (first | ((with_reducible refine gate_dst (N := 2) rfl ?_); (try (refine gate_guard (by rfl) ?_; dsimp only)); refine box_event ?hg (N := 2) ?hd (cs := #[.slice A0_0 l0_0.length c0_0, .int .i64 a0_1]) (t := 28) ?hr ?_; (case hd => rfl); (case hg => rfl); (case hr => first | (go_simp; done) | (go_simp; rfl)); intro gb549 hg w90 hbox hb; have n0_ := Aside0.mk (below_step (by repeat (first | (with_reducible first | exact HB.out | apply below_alloc | apply pw_below_drewN | apply below_drew1) | exact HB.out)) hb); have n1_ := Aside0.mk (hbox); have n2_ := Aside0.mk ((by rw [hg]; exact (below_size (by repeat (first | (with_reducible first | exact HB.out | apply below_alloc | apply pw_below_drewN | apply below_drew1) | exact HB.out))) : w.heap.size ≤ gb549)); have n3_ := Aside0.mk ((by rw [hg]; exact (below_size (by repeat (first | (with_reducible first | exact HB.out | apply below_alloc | apply pw_below_drewN | apply below_drew1) | exact HB.out))) : w.heap.size ≤ gb549)); clear HB; have HB := n0_; have BK549 := n1_; have GW549 := n2_; have GE549 := n3_; clear n0_ n1_ n2_ n3_; clear hb hbox hg) | ((with_reducible refine gate_callee (f := 33) rfl ?_); refine goesL_ (some 13) rfl rfl Tryd.func33 (by kernel_rfl) rfl #[] rfl (by (try simp only [List.map_toArray, List.map_cons, List.map_nil]); first | done | rfl | (simp only [List.length_drop, List.length_take]; rfl)) ?_; (with_reducible refine (seedcornlaw11_awake.calls  false _ ?side1 ?side2 A3.out).mono ?_); (case side1 => exact GK.below HGK.out (by repeat (first | (with_reducible first | exact HB.out | apply below_alloc | apply pw_below_drewN | apply below_drew1 | refine below_set ?_ GE549.out) | exact HB.out))); (case side2 => exact GT.below HGT.out (by repeat (first | (with_reducible first | exact HB.out | apply below_alloc | apply pw_below_drewN | apply below_drew1 | refine below_set ?_ GE549.out) | exact HB.out))); rintro e w91 ⟨rfl, hb⟩; refine ⟨_, rfl, ?_⟩; have n0_ := Aside0.mk (blk_below (g := gb549) (o := .cells #[.slice A0_0 l0_0.length c0_0, .int .i64 a0_1] 28 (0, 0)) (by (with_reducible repeat (first | refine blk_drewN ?_ _ | refine blk_drew ?_ | refine blk_alloc ?_ _)); exact BK549.out) hb); have n1_ := Aside0.mk (below_step (by repeat (first | (with_reducible first | exact HB.out | apply below_alloc | apply pw_below_drewN | apply below_drew1 | refine below_set ?_ GE549.out) | exact HB.out)) hb); clear BK549; clear HB; have BK549 := n0_; have HB := n1_; clear n0_ n1_; (try clear hb); (try clear hb2); (try clear hk); (try clear hi)))
    go_ret
    exact ⟨by first | rfl | (simp [errW_none, errW_some] <;> rfl) | (simp [*, errW_none, errW_some] <;> rfl), by repeat (first | (with_reducible first | exact HB.out | apply below_alloc | apply pw_below_drewN | apply below_drew1 | refine below_set ?_ GE549.out) | exact HB.out)⟩
end Go.Proofs.YtdhkmdgieflioaaDoor.F
namespace Go.Proofs.YtdhkmdgieflioaaDoor.F
open Go.RowKit Go.Proofs.YtdhkmdgieflioaaDoorW.PrintWords Go.Proofs.YtdhkmdgieflioaaDoorW.PrintLast Go.Proofs.YtdhkmdgieflioaaDoorW.PrintMore
set_option linter.unusedVariables false
set_option linter.unusedSimpArgs false
theorem goes_l0 (l x : List Int) (d : Int) (ts us : List Int) (hl : ts.length = us.length) (hx : ts.length ≤ 1000) (h1 : okL l = true) (h2 : okL x = true) (hd : 0 ≤ d ∧ d ≤ 32768) (hpre : ts = us → ∃ r, listB x d = listB l d ++ r) (n : Nat) : ∀ i : Nat, i + n = ts.length → ts.take i = us.take i →
    Ev (fun k => seedcornlaw11_ListingGoesOn.l0 k ts us (i : Int) l d x d) true := by
  induction n with
  | zero =>
    intro i hi ht
    have e : ts = us := by
      rw [List.take_of_length_le (by omega), List.take_of_length_le (by omega)] at ht
      exact ht
    obtain ⟨r, hr⟩ := hpre e
    have hsz : (⟨(listB x d).toArray⟩ : ByteArray).size = (listB l d).length + r.length := by rw [ba_size, hr, List.length_append]
    have hsz2 : (⟨(listB l d).toArray⟩ : ByteArray).size = (listB l d).length := ba_size _
    have hex : ((⟨(listB x d).toArray⟩ : ByteArray).extract 0 (listB l d).length).toList = listB l d := by
      rw [ByteArray.toList_eq, ByteArray.data_extract, Array.toList_extract]
      simp [List.extract_eq_take_drop, hr]
    refine Ev.step (f := fun _ => some true) (fun k => ?_) (Ev.now _)
    simp only [seedcornlaw11_ListingGoesOn.l0]
    rw [if_neg (by omega), text_f l d h1 hd, text_f x d h2 hd]
    simp only [Option.bind_some, if_true]
    rw [if_pos (by rw [hsz, hsz2]; omega), if_pos (by omega), if_pos (by rw [hsz, hsz2]; omega), hsz2, Int.toNat_natCast, hex, ba_list]
    simp
  | succ n ih =>
    intro i hi ht
    have hw : wrap64 ((i : Int) + 1) = ((i + 1 : Nat) : Int) := by rw [wrapI (by omega) (by omega)]; omega
    by_cases he : rd ts (i : Int) = rd us (i : Int)
    · refine Ev.step (f := fun k => seedcornlaw11_ListingGoesOn.l0 k ts us ((i + 1 : Nat) : Int) l d x d) (fun k => ?_) (ih (i + 1) (by omega) ?_)
      · simp only [seedcornlaw11_ListingGoesOn.l0]
        rw [if_pos (by omega), if_pos (by omega), if_pos (by omega), if_pos he, hw]
      · rw [List.take_add_one, List.take_add_one, ht, rd_at ts i (by omega), rd_at us i (by omega), he]
    · refine Ev.step (f := fun _ => some true) (fun k => ?_) (Ev.now _)
      simp only [seedcornlaw11_ListingGoesOn.l0]
      rw [if_pos (by omega), if_pos (by omega), if_pos (by omega), if_neg he]
theorem goes_pre (l m : List Int) (d : Int) (h : tgts l = tgts (l ++ m)) : ∃ r, listB (l ++ m) d = listB l d ++ r := by
  refine ⟨bodyB (tgtB (l ++ m)) (0 + l.length) m, ?_⟩
  unfold listB
  rw [body_append, body_congr (tgtB l) (tgtB (l ++ m)) (tgt_congr l (l ++ m) h), List.append_assoc]
theorem goes_j0 (l m : List Int) (d : Int) (x : Bool) (h1 : okL l = true) (h2 : okL (l ++ m) = true) (h : x = false → 0 ≤ d ∧ d ≤ 32768) : Ev (fun k => seedcornlaw11_ListingGoesOn.j0 k m x l d) true := by
  cases x with
  | true =>
    refine Ev.step (f := fun _ => some true) (fun k => ?_) (Ev.now _)
    simp only [seedcornlaw11_ListingGoesOn.j0, if_true]
  | false =>
    have hd := h rfl
    have hll := okL_len h2
    rw [List.length_append] at hll
    have t1 := tgts_len l
    have hcall : ∀ k, seedcornlaw11_ListingGoesOn.j0 (k + 1) m false l d = if ((tgts l).length : Int) = ((tgts (l ++ m)).length : Int) then seedcornlaw11_ListingGoesOn.l0 k (tgts l) (tgts (l ++ m)) 0 l d (l ++ m) d else some true := by
      intro k
      simp only [seedcornlaw11_ListingGoesOn.j0]
      rw [if_neg (by decide)]
      simp only [Option.bind_some, List.nil_append, List.length_nil]
      rw [if_pos (by omega), if_pos (by omega), tgts_f l d h1, tgts_f (l ++ m) d h2]
      rfl
    by_cases hq : (tgts l).length = (tgts (l ++ m)).length
    · refine Ev.step (f := fun k => seedcornlaw11_ListingGoesOn.l0 k (tgts l) (tgts (l ++ m)) ((0 : Nat) : Int) l d (l ++ m) d) (fun k => by rw [hcall, if_pos (by omega)]; rfl) ?_
      exact goes_l0 l (l ++ m) d _ _ hq (by omega) h1 h2 hd (goes_pre l m d) (tgts l).length 0 (by omega) rfl
    · exact Ev.step (f := fun _ => some true) (fun k => by rw [hcall, if_neg (by omega)]) (Ev.now _)
theorem goes_true (l m : List Int) (d : Int) : Ev (fun k => seedcornlaw11_ListingGoesOn.j0 k m true l d) true := by
  refine Ev.step (f := fun _ => some true) (fun k => ?_) (Ev.now _)
  simp only [seedcornlaw11_ListingGoesOn.j0, if_true]
theorem listingGoesOn_pure (l : List Int) (d : Int) (m : List Int) (h : inR l) {q : Prop} (_ : q) (h2 : inR m) : ∃ k, seedcornlaw11_ListingGoesOn.f k l d m = some true := by
  refine Ev.rounds (g := fun k => seedcornlaw11_ListingGoesOn.f k l d m) ?_
  unfold seedcornlaw11_ListingGoesOn.f
  rw [awake11, right8_f]
  simp only [Option.bind_some, if_true]
  by_cases hl : (l.length : Int) > 100
  · exact Ev.congr (fun k => by rw [if_pos hl]) (goes_true l m d)
  · refine Ev.congr (fun k => by rw [if_neg hl]) ?_
    by_cases hm : (m.length : Int) > 100
    · exact Ev.congr (fun k => by rw [if_pos hm]) (goes_true l m d)
    · refine Ev.congr (fun k => by rw [if_neg hm]) ?_
      have hin : inR (l ++ m) := fun x hx => by
        rcases List.mem_append.1 hx with hx | hx
        · exact h x hx
        · exact h2 x hx
      refine goes_j0 l m d _ (inR_okL h (by omega)) (inR_okL hin (by rw [List.length_append]; omega)) (fun hx => ?_)
      have : decide (l.length ≤ 16384 ∧ 0 ≤ d ∧ d ≤ 32768) = true := by simpa using hx
      exact (of_decide_eq_true this).2
end Go.Proofs.YtdhkmdgieflioaaDoor.F
