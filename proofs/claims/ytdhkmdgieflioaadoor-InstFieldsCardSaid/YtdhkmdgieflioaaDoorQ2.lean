/- Texts of this claim: contracts of functions that the law reaches, and plain lemmas. -/
import Derived.Laws.Shifts
import Derived.Test.YtdhkmdgieflioaaDoorRows
import Derived.LaidLaws
import Derived.ChangeArms
import Derived.ChangeSame
import Derived.OpenShut
import Derived.Lib.LaidTab
import Derived.LaidMore
import Derived.MakeChecks
import Derived.Deep.Strs
import Derived.Stop.LaidErr
import Derived.Outline
import Derived.WalkLawsBesides
import Derived.WalkSpells
import Derived.RegionTactic
import Derived.Deep.QuietTactic
import Derived.BigQuiet
import Derived.DataShut
import Derived.Lib.TrimByte
import Derived.WalkKit
import Derived.Maps.Own
import Derived.Maps.OwnOps
import Derived.Maps.OwnSet
import Derived.Maps.RangeWalk
import Derived.Maps.Views
import Derived.Laws.BitsLemmas
import Derived.JoinedOf
import Derived.KernelRfl
import Derived.SevenTiedAt
import Derived.Test.YtdhkmdgieflioaaDoorQ1
namespace Go.Proofs.YtdhkmdgieflioaaDoor.F
open Go.RowKit Go.Proofs.YtdhkmdgieflioaaDoorW.PrintWords Go.Proofs.YtdhkmdgieflioaaDoorW.PrintLast Go.Proofs.YtdhkmdgieflioaaDoorW.PrintMore
attribute [local go_sem] max2_int min2_int max_two min_two max_three min_three max_four min_four
set_option linter.unusedVariables false
set_option linter.unusedSimpArgs false
mutual
def seedcornref01_Apply.j0 : Nat → Int → Int → Int → Int → Bool → Option (Int × Int)
  | 0, _, _, _, _, _ => none
  | k + 1, x0, x1, x2, x14, x53 => if x53 = true then ((seedcornref01_both.f x0 x1 x2).bind fun t133 => (some (t133, 0))) else (if x14 = 12 then (seedcornref01_Apply.j1 k x0 x1 x2 x14 (x14 == 12)) else (seedcornref01_Apply.j1 k x0 x1 x2 x14 (x14 == 13)))
def seedcornref01_Apply.j1 : Nat → Int → Int → Int → Int → Bool → Option (Int × Int)
  | 0, _, _, _, _, _ => none
  | k + 1, x0, x1, x2, x14, x61 => if x61 = true then ((seedcornref01_shift.f k x0 x1 x2).bind fun t134 => (some (t134, 0))) else (if x14 = 14 then ((seedcornref01_flag.f (decide (x1 < x2))).bind fun t135 => (some (t135, 0))) else (if x14 = 15 then ((seedcornref01_flag.f (x1 == x2)).bind fun t136 => (some (t136, 0))) else (some (0, 1))))
end
def seedcornref01_Apply.f (k : Nat) (a0 : Int) (a1 : Int) (a2 : Int) : Option (Int × Int) := if a0 = 4 then (some ((Int.tmod (IntKind.u64.wrap ((IntKind.u64.wrap (a1)) + (IntKind.u64.wrap (a2)))) 4294967296) % 4294967296, 0)) else (if a0 = 5 then (some ((Int.tmod (IntKind.u64.wrap ((IntKind.u64.wrap ((IntKind.u64.wrap (a1)) + 4294967296)) - (IntKind.u64.wrap (a2)))) 4294967296) % 4294967296, 0)) else (if a0 = 6 then (some ((Int.tmod (IntKind.u64.wrap ((IntKind.u64.wrap (a1)) * (IntKind.u64.wrap (a2)))) 4294967296) % 4294967296, 0)) else (if a0 = 7 then (if a2 = 0 then (some (0, 14)) else (if (IntKind.u64.wrap (a2)) = 0 then (none) else (some ((IntKind.u64.wrap (Int.tdiv (IntKind.u64.wrap (a1)) (IntKind.u64.wrap (a2)))) % 4294967296, 0)))) else (if a0 = 8 then (if a2 = 0 then (some (0, 14)) else (if (IntKind.u64.wrap (a2)) = 0 then (none) else (some ((Int.tmod (IntKind.u64.wrap (a1)) (IntKind.u64.wrap (a2))) % 4294967296, 0)))) else (if a0 = 9 then (seedcornref01_Apply.j0 k a0 a1 a2 a0 (a0 == 9)) else (if a0 = 10 then (seedcornref01_Apply.j0 k a0 a1 a2 a0 (a0 == 10)) else (seedcornref01_Apply.j0 k a0 a1 a2 a0 (a0 == 11))))))))
theorem seedcornref01_Apply.mono_l : ∀ k, (∀ y0 y1 y2 y3 y4, LeO (seedcornref01_Apply.j0 k y0 y1 y2 y3 y4) (seedcornref01_Apply.j0 (k + 1) y0 y1 y2 y3 y4)) ∧ (∀ y0 y1 y2 y3 y4, LeO (seedcornref01_Apply.j1 k y0 y1 y2 y3 y4) (seedcornref01_Apply.j1 (k + 1) y0 y1 y2 y3 y4))
  | 0 => ⟨fun _ _ _ _ _ r h => by simp [seedcornref01_Apply.j0] at h, fun _ _ _ _ _ r h => by simp [seedcornref01_Apply.j1] at h⟩
  | k + 1 => by
    obtain ⟨ih0, ih1⟩ := seedcornref01_Apply.mono_l k
    refine ⟨?_, ?_⟩
    · intro y0 y1 y2 y3 y4
      unfold seedcornref01_Apply.j0
      repeat' first
      | (with_reducible exact ih0 _ _ _ _ _)
      | (with_reducible exact ih1 _ _ _ _ _)
      | (with_reducible exact seedcornref01_shift.mono _ _ _ _)
      | (with_reducible exact LeO.refl _)
      | (with_reducible exact LeO.none _)
      | (with_reducible refine LeO.ite ?_ ?_)
      | (with_reducible refine LeO.bind ?_ (fun _ => ?_))
      | exact ih0 _ _ _ _ _
      | exact ih1 _ _ _ _ _
      | exact seedcornref01_shift.mono _ _ _ _
      | exact LeO.none _
      | refine LeO.ite ?_ ?_
      | refine LeO.bind ?_ (fun _ => ?_)
    · intro y0 y1 y2 y3 y4
      unfold seedcornref01_Apply.j1
      repeat' first
      | (with_reducible exact ih0 _ _ _ _ _)
      | (with_reducible exact ih1 _ _ _ _ _)
      | (with_reducible exact seedcornref01_shift.mono _ _ _ _)
      | (with_reducible exact LeO.refl _)
      | (with_reducible exact LeO.none _)
      | (with_reducible refine LeO.ite ?_ ?_)
      | (with_reducible refine LeO.bind ?_ (fun _ => ?_))
      | exact ih0 _ _ _ _ _
      | exact ih1 _ _ _ _ _
      | exact seedcornref01_shift.mono _ _ _ _
      | exact LeO.none _
      | refine LeO.ite ?_ ?_
      | refine LeO.bind ?_ (fun _ => ?_)
theorem seedcornref01_Apply.mono : ∀ a0 a1 a2 k, LeO (seedcornref01_Apply.f k a0 a1 a2) (seedcornref01_Apply.f (k + 1) a0 a1 a2) := by
  intro a0 a1 a2 k
  obtain ⟨ih0, ih1⟩ := seedcornref01_Apply.mono_l k
  unfold seedcornref01_Apply.f
  repeat' first
      | (with_reducible exact ih0 _ _ _ _ _)
      | (with_reducible exact ih1 _ _ _ _ _)
      | (with_reducible exact seedcornref01_shift.mono _ _ _ _)
      | (with_reducible exact LeO.refl _)
      | (with_reducible exact LeO.none _)
      | (with_reducible refine LeO.ite ?_ ?_)
      | (with_reducible refine LeO.bind ?_ (fun _ => ?_))
      | exact ih0 _ _ _ _ _
      | exact ih1 _ _ _ _ _
      | exact seedcornref01_shift.mono _ _ _ _
      | exact LeO.none _
      | refine LeO.ite ?_ ?_
      | refine LeO.bind ?_ (fun _ => ?_)
set_option maxHeartbeats 8000000 in
set_option maxRecDepth 100000 in
theorem seedcornref01_Apply.calls (k : Nat) (a0 : Int) (a1 : Int) (a2 : Int) (r1 : Int) (r2 : Int) (w : World) (h : seedcornref01_Apply.f k a0 a1 a2 = some (r1, r2)) :
    Calls Tryd.prog 47 #[.int .i64 a0, .int .u32 a1, .int .u32 a2] w fun e w' => e = .returned (.tuple #[.int .u32 r1, .int .i64 r2]) ∧ Below w.heap.size w w' := by
  have HB := Aside0.mk (Below.refl w.heap.size w)
  have H : (if a0 = 4 then (some ((Int.tmod (IntKind.u64.wrap ((IntKind.u64.wrap (a1)) + (IntKind.u64.wrap (a2)))) 4294967296) % 4294967296, 0)) else (if a0 = 5 then (some ((Int.tmod (IntKind.u64.wrap ((IntKind.u64.wrap ((IntKind.u64.wrap (a1)) + 4294967296)) - (IntKind.u64.wrap (a2)))) 4294967296) % 4294967296, 0)) else (if a0 = 6 then (some ((Int.tmod (IntKind.u64.wrap ((IntKind.u64.wrap (a1)) * (IntKind.u64.wrap (a2)))) 4294967296) % 4294967296, 0)) else (if a0 = 7 then (if a2 = 0 then (some (0, 14)) else (if (IntKind.u64.wrap (a2)) = 0 then (none) else (some ((IntKind.u64.wrap (Int.tdiv (IntKind.u64.wrap (a1)) (IntKind.u64.wrap (a2)))) % 4294967296, 0)))) else (if a0 = 8 then (if a2 = 0 then (some (0, 14)) else (if (IntKind.u64.wrap (a2)) = 0 then (none) else (some ((Int.tmod (IntKind.u64.wrap (a1)) (IntKind.u64.wrap (a2))) % 4294967296, 0)))) else (if a0 = 9 then (seedcornref01_Apply.j0 k a0 a1 a2 a0 (a0 == 9)) else (if a0 = 10 then (seedcornref01_Apply.j0 k a0 a1 a2 a0 (a0 == 10)) else (seedcornref01_Apply.j0 k a0 a1 a2 a0 (a0 == 11))))))))) = some (r1, r2) := h
  clear h
  by_cases c4 : a0 = 4
  · rw [if_pos c4] at H
    have c4b0 : (a0 == 4) = true := beq_iff_eq.mpr c4
    have c4b1 : (a0 != 4) = false := bne_eq_false_iff_eq.mpr c4
    clear c4
    simp only [Option.some.injEq, Prod.mk.injEq] at H
    obtain ⟨rfl, rfl⟩ := H
    go_enter Tryd.func47, Tryd.ntmps47
    go_wp2
    go_ret2
    exact ⟨by first | rfl | (simp [errW_none, errW_some] <;> rfl) | (simp [*, errW_none, errW_some] <;> rfl), by repeat (first | (with_reducible first | exact HB.out | apply below_alloc | apply pw_below_drewN | apply below_drew1) | exact HB.out)⟩
  · rw [if_neg c4] at H
    have c4b0 : (a0 == 4) = false := beq_eq_false_iff_ne.mpr c4
    have c4b1 : (a0 != 4) = true := bne_iff_ne.mpr c4
    by_cases c5 : a0 = 5
    · rw [if_pos c5] at H
      have c5b0 : (a0 == 5) = true := beq_iff_eq.mpr c5
      have c5b1 : (a0 != 5) = false := bne_eq_false_iff_eq.mpr c5
      clear c5
      simp only [Option.some.injEq, Prod.mk.injEq] at H
      obtain ⟨rfl, rfl⟩ := H
      go_enter Tryd.func47, Tryd.ntmps47
      go_wp2
      go_ret2
      exact ⟨by first | rfl | (simp [errW_none, errW_some] <;> rfl) | (simp [*, errW_none, errW_some] <;> rfl), by repeat (first | (with_reducible first | exact HB.out | apply below_alloc | apply pw_below_drewN | apply below_drew1) | exact HB.out)⟩
    · rw [if_neg c5] at H
      have c5b0 : (a0 == 5) = false := beq_eq_false_iff_ne.mpr c5
      have c5b1 : (a0 != 5) = true := bne_iff_ne.mpr c5
      by_cases c6 : a0 = 6
      · rw [if_pos c6] at H
        have c6b0 : (a0 == 6) = true := beq_iff_eq.mpr c6
        have c6b1 : (a0 != 6) = false := bne_eq_false_iff_eq.mpr c6
        clear c6
        simp only [Option.some.injEq, Prod.mk.injEq] at H
        obtain ⟨rfl, rfl⟩ := H
        go_enter Tryd.func47, Tryd.ntmps47
        go_wp2
        go_ret2
        exact ⟨by first | rfl | (simp [errW_none, errW_some] <;> rfl) | (simp [*, errW_none, errW_some] <;> rfl), by repeat (first | (with_reducible first | exact HB.out | apply below_alloc | apply pw_below_drewN | apply below_drew1) | exact HB.out)⟩
      · rw [if_neg c6] at H
        have c6b0 : (a0 == 6) = false := beq_eq_false_iff_ne.mpr c6
        have c6b1 : (a0 != 6) = true := bne_iff_ne.mpr c6
        by_cases c7 : a0 = 7
        · rw [if_pos c7] at H
          have c7b0 : (a0 == 7) = true := beq_iff_eq.mpr c7
          have c7b1 : (a0 != 7) = false := bne_eq_false_iff_eq.mpr c7
          clear c7
          by_cases c8 : a2 = 0
          · rw [if_pos c8] at H
            have c8b0 : (a2 == 0) = true := beq_iff_eq.mpr c8
            have c8b1 : (a2 != 0) = false := bne_eq_false_iff_eq.mpr c8
            clear c8
            simp only [Option.some.injEq, Prod.mk.injEq] at H
            obtain ⟨rfl, rfl⟩ := H
            go_enter Tryd.func47, Tryd.ntmps47
            go_wp2
            go_ret2
            exact ⟨by first | rfl | (simp [errW_none, errW_some] <;> rfl) | (simp [*, errW_none, errW_some] <;> rfl), by repeat (first | (with_reducible first | exact HB.out | apply below_alloc | apply pw_below_drewN | apply below_drew1) | exact HB.out)⟩
          · rw [if_neg c8] at H
            have c8b0 : (a2 == 0) = false := beq_eq_false_iff_ne.mpr c8
            have c8b1 : (a2 != 0) = true := bne_iff_ne.mpr c8
            by_cases c9 : (IntKind.u64.wrap (a2)) = 0
            · rw [if_pos c9] at H
              exact absurd H (by simp)
            · rw [if_neg c9] at H
              have c9b0 : ((IntKind.u64.wrap (a2)) == 0) = false := beq_eq_false_iff_ne.mpr c9
              have c9b1 : ((IntKind.u64.wrap (a2)) != 0) = true := bne_iff_ne.mpr c9
              simp only [Option.some.injEq, Prod.mk.injEq] at H
              obtain ⟨rfl, rfl⟩ := H
              go_enter Tryd.func47, Tryd.ntmps47
              go_wp2
              go_ret2
              exact ⟨by first | rfl | (simp [errW_none, errW_some] <;> rfl) | (simp [*, errW_none, errW_some] <;> rfl), by repeat (first | (with_reducible first | exact HB.out | apply below_alloc | apply pw_below_drewN | apply below_drew1) | exact HB.out)⟩
        · rw [if_neg c7] at H
          have c7b0 : (a0 == 7) = false := beq_eq_false_iff_ne.mpr c7
          have c7b1 : (a0 != 7) = true := bne_iff_ne.mpr c7
          by_cases c10 : a0 = 8
          · rw [if_pos c10] at H
            have c10b0 : (a0 == 8) = true := beq_iff_eq.mpr c10
            have c10b1 : (a0 != 8) = false := bne_eq_false_iff_eq.mpr c10
            clear c10
            by_cases c11 : a2 = 0
            · rw [if_pos c11] at H
              have c11b0 : (a2 == 0) = true := beq_iff_eq.mpr c11
              have c11b1 : (a2 != 0) = false := bne_eq_false_iff_eq.mpr c11
              clear c11
              simp only [Option.some.injEq, Prod.mk.injEq] at H
              obtain ⟨rfl, rfl⟩ := H
              go_enter Tryd.func47, Tryd.ntmps47
              go_wp2
              go_ret2
              exact ⟨by first | rfl | (simp [errW_none, errW_some] <;> rfl) | (simp [*, errW_none, errW_some] <;> rfl), by repeat (first | (with_reducible first | exact HB.out | apply below_alloc | apply pw_below_drewN | apply below_drew1) | exact HB.out)⟩
            · rw [if_neg c11] at H
              have c11b0 : (a2 == 0) = false := beq_eq_false_iff_ne.mpr c11
              have c11b1 : (a2 != 0) = true := bne_iff_ne.mpr c11
              by_cases c12 : (IntKind.u64.wrap (a2)) = 0
              · rw [if_pos c12] at H
                exact absurd H (by simp)
              · rw [if_neg c12] at H
                have c12b0 : ((IntKind.u64.wrap (a2)) == 0) = false := beq_eq_false_iff_ne.mpr c12
                have c12b1 : ((IntKind.u64.wrap (a2)) != 0) = true := bne_iff_ne.mpr c12
                simp only [Option.some.injEq, Prod.mk.injEq] at H
                obtain ⟨rfl, rfl⟩ := H
                go_enter Tryd.func47, Tryd.ntmps47
                go_wp2
                go_ret2
                exact ⟨by first | rfl | (simp [errW_none, errW_some] <;> rfl) | (simp [*, errW_none, errW_some] <;> rfl), by repeat (first | (with_reducible first | exact HB.out | apply below_alloc | apply pw_below_drewN | apply below_drew1) | exact HB.out)⟩
          · rw [if_neg c10] at H
            have c10b0 : (a0 == 8) = false := beq_eq_false_iff_ne.mpr c10
            have c10b1 : (a0 != 8) = true := bne_iff_ne.mpr c10
            have HC13 := Aside0.mk H
            clear H
            go_enter Tryd.func47, Tryd.ntmps47
            go_upto_if 53 with (fail)
            go_cut [53] (fun v53 wc => ∃ (kq : Nat) (x53_12 : Bool), v53 = .bool x53_12 ∧ Aside0 (seedcornref01_Apply.j0 kq a0 a1 a2 a0 x53_12 = some (r1, r2)) ∧ Aside0 (kq ≤ k) ∧ Aside0 (Below w.heap.size w wc))
            case first =>
              have H := HC13.out
              clear HC13
              by_cases c14 : a0 = 9
              · rw [if_pos c14] at H
                have c14b0 : (a0 == 9) = true := beq_iff_eq.mpr c14
                have c14b1 : (a0 != 9) = false := bne_eq_false_iff_eq.mpr c14
                clear c14
                (first | rw [c14b0] | (simp only [i64_w, i32_w]; rw [c14b0]) | skip)
                have H' := Aside0.mk H
                clear H
                go_wp2
                go_meet
                case rel => exact ⟨_, ((a0 == 9)), (by first | rfl | (simp; done) | (simp [*]; done)), H', ⟨by first | omega | exact Nat.le_refl _⟩, ⟨by repeat (first | (with_reducible first | exact HB.out | apply below_alloc | apply pw_below_drewN | apply below_drew1) | exact HB.out)⟩⟩
              · rw [if_neg c14] at H
                have c14b0 : (a0 == 9) = false := beq_eq_false_iff_ne.mpr c14
                have c14b1 : (a0 != 9) = true := bne_iff_ne.mpr c14
                (first | rw [c14b0] | (simp only [i64_w, i32_w]; rw [c14b0]) | skip)
                by_cases c15 : a0 = 10
                · rw [if_pos c15] at H
                  have c15b0 : (a0 == 10) = true := beq_iff_eq.mpr c15
                  have c15b1 : (a0 != 10) = false := bne_eq_false_iff_eq.mpr c15
                  clear c15
                  have H' := Aside0.mk H
                  clear H
                  go_wp2
                  go_meet
                  case rel => exact ⟨_, ((a0 == 10)), (by first | rfl | (simp; done) | (simp [*]; done)), H', ⟨by first | omega | exact Nat.le_refl _⟩, ⟨by repeat (first | (with_reducible first | exact HB.out | apply below_alloc | apply pw_below_drewN | apply below_drew1) | exact HB.out)⟩⟩
                · rw [if_neg c15] at H
                  have c15b0 : (a0 == 10) = false := beq_eq_false_iff_ne.mpr c15
                  have c15b1 : (a0 != 10) = true := bne_iff_ne.mpr c15
                  have H' := Aside0.mk H
                  clear H
                  go_wp2
                  go_meet
                  case rel => exact ⟨_, ((a0 == 11)), (by first | rfl | (simp; done) | (simp [*]; done)), H', ⟨by first | omega | exact Nat.le_refl _⟩, ⟨by repeat (first | (with_reducible first | exact HB.out | apply below_alloc | apply pw_below_drewN | apply below_drew1) | exact HB.out)⟩⟩
            case rest =>
              clear HC13
              try clear c1
              try clear p2
              try clear c4
              try clear c4b0
              try clear c4b1
              try clear c5
              try clear c5b0
              try clear c5b1
              try clear c6
              try clear c6b0
              try clear c6b1
              try clear c7
              try clear c7b0
              try clear c7b1
              try clear c8
              try clear c8b0
              try clear c8b1
              try clear c9
              try clear c9b0
              try clear c9b1
              try clear c10
              try clear c10b0
              try clear c10b1
              try clear c11
              try clear c11b0
              try clear c11b1
              try clear c12
              try clear c12b0
              try clear c12b1
              try clear c14
              try clear c14b0
              try clear c14b1
              try clear c15
              try clear c15b0
              try clear c15b1
              obtain ⟨kq, x53_12, rfl, HA, HJ12, HB⟩ := hcut
              cases kq with
              | zero => exact absurd HA.out (by simp [seedcornref01_Apply.j0])
              | succ kj12 =>
                have H := HA.out
                clear HA
                simp only [seedcornref01_Apply.j0] at H
                by_cases c16 : x53_12 = true
                · subst c16
                  have H1 : ((seedcornref01_both.f a0 a1 a2).bind fun t133 => (some (t133, 0))) = some (r1, r2) := by rw [if_pos rfl] at H; exact H
                  clear H
                  have H := H1
                  clear H1
                  replace H := Option.bind_eq_some_iff.mp H
                  obtain ⟨t133, A170, H⟩ := H
                  replace H : (some (t133, 0)) = some (r1, r2) := H
                  have A17 := Aside0.mk A170
                  clear A170
                  simp only [Option.some.injEq, Prod.mk.injEq] at H
                  obtain ⟨rfl, rfl⟩ := H
                  go_wp2_with (first | ((with_reducible refine gate_callee (f := 83) rfl ?_); refine goesL_ (some 60) rfl rfl Tryd.func83 (by kernel_rfl) rfl #[.int .i64 a0, .int .u32 a1, .int .u32 a2] rfl (by (try simp only [List.map_toArray, List.map_cons, List.map_nil]); first | done | rfl | (simp only [List.length_drop, List.length_take]; rfl)) ?_; (with_reducible refine (seedcornref01_both.calls a0 a1 a2 t133 _ A17.out).mono ?_); rintro e w18 ⟨rfl, hb⟩; refine ⟨_, rfl, ?_⟩; have n0_ := Aside0.mk (below_step (by repeat (first | (with_reducible first | exact HB.out | apply below_alloc | apply pw_below_drewN | apply below_drew1) | exact HB.out)) hb); clear HB; have HB := n0_; clear n0_; (try clear hb); (try clear hb2); (try clear hk); (try clear hi)))
                  go_ret2
                  exact ⟨by first | rfl | (simp [errW_none, errW_some] <;> rfl) | (simp [*, errW_none, errW_some] <;> rfl), by repeat (first | (with_reducible first | exact HB.out | apply below_alloc | apply pw_below_drewN | apply below_drew1) | exact HB.out)⟩
                · replace c16 := Bool.eq_false_iff.mpr c16
                  subst c16
                  have H1 : (if a0 = 12 then (seedcornref01_Apply.j1 kj12 a0 a1 a2 a0 (a0 == 12)) else (seedcornref01_Apply.j1 kj12 a0 a1 a2 a0 (a0 == 13))) = some (r1, r2) := by rw [if_neg (show ¬ (false = true) by decide)] at H; exact H
                  clear H
                  have H := H1
                  clear H1
                  have HC19 := Aside0.mk H
                  clear H
                  go_upto_if 61 with (fail)
                  go_cut [61] (fun v61 wc => ∃ (kq : Nat) (x61_18 : Bool), v61 = .bool x61_18 ∧ Aside0 (seedcornref01_Apply.j1 kq a0 a1 a2 a0 x61_18 = some (r1, r2)) ∧ Aside0 (kq ≤ kj12) ∧ Aside0 (Below w.heap.size w wc))
                  case first =>
                    have H := HC19.out
                    clear HC19
                    by_cases c20 : a0 = 12
                    · rw [if_pos c20] at H
                      have c20b0 : (a0 == 12) = true := beq_iff_eq.mpr c20
                      have c20b1 : (a0 != 12) = false := bne_eq_false_iff_eq.mpr c20
                      clear c20
                      (first | rw [c20b0] | (simp only [i64_w, i32_w]; rw [c20b0]) | skip)
                      have H' := Aside0.mk H
                      clear H
                      go_wp2
                      go_meet
                      case rel => exact ⟨_, ((a0 == 12)), (by first | rfl | (simp; done) | (simp [*]; done)), H', ⟨by have := HJ12.out; first | omega | exact Nat.le_refl _⟩, ⟨by repeat (first | (with_reducible first | exact HB.out | apply below_alloc | apply pw_below_drewN | apply below_drew1) | exact HB.out)⟩⟩
                    · rw [if_neg c20] at H
                      have c20b0 : (a0 == 12) = false := beq_eq_false_iff_ne.mpr c20
                      have c20b1 : (a0 != 12) = true := bne_iff_ne.mpr c20
                      (first | rw [c20b0] | (simp only [i64_w, i32_w]; rw [c20b0]) | skip)
                      have H' := Aside0.mk H
                      clear H
                      go_wp2
                      go_meet
                      case rel => exact ⟨_, ((a0 == 13)), (by first | rfl | (simp; done) | (simp [*]; done)), H', ⟨by have := HJ12.out; first | omega | exact Nat.le_refl _⟩, ⟨by repeat (first | (with_reducible first | exact HB.out | apply below_alloc | apply pw_below_drewN | apply below_drew1) | exact HB.out)⟩⟩
                  case rest =>
                    clear HC19
                    try clear c1
                    try clear c2
                    try clear p2
                    try clear c4
                    try clear c4b0
                    try clear c4b1
                    try clear c5
                    try clear c5b0
                    try clear c5b1
                    try clear c6
                    try clear c6b0
                    try clear c6b1
                    try clear c7
                    try clear c7b0
                    try clear c7b1
                    try clear c8
                    try clear c8b0
                    try clear c8b1
                    try clear c9
                    try clear c9b0
                    try clear c9b1
                    try clear c10
                    try clear c10b0
                    try clear c10b1
                    try clear c11
                    try clear c11b0
                    try clear c11b1
                    try clear c12
                    try clear c12b0
                    try clear c12b1
                    try clear c14
                    try clear c14b0
                    try clear c14b1
                    try clear c15
                    try clear c15b0
                    try clear c15b1
                    try clear c16
                    try clear c20
                    try clear c20b0
                    try clear c20b1
                    try clear p2
                    obtain ⟨kq, x61_18, rfl, HA, HJ18, HB⟩ := hcut
                    cases kq with
                    | zero => exact absurd HA.out (by simp [seedcornref01_Apply.j1])
                    | succ kj18 =>
                      have H := HA.out
                      clear HA
                      simp only [seedcornref01_Apply.j1] at H
                      by_cases c21 : x61_18 = true
                      · subst c21
                        have H1 : ((seedcornref01_shift.f kj18 a0 a1 a2).bind fun t134 => (some (t134, 0))) = some (r1, r2) := by rw [if_pos rfl] at H; exact H
                        clear H
                        have H := H1
                        clear H1
                        replace H := Option.bind_eq_some_iff.mp H
                        obtain ⟨t134, A220, H⟩ := H
                        replace H : (some (t134, 0)) = some (r1, r2) := H
                        have A22 := Aside0.mk A220
                        clear A220
                        simp only [Option.some.injEq, Prod.mk.injEq] at H
                        obtain ⟨rfl, rfl⟩ := H
                        go_wp2_with (first | ((with_reducible refine gate_callee (f := 84) rfl ?_); refine goesL_ (some 67) rfl rfl Tryd.func84 (by kernel_rfl) rfl #[.int .i64 a0, .int .u32 a1, .int .u32 a2] rfl (by (try simp only [List.map_toArray, List.map_cons, List.map_nil]); first | done | rfl | (simp only [List.length_drop, List.length_take]; rfl)) ?_; (with_reducible refine (seedcornref01_shift.calls kj18 a0 a1 a2 t134 _ A22.out).mono ?_); rintro e w' ⟨rfl, ⟨nd, rfl⟩⟩; refine ⟨_, rfl, ?_⟩))
                        go_ret2
                        exact ⟨by first | rfl | (simp [errW_none, errW_some] <;> rfl) | (simp [*, errW_none, errW_some] <;> rfl), by repeat (first | (with_reducible first | exact HB.out | apply below_alloc | apply pw_below_drewN | apply below_drew1) | exact HB.out)⟩
                      · replace c21 := Bool.eq_false_iff.mpr c21
                        subst c21
                        have H1 : (if a0 = 14 then ((seedcornref01_flag.f (decide (a1 < a2))).bind fun t135 => (some (t135, 0))) else (if a0 = 15 then ((seedcornref01_flag.f (a1 == a2)).bind fun t136 => (some (t136, 0))) else (some (0, 1)))) = some (r1, r2) := by rw [if_neg (show ¬ (false = true) by decide)] at H; exact H
                        clear H
                        have H := H1
                        clear H1
                        by_cases c23 : a0 = 14
                        · rw [if_pos c23] at H
                          have c23b0 : (a0 == 14) = true := beq_iff_eq.mpr c23
                          have c23b1 : (a0 != 14) = false := bne_eq_false_iff_eq.mpr c23
                          clear c23
                          replace H := Option.bind_eq_some_iff.mp H
                          obtain ⟨t135, A240, H⟩ := H
                          replace H : (some (t135, 0)) = some (r1, r2) := H
                          have A24 := Aside0.mk A240
                          clear A240
                          simp only [Option.some.injEq, Prod.mk.injEq] at H
                          obtain ⟨rfl, rfl⟩ := H
                          go_wp2_with (first | ((with_reducible refine gate_callee (f := 85) rfl ?_); refine goesL_ (some 73) rfl rfl Tryd.func85 (by kernel_rfl) rfl #[.bool (decide (a1 < a2))] rfl (by (try simp only [List.map_toArray, List.map_cons, List.map_nil]); first | done | rfl | (simp only [List.length_drop, List.length_take]; rfl)) ?_; (with_reducible refine (seedcornref01_flag.calls (decide (a1 < a2)) t135 _ A24.out).mono ?_); rintro e w' ⟨rfl, ⟨nd, rfl⟩⟩; refine ⟨_, rfl, ?_⟩))
                          go_ret2
                          exact ⟨by first | rfl | (simp [errW_none, errW_some] <;> rfl) | (simp [*, errW_none, errW_some] <;> rfl), by repeat (first | (with_reducible first | exact HB.out | apply below_alloc | apply pw_below_drewN | apply below_drew1) | exact HB.out)⟩
                        · rw [if_neg c23] at H
                          have c23b0 : (a0 == 14) = false := beq_eq_false_iff_ne.mpr c23
                          have c23b1 : (a0 != 14) = true := bne_iff_ne.mpr c23
                          by_cases c25 : a0 = 15
                          · rw [if_pos c25] at H
                            have c25b0 : (a0 == 15) = true := beq_iff_eq.mpr c25
                            have c25b1 : (a0 != 15) = false := bne_eq_false_iff_eq.mpr c25
                            clear c25
                            replace H := Option.bind_eq_some_iff.mp H
                            obtain ⟨t136, A260, H⟩ := H
                            replace H : (some (t136, 0)) = some (r1, r2) := H
                            have A26 := Aside0.mk A260
                            clear A260
                            simp only [Option.some.injEq, Prod.mk.injEq] at H
                            obtain ⟨rfl, rfl⟩ := H
                            go_wp2_with (first | ((with_reducible refine gate_callee (f := 85) rfl ?_); refine goesL_ (some 79) rfl rfl Tryd.func85 (by kernel_rfl) rfl #[.bool (a1 == a2)] rfl (by (try simp only [List.map_toArray, List.map_cons, List.map_nil]); first | done | rfl | (simp only [List.length_drop, List.length_take]; rfl)) ?_; (with_reducible refine (seedcornref01_flag.calls (a1 == a2) t136 _ A26.out).mono ?_); rintro e w' ⟨rfl, ⟨nd, rfl⟩⟩; refine ⟨_, rfl, ?_⟩))
                            go_ret2
                            exact ⟨by first | rfl | (simp [errW_none, errW_some] <;> rfl) | (simp [*, errW_none, errW_some] <;> rfl), by repeat (first | (with_reducible first | exact HB.out | apply below_alloc | apply pw_below_drewN | apply below_drew1) | exact HB.out)⟩
                          · rw [if_neg c25] at H
                            have c25b0 : (a0 == 15) = false := beq_eq_false_iff_ne.mpr c25
                            have c25b1 : (a0 != 15) = true := bne_iff_ne.mpr c25
                            simp only [Option.some.injEq, Prod.mk.injEq] at H
                            obtain ⟨rfl, rfl⟩ := H
                            go_wp2
                            go_ret2
                            exact ⟨by first | rfl | (simp [errW_none, errW_some] <;> rfl) | (simp [*, errW_none, errW_some] <;> rfl), by repeat (first | (with_reducible first | exact HB.out | apply below_alloc | apply pw_below_drewN | apply below_drew1) | exact HB.out)⟩
end Go.Proofs.YtdhkmdgieflioaaDoor.F
namespace Go.Proofs.YtdhkmdgieflioaaDoor.F
open Go.RowKit Go.Proofs.YtdhkmdgieflioaaDoorW.PrintWords Go.Proofs.YtdhkmdgieflioaaDoorW.PrintLast Go.Proofs.YtdhkmdgieflioaaDoorW.PrintMore
attribute [local go_sem] max2_int min2_int max_two min_two max_three min_three max_four min_four
set_option linter.unusedVariables false
set_option linter.unusedSimpArgs false
mutual
def seedcornref07_Parts.j0 : Nat → Int → Int → Bool → Option (ByteArray)
  | 0, _, _, _ => none
  | k + 1, x0, x3, x4 => if x4 = true then (some (⟨#[97, 99]⟩ : ByteArray)) else (if x3 = 3 then (some (⟨#[97, 98]⟩ : ByteArray)) else (if x3 = 16 then (seedcornref07_Parts.j1 k x0 x3 (x3 == 16)) else (if x3 = 17 then (seedcornref07_Parts.j1 k x0 x3 (x3 == 17)) else (seedcornref07_Parts.j1 k x0 x3 (x3 == 27)))))
def seedcornref07_Parts.j1 : Nat → Int → Int → Bool → Option (ByteArray)
  | 0, _, _, _ => none
  | k + 1, x0, x3, x13 => if x13 = true then (some (⟨#[97, 98, 99]⟩ : ByteArray)) else (if x3 = 18 then (some (⟨#[99]⟩ : ByteArray)) else (if x3 = 22 then (seedcornref07_Parts.j2 k x0 x3 (x3 == 22)) else (if x3 = 23 then (seedcornref07_Parts.j2 k x0 x3 (x3 == 23)) else (seedcornref07_Parts.j2 k x0 x3 (x3 == 24)))))
def seedcornref07_Parts.j2 : Nat → Int → Int → Bool → Option (ByteArray)
  | 0, _, _, _ => none
  | k + 1, x0, x3, x19 => if x19 = true then (some (⟨#[97]⟩ : ByteArray)) else (if x3 = 26 then (some (⟨#[]⟩ : ByteArray)) else (if x0 ≥ 4 then (if x0 ≤ 15 then (some (⟨#[97, 98, 114]⟩ : ByteArray)) else (some (⟨#[63]⟩ : ByteArray))) else (some (⟨#[63]⟩ : ByteArray))))
end
def seedcornref07_Parts.f (k : Nat) (a0 : Int) : Option (ByteArray) := if a0 = 1 then (seedcornref07_Parts.j0 k a0 a0 (a0 == 1)) else (if a0 = 2 then (seedcornref07_Parts.j0 k a0 a0 (a0 == 2)) else (if a0 = 19 then (seedcornref07_Parts.j0 k a0 a0 (a0 == 19)) else (if a0 = 20 then (seedcornref07_Parts.j0 k a0 a0 (a0 == 20)) else (if a0 = 21 then (seedcornref07_Parts.j0 k a0 a0 (a0 == 21)) else (seedcornref07_Parts.j0 k a0 a0 (a0 == 25))))))
theorem seedcornref07_Parts.mono_l : ∀ k, (∀ y0 y1 y2, LeO (seedcornref07_Parts.j0 k y0 y1 y2) (seedcornref07_Parts.j0 (k + 1) y0 y1 y2)) ∧ (∀ y0 y1 y2, LeO (seedcornref07_Parts.j1 k y0 y1 y2) (seedcornref07_Parts.j1 (k + 1) y0 y1 y2)) ∧ (∀ y0 y1 y2, LeO (seedcornref07_Parts.j2 k y0 y1 y2) (seedcornref07_Parts.j2 (k + 1) y0 y1 y2))
  | 0 => ⟨fun _ _ _ r h => by simp [seedcornref07_Parts.j0] at h, fun _ _ _ r h => by simp [seedcornref07_Parts.j1] at h, fun _ _ _ r h => by simp [seedcornref07_Parts.j2] at h⟩
  | k + 1 => by
    obtain ⟨ih0, ih1, ih2⟩ := seedcornref07_Parts.mono_l k
    refine ⟨?_, ?_, ?_⟩
    · intro y0 y1 y2
      unfold seedcornref07_Parts.j0
      repeat' first
      | (with_reducible exact ih0 _ _ _)
      | (with_reducible exact ih1 _ _ _)
      | (with_reducible exact ih2 _ _ _)
      | (with_reducible exact LeO.refl _)
      | (with_reducible exact LeO.none _)
      | (with_reducible refine LeO.ite ?_ ?_)
      | (with_reducible refine LeO.bind ?_ (fun _ => ?_))
      | exact ih0 _ _ _
      | exact ih1 _ _ _
      | exact ih2 _ _ _
      | exact LeO.none _
      | refine LeO.ite ?_ ?_
      | refine LeO.bind ?_ (fun _ => ?_)
    · intro y0 y1 y2
      unfold seedcornref07_Parts.j1
      repeat' first
      | (with_reducible exact ih0 _ _ _)
      | (with_reducible exact ih1 _ _ _)
      | (with_reducible exact ih2 _ _ _)
      | (with_reducible exact LeO.refl _)
      | (with_reducible exact LeO.none _)
      | (with_reducible refine LeO.ite ?_ ?_)
      | (with_reducible refine LeO.bind ?_ (fun _ => ?_))
      | exact ih0 _ _ _
      | exact ih1 _ _ _
      | exact ih2 _ _ _
      | exact LeO.none _
      | refine LeO.ite ?_ ?_
      | refine LeO.bind ?_ (fun _ => ?_)
    · intro y0 y1 y2
      unfold seedcornref07_Parts.j2
      repeat' first
      | (with_reducible exact ih0 _ _ _)
      | (with_reducible exact ih1 _ _ _)
      | (with_reducible exact ih2 _ _ _)
      | (with_reducible exact LeO.refl _)
      | (with_reducible exact LeO.none _)
      | (with_reducible refine LeO.ite ?_ ?_)
      | (with_reducible refine LeO.bind ?_ (fun _ => ?_))
      | exact ih0 _ _ _
      | exact ih1 _ _ _
      | exact ih2 _ _ _
      | exact LeO.none _
      | refine LeO.ite ?_ ?_
      | refine LeO.bind ?_ (fun _ => ?_)
theorem seedcornref07_Parts.mono : ∀ a0 k, LeO (seedcornref07_Parts.f k a0) (seedcornref07_Parts.f (k + 1) a0) := by
  intro a0 k
  obtain ⟨ih0, ih1, ih2⟩ := seedcornref07_Parts.mono_l k
  unfold seedcornref07_Parts.f
  repeat' first
      | (with_reducible exact ih0 _ _ _)
      | (with_reducible exact ih1 _ _ _)
      | (with_reducible exact ih2 _ _ _)
      | (with_reducible exact LeO.refl _)
      | (with_reducible exact LeO.none _)
      | (with_reducible refine LeO.ite ?_ ?_)
      | (with_reducible refine LeO.bind ?_ (fun _ => ?_))
      | exact ih0 _ _ _
      | exact ih1 _ _ _
      | exact ih2 _ _ _
      | exact LeO.none _
      | refine LeO.ite ?_ ?_
      | refine LeO.bind ?_ (fun _ => ?_)
set_option maxHeartbeats 8000000 in
set_option maxRecDepth 100000 in
theorem seedcornref07_Parts.calls (k : Nat) (a0 : Int) (r : ByteArray) (w : World) (h : seedcornref07_Parts.f k a0 = some r) :
    Calls Tryd.prog 48 #[.int .i64 a0] w fun e w' => e = .returned (.string r) ∧ Drawn0 w w' := by
  have H : (if a0 = 1 then (seedcornref07_Parts.j0 k a0 a0 (a0 == 1)) else (if a0 = 2 then (seedcornref07_Parts.j0 k a0 a0 (a0 == 2)) else (if a0 = 19 then (seedcornref07_Parts.j0 k a0 a0 (a0 == 19)) else (if a0 = 20 then (seedcornref07_Parts.j0 k a0 a0 (a0 == 20)) else (if a0 = 21 then (seedcornref07_Parts.j0 k a0 a0 (a0 == 21)) else (seedcornref07_Parts.j0 k a0 a0 (a0 == 25))))))) = some r := h
  clear h
  have HC2 := Aside0.mk H
  clear H
  go_enter Tryd.func48, Tryd.ntmps48
  go_upto_if 4 with (fail)
  go_cut [4] (fun v4 wc => ∃ (kq : Nat) (x4_1 : Bool), v4 = .bool x4_1 ∧ Aside0 (seedcornref07_Parts.j0 kq a0 a0 x4_1 = some r) ∧ Aside0 (kq ≤ k) ∧ Drawn0 w wc)
  case first =>
    have H := HC2.out
    clear HC2
    by_cases c3 : a0 = 1
    · rw [if_pos c3] at H
      have c3b0 : (a0 == 1) = true := beq_iff_eq.mpr c3
      have c3b1 : (a0 != 1) = false := bne_eq_false_iff_eq.mpr c3
      clear c3
      (first | rw [c3b0] | (simp only [i64_w, i32_w]; rw [c3b0]) | skip)
      have H' := Aside0.mk H
      clear H
      go_wp2
      go_meet
      case rel => exact ⟨_, ((a0 == 1)), (by first | rfl | (simp; done) | (simp [*]; done)), H', ⟨by first | omega | exact Nat.le_refl _⟩, by repeat (first | exact Drawn0.refl _ | apply Drawn0.step)⟩
    · rw [if_neg c3] at H
      have c3b0 : (a0 == 1) = false := beq_eq_false_iff_ne.mpr c3
      have c3b1 : (a0 != 1) = true := bne_iff_ne.mpr c3
      (first | rw [c3b0] | (simp only [i64_w, i32_w]; rw [c3b0]) | skip)
      by_cases c4 : a0 = 2
      · rw [if_pos c4] at H
        have c4b0 : (a0 == 2) = true := beq_iff_eq.mpr c4
        have c4b1 : (a0 != 2) = false := bne_eq_false_iff_eq.mpr c4
        clear c4
        have H' := Aside0.mk H
        clear H
        go_wp2
        go_meet
        case rel => exact ⟨_, ((a0 == 2)), (by first | rfl | (simp; done) | (simp [*]; done)), H', ⟨by first | omega | exact Nat.le_refl _⟩, by repeat (first | exact Drawn0.refl _ | apply Drawn0.step)⟩
      · rw [if_neg c4] at H
        have c4b0 : (a0 == 2) = false := beq_eq_false_iff_ne.mpr c4
        have c4b1 : (a0 != 2) = true := bne_iff_ne.mpr c4
        by_cases c5 : a0 = 19
        · rw [if_pos c5] at H
          have c5b0 : (a0 == 19) = true := beq_iff_eq.mpr c5
          have c5b1 : (a0 != 19) = false := bne_eq_false_iff_eq.mpr c5
          clear c5
          have H' := Aside0.mk H
          clear H
          go_wp2
          go_meet
          case rel => exact ⟨_, ((a0 == 19)), (by first | rfl | (simp; done) | (simp [*]; done)), H', ⟨by first | omega | exact Nat.le_refl _⟩, by repeat (first | exact Drawn0.refl _ | apply Drawn0.step)⟩
        · rw [if_neg c5] at H
          have c5b0 : (a0 == 19) = false := beq_eq_false_iff_ne.mpr c5
          have c5b1 : (a0 != 19) = true := bne_iff_ne.mpr c5
          by_cases c6 : a0 = 20
          · rw [if_pos c6] at H
            have c6b0 : (a0 == 20) = true := beq_iff_eq.mpr c6
            have c6b1 : (a0 != 20) = false := bne_eq_false_iff_eq.mpr c6
            clear c6
            have H' := Aside0.mk H
            clear H
            go_wp2
            go_meet
            case rel => exact ⟨_, ((a0 == 20)), (by first | rfl | (simp; done) | (simp [*]; done)), H', ⟨by first | omega | exact Nat.le_refl _⟩, by repeat (first | exact Drawn0.refl _ | apply Drawn0.step)⟩
          · rw [if_neg c6] at H
            have c6b0 : (a0 == 20) = false := beq_eq_false_iff_ne.mpr c6
            have c6b1 : (a0 != 20) = true := bne_iff_ne.mpr c6
            by_cases c7 : a0 = 21
            · rw [if_pos c7] at H
              have c7b0 : (a0 == 21) = true := beq_iff_eq.mpr c7
              have c7b1 : (a0 != 21) = false := bne_eq_false_iff_eq.mpr c7
              clear c7
              have H' := Aside0.mk H
              clear H
              go_wp2
              go_meet
              case rel => exact ⟨_, ((a0 == 21)), (by first | rfl | (simp; done) | (simp [*]; done)), H', ⟨by first | omega | exact Nat.le_refl _⟩, by repeat (first | exact Drawn0.refl _ | apply Drawn0.step)⟩
            · rw [if_neg c7] at H
              have c7b0 : (a0 == 21) = false := beq_eq_false_iff_ne.mpr c7
              have c7b1 : (a0 != 21) = true := bne_iff_ne.mpr c7
              have H' := Aside0.mk H
              clear H
              go_wp2
              go_meet
              case rel => exact ⟨_, ((a0 == 25)), (by first | rfl | (simp; done) | (simp [*]; done)), H', ⟨by first | omega | exact Nat.le_refl _⟩, by repeat (first | exact Drawn0.refl _ | apply Drawn0.step)⟩
  case rest =>
    clear HC2
    try clear p2
    try clear c3
    try clear c3b0
    try clear c3b1
    try clear c4
    try clear c4b0
    try clear c4b1
    try clear c5
    try clear c5b0
    try clear c5b1
    try clear c6
    try clear c6b0
    try clear c6b1
    try clear c7
    try clear c7b0
    try clear c7b1
    obtain ⟨kq, x4_1, rfl, HA, HJ1, ⟨mc1, rfl⟩⟩ := hcut
    cases kq with
    | zero => exact absurd HA.out (by simp [seedcornref07_Parts.j0])
    | succ kj1 =>
      have H := HA.out
      clear HA
      simp only [seedcornref07_Parts.j0] at H
      by_cases c8 : x4_1 = true
      · subst c8
        have H1 : (some (⟨#[97, 99]⟩ : ByteArray)) = some r := by rw [if_pos rfl] at H; exact H
        clear H
        have H := H1
        clear H1
        obtain rfl := Option.some.inj H
        go_wp2
        go_ret
        exact ⟨by first | rfl | (simp; done) | (simp [*]; done), by repeat (first | exact Drawn0.refl _ | apply Drawn0.step)⟩
      · replace c8 := Bool.eq_false_iff.mpr c8
        subst c8
        have H1 : (if a0 = 3 then (some (⟨#[97, 98]⟩ : ByteArray)) else (if a0 = 16 then (seedcornref07_Parts.j1 kj1 a0 a0 (a0 == 16)) else (if a0 = 17 then (seedcornref07_Parts.j1 kj1 a0 a0 (a0 == 17)) else (seedcornref07_Parts.j1 kj1 a0 a0 (a0 == 27))))) = some r := by rw [if_neg (show ¬ (false = true) by decide)] at H; exact H
        clear H
        have H := H1
        clear H1
        by_cases c9 : a0 = 3
        · rw [if_pos c9] at H
          have c9b0 : (a0 == 3) = true := beq_iff_eq.mpr c9
          have c9b1 : (a0 != 3) = false := bne_eq_false_iff_eq.mpr c9
          clear c9
          obtain rfl := Option.some.inj H
          go_wp2
          go_ret
          exact ⟨by first | rfl | (simp; done) | (simp [*]; done), by repeat (first | exact Drawn0.refl _ | apply Drawn0.step)⟩
        · rw [if_neg c9] at H
          have c9b0 : (a0 == 3) = false := beq_eq_false_iff_ne.mpr c9
          have c9b1 : (a0 != 3) = true := bne_iff_ne.mpr c9
          have HC10 := Aside0.mk H
          clear H
          go_upto_if 13 with (fail)
          go_cut [13] (fun v13 wc => ∃ (kq : Nat) (x13_9 : Bool), v13 = .bool x13_9 ∧ Aside0 (seedcornref07_Parts.j1 kq a0 a0 x13_9 = some r) ∧ Aside0 (kq ≤ kj1) ∧ Drawn0 w wc)
          case first =>
            have H := HC10.out
            clear HC10
            by_cases c11 : a0 = 16
            · rw [if_pos c11] at H
              have c11b0 : (a0 == 16) = true := beq_iff_eq.mpr c11
              have c11b1 : (a0 != 16) = false := bne_eq_false_iff_eq.mpr c11
              clear c11
              (first | rw [c11b0] | (simp only [i64_w, i32_w]; rw [c11b0]) | skip)
              have H' := Aside0.mk H
              clear H
              go_wp2
              go_meet
              case rel => exact ⟨_, ((a0 == 16)), (by first | rfl | (simp; done) | (simp [*]; done)), H', ⟨by have := HJ1.out; first | omega | exact Nat.le_refl _⟩, by repeat (first | exact Drawn0.refl _ | apply Drawn0.step)⟩
            · rw [if_neg c11] at H
              have c11b0 : (a0 == 16) = false := beq_eq_false_iff_ne.mpr c11
              have c11b1 : (a0 != 16) = true := bne_iff_ne.mpr c11
              (first | rw [c11b0] | (simp only [i64_w, i32_w]; rw [c11b0]) | skip)
              by_cases c12 : a0 = 17
              · rw [if_pos c12] at H
                have c12b0 : (a0 == 17) = true := beq_iff_eq.mpr c12
                have c12b1 : (a0 != 17) = false := bne_eq_false_iff_eq.mpr c12
                clear c12
                have H' := Aside0.mk H
                clear H
                go_wp2
                go_meet
                case rel => exact ⟨_, ((a0 == 17)), (by first | rfl | (simp; done) | (simp [*]; done)), H', ⟨by have := HJ1.out; first | omega | exact Nat.le_refl _⟩, by repeat (first | exact Drawn0.refl _ | apply Drawn0.step)⟩
              · rw [if_neg c12] at H
                have c12b0 : (a0 == 17) = false := beq_eq_false_iff_ne.mpr c12
                have c12b1 : (a0 != 17) = true := bne_iff_ne.mpr c12
                have H' := Aside0.mk H
                clear H
                go_wp2
                go_meet
                case rel => exact ⟨_, ((a0 == 27)), (by first | rfl | (simp; done) | (simp [*]; done)), H', ⟨by have := HJ1.out; first | omega | exact Nat.le_refl _⟩, by repeat (first | exact Drawn0.refl _ | apply Drawn0.step)⟩
          case rest =>
            clear HC10
            try clear c1
            try clear p2
            try clear c3
            try clear c3b0
            try clear c3b1
            try clear c4
            try clear c4b0
            try clear c4b1
            try clear c5
            try clear c5b0
            try clear c5b1
            try clear c6
            try clear c6b0
            try clear c6b1
            try clear c7
            try clear c7b0
            try clear c7b1
            try clear c8
            try clear c9
            try clear c9b0
            try clear c9b1
            try clear c11
            try clear c11b0
            try clear c11b1
            try clear c12
            try clear c12b0
            try clear c12b1
            try clear p2
            obtain ⟨kq, x13_9, rfl, HA, HJ9, ⟨mc9, rfl⟩⟩ := hcut
            cases kq with
            | zero => exact absurd HA.out (by simp [seedcornref07_Parts.j1])
            | succ kj9 =>
              have H := HA.out
              clear HA
              simp only [seedcornref07_Parts.j1] at H
              by_cases c13 : x13_9 = true
              · subst c13
                have H1 : (some (⟨#[97, 98, 99]⟩ : ByteArray)) = some r := by rw [if_pos rfl] at H; exact H
                clear H
                have H := H1
                clear H1
                obtain rfl := Option.some.inj H
                go_wp2
                go_ret
                exact ⟨by first | rfl | (simp; done) | (simp [*]; done), by repeat (first | exact Drawn0.refl _ | apply Drawn0.step)⟩
              · replace c13 := Bool.eq_false_iff.mpr c13
                subst c13
                have H1 : (if a0 = 18 then (some (⟨#[99]⟩ : ByteArray)) else (if a0 = 22 then (seedcornref07_Parts.j2 kj9 a0 a0 (a0 == 22)) else (if a0 = 23 then (seedcornref07_Parts.j2 kj9 a0 a0 (a0 == 23)) else (seedcornref07_Parts.j2 kj9 a0 a0 (a0 == 24))))) = some r := by rw [if_neg (show ¬ (false = true) by decide)] at H; exact H
                clear H
                have H := H1
                clear H1
                by_cases c14 : a0 = 18
                · rw [if_pos c14] at H
                  have c14b0 : (a0 == 18) = true := beq_iff_eq.mpr c14
                  have c14b1 : (a0 != 18) = false := bne_eq_false_iff_eq.mpr c14
                  clear c14
                  obtain rfl := Option.some.inj H
                  go_wp2
                  go_ret
                  exact ⟨by first | rfl | (simp; done) | (simp [*]; done), by repeat (first | exact Drawn0.refl _ | apply Drawn0.step)⟩
                · rw [if_neg c14] at H
                  have c14b0 : (a0 == 18) = false := beq_eq_false_iff_ne.mpr c14
                  have c14b1 : (a0 != 18) = true := bne_iff_ne.mpr c14
                  have HC15 := Aside0.mk H
                  clear H
                  go_upto_if 19 with (fail)
                  go_cut [19] (fun v19 wc => ∃ (kq : Nat) (x19_14 : Bool), v19 = .bool x19_14 ∧ Aside0 (seedcornref07_Parts.j2 kq a0 a0 x19_14 = some r) ∧ Aside0 (kq ≤ kj9) ∧ Drawn0 w wc)
                  case first =>
                    have H := HC15.out
                    clear HC15
                    by_cases c16 : a0 = 22
                    · rw [if_pos c16] at H
                      have c16b0 : (a0 == 22) = true := beq_iff_eq.mpr c16
                      have c16b1 : (a0 != 22) = false := bne_eq_false_iff_eq.mpr c16
                      clear c16
                      (first | rw [c16b0] | (simp only [i64_w, i32_w]; rw [c16b0]) | skip)
                      have H' := Aside0.mk H
                      clear H
                      go_wp2
                      go_meet
                      case rel => exact ⟨_, ((a0 == 22)), (by first | rfl | (simp; done) | (simp [*]; done)), H', ⟨by have := HJ1.out; have := HJ9.out; first | omega | exact Nat.le_refl _⟩, by repeat (first | exact Drawn0.refl _ | apply Drawn0.step)⟩
                    · rw [if_neg c16] at H
                      have c16b0 : (a0 == 22) = false := beq_eq_false_iff_ne.mpr c16
                      have c16b1 : (a0 != 22) = true := bne_iff_ne.mpr c16
                      (first | rw [c16b0] | (simp only [i64_w, i32_w]; rw [c16b0]) | skip)
                      by_cases c17 : a0 = 23
                      · rw [if_pos c17] at H
                        have c17b0 : (a0 == 23) = true := beq_iff_eq.mpr c17
                        have c17b1 : (a0 != 23) = false := bne_eq_false_iff_eq.mpr c17
                        clear c17
                        have H' := Aside0.mk H
                        clear H
                        go_wp2
                        go_meet
                        case rel => exact ⟨_, ((a0 == 23)), (by first | rfl | (simp; done) | (simp [*]; done)), H', ⟨by have := HJ1.out; have := HJ9.out; first | omega | exact Nat.le_refl _⟩, by repeat (first | exact Drawn0.refl _ | apply Drawn0.step)⟩
                      · rw [if_neg c17] at H
                        have c17b0 : (a0 == 23) = false := beq_eq_false_iff_ne.mpr c17
                        have c17b1 : (a0 != 23) = true := bne_iff_ne.mpr c17
                        have H' := Aside0.mk H
                        clear H
                        go_wp2
                        go_meet
                        case rel => exact ⟨_, ((a0 == 24)), (by first | rfl | (simp; done) | (simp [*]; done)), H', ⟨by have := HJ1.out; have := HJ9.out; first | omega | exact Nat.le_refl _⟩, by repeat (first | exact Drawn0.refl _ | apply Drawn0.step)⟩
                  case rest =>
                    clear HC15
                    try clear c1
                    try clear p2
                    try clear c3
                    try clear c3b0
                    try clear c3b1
                    try clear c4
                    try clear c4b0
                    try clear c4b1
                    try clear c5
                    try clear c5b0
                    try clear c5b1
                    try clear c6
                    try clear c6b0
                    try clear c6b1
                    try clear c7
                    try clear c7b0
                    try clear c7b1
                    try clear c8
                    try clear c9
                    try clear c9b0
                    try clear c9b1
                    try clear c11
                    try clear c11b0
                    try clear c11b1
                    try clear c12
                    try clear c12b0
                    try clear c12b1
                    try clear c13
                    try clear c14
                    try clear c14b0
                    try clear c14b1
                    try clear c16
                    try clear c16b0
                    try clear c16b1
                    try clear c17
                    try clear c17b0
                    try clear c17b1
                    try clear p2
                    obtain ⟨kq, x19_14, rfl, HA, HJ14, ⟨mc14, rfl⟩⟩ := hcut
                    cases kq with
                    | zero => exact absurd HA.out (by simp [seedcornref07_Parts.j2])
                    | succ kj14 =>
                      have H := HA.out
                      clear HA
                      simp only [seedcornref07_Parts.j2] at H
                      by_cases c18 : x19_14 = true
                      · subst c18
                        have H1 : (some (⟨#[97]⟩ : ByteArray)) = some r := by rw [if_pos rfl] at H; exact H
                        clear H
                        have H := H1
                        clear H1
                        obtain rfl := Option.some.inj H
                        go_wp2
                        go_ret
                        exact ⟨by first | rfl | (simp; done) | (simp [*]; done), by repeat (first | exact Drawn0.refl _ | apply Drawn0.step)⟩
                      · replace c18 := Bool.eq_false_iff.mpr c18
                        subst c18
                        have H1 : (if a0 = 26 then (some (⟨#[]⟩ : ByteArray)) else (if a0 ≥ 4 then (if a0 ≤ 15 then (some (⟨#[97, 98, 114]⟩ : ByteArray)) else (some (⟨#[63]⟩ : ByteArray))) else (some (⟨#[63]⟩ : ByteArray)))) = some r := by rw [if_neg (show ¬ (false = true) by decide)] at H; exact H
                        clear H
                        have H := H1
                        clear H1
                        by_cases c19 : a0 = 26
                        · rw [if_pos c19] at H
                          have c19b0 : (a0 == 26) = true := beq_iff_eq.mpr c19
                          have c19b1 : (a0 != 26) = false := bne_eq_false_iff_eq.mpr c19
                          clear c19
                          obtain rfl := Option.some.inj H
                          go_wp2
                          go_ret
                          exact ⟨by first | rfl | (simp; done) | (simp [*]; done), by repeat (first | exact Drawn0.refl _ | apply Drawn0.step)⟩
                        · rw [if_neg c19] at H
                          have c19b0 : (a0 == 26) = false := beq_eq_false_iff_ne.mpr c19
                          have c19b1 : (a0 != 26) = true := bne_iff_ne.mpr c19
                          by_cases c20 : a0 ≥ 4
                          · rw [if_pos c20] at H
                            have c20b0 : decide (4 ≤ a0) = true := decide_eq_true c20
                            clear c20
                            by_cases c21 : a0 ≤ 15
                            · rw [if_pos c21] at H
                              have c21b0 : decide (a0 ≤ 15) = true := decide_eq_true c21
                              clear c21
                              obtain rfl := Option.some.inj H
                              go_wp2
                              go_ret
                              exact ⟨by first | rfl | (simp; done) | (simp [*]; done), by repeat (first | exact Drawn0.refl _ | apply Drawn0.step)⟩
                            · rw [if_neg c21] at H
                              have c21b0 : decide (a0 ≤ 15) = false := decide_eq_false c21
                              clear c21
                              obtain rfl := Option.some.inj H
                              go_wp2
                              go_ret
                              exact ⟨by first | rfl | (simp; done) | (simp [*]; done), by repeat (first | exact Drawn0.refl _ | apply Drawn0.step)⟩
                          · rw [if_neg c20] at H
                            have c20b0 : decide (4 ≤ a0) = false := decide_eq_false c20
                            clear c20
                            obtain rfl := Option.some.inj H
                            go_wp2
                            go_ret
                            exact ⟨by first | rfl | (simp; done) | (simp [*]; done), by repeat (first | exact Drawn0.refl _ | apply Drawn0.step)⟩
end Go.Proofs.YtdhkmdgieflioaaDoor.F
namespace Go.Proofs.YtdhkmdgieflioaaDoor.F
open Go.RowKit Go.Proofs.YtdhkmdgieflioaaDoorW.PrintWords Go.Proofs.YtdhkmdgieflioaaDoorW.PrintLast Go.Proofs.YtdhkmdgieflioaaDoorW.PrintMore
attribute [local go_sem] max2_int min2_int max_two min_two max_three min_three max_four min_four
set_option linter.unusedVariables false
set_option linter.unusedSimpArgs false
mutual
def seedcornlaw07_InstFields.j0 : Nat → Int → Int → Bool → Int → Int → Int → Int → Option (Bool)
  | 0, _, _, _, _, _, _, _ => none
  | k + 1, x0, x1, x55, x381000, x381001, x381002, x381003 => if x55 = true then (some false) else ((seedcornref01_Apply.f k 11 x0 (shl .u32 1 ((Int.tmod x1 24) % 4294967296))).bind fun bt381 => ((seedcornref07_Parts.f k x381000).bind fun t383 => (seedcornlaw07_InstFields.l0 k ((Int.tmod x1 24) % 4294967296) bt381.1 t383 false 0)))
def seedcornlaw07_InstFields.l0 : Nat → Int → Int → ByteArray → Bool → Int → Option (Bool)
  | 0, _, _, _, _, _ => none
  | k + 1, x7, x8, x10, x11, x12 => if x12 < (x10.size : Int) then (if 0 ≤ x12 then (if (bt x10 x12) = 97 then (if x11 = true then (seedcornlaw07_InstFields.l0 k x7 x8 x10 true (wrap64 (x12 + 1))) else (seedcornlaw07_InstFields.l0 k x7 x8 x10 (decide (x7 ≥ 20)) (wrap64 (x12 + 1)))) else (if (bt x10 x12) = 98 then (if x11 = true then (seedcornlaw07_InstFields.l0 k x7 x8 x10 true (wrap64 (x12 + 1))) else (if x7 ≥ 16 then (seedcornlaw07_InstFields.l0 k x7 x8 x10 (decide (x7 < 20)) (wrap64 (x12 + 1))) else (seedcornlaw07_InstFields.l0 k x7 x8 x10 false (wrap64 (x12 + 1))))) else (if (bt x10 x12) = 99 then (if x11 = true then (seedcornlaw07_InstFields.l0 k x7 x8 x10 true (wrap64 (x12 + 1))) else (seedcornlaw07_InstFields.l0 k x7 x8 x10 (decide (x7 < 16)) (wrap64 (x12 + 1)))) else (if x11 = true then (seedcornlaw07_InstFields.l0 k x7 x8 x10 true (wrap64 (x12 + 1))) else (seedcornlaw07_InstFields.l0 k x7 x8 x10 (decide (x7 < 4)) (wrap64 (x12 + 1))))))) else (none)) else ((inst_Decode.f x8).bind fun bt384 => (some ((bt384.2.2.2.2 == 0) == x11)))
end
def seedcornlaw07_InstFields.f (k : Nat) (a0 : Int) (a1 : Int) : Option (Bool) := (seedcornlaw07_alive.f).bind fun t374 => (if t374 = true then ((inst_Decode.f a0).bind fun bt375 => (if bt375.2.2.2.2 = 0 then (if bt375.1 = (wrap64 (a0 / 16777216)) then (if bt375.2.1 = (wrap64 (Go.bits .and .u32 (a0 / 1048576) 15)) then (if bt375.2.2.1 = (wrap64 (Go.bits .and .u32 (a0 / 65536) 15)) then (seedcornlaw07_InstFields.j0 k a0 a1 (bt375.2.2.2.1 != (wrap64 (Go.bits .and .u32 a0 65535))) bt375.1 bt375.2.1 bt375.2.2.1 bt375.2.2.2.1) else (seedcornlaw07_InstFields.j0 k a0 a1 true bt375.1 bt375.2.1 bt375.2.2.1 bt375.2.2.2.1)) else (seedcornlaw07_InstFields.j0 k a0 a1 true bt375.1 bt375.2.1 bt375.2.2.1 bt375.2.2.2.1)) else (seedcornlaw07_InstFields.j0 k a0 a1 true bt375.1 bt375.2.1 bt375.2.2.1 bt375.2.2.2.1)) else (some true))) else (some false))
theorem seedcornlaw07_InstFields.mono_l : ∀ k, (∀ y0 y1 y2 y3 y4 y5 y6, LeO (seedcornlaw07_InstFields.j0 k y0 y1 y2 y3 y4 y5 y6) (seedcornlaw07_InstFields.j0 (k + 1) y0 y1 y2 y3 y4 y5 y6)) ∧ (∀ y0 y1 y2 y3 y4, LeO (seedcornlaw07_InstFields.l0 k y0 y1 y2 y3 y4) (seedcornlaw07_InstFields.l0 (k + 1) y0 y1 y2 y3 y4))
  | 0 => ⟨fun _ _ _ _ _ _ _ r h => by simp [seedcornlaw07_InstFields.j0] at h, fun _ _ _ _ _ r h => by simp [seedcornlaw07_InstFields.l0] at h⟩
  | k + 1 => by
    obtain ⟨ih0, ih1⟩ := seedcornlaw07_InstFields.mono_l k
    refine ⟨?_, ?_⟩
    · intro y0 y1 y2 y3 y4 y5 y6
      unfold seedcornlaw07_InstFields.j0
      repeat' first
      | (with_reducible exact ih0 _ _ _ _ _ _ _)
      | (with_reducible exact ih1 _ _ _ _ _)
      | (with_reducible exact seedcornref01_Apply.mono _ _ _ _)
      | (with_reducible exact seedcornref07_Parts.mono _ _)
      | (with_reducible exact LeO.refl _)
      | (with_reducible exact LeO.none _)
      | (with_reducible refine LeO.ite ?_ ?_)
      | (with_reducible refine LeO.bind ?_ (fun _ => ?_))
      | exact ih0 _ _ _ _ _ _ _
      | exact ih1 _ _ _ _ _
      | exact seedcornref01_Apply.mono _ _ _ _
      | exact seedcornref07_Parts.mono _ _
      | exact LeO.none _
      | refine LeO.ite ?_ ?_
      | refine LeO.bind ?_ (fun _ => ?_)
    · intro y0 y1 y2 y3 y4
      unfold seedcornlaw07_InstFields.l0
      repeat' first
      | (with_reducible exact ih0 _ _ _ _ _ _ _)
      | (with_reducible exact ih1 _ _ _ _ _)
      | (with_reducible exact seedcornref01_Apply.mono _ _ _ _)
      | (with_reducible exact seedcornref07_Parts.mono _ _)
      | (with_reducible exact LeO.refl _)
      | (with_reducible exact LeO.none _)
      | (with_reducible refine LeO.ite ?_ ?_)
      | (with_reducible refine LeO.bind ?_ (fun _ => ?_))
      | exact ih0 _ _ _ _ _ _ _
      | exact ih1 _ _ _ _ _
      | exact seedcornref01_Apply.mono _ _ _ _
      | exact seedcornref07_Parts.mono _ _
      | exact LeO.none _
      | refine LeO.ite ?_ ?_
      | refine LeO.bind ?_ (fun _ => ?_)
theorem seedcornlaw07_InstFields.mono : ∀ a0 a1 k, LeO (seedcornlaw07_InstFields.f k a0 a1) (seedcornlaw07_InstFields.f (k + 1) a0 a1) := by
  intro a0 a1 k
  obtain ⟨ih0, ih1⟩ := seedcornlaw07_InstFields.mono_l k
  unfold seedcornlaw07_InstFields.f
  repeat' first
      | (with_reducible exact ih0 _ _ _ _ _ _ _)
      | (with_reducible exact ih1 _ _ _ _ _)
      | (with_reducible exact seedcornref01_Apply.mono _ _ _ _)
      | (with_reducible exact seedcornref07_Parts.mono _ _)
      | (with_reducible exact LeO.refl _)
      | (with_reducible exact LeO.none _)
      | (with_reducible refine LeO.ite ?_ ?_)
      | (with_reducible refine LeO.bind ?_ (fun _ => ?_))
      | exact ih0 _ _ _ _ _ _ _
      | exact ih1 _ _ _ _ _
      | exact seedcornref01_Apply.mono _ _ _ _
      | exact seedcornref07_Parts.mono _ _
      | exact LeO.none _
      | refine LeO.ite ?_ ?_
      | refine LeO.bind ?_ (fun _ => ?_)
set_option maxHeartbeats 8000000 in
set_option maxRecDepth 100000 in
theorem seedcornlaw07_InstFields.calls (k : Nat) (a0 : Int) (a1 : Int) (r : Bool) (w : World) (hGK : GK w) (hGT : GT w) (h : seedcornlaw07_InstFields.f k a0 a1 = some r) :
    Calls Tryd.prog 13 #[.int .u32 a0, .int .u8 a1] w fun e w' => e = .returned (.bool r) ∧ Below w.heap.size w w' := by
  have hu46 := Tryd.underlying46
  have HGK := Aside0.mk hGK
  clear hGK
  have HGT := Aside0.mk hGT
  clear hGT
  have HB := Aside0.mk (Below.refl w.heap.size w)
  have H : ((seedcornlaw07_alive.f).bind fun t374 => (if t374 = true then ((inst_Decode.f a0).bind fun bt375 => (if bt375.2.2.2.2 = 0 then (if bt375.1 = (wrap64 (a0 / 16777216)) then (if bt375.2.1 = (wrap64 (Go.bits .and .u32 (a0 / 1048576) 15)) then (if bt375.2.2.1 = (wrap64 (Go.bits .and .u32 (a0 / 65536) 15)) then (seedcornlaw07_InstFields.j0 k a0 a1 (bt375.2.2.2.1 != (wrap64 (Go.bits .and .u32 a0 65535))) bt375.1 bt375.2.1 bt375.2.2.1 bt375.2.2.2.1) else (seedcornlaw07_InstFields.j0 k a0 a1 true bt375.1 bt375.2.1 bt375.2.2.1 bt375.2.2.2.1)) else (seedcornlaw07_InstFields.j0 k a0 a1 true bt375.1 bt375.2.1 bt375.2.2.1 bt375.2.2.2.1)) else (seedcornlaw07_InstFields.j0 k a0 a1 true bt375.1 bt375.2.1 bt375.2.2.1 bt375.2.2.2.1)) else (some true))) else (some false))) = some r := h
  clear h
  replace H := Option.bind_eq_some_iff.mp H
  obtain ⟨t374, A30, H⟩ := H
  replace H : (if t374 = true then ((inst_Decode.f a0).bind fun bt375 => (if bt375.2.2.2.2 = 0 then (if bt375.1 = (wrap64 (a0 / 16777216)) then (if bt375.2.1 = (wrap64 (Go.bits .and .u32 (a0 / 1048576) 15)) then (if bt375.2.2.1 = (wrap64 (Go.bits .and .u32 (a0 / 65536) 15)) then (seedcornlaw07_InstFields.j0 k a0 a1 (bt375.2.2.2.1 != (wrap64 (Go.bits .and .u32 a0 65535))) bt375.1 bt375.2.1 bt375.2.2.1 bt375.2.2.2.1) else (seedcornlaw07_InstFields.j0 k a0 a1 true bt375.1 bt375.2.1 bt375.2.2.1 bt375.2.2.2.1)) else (seedcornlaw07_InstFields.j0 k a0 a1 true bt375.1 bt375.2.1 bt375.2.2.1 bt375.2.2.2.1)) else (seedcornlaw07_InstFields.j0 k a0 a1 true bt375.1 bt375.2.1 bt375.2.2.1 bt375.2.2.2.1)) else (some true))) else (some false)) = some r := H
  have A3 := Aside0.mk A30
  clear A30
  by_cases c4 : t374 = true
  · subst c4
    have H1 : ((inst_Decode.f a0).bind fun bt375 => (if bt375.2.2.2.2 = 0 then (if bt375.1 = (wrap64 (a0 / 16777216)) then (if bt375.2.1 = (wrap64 (Go.bits .and .u32 (a0 / 1048576) 15)) then (if bt375.2.2.1 = (wrap64 (Go.bits .and .u32 (a0 / 65536) 15)) then (seedcornlaw07_InstFields.j0 k a0 a1 (bt375.2.2.2.1 != (wrap64 (Go.bits .and .u32 a0 65535))) bt375.1 bt375.2.1 bt375.2.2.1 bt375.2.2.2.1) else (seedcornlaw07_InstFields.j0 k a0 a1 true bt375.1 bt375.2.1 bt375.2.2.1 bt375.2.2.2.1)) else (seedcornlaw07_InstFields.j0 k a0 a1 true bt375.1 bt375.2.1 bt375.2.2.1 bt375.2.2.2.1)) else (seedcornlaw07_InstFields.j0 k a0 a1 true bt375.1 bt375.2.1 bt375.2.2.1 bt375.2.2.2.1)) else (some true))) = some r := by rw [if_pos rfl] at H; exact H
    clear H
    have H := H1
    clear H1
    replace H := Option.bind_eq_some_iff.mp H
    obtain ⟨⟨t375, t376, t377, t378, t379⟩, A50, H⟩ := H
    replace H : (if t379 = 0 then (if t375 = (wrap64 (a0 / 16777216)) then (if t376 = (wrap64 (Go.bits .and .u32 (a0 / 1048576) 15)) then (if t377 = (wrap64 (Go.bits .and .u32 (a0 / 65536) 15)) then (seedcornlaw07_InstFields.j0 k a0 a1 (t378 != (wrap64 (Go.bits .and .u32 a0 65535))) t375 t376 t377 t378) else (seedcornlaw07_InstFields.j0 k a0 a1 true t375 t376 t377 t378)) else (seedcornlaw07_InstFields.j0 k a0 a1 true t375 t376 t377 t378)) else (seedcornlaw07_InstFields.j0 k a0 a1 true t375 t376 t377 t378)) else (some true)) = some r := H
    have A5 := Aside0.mk A50
    clear A50
    by_cases c6 : t379 = 0
    · rw [if_pos c6] at H
      have c6b0 : (t379 == 0) = true := beq_iff_eq.mpr c6
      have c6b1 : (t379 != 0) = false := bne_eq_false_iff_eq.mpr c6
      clear c6
      have HC7 := Aside0.mk H
      clear H
      go_enter Tryd.func13, Tryd.ntmps13
      go_upto_region 6 with (first | ((with_reducible refine gate_callee (f := 37) rfl ?_); refine goesL_ (some 15) rfl rfl Tryd.func37 (by kernel_rfl) rfl #[] rfl (by (try simp only [List.map_toArray, List.map_cons, List.map_nil]); first | done | rfl | (simp only [List.length_drop, List.length_take]; rfl)) ?_; (with_reducible refine (seedcornlaw07_alive.calls  true _ ?side1 ?side2 A3.out).mono ?_); (case side1 => exact GK.below HGK.out (by repeat (first | (with_reducible first | exact HB.out | apply below_alloc | apply pw_below_drewN | apply below_drew1) | exact HB.out))); (case side2 => exact GT.below HGT.out (by repeat (first | (with_reducible first | exact HB.out | apply below_alloc | apply pw_below_drewN | apply below_drew1) | exact HB.out))); rintro e w8 ⟨rfl, hb⟩; refine ⟨_, rfl, ?_⟩; have n0_ := Aside0.mk (below_step (by repeat (first | (with_reducible first | exact HB.out | apply below_alloc | apply pw_below_drewN | apply below_drew1) | exact HB.out)) hb); clear HB; have HB := n0_; clear n0_; (try clear hb); (try clear hb2); (try clear hk); (try clear hi)) | ((with_reducible refine gate_callee (f := 44) rfl ?_); refine goesL_ (some 19) rfl rfl Tryd.func44 (by kernel_rfl) rfl #[.int .u32 a0] rfl (by (try simp only [List.map_toArray, List.map_cons, List.map_nil]); first | done | rfl | (simp only [List.length_drop, List.length_take]; rfl)) ?_; (with_reducible refine (inst_Decode.calls a0 t375 t376 t377 t378 t379 _ ?side1 A5.out).mono ?_); (case side1 => exact GK.below HGK.out (by repeat (first | (with_reducible first | exact HB.out | apply below_alloc | apply pw_below_drewN | apply below_drew1) | exact HB.out))); rintro e w9 ⟨rfl, hb⟩; refine ⟨_, rfl, ?_⟩; have n0_ := Aside0.mk (below_step (by repeat (first | (with_reducible first | exact HB.out | apply below_alloc | apply pw_below_drewN | apply below_drew1) | exact HB.out)) hb); clear HB; have HB := n0_; clear n0_; (try clear hb); (try clear hb2); (try clear hk); (try clear hi)) | ((with_reducible refine gate_dst (N := 5) rfl ?_); refine box_event ?hg (N := 5) ?hd (cs := #[.int .i64 0, .int .i64 0, .int .i64 0, .int .i64 0]) (t := 46) ?hr ?_; (case hd => rfl); (case hg => rfl); (case hr => first | (go_simp; done) | (go_simp; rfl)); intro gb380 hg w10 hbox hb; have n0_ := Aside0.mk (below_step (by repeat (first | (with_reducible first | exact HB.out | apply below_alloc | apply pw_below_drewN | apply below_drew1) | exact HB.out)) hb); have n1_ := Aside0.mk (hbox); have n2_ := Aside0.mk ((by rw [hg]; exact (below_size (by repeat (first | (with_reducible first | exact HB.out | apply below_alloc | apply pw_below_drewN | apply below_drew1) | exact HB.out))) : w.heap.size ≤ gb380)); have n3_ := Aside0.mk ((by rw [hg]; exact (below_size (by repeat (first | (with_reducible first | exact HB.out | apply below_alloc | apply pw_below_drewN | apply below_drew1) | exact HB.out))) : w.heap.size ≤ gb380)); clear HB; have HB := n0_; have BK380 := n1_; have GW380 := n2_; have GE380 := n3_; clear n0_ n1_ n2_ n3_; clear hb hbox hg; have hcz11_0 : w10.cell? ⟨gb380, 0, none⟩ = some (.int .i64 0) := (blk_cell BK380.out 0).trans rfl; have hcz11_1 : w10.cell? ⟨gb380, 1, none⟩ = some (.int .i64 0) := (blk_cell BK380.out 1).trans rfl; have hcz11_2 : w10.cell? ⟨gb380, 2, none⟩ = some (.int .i64 0) := (blk_cell BK380.out 2).trans rfl; have hcz11_3 : w10.cell? ⟨gb380, 3, none⟩ = some (.int .i64 0) := (blk_cell BK380.out 3).trans rfl; have hfz11_0 := blk_frozen BK380.out 0; have hfz11_1 := blk_frozen BK380.out 1; have hfz11_2 := blk_frozen BK380.out 2; have hfz11_3 := blk_frozen BK380.out 3))
      (try simp only [Act.put, List.setIfInBounds_toArray, List.set_cons_zero, List.set_cons_succ])
      go_cut [55] (fun v55 wc => ∃ (kq : Nat) (x55_6 : Bool), v55 = .bool x55_6 ∧ Aside0 (seedcornlaw07_InstFields.j0 kq a0 a1 x55_6 t375 t376 t377 t378 = some r) ∧ Aside0 (kq ≤ k) ∧ Aside0 (wc.heap[gb380]? = some (.cells #[.int .i64 t375, .int .i64 t376, .int .i64 t377, .int .i64 t378] 46 (0, 0))) ∧ Aside0 (Below w.heap.size w wc))
      case first =>
        have H := HC7.out
        clear HC7
        by_cases c12 : t375 = (wrap64 (a0 / 16777216))
        · rw [if_pos c12] at H
          have c12b0 : (t375 == (wrap64 (a0 / 16777216))) = true := beq_iff_eq.mpr c12
          have c12b1 : (t375 != (wrap64 (a0 / 16777216))) = false := bne_eq_false_iff_eq.mpr c12
          clear c12
          (first | rw [c12b0] | (simp only [i64_w, i32_w]; rw [c12b0]) | skip)
          by_cases c13 : t376 = (wrap64 (Go.bits .and .u32 (a0 / 1048576) 15))
          · rw [if_pos c13] at H
            have c13b0 : (t376 == (wrap64 (Go.bits .and .u32 (a0 / 1048576) 15))) = true := beq_iff_eq.mpr c13
            have c13b1 : (t376 != (wrap64 (Go.bits .and .u32 (a0 / 1048576) 15))) = false := bne_eq_false_iff_eq.mpr c13
            clear c13
            by_cases c14 : t377 = (wrap64 (Go.bits .and .u32 (a0 / 65536) 15))
            · rw [if_pos c14] at H
              have c14b0 : (t377 == (wrap64 (Go.bits .and .u32 (a0 / 65536) 15))) = true := beq_iff_eq.mpr c14
              have c14b1 : (t377 != (wrap64 (Go.bits .and .u32 (a0 / 65536) 15))) = false := bne_eq_false_iff_eq.mpr c14
              clear c14
              have H' := Aside0.mk H
              clear H
              have hcz15_0 : w10.cell? ⟨gb380, 0, none⟩ = some (.int .i64 0) := (blk_cell BK380.out 0).trans rfl
              have hcz15_1 : w10.cell? ⟨gb380, 1, none⟩ = some (.int .i64 0) := (blk_cell BK380.out 1).trans rfl
              have hcz15_2 : w10.cell? ⟨gb380, 2, none⟩ = some (.int .i64 0) := (blk_cell BK380.out 2).trans rfl
              have hcz15_3 : w10.cell? ⟨gb380, 3, none⟩ = some (.int .i64 0) := (blk_cell BK380.out 3).trans rfl
              have hfz15_0 := blk_frozen BK380.out 0
              have hfz15_1 := blk_frozen BK380.out 1
              have hfz15_2 := blk_frozen BK380.out 2
              have hfz15_3 := blk_frozen BK380.out 3
              go_wp2
              go_meet
              case rel => exact ⟨_, ((t378 != (wrap64 (Go.bits .and .u32 a0 65535)))), (by first | rfl | (simp; done) | (simp [*]; done)), H', ⟨by first | omega | exact Nat.le_refl _⟩, ⟨by (with_reducible repeat (first | refine blk_drewN ?_ _ | refine blk_drew ?_ | refine blk_alloc ?_ _)); refine blk_put (cs := #[.int .i64 t375, .int .i64 t376, .int .i64 t377, .int .i64 0]) ?_ 3 _ rfl; (with_reducible repeat (first | refine blk_drewN ?_ _ | refine blk_drew ?_ | refine blk_alloc ?_ _)); refine blk_put (cs := #[.int .i64 t375, .int .i64 t376, .int .i64 0, .int .i64 0]) ?_ 2 _ rfl; (with_reducible repeat (first | refine blk_drewN ?_ _ | refine blk_drew ?_ | refine blk_alloc ?_ _)); refine blk_put (cs := #[.int .i64 t375, .int .i64 0, .int .i64 0, .int .i64 0]) ?_ 1 _ rfl; (with_reducible repeat (first | refine blk_drewN ?_ _ | refine blk_drew ?_ | refine blk_alloc ?_ _)); refine blk_put (cs := #[.int .i64 0, .int .i64 0, .int .i64 0, .int .i64 0]) ?_ 0 _ rfl; (with_reducible repeat (first | refine blk_drewN ?_ _ | refine blk_drew ?_ | refine blk_alloc ?_ _)); exact BK380.out⟩, ⟨by repeat (first | (with_reducible first | exact HB.out | apply below_alloc | apply pw_below_drewN | apply below_drew1 | refine below_set ?_ GE380.out) | exact HB.out)⟩⟩
            · rw [if_neg c14] at H
              have c14b0 : (t377 == (wrap64 (Go.bits .and .u32 (a0 / 65536) 15))) = false := beq_eq_false_iff_ne.mpr c14
              have c14b1 : (t377 != (wrap64 (Go.bits .and .u32 (a0 / 65536) 15))) = true := bne_iff_ne.mpr c14
              have H' := Aside0.mk H
              clear H
              have hcz16_0 : w10.cell? ⟨gb380, 0, none⟩ = some (.int .i64 0) := (blk_cell BK380.out 0).trans rfl
              have hcz16_1 : w10.cell? ⟨gb380, 1, none⟩ = some (.int .i64 0) := (blk_cell BK380.out 1).trans rfl
              have hcz16_2 : w10.cell? ⟨gb380, 2, none⟩ = some (.int .i64 0) := (blk_cell BK380.out 2).trans rfl
              have hcz16_3 : w10.cell? ⟨gb380, 3, none⟩ = some (.int .i64 0) := (blk_cell BK380.out 3).trans rfl
              have hfz16_0 := blk_frozen BK380.out 0
              have hfz16_1 := blk_frozen BK380.out 1
              have hfz16_2 := blk_frozen BK380.out 2
              have hfz16_3 := blk_frozen BK380.out 3
              go_wp2
              go_meet
              case rel => exact ⟨_, (true), (by first | rfl | (simp; done) | (simp [*]; done)), H', ⟨by first | omega | exact Nat.le_refl _⟩, ⟨by (with_reducible repeat (first | refine blk_drewN ?_ _ | refine blk_drew ?_ | refine blk_alloc ?_ _)); refine blk_put (cs := #[.int .i64 t375, .int .i64 t376, .int .i64 t377, .int .i64 0]) ?_ 3 _ rfl; (with_reducible repeat (first | refine blk_drewN ?_ _ | refine blk_drew ?_ | refine blk_alloc ?_ _)); refine blk_put (cs := #[.int .i64 t375, .int .i64 t376, .int .i64 0, .int .i64 0]) ?_ 2 _ rfl; (with_reducible repeat (first | refine blk_drewN ?_ _ | refine blk_drew ?_ | refine blk_alloc ?_ _)); refine blk_put (cs := #[.int .i64 t375, .int .i64 0, .int .i64 0, .int .i64 0]) ?_ 1 _ rfl; (with_reducible repeat (first | refine blk_drewN ?_ _ | refine blk_drew ?_ | refine blk_alloc ?_ _)); refine blk_put (cs := #[.int .i64 0, .int .i64 0, .int .i64 0, .int .i64 0]) ?_ 0 _ rfl; (with_reducible repeat (first | refine blk_drewN ?_ _ | refine blk_drew ?_ | refine blk_alloc ?_ _)); exact BK380.out⟩, ⟨by repeat (first | (with_reducible first | exact HB.out | apply below_alloc | apply pw_below_drewN | apply below_drew1 | refine below_set ?_ GE380.out) | exact HB.out)⟩⟩
          · rw [if_neg c13] at H
            have c13b0 : (t376 == (wrap64 (Go.bits .and .u32 (a0 / 1048576) 15))) = false := beq_eq_false_iff_ne.mpr c13
            have c13b1 : (t376 != (wrap64 (Go.bits .and .u32 (a0 / 1048576) 15))) = true := bne_iff_ne.mpr c13
            have H' := Aside0.mk H
            clear H
            have hcz17_0 : w10.cell? ⟨gb380, 0, none⟩ = some (.int .i64 0) := (blk_cell BK380.out 0).trans rfl
            have hcz17_1 : w10.cell? ⟨gb380, 1, none⟩ = some (.int .i64 0) := (blk_cell BK380.out 1).trans rfl
            have hcz17_2 : w10.cell? ⟨gb380, 2, none⟩ = some (.int .i64 0) := (blk_cell BK380.out 2).trans rfl
            have hcz17_3 : w10.cell? ⟨gb380, 3, none⟩ = some (.int .i64 0) := (blk_cell BK380.out 3).trans rfl
            have hfz17_0 := blk_frozen BK380.out 0
            have hfz17_1 := blk_frozen BK380.out 1
            have hfz17_2 := blk_frozen BK380.out 2
            have hfz17_3 := blk_frozen BK380.out 3
            go_wp2
            go_meet
            case rel => exact ⟨_, (true), (by first | rfl | (simp; done) | (simp [*]; done)), H', ⟨by first | omega | exact Nat.le_refl _⟩, ⟨by (with_reducible repeat (first | refine blk_drewN ?_ _ | refine blk_drew ?_ | refine blk_alloc ?_ _)); refine blk_put (cs := #[.int .i64 t375, .int .i64 t376, .int .i64 t377, .int .i64 0]) ?_ 3 _ rfl; (with_reducible repeat (first | refine blk_drewN ?_ _ | refine blk_drew ?_ | refine blk_alloc ?_ _)); refine blk_put (cs := #[.int .i64 t375, .int .i64 t376, .int .i64 0, .int .i64 0]) ?_ 2 _ rfl; (with_reducible repeat (first | refine blk_drewN ?_ _ | refine blk_drew ?_ | refine blk_alloc ?_ _)); refine blk_put (cs := #[.int .i64 t375, .int .i64 0, .int .i64 0, .int .i64 0]) ?_ 1 _ rfl; (with_reducible repeat (first | refine blk_drewN ?_ _ | refine blk_drew ?_ | refine blk_alloc ?_ _)); refine blk_put (cs := #[.int .i64 0, .int .i64 0, .int .i64 0, .int .i64 0]) ?_ 0 _ rfl; (with_reducible repeat (first | refine blk_drewN ?_ _ | refine blk_drew ?_ | refine blk_alloc ?_ _)); exact BK380.out⟩, ⟨by repeat (first | (with_reducible first | exact HB.out | apply below_alloc | apply pw_below_drewN | apply below_drew1 | refine below_set ?_ GE380.out) | exact HB.out)⟩⟩
        · rw [if_neg c12] at H
          have c12b0 : (t375 == (wrap64 (a0 / 16777216))) = false := beq_eq_false_iff_ne.mpr c12
          have c12b1 : (t375 != (wrap64 (a0 / 16777216))) = true := bne_iff_ne.mpr c12
          (first | rw [c12b0] | (simp only [i64_w, i32_w]; rw [c12b0]) | skip)
          have H' := Aside0.mk H
          clear H
          have hcz18_0 : w10.cell? ⟨gb380, 0, none⟩ = some (.int .i64 0) := (blk_cell BK380.out 0).trans rfl
          have hcz18_1 : w10.cell? ⟨gb380, 1, none⟩ = some (.int .i64 0) := (blk_cell BK380.out 1).trans rfl
          have hcz18_2 : w10.cell? ⟨gb380, 2, none⟩ = some (.int .i64 0) := (blk_cell BK380.out 2).trans rfl
          have hcz18_3 : w10.cell? ⟨gb380, 3, none⟩ = some (.int .i64 0) := (blk_cell BK380.out 3).trans rfl
          have hfz18_0 := blk_frozen BK380.out 0
          have hfz18_1 := blk_frozen BK380.out 1
          have hfz18_2 := blk_frozen BK380.out 2
          have hfz18_3 := blk_frozen BK380.out 3
          go_wp2
          go_meet
          case rel => exact ⟨_, (true), (by first | rfl | (simp; done) | (simp [*]; done)), H', ⟨by first | omega | exact Nat.le_refl _⟩, ⟨by (with_reducible repeat (first | refine blk_drewN ?_ _ | refine blk_drew ?_ | refine blk_alloc ?_ _)); refine blk_put (cs := #[.int .i64 t375, .int .i64 t376, .int .i64 t377, .int .i64 0]) ?_ 3 _ rfl; (with_reducible repeat (first | refine blk_drewN ?_ _ | refine blk_drew ?_ | refine blk_alloc ?_ _)); refine blk_put (cs := #[.int .i64 t375, .int .i64 t376, .int .i64 0, .int .i64 0]) ?_ 2 _ rfl; (with_reducible repeat (first | refine blk_drewN ?_ _ | refine blk_drew ?_ | refine blk_alloc ?_ _)); refine blk_put (cs := #[.int .i64 t375, .int .i64 0, .int .i64 0, .int .i64 0]) ?_ 1 _ rfl; (with_reducible repeat (first | refine blk_drewN ?_ _ | refine blk_drew ?_ | refine blk_alloc ?_ _)); refine blk_put (cs := #[.int .i64 0, .int .i64 0, .int .i64 0, .int .i64 0]) ?_ 0 _ rfl; (with_reducible repeat (first | refine blk_drewN ?_ _ | refine blk_drew ?_ | refine blk_alloc ?_ _)); exact BK380.out⟩, ⟨by repeat (first | (with_reducible first | exact HB.out | apply below_alloc | apply pw_below_drewN | apply below_drew1 | refine below_set ?_ GE380.out) | exact HB.out)⟩⟩
      case rest =>
        clear HC7
        try clear c1
        try clear p2
        try clear c3
        try clear c4
        try clear c6
        try clear c6b0
        try clear c6b1
        try clear p6
        try clear c12
        try clear c12b0
        try clear c12b1
        try clear c13
        try clear c13b0
        try clear c13b1
        try clear c14
        try clear c14b0
        try clear c14b1
        try clear hcz11_0
        try clear hcz11_1
        try clear hcz11_2
        try clear hcz11_3
        try clear hcz15_0
        try clear hcz15_1
        try clear hcz15_2
        try clear hcz15_3
        try clear hcz16_0
        try clear hcz16_1
        try clear hcz16_2
        try clear hcz16_3
        try clear hcz17_0
        try clear hcz17_1
        try clear hcz17_2
        try clear hcz17_3
        try clear hcz18_0
        try clear hcz18_1
        try clear hcz18_2
        try clear hcz18_3
        try clear hfz11_0
        try clear hfz11_1
        try clear hfz11_2
        try clear hfz11_3
        try clear hfz15_0
        try clear hfz15_1
        try clear hfz15_2
        try clear hfz15_3
        try clear hfz16_0
        try clear hfz16_1
        try clear hfz16_2
        try clear hfz16_3
        try clear hfz17_0
        try clear hfz17_1
        try clear hfz17_2
        try clear hfz17_3
        try clear hfz18_0
        try clear hfz18_1
        try clear hfz18_2
        try clear hfz18_3
        obtain ⟨kq, x55_6, rfl, HA, HJ6, BK380, HB⟩ := hcut
        cases kq with
        | zero => exact absurd HA.out (by simp [seedcornlaw07_InstFields.j0])
        | succ kj6 =>
          have H := HA.out
          clear HA
          simp only [seedcornlaw07_InstFields.j0] at H
          by_cases c19 : x55_6 = true
          · subst c19
            have H1 : (some false) = some r := by rw [if_pos rfl] at H; exact H
            clear H
            have H := H1
            clear H1
            obtain rfl := Option.some.inj H
            go_wp2
            go_ret
            exact ⟨by first | rfl | (simp [errW_none, errW_some] <;> rfl) | (simp [*, errW_none, errW_some] <;> rfl), by repeat (first | (with_reducible first | exact HB.out | apply below_alloc | apply pw_below_drewN | apply below_drew1 | refine below_set ?_ GE380.out) | exact HB.out)⟩
          · replace c19 := Bool.eq_false_iff.mpr c19
            subst c19
            have H1 : ((seedcornref01_Apply.f kj6 11 a0 (shl .u32 1 ((Int.tmod a1 24) % 4294967296))).bind fun bt381 => ((seedcornref07_Parts.f kj6 t375).bind fun t383 => (seedcornlaw07_InstFields.l0 kj6 ((Int.tmod a1 24) % 4294967296) bt381.1 t383 false 0))) = some r := by rw [if_neg (show ¬ (false = true) by decide)] at H; exact H
            clear H
            have H := H1
            clear H1
            obtain ⟨ji20, hji20⟩ : ∃ j_ : Int, (shl .u32 1 ((Int.tmod a1 24) % 4294967296)) = j_ := ⟨_, rfl⟩
            replace H : ((seedcornref01_Apply.f kj6 11 a0 (ji20)).bind fun bt381 => ((seedcornref07_Parts.f kj6 t375).bind fun t383 => (seedcornlaw07_InstFields.l0 kj6 ((Int.tmod a1 24) % 4294967296) bt381.1 t383 false 0))) = some r := by first | (rw [hji20] at H; exact H) | (simp only [hji20] at H ⊢; exact H)
            have hji20_ : (IntKind.u32.wrap (1 * 2 ^ min ((Int.tmod a1 24) % 4294967296).toNat 32)) = ji20 := hji20
            have hji20z : ((Int.tmod a1 24) % 4294967296) ≤ 32 → (IntKind.u32.wrap (1 * 2 ^ ((Int.tmod a1 24) % 4294967296).toNat)) = ji20 := shl_small hji20
            have hji20u : (IntKind.u32.wrap (2 ^ min ((Int.tmod a1 24) % 4294967296).toNat 32)) = ji20 := by have h_ := hji20_; rw [Int.one_mul] at h_; exact h_
            have hji20v : ((Int.tmod a1 24) % 4294967296) ≤ 32 → (IntKind.u32.wrap (2 ^ ((Int.tmod a1 24) % 4294967296).toNat)) = ji20 := fun hle_ => by have h_ := hji20z hle_; rw [Int.one_mul] at h_; exact h_
            replace H := Option.bind_eq_some_iff.mp H
            obtain ⟨⟨t381, t382⟩, A210, H⟩ := H
            replace H : ((seedcornref07_Parts.f kj6 t375).bind fun t383 => (seedcornlaw07_InstFields.l0 kj6 ((Int.tmod a1 24) % 4294967296) t381 t383 false 0)) = some r := H
            have A21 := Aside0.mk A210
            clear A210
            replace H := Option.bind_eq_some_iff.mp H
            obtain ⟨t383, A220, H⟩ := H
            replace H : (seedcornlaw07_InstFields.l0 kj6 ((Int.tmod a1 24) % 4294967296) t381 t383 false 0) = some r := H
            have A22 := Aside0.mk A220
            clear A220
            have H' := Aside0.mk H
            clear H
            have hsh0 : 0 ≤ (Int.tmod a1 24) % 4294967296 := by omega
            go_wp2_with (first | ((with_reducible refine gate_callee (f := 47) rfl ?_); refine goesL_ (some 63) rfl rfl Tryd.func47 (by kernel_rfl) rfl #[.int .i64 11, .int .u32 a0, .int .u32 ji20] rfl (by (try simp only [List.map_toArray, List.map_cons, List.map_nil]); first | done | (simp only [hji20]; rfl) | rfl | (simp only [List.length_drop, List.length_take]; rfl)) ?_; (with_reducible refine (seedcornref01_Apply.calls kj6 11 a0 ji20 t381 t382 _ A21.out).mono ?_); rintro e w23 ⟨rfl, hb⟩; refine ⟨_, rfl, ?_⟩; have n0_ := Aside0.mk (blk_below (g := gb380) (o := .cells #[.int .i64 t375, .int .i64 t376, .int .i64 t377, .int .i64 t378] 46 (0, 0)) (by (with_reducible repeat (first | refine blk_drewN ?_ _ | refine blk_drew ?_ | refine blk_alloc ?_ _)); exact BK380.out) hb); have n1_ := Aside0.mk (below_step (by repeat (first | (with_reducible first | exact HB.out | apply below_alloc | apply pw_below_drewN | apply below_drew1 | refine below_set ?_ GE380.out) | exact HB.out)) hb); clear BK380; clear HB; have BK380 := n0_; have HB := n1_; clear n0_ n1_; (try clear hb); (try clear hb2); (try clear hk); (try clear hi); have hcz24_0 : w23.cell? ⟨gb380, 0, none⟩ = some (.int .i64 t375) := (blk_cell BK380.out 0).trans rfl; have hcz24_1 : w23.cell? ⟨gb380, 1, none⟩ = some (.int .i64 t376) := (blk_cell BK380.out 1).trans rfl; have hcz24_2 : w23.cell? ⟨gb380, 2, none⟩ = some (.int .i64 t377) := (blk_cell BK380.out 2).trans rfl; have hcz24_3 : w23.cell? ⟨gb380, 3, none⟩ = some (.int .i64 t378) := (blk_cell BK380.out 3).trans rfl; have hfz24_0 := blk_frozen BK380.out 0; have hfz24_1 := blk_frozen BK380.out 1; have hfz24_2 := blk_frozen BK380.out 2; have hfz24_3 := blk_frozen BK380.out 3) | ((with_reducible refine gate_callee (f := 48) rfl ?_); refine goesL_ (some 68) rfl rfl Tryd.func48 (by kernel_rfl) rfl #[.int .i64 t375] rfl (by (try simp only [List.map_toArray, List.map_cons, List.map_nil]); first | done | rfl | (simp only [List.length_drop, List.length_take]; rfl)) ?_; (with_reducible refine (seedcornref07_Parts.calls kj6 t375 t383 _ A22.out).mono ?_); rintro e w' ⟨rfl, ⟨nd, rfl⟩⟩; refine ⟨_, rfl, ?_⟩))
            go_loopg [11, 12] kj6 (fun kq v11 v12 w' => ∃ (x11_2 : Bool) (x12_2 : Int), v11 = .bool x11_2 ∧ v12 = .int .i64 x12_2 ∧ Aside0 (seedcornlaw07_InstFields.l0 kq ((Int.tmod a1 24) % 4294967296) t381 t383 x11_2 x12_2 = some r) ∧ Aside0 (kq ≤ kj6) ∧ Aside0 (w'.heap[gb380]? = some (.cells #[.int .i64 t375, .int .i64 t376, .int .i64 t377, .int .i64 t378] 46 (0, 0))) ∧ Aside0 (Below w.heap.size w w'))
            case atStart => exact ⟨(false), (0), (by first | rfl | (simp; done) | (simp [*]; done)), (by first | rfl | (simp; done) | (simp [*]; done)), H', ⟨Nat.le_refl _⟩, ⟨by (with_reducible repeat (first | refine blk_drewN ?_ _ | refine blk_drew ?_ | refine blk_alloc ?_ _)); exact BK380.out⟩, ⟨by repeat (first | (with_reducible first | exact HB.out | apply below_alloc | apply pw_below_drewN | apply below_drew1 | refine below_set ?_ GE380.out) | exact HB.out)⟩⟩
            case round =>
              clear H'
              try clear c1
              try clear p2
              try clear c3
              try clear c4
              try clear c6
              try clear c6b0
              try clear c6b1
              try clear p6
              try clear c12
              try clear c12b0
              try clear c12b1
              try clear c13
              try clear c13b0
              try clear c13b1
              try clear c14
              try clear c14b0
              try clear c14b1
              try clear c19
              try clear hcz11_0
              try clear hcz11_1
              try clear hcz11_2
              try clear hcz11_3
              try clear hcz15_0
              try clear hcz15_1
              try clear hcz15_2
              try clear hcz15_3
              try clear hcz16_0
              try clear hcz16_1
              try clear hcz16_2
              try clear hcz16_3
              try clear hcz17_0
              try clear hcz17_1
              try clear hcz17_2
              try clear hcz17_3
              try clear hcz18_0
              try clear hcz18_1
              try clear hcz18_2
              try clear hcz18_3
              try clear hcz24_0
              try clear hcz24_1
              try clear hcz24_2
              try clear hcz24_3
              try clear hfz11_0
              try clear hfz11_1
              try clear hfz11_2
              try clear hfz11_3
              try clear hfz15_0
              try clear hfz15_1
              try clear hfz15_2
              try clear hfz15_3
              try clear hfz16_0
              try clear hfz16_1
              try clear hfz16_2
              try clear hfz16_3
              try clear hfz17_0
              try clear hfz17_1
              try clear hfz17_2
              try clear hfz17_3
              try clear hfz18_0
              try clear hfz18_1
              try clear hfz18_2
              try clear hfz18_3
              try clear hfz24_0
              try clear hfz24_1
              try clear hfz24_2
              try clear hfz24_3
              try clear p2
              try clear p6
              obtain ⟨x11_2, x12_2, rfl, rfl, HA, HK2, BK380, HB⟩ := hrel
              cases gk with
              | zero => exact absurd HA.out (by simp [seedcornlaw07_InstFields.l0])
              | succ k2 =>
                have H := HA.out
                clear HA
                simp only [seedcornlaw07_InstFields.l0] at H
                by_cases c25 : x12_2 < (t383.size : Int)
                · rw [if_pos c25] at H
                  have c25b0 : decide (x12_2 < (t383.size : Int)) = true := decide_eq_true c25
                  clear c25
                  by_cases c26 : 0 ≤ x12_2
                  · rw [if_pos c26] at H
                    have c26b0 : decide (0 ≤ x12_2) = true := decide_eq_true c26
                    clear c26
                    by_cases c28 : (bt t383 x12_2) = 97
                    · rw [if_pos c28] at H
                      have c28b0 : ((bt t383 x12_2) == 97) = true := beq_iff_eq.mpr c28
                      have c28b1 : ((bt t383 x12_2) != 97) = false := bne_eq_false_iff_eq.mpr c28
                      clear c28
                      by_cases c29 : x11_2 = true
                      · subst c29
                        have H1 : (seedcornlaw07_InstFields.l0 k2 ((Int.tmod a1 24) % 4294967296) t381 t383 true (wrap64 (x12_2 + 1))) = some r := by rw [if_pos rfl] at H; exact H
                        clear H
                        have H := H1
                        clear H1
                        have H' := Aside0.mk H
                        clear H
                        have p27 : 0 ≤ (x12_2 : Int) := of_decide_eq_true (by first | (with_reducible assumption) | assumption)
                        have q27 : x12_2 < (t383.size : Int) := of_decide_eq_true (by first | (with_reducible assumption) | assumption)
                        have hx27 := bt_at t383 x12_2
                        replace p27 := eq_true p27
                        replace q27 := eq_true q27
                        go_wp2
                        go_roundg k2
                        case measure => have := HJ6.out; have := HK2.out; omega
                        case rel => exact ⟨(true), (wrap64 (x12_2 + 1)), (by first | rfl | (simp; done) | (simp [*]; done)), (by first | rfl | (simp; done) | (simp [*]; done)), H', ⟨by have := HJ6.out; have := HK2.out; omega⟩, ⟨by (with_reducible repeat (first | refine blk_drewN ?_ _ | refine blk_drew ?_ | refine blk_alloc ?_ _)); exact BK380.out⟩, ⟨by repeat (first | (with_reducible first | exact HB.out | apply below_alloc | apply pw_below_drewN | apply below_drew1 | refine below_set ?_ GE380.out) | exact HB.out)⟩⟩
                      · replace c29 := Bool.eq_false_iff.mpr c29
                        subst c29
                        have H1 : (seedcornlaw07_InstFields.l0 k2 ((Int.tmod a1 24) % 4294967296) t381 t383 (decide (((Int.tmod a1 24) % 4294967296) ≥ 20)) (wrap64 (x12_2 + 1))) = some r := by rw [if_neg (show ¬ (false = true) by decide)] at H; exact H
                        clear H
                        have H := H1
                        clear H1
                        have H' := Aside0.mk H
                        clear H
                        have p27 : 0 ≤ (x12_2 : Int) := of_decide_eq_true (by first | (with_reducible assumption) | assumption)
                        have q27 : x12_2 < (t383.size : Int) := of_decide_eq_true (by first | (with_reducible assumption) | assumption)
                        have hx27 := bt_at t383 x12_2
                        replace p27 := eq_true p27
                        replace q27 := eq_true q27
                        go_wp2
                        go_roundg k2
                        case measure => have := HJ6.out; have := HK2.out; omega
                        case rel => exact ⟨(decide (((Int.tmod a1 24) % 4294967296) ≥ 20)), (wrap64 (x12_2 + 1)), (by first | rfl | (simp; done) | (simp [*]; done)), (by first | rfl | (simp; done) | (simp [*]; done)), H', ⟨by have := HJ6.out; have := HK2.out; omega⟩, ⟨by (with_reducible repeat (first | refine blk_drewN ?_ _ | refine blk_drew ?_ | refine blk_alloc ?_ _)); exact BK380.out⟩, ⟨by repeat (first | (with_reducible first | exact HB.out | apply below_alloc | apply pw_below_drewN | apply below_drew1 | refine below_set ?_ GE380.out) | exact HB.out)⟩⟩
                    · rw [if_neg c28] at H
                      have c28b0 : ((bt t383 x12_2) == 97) = false := beq_eq_false_iff_ne.mpr c28
                      have c28b1 : ((bt t383 x12_2) != 97) = true := bne_iff_ne.mpr c28
                      by_cases c30 : (bt t383 x12_2) = 98
                      · rw [if_pos c30] at H
                        have c30b0 : ((bt t383 x12_2) == 98) = true := beq_iff_eq.mpr c30
                        have c30b1 : ((bt t383 x12_2) != 98) = false := bne_eq_false_iff_eq.mpr c30
                        clear c30
                        by_cases c31 : x11_2 = true
                        · subst c31
                          have H1 : (seedcornlaw07_InstFields.l0 k2 ((Int.tmod a1 24) % 4294967296) t381 t383 true (wrap64 (x12_2 + 1))) = some r := by rw [if_pos rfl] at H; exact H
                          clear H
                          have H := H1
                          clear H1
                          have H' := Aside0.mk H
                          clear H
                          have p27 : 0 ≤ (x12_2 : Int) := of_decide_eq_true (by first | (with_reducible assumption) | assumption)
                          have q27 : x12_2 < (t383.size : Int) := of_decide_eq_true (by first | (with_reducible assumption) | assumption)
                          have hx27 := bt_at t383 x12_2
                          replace p27 := eq_true p27
                          replace q27 := eq_true q27
                          go_wp2
                          go_roundg k2
                          case measure => have := HJ6.out; have := HK2.out; omega
                          case rel => exact ⟨(true), (wrap64 (x12_2 + 1)), (by first | rfl | (simp; done) | (simp [*]; done)), (by first | rfl | (simp; done) | (simp [*]; done)), H', ⟨by have := HJ6.out; have := HK2.out; omega⟩, ⟨by (with_reducible repeat (first | refine blk_drewN ?_ _ | refine blk_drew ?_ | refine blk_alloc ?_ _)); exact BK380.out⟩, ⟨by repeat (first | (with_reducible first | exact HB.out | apply below_alloc | apply pw_below_drewN | apply below_drew1 | refine below_set ?_ GE380.out) | exact HB.out)⟩⟩
                        · replace c31 := Bool.eq_false_iff.mpr c31
                          subst c31
                          have H1 : (if ((Int.tmod a1 24) % 4294967296) ≥ 16 then (seedcornlaw07_InstFields.l0 k2 ((Int.tmod a1 24) % 4294967296) t381 t383 (decide (((Int.tmod a1 24) % 4294967296) < 20)) (wrap64 (x12_2 + 1))) else (seedcornlaw07_InstFields.l0 k2 ((Int.tmod a1 24) % 4294967296) t381 t383 false (wrap64 (x12_2 + 1)))) = some r := by rw [if_neg (show ¬ (false = true) by decide)] at H; exact H
                          clear H
                          have H := H1
                          clear H1
                          by_cases c32 : ((Int.tmod a1 24) % 4294967296) ≥ 16
                          · rw [if_pos c32] at H
                            have c32b0 : decide (16 ≤ ((Int.tmod a1 24) % 4294967296)) = true := decide_eq_true c32
                            clear c32
                            have H' := Aside0.mk H
                            clear H
                            have p27 : 0 ≤ (x12_2 : Int) := of_decide_eq_true (by first | (with_reducible assumption) | assumption)
                            have q27 : x12_2 < (t383.size : Int) := of_decide_eq_true (by first | (with_reducible assumption) | assumption)
                            have hx27 := bt_at t383 x12_2
                            replace p27 := eq_true p27
                            replace q27 := eq_true q27
                            go_wp2
                            go_roundg k2
                            case measure => have := HJ6.out; have := HK2.out; omega
                            case rel => exact ⟨(decide (((Int.tmod a1 24) % 4294967296) < 20)), (wrap64 (x12_2 + 1)), (by first | rfl | (simp; done) | (simp [*]; done)), (by first | rfl | (simp; done) | (simp [*]; done)), H', ⟨by have := HJ6.out; have := HK2.out; omega⟩, ⟨by (with_reducible repeat (first | refine blk_drewN ?_ _ | refine blk_drew ?_ | refine blk_alloc ?_ _)); exact BK380.out⟩, ⟨by repeat (first | (with_reducible first | exact HB.out | apply below_alloc | apply pw_below_drewN | apply below_drew1 | refine below_set ?_ GE380.out) | exact HB.out)⟩⟩
                          · rw [if_neg c32] at H
                            have c32b0 : decide (16 ≤ ((Int.tmod a1 24) % 4294967296)) = false := decide_eq_false c32
                            clear c32
                            have H' := Aside0.mk H
                            clear H
                            have p27 : 0 ≤ (x12_2 : Int) := of_decide_eq_true (by first | (with_reducible assumption) | assumption)
                            have q27 : x12_2 < (t383.size : Int) := of_decide_eq_true (by first | (with_reducible assumption) | assumption)
                            have hx27 := bt_at t383 x12_2
                            replace p27 := eq_true p27
                            replace q27 := eq_true q27
                            go_wp2
                            go_roundg k2
                            case measure => have := HJ6.out; have := HK2.out; omega
                            case rel => exact ⟨(false), (wrap64 (x12_2 + 1)), (by first | rfl | (simp; done) | (simp [*]; done)), (by first | rfl | (simp; done) | (simp [*]; done)), H', ⟨by have := HJ6.out; have := HK2.out; omega⟩, ⟨by (with_reducible repeat (first | refine blk_drewN ?_ _ | refine blk_drew ?_ | refine blk_alloc ?_ _)); exact BK380.out⟩, ⟨by repeat (first | (with_reducible first | exact HB.out | apply below_alloc | apply pw_below_drewN | apply below_drew1 | refine below_set ?_ GE380.out) | exact HB.out)⟩⟩
                      · rw [if_neg c30] at H
                        have c30b0 : ((bt t383 x12_2) == 98) = false := beq_eq_false_iff_ne.mpr c30
                        have c30b1 : ((bt t383 x12_2) != 98) = true := bne_iff_ne.mpr c30
                        by_cases c33 : (bt t383 x12_2) = 99
                        · rw [if_pos c33] at H
                          have c33b0 : ((bt t383 x12_2) == 99) = true := beq_iff_eq.mpr c33
                          have c33b1 : ((bt t383 x12_2) != 99) = false := bne_eq_false_iff_eq.mpr c33
                          clear c33
                          by_cases c34 : x11_2 = true
                          · subst c34
                            have H1 : (seedcornlaw07_InstFields.l0 k2 ((Int.tmod a1 24) % 4294967296) t381 t383 true (wrap64 (x12_2 + 1))) = some r := by rw [if_pos rfl] at H; exact H
                            clear H
                            have H := H1
                            clear H1
                            have H' := Aside0.mk H
                            clear H
                            have p27 : 0 ≤ (x12_2 : Int) := of_decide_eq_true (by first | (with_reducible assumption) | assumption)
                            have q27 : x12_2 < (t383.size : Int) := of_decide_eq_true (by first | (with_reducible assumption) | assumption)
                            have hx27 := bt_at t383 x12_2
                            replace p27 := eq_true p27
                            replace q27 := eq_true q27
                            go_wp2
                            go_roundg k2
                            case measure => have := HJ6.out; have := HK2.out; omega
                            case rel => exact ⟨(true), (wrap64 (x12_2 + 1)), (by first | rfl | (simp; done) | (simp [*]; done)), (by first | rfl | (simp; done) | (simp [*]; done)), H', ⟨by have := HJ6.out; have := HK2.out; omega⟩, ⟨by (with_reducible repeat (first | refine blk_drewN ?_ _ | refine blk_drew ?_ | refine blk_alloc ?_ _)); exact BK380.out⟩, ⟨by repeat (first | (with_reducible first | exact HB.out | apply below_alloc | apply pw_below_drewN | apply below_drew1 | refine below_set ?_ GE380.out) | exact HB.out)⟩⟩
                          · replace c34 := Bool.eq_false_iff.mpr c34
                            subst c34
                            have H1 : (seedcornlaw07_InstFields.l0 k2 ((Int.tmod a1 24) % 4294967296) t381 t383 (decide (((Int.tmod a1 24) % 4294967296) < 16)) (wrap64 (x12_2 + 1))) = some r := by rw [if_neg (show ¬ (false = true) by decide)] at H; exact H
                            clear H
                            have H := H1
                            clear H1
                            have H' := Aside0.mk H
                            clear H
                            have p27 : 0 ≤ (x12_2 : Int) := of_decide_eq_true (by first | (with_reducible assumption) | assumption)
                            have q27 : x12_2 < (t383.size : Int) := of_decide_eq_true (by first | (with_reducible assumption) | assumption)
                            have hx27 := bt_at t383 x12_2
                            replace p27 := eq_true p27
                            replace q27 := eq_true q27
                            go_wp2
                            go_roundg k2
                            case measure => have := HJ6.out; have := HK2.out; omega
                            case rel => exact ⟨(decide (((Int.tmod a1 24) % 4294967296) < 16)), (wrap64 (x12_2 + 1)), (by first | rfl | (simp; done) | (simp [*]; done)), (by first | rfl | (simp; done) | (simp [*]; done)), H', ⟨by have := HJ6.out; have := HK2.out; omega⟩, ⟨by (with_reducible repeat (first | refine blk_drewN ?_ _ | refine blk_drew ?_ | refine blk_alloc ?_ _)); exact BK380.out⟩, ⟨by repeat (first | (with_reducible first | exact HB.out | apply below_alloc | apply pw_below_drewN | apply below_drew1 | refine below_set ?_ GE380.out) | exact HB.out)⟩⟩
                        · rw [if_neg c33] at H
                          have c33b0 : ((bt t383 x12_2) == 99) = false := beq_eq_false_iff_ne.mpr c33
                          have c33b1 : ((bt t383 x12_2) != 99) = true := bne_iff_ne.mpr c33
                          by_cases c35 : x11_2 = true
                          · subst c35
                            have H1 : (seedcornlaw07_InstFields.l0 k2 ((Int.tmod a1 24) % 4294967296) t381 t383 true (wrap64 (x12_2 + 1))) = some r := by rw [if_pos rfl] at H; exact H
                            clear H
                            have H := H1
                            clear H1
                            have H' := Aside0.mk H
                            clear H
                            have p27 : 0 ≤ (x12_2 : Int) := of_decide_eq_true (by first | (with_reducible assumption) | assumption)
                            have q27 : x12_2 < (t383.size : Int) := of_decide_eq_true (by first | (with_reducible assumption) | assumption)
                            have hx27 := bt_at t383 x12_2
                            replace p27 := eq_true p27
                            replace q27 := eq_true q27
                            go_wp2
                            go_roundg k2
                            case measure => have := HJ6.out; have := HK2.out; omega
                            case rel => exact ⟨(true), (wrap64 (x12_2 + 1)), (by first | rfl | (simp; done) | (simp [*]; done)), (by first | rfl | (simp; done) | (simp [*]; done)), H', ⟨by have := HJ6.out; have := HK2.out; omega⟩, ⟨by (with_reducible repeat (first | refine blk_drewN ?_ _ | refine blk_drew ?_ | refine blk_alloc ?_ _)); exact BK380.out⟩, ⟨by repeat (first | (with_reducible first | exact HB.out | apply below_alloc | apply pw_below_drewN | apply below_drew1 | refine below_set ?_ GE380.out) | exact HB.out)⟩⟩
                          · replace c35 := Bool.eq_false_iff.mpr c35
                            subst c35
                            have H1 : (seedcornlaw07_InstFields.l0 k2 ((Int.tmod a1 24) % 4294967296) t381 t383 (decide (((Int.tmod a1 24) % 4294967296) < 4)) (wrap64 (x12_2 + 1))) = some r := by rw [if_neg (show ¬ (false = true) by decide)] at H; exact H
                            clear H
                            have H := H1
                            clear H1
                            have H' := Aside0.mk H
                            clear H
                            have p27 : 0 ≤ (x12_2 : Int) := of_decide_eq_true (by first | (with_reducible assumption) | assumption)
                            have q27 : x12_2 < (t383.size : Int) := of_decide_eq_true (by first | (with_reducible assumption) | assumption)
                            have hx27 := bt_at t383 x12_2
                            replace p27 := eq_true p27
                            replace q27 := eq_true q27
                            go_wp2
                            go_roundg k2
                            case measure => have := HJ6.out; have := HK2.out; omega
                            case rel => exact ⟨(decide (((Int.tmod a1 24) % 4294967296) < 4)), (wrap64 (x12_2 + 1)), (by first | rfl | (simp; done) | (simp [*]; done)), (by first | rfl | (simp; done) | (simp [*]; done)), H', ⟨by have := HJ6.out; have := HK2.out; omega⟩, ⟨by (with_reducible repeat (first | refine blk_drewN ?_ _ | refine blk_drew ?_ | refine blk_alloc ?_ _)); exact BK380.out⟩, ⟨by repeat (first | (with_reducible first | exact HB.out | apply below_alloc | apply pw_below_drewN | apply below_drew1 | refine below_set ?_ GE380.out) | exact HB.out)⟩⟩
                  · rw [if_neg c26] at H
                    exact absurd H (by simp)
                · rw [if_neg c25] at H
                  have c25b0 : decide (x12_2 < (t383.size : Int)) = false := decide_eq_false c25
                  clear c25
                  replace H := Option.bind_eq_some_iff.mp H
                  obtain ⟨⟨t384, t385, t386, t387, t388⟩, A360, H⟩ := H
                  replace H : (some ((t388 == 0) == x11_2)) = some r := H
                  have A36 := Aside0.mk A360
                  clear A360
                  obtain rfl := Option.some.inj H
                  go_wp2_with (first | ((with_reducible refine gate_callee (f := 44) rfl ?_); refine goesL_ (some 110) rfl rfl Tryd.func44 (by kernel_rfl) rfl #[.int .u32 t381] rfl (by (try simp only [List.map_toArray, List.map_cons, List.map_nil]); first | done | rfl | (simp only [List.length_drop, List.length_take]; rfl)) ?_; (with_reducible refine (inst_Decode.calls t381 t384 t385 t386 t387 t388 _ ?side1 A36.out).mono ?_); (case side1 => exact GK.below HGK.out (by repeat (first | (with_reducible first | exact HB.out | apply below_alloc | apply pw_below_drewN | apply below_drew1 | refine below_set ?_ GE380.out) | exact HB.out))); rintro e w37 ⟨rfl, hb⟩; refine ⟨_, rfl, ?_⟩; have n0_ := Aside0.mk (blk_below (g := gb380) (o := .cells #[.int .i64 t375, .int .i64 t376, .int .i64 t377, .int .i64 t378] 46 (0, 0)) (by (with_reducible repeat (first | refine blk_drewN ?_ _ | refine blk_drew ?_ | refine blk_alloc ?_ _)); exact BK380.out) hb); have n1_ := Aside0.mk (below_step (by repeat (first | (with_reducible first | exact HB.out | apply below_alloc | apply pw_below_drewN | apply below_drew1 | refine below_set ?_ GE380.out) | exact HB.out)) hb); clear BK380; clear HB; have BK380 := n0_; have HB := n1_; clear n0_ n1_; (try clear hb); (try clear hb2); (try clear hk); (try clear hi)) | ((with_reducible refine gate_dst (N := 13) rfl ?_); refine box_event ?hg (N := 13) ?hd (cs := #[.int .i64 0, .int .i64 0, .int .i64 0, .int .i64 0]) (t := 46) ?hr ?_; (case hd => rfl); (case hg => rfl); (case hr => first | (go_simp; done) | (go_simp; rfl)); intro gb389 hg w38 hbox hb; have n0_ := Aside0.mk (blk_below (g := gb380) (o := .cells #[.int .i64 t375, .int .i64 t376, .int .i64 t377, .int .i64 t378] 46 (0, 0)) (by (with_reducible repeat (first | refine blk_drewN ?_ _ | refine blk_drew ?_ | refine blk_alloc ?_ _)); exact BK380.out) hb); have n1_ := Aside0.mk (below_step (by repeat (first | (with_reducible first | exact HB.out | apply below_alloc | apply pw_below_drewN | apply below_drew1 | refine below_set ?_ GE380.out) | exact HB.out)) hb); have n2_ := Aside0.mk (hbox); have n3_ := Aside0.mk ((by rw [hg]; exact (below_size (by repeat (first | (with_reducible first | exact HB.out | apply below_alloc | apply pw_below_drewN | apply below_drew1 | refine below_set ?_ GE380.out) | exact HB.out))) : w.heap.size ≤ gb389)); have n4_ := Aside0.mk ((by rw [hg]; exact (below_size (by repeat (first | (with_reducible first | exact HB.out | apply below_alloc | apply pw_below_drewN | apply below_drew1 | refine below_set ?_ GE380.out) | exact HB.out))) : w.heap.size ≤ gb389)); have n5_ := Aside0.mk ((by rw [hg]; exact Nat.ne_of_lt (blk_lt (g := gb380) (o := .cells #[.int .i64 t375, .int .i64 t376, .int .i64 t377, .int .i64 t378] 46 (0, 0)) (by (with_reducible repeat (first | refine blk_drewN ?_ _ | refine blk_drew ?_ | refine blk_alloc ?_ _)); exact BK380.out)) : gb380 ≠ gb389)); have n6_ := Aside0.mk ((by rw [hg]; exact Nat.ne_of_gt (blk_lt (g := gb380) (o := .cells #[.int .i64 t375, .int .i64 t376, .int .i64 t377, .int .i64 t378] 46 (0, 0)) (by (with_reducible repeat (first | refine blk_drewN ?_ _ | refine blk_drew ?_ | refine blk_alloc ?_ _)); exact BK380.out)) : gb389 ≠ gb380)); clear BK380; clear HB; have BK380 := n0_; have HB := n1_; have BK389 := n2_; have GW389 := n3_; have GE389 := n4_; have NB380_389 := n5_; have NB389_380 := n6_; clear n0_ n1_ n2_ n3_ n4_ n5_ n6_; clear hb hbox hg; have hnb39 := NB389_380.out; have hnc39 := NB380_389.out; have hcz40_0 : w38.cell? ⟨gb389, 0, none⟩ = some (.int .i64 0) := (blk_cell BK389.out 0).trans rfl; have hcz40_1 : w38.cell? ⟨gb389, 1, none⟩ = some (.int .i64 0) := (blk_cell BK389.out 1).trans rfl; have hcz40_2 : w38.cell? ⟨gb389, 2, none⟩ = some (.int .i64 0) := (blk_cell BK389.out 2).trans rfl; have hcz40_3 : w38.cell? ⟨gb389, 3, none⟩ = some (.int .i64 0) := (blk_cell BK389.out 3).trans rfl; have hfz40_0 := blk_frozen BK389.out 0; have hfz40_1 := blk_frozen BK389.out 1; have hfz40_2 := blk_frozen BK389.out 2; have hfz40_3 := blk_frozen BK389.out 3))
                  go_ret
                  exact ⟨by first | rfl | (simp [errW_none, errW_some] <;> rfl) | (simp only [← hji20]; first | rfl | (simp [errW_none, errW_some] <;> rfl)) | (simp [*, errW_none, errW_some] <;> rfl), by repeat (first | (with_reducible first | exact HB.out | apply below_alloc | apply pw_below_drewN | apply below_drew1 | refine below_set ?_ GE380.out | refine below_set ?_ GE389.out) | exact HB.out)⟩
    · rw [if_neg c6] at H
      have c6b0 : (t379 == 0) = false := beq_eq_false_iff_ne.mpr c6
      have c6b1 : (t379 != 0) = true := bne_iff_ne.mpr c6
      obtain rfl := Option.some.inj H
      go_enter Tryd.func13, Tryd.ntmps13
      go_wp2_with (first | ((with_reducible refine gate_callee (f := 37) rfl ?_); refine goesL_ (some 15) rfl rfl Tryd.func37 (by kernel_rfl) rfl #[] rfl (by (try simp only [List.map_toArray, List.map_cons, List.map_nil]); first | done | rfl | (simp only [List.length_drop, List.length_take]; rfl)) ?_; (with_reducible refine (seedcornlaw07_alive.calls  true _ ?side1 ?side2 A3.out).mono ?_); (case side1 => exact GK.below HGK.out (by repeat (first | (with_reducible first | exact HB.out | apply below_alloc | apply pw_below_drewN | apply below_drew1) | exact HB.out))); (case side2 => exact GT.below HGT.out (by repeat (first | (with_reducible first | exact HB.out | apply below_alloc | apply pw_below_drewN | apply below_drew1) | exact HB.out))); rintro e w41 ⟨rfl, hb⟩; refine ⟨_, rfl, ?_⟩; have n0_ := Aside0.mk (below_step (by repeat (first | (with_reducible first | exact HB.out | apply below_alloc | apply pw_below_drewN | apply below_drew1) | exact HB.out)) hb); clear HB; have HB := n0_; clear n0_; (try clear hb); (try clear hb2); (try clear hk); (try clear hi)) | ((with_reducible refine gate_callee (f := 44) rfl ?_); refine goesL_ (some 19) rfl rfl Tryd.func44 (by kernel_rfl) rfl #[.int .u32 a0] rfl (by (try simp only [List.map_toArray, List.map_cons, List.map_nil]); first | done | rfl | (simp only [List.length_drop, List.length_take]; rfl)) ?_; (with_reducible refine (inst_Decode.calls a0 t375 t376 t377 t378 t379 _ ?side1 A5.out).mono ?_); (case side1 => exact GK.below HGK.out (by repeat (first | (with_reducible first | exact HB.out | apply below_alloc | apply pw_below_drewN | apply below_drew1) | exact HB.out))); rintro e w42 ⟨rfl, hb⟩; refine ⟨_, rfl, ?_⟩; have n0_ := Aside0.mk (below_step (by repeat (first | (with_reducible first | exact HB.out | apply below_alloc | apply pw_below_drewN | apply below_drew1) | exact HB.out)) hb); clear HB; have HB := n0_; clear n0_; (try clear hb); (try clear hb2); (try clear hk); (try clear hi)) | ((with_reducible refine gate_dst (N := 5) rfl ?_); refine box_event ?hg (N := 5) ?hd (cs := #[.int .i64 0, .int .i64 0, .int .i64 0, .int .i64 0]) (t := 46) ?hr ?_; (case hd => rfl); (case hg => rfl); (case hr => first | (go_simp; done) | (go_simp; rfl)); intro gb380 hg w43 hbox hb; have n0_ := Aside0.mk (below_step (by repeat (first | (with_reducible first | exact HB.out | apply below_alloc | apply pw_below_drewN | apply below_drew1) | exact HB.out)) hb); have n1_ := Aside0.mk (hbox); have n2_ := Aside0.mk ((by rw [hg]; exact (below_size (by repeat (first | (with_reducible first | exact HB.out | apply below_alloc | apply pw_below_drewN | apply below_drew1) | exact HB.out))) : w.heap.size ≤ gb380)); have n3_ := Aside0.mk ((by rw [hg]; exact (below_size (by repeat (first | (with_reducible first | exact HB.out | apply below_alloc | apply pw_below_drewN | apply below_drew1) | exact HB.out))) : w.heap.size ≤ gb380)); clear HB; have HB := n0_; have BK380 := n1_; have GW380 := n2_; have GE380 := n3_; clear n0_ n1_ n2_ n3_; clear hb hbox hg; have hcz44_0 : w43.cell? ⟨gb380, 0, none⟩ = some (.int .i64 0) := (blk_cell BK380.out 0).trans rfl; have hcz44_1 : w43.cell? ⟨gb380, 1, none⟩ = some (.int .i64 0) := (blk_cell BK380.out 1).trans rfl; have hcz44_2 : w43.cell? ⟨gb380, 2, none⟩ = some (.int .i64 0) := (blk_cell BK380.out 2).trans rfl; have hcz44_3 : w43.cell? ⟨gb380, 3, none⟩ = some (.int .i64 0) := (blk_cell BK380.out 3).trans rfl; have hfz44_0 := blk_frozen BK380.out 0; have hfz44_1 := blk_frozen BK380.out 1; have hfz44_2 := blk_frozen BK380.out 2; have hfz44_3 := blk_frozen BK380.out 3))
      go_ret
      exact ⟨by first | rfl | (simp [errW_none, errW_some] <;> rfl) | (simp [*, errW_none, errW_some] <;> rfl), by repeat (first | (with_reducible first | exact HB.out | apply below_alloc | apply pw_below_drewN | apply below_drew1 | refine below_set ?_ GE380.out) | exact HB.out)⟩
  · replace c4 := Bool.eq_false_iff.mpr c4
    subst c4
    have H1 : (some false) = some r := by rw [if_neg (show ¬ (false = true) by decide)] at H; exact H
    clear H
    have H := H1
    clear H1
    obtain rfl := Option.some.inj H
    go_enter Tryd.func13, Tryd.ntmps13
    go_wp2_with (first | ((with_reducible refine gate_callee (f := 37) rfl ?_); refine goesL_ (some 15) rfl rfl Tryd.func37 (by kernel_rfl) rfl #[] rfl (by (try simp only [List.map_toArray, List.map_cons, List.map_nil]); first | done | rfl | (simp only [List.length_drop, List.length_take]; rfl)) ?_; (with_reducible refine (seedcornlaw07_alive.calls  false _ ?side1 ?side2 A3.out).mono ?_); (case side1 => exact GK.below HGK.out (by repeat (first | (with_reducible first | exact HB.out | apply below_alloc | apply pw_below_drewN | apply below_drew1) | exact HB.out))); (case side2 => exact GT.below HGT.out (by repeat (first | (with_reducible first | exact HB.out | apply below_alloc | apply pw_below_drewN | apply below_drew1) | exact HB.out))); rintro e w45 ⟨rfl, hb⟩; refine ⟨_, rfl, ?_⟩; have n0_ := Aside0.mk (below_step (by repeat (first | (with_reducible first | exact HB.out | apply below_alloc | apply pw_below_drewN | apply below_drew1) | exact HB.out)) hb); clear HB; have HB := n0_; clear n0_; (try clear hb); (try clear hb2); (try clear hk); (try clear hi)))
    go_ret
    exact ⟨by first | rfl | (simp [errW_none, errW_some] <;> rfl) | (simp [*, errW_none, errW_some] <;> rfl), by repeat (first | (with_reducible first | exact HB.out | apply below_alloc | apply pw_below_drewN | apply below_drew1) | exact HB.out)⟩
end Go.Proofs.YtdhkmdgieflioaaDoor.F
namespace Go.Proofs.YtdhkmdgieflioaaDoor.F
open Go.RowKit Go.Proofs.YtdhkmdgieflioaaDoorW.PrintWords Go.Proofs.YtdhkmdgieflioaaDoorW.PrintLast Go.Proofs.YtdhkmdgieflioaaDoorW.PrintMore
set_option linter.unusedVariables false
set_option linter.unusedSimpArgs false
open Go.ChangeShapes
section
variable {H : Type} {enc : TypeId × Value → H} {P : Program} {w : World} {base : Nat} {spare : Nat → Bool} {held : Bool} {fuel : Nat} {t : TypeId} {cs : List Value}
theorem list_ext_parts (m : Nat) (hm : 0 < m) : ∀ (n : Nat) (cs : List Value) (gs : List (List Value)), cs.length = n * m → gs.length = n → (∀ i, i < n → (cs.drop (i * m)).take m = gs.getD i []) → cs = gs.flatMap id
  | 0, cs, gs, hl, hg, _ => by
    have h1 : cs = [] := List.eq_nil_of_length_eq_zero (by omega)
    have h2 : gs = [] := List.eq_nil_of_length_eq_zero hg
    subst h1 h2
    rfl
  | n + 1, cs, gs, hl, hg, h => by
    match gs, hg with
    | g :: gs, hg =>
      have h0 : cs.take m = g := by have := h 0 (by omega); simpa using this
      have hr := list_ext_parts m hm n (cs.drop m) gs (by rw [List.length_drop, hl, Nat.add_mul]; omega) (by simpa using hg) (fun i hi => by
        have := h (i + 1) (by omega)
        rw [List.drop_drop, show m + i * m = (i + 1) * m by rw [Nat.add_mul]; omega, this]
        rfl)
      rw [List.flatMap_cons, ← hr]
      show cs = g ++ cs.drop m
      rw [← h0, List.take_append_drop]
theorem cells_of_rows {n e m : Nat} (fl : DataW H → List Value) (ht : P.underlying t = some (.array n e)) (hm : 0 < m) (hce : P.cellsOf e = m) (hct : P.cellsOf t = n * m)
    (hel : ∀ (f : Nat) (c : List Value) (x : DataW H × List MemPlace), DataW.trod enc P w base spare held f e c = some x → c = fl x.1)
    {Ds : List (DataW H)} {p : List MemPlace} (h : DataW.trod enc P w base spare held fuel t cs = some (.agg Ds, p)) : cs = (Ds.map fl).flatMap id := by
  obtain ⟨xs, f, _, hx, hl, hn, hi⟩ := DataW.trod_array ht h
  have hD : Ds = xs.map (·.1) := by have := congrArg Prod.fst hx; simpa using this
  refine list_ext_parts m hm n cs _ (by rw [hl, hct]) (by rw [List.length_map, hD, List.length_map, hn]) (fun i hlt => ?_)
  have h1 := hi i hlt
  rw [hce] at h1
  have h2 : i < xs.length := by omega
  rw [List.getElem?_eq_getElem h2] at h1
  have h3 := hel _ _ _ h1
  rw [h3, hD]
  simp [List.getD_eq_getElem?_getD, h2]
end
def flKind {H : Type} : DataW H → List Value
  | .agg [.lit (.string a), .lit (.string b)] => [.string ⟨a.toArray⟩, .string ⟨b.toArray⟩]
  | _ => []
theorem split2 {α : Type} (l : List α) (k : Nat) : l = l.take k ++ l.drop k := (List.take_append_drop k l).symm
theorem fl_kind {H : Type} {enc : TypeId × Value → H} {w : World} {base : Nat} {spare : Nat → Bool} {held : Bool} (f : Nat) (c : List Value) (x : DataW H × List MemPlace) (h : DataW.trod enc Tryd.prog w base spare held f 89 c = some x) : c = flKind x.1 := by
  obtain ⟨y0, y1, n, rfl, hl, h0, h1⟩ := trod_struct2 Tryd.underlying89 h
  have c9 : Tryd.prog.cellsOf 9 = 1 := by kernel_rfl
  have c89 : Tryd.prog.cellsOf 89 = 2 := by kernel_rfl
  rw [c89] at hl
  obtain ⟨s0, e0, rfl, _⟩ := DataW.trod_string Tryd.underlying9 h0
  obtain ⟨s1, e1, rfl, _⟩ := DataW.trod_string Tryd.underlying9 h1
  have e0' : c.take 1 = [.string s0] := by have h := e0; rw [c9] at h; exact h
  have e1' : (c.drop 1).take 1 = [.string s1] := by have h := e1; rw [c9] at h; exact h
  have hd : (c.drop 1).take 1 = c.drop 1 := List.take_of_length_le (by rw [List.length_drop, hl]; decide)
  rw [split2 c 1, e0', ← hd, e1']
  rfl
theorem tyKinds : (Tryd.prog.globals[0]?).map (·.type) = some 90 := by kernel_rfl
theorem tyPow : (Tryd.prog.globals[2]?).map (·.type) = some 154 := by kernel_rfl
theorem gk_of {W : World} {rest : List (String × DataW Unit)} (h : laidMet Tryd.prog (("seedcorn/inst.kinds", Rows.laid_seedcorn_inst_kinds) :: rest) W) : GK W := by
  obtain ⟨ps, ⟨g', t', cs, fuel, p, q, hg', ht', hvar, hd, _, _⟩, _⟩ := h
  obtain rfl := Option.some.inj (g_kinds.symm.trans hg')
  obtain rfl := Option.some.inj (tyKinds.symm.trans ht')
  have hc := cells_of_rows (n := 28) (e := 89) (m := 2) flKind Tryd.underlying90 (by omega) (by kernel_rfl) (by kernel_rfl) fl_kind hd
  refine ⟨?_⟩
  rw [hvar]
  cases cs with
  | mk l =>
    simp only at hc
    subst hc
    rfl
theorem cp154 : Tryd.prog.cellsOf 154 = 20 := by kernel_rfl
theorem cp96 : Tryd.prog.cellsOf 96 = 1 := by kernel_rfl
theorem gt_of {W : World} {rest : List (String × DataW Unit)} (h : laidMet Tryd.prog (("internal/strconv.uint64pow10", Rows.laid_internal_strconv_uint64pow10) :: rest) W) : GT W :=
  ⟨Lib.tabIs_of_head (zs := Lib.pow10Tab) g_pow tyPow Tryd.underlying154 Tryd.underlying96 cp96 cp154 h⟩
theorem laid_inst {W : World} (h : laidMet Tryd.prog [("math/bits.deBruijn32tab", Rows.laid_math_bits_deBruijn32tab), ("math/bits.deBruijn64tab", Rows.laid_math_bits_deBruijn64tab), ("internal/strconv.uint64pow10", Rows.laid_internal_strconv_uint64pow10), ("seedcorn/inst.kinds", Rows.laid_seedcorn_inst_kinds)] W) : GT W ∧ GK W := ⟨gt_of h.tail.tail, gk_of h.tail.tail.tail⟩
end Go.Proofs.YtdhkmdgieflioaaDoor.F
namespace Go.Proofs.YtdhkmdgieflioaaDoor.F
open Go.RowKit Go.Proofs.YtdhkmdgieflioaaDoorW.PrintWords Go.Proofs.YtdhkmdgieflioaaDoorW.PrintLast Go.Proofs.YtdhkmdgieflioaaDoorW.PrintMore
set_option linter.unusedVariables false
set_option linter.unusedSimpArgs false
def bitsR : Nat → Nat → List Int
  | 0, _ => []
  | k + 1, a => ((a % 2 : Nat) : Int) :: bitsR k (a / 2)
theorem bitsR_len : ∀ k a, (bitsR k a).length = k
  | 0, _ => rfl
  | k + 1, a => by simp [bitsR, bitsR_len k]
theorem wrap_id (x : Int) (h0 : -9223372036854775808 ≤ x) (h1 : x < 9223372036854775808) : wrap64 x = x := by
  unfold wrap64; omega
theorem wr0 : wrap64 0 = 0 := wrap_id 0 (by omega) (by omega)
theorem wr1 : wrap64 1 = 1 := wrap_id 1 (by omega) (by omega)
theorem wr2 : wrap64 2 = 2 := wrap_id 2 (by omega) (by omega)
theorem bits_l0 : ∀ (n k : Nat) (a : Nat) (xs : List Int) (i : Nat), n < k → i + n = 32 → xs.length = i → a < 4294967296 → seedcornref01_Bits.l0 k a xs i = some (xs ++ bitsR n a)
  | 0, k, a, xs, i, hk, hi, hx, ha => by
    obtain ⟨k, rfl⟩ : ∃ k', k = k' + 1 := ⟨k - 1, by omega⟩
    unfold seedcornref01_Bits.l0
    rw [if_neg (by omega)]
    simp [bitsR]
  | n + 1, k, a, xs, i, hk, hi, hx, ha => by
    obtain ⟨k, rfl⟩ : ∃ k', k = k' + 1 := ⟨k - 1, by omega⟩
    unfold seedcornref01_Bits.l0
    rw [if_pos (by omega), if_pos (by omega)]
    have e1 : Int.tdiv (a : Int) 2 % 4294967296 = ((a / 2 : Nat) : Int) := by
      rw [Int.tdiv_eq_ediv_of_nonneg (by omega)]; omega
    have e2 : wrap64 (Int.tmod (a : Int) 2) = ((a % 2 : Nat) : Int) := by
      rw [Int.tmod_eq_emod_of_nonneg (by omega), wrap_id _ (by omega) (by omega)]; omega
    have e3 : wrap64 ((i : Int) + 1) = ((i + 1 : Nat) : Int) := by rw [wrap_id _ (by omega) (by omega)]; omega
    rw [e1, e2, e3, bits_l0 n k (a / 2) _ (i + 1) (by omega) (by omega) (by simp [hx]) (by omega)]
    simp [bitsR]
theorem bits_f (a : Nat) (ha : a < 4294967296) : seedcornref01_Bits.f 40 a = some (bitsR 32 a) := by
  have := bits_l0 32 40 a [] 0 (by omega) (by omega) rfl ha
  simpa [seedcornref01_Bits.f] using this
theorem both_l0 (op : Int) : ∀ (n : Nat) (pre pre' xs ys : List Int), xs.length = n → ys.length = n → pre.length = pre'.length → both.l0 n op (pre ++ xs) (pre' ++ ys) pre.length = pre ++ List.zipWith (both1 op) xs ys
  | 0, pre, pre', xs, ys, hx, hy, hp => by
    have := List.length_eq_zero_iff.1 hx
    subst this
    simp [both.l0]
  | n + 1, pre, pre', xs, ys, hx, hy, hp => by
    obtain ⟨x, xs, rfl⟩ : ∃ x t, xs = x :: t := by cases xs with
      | nil => simp at hx
      | cons x t => exact ⟨x, t, rfl⟩
    obtain ⟨y, ys, rfl⟩ : ∃ x t, ys = x :: t := by cases ys with
      | nil => simp at hy
      | cons x t => exact ⟨x, t, rfl⟩
    unfold both.l0
    have e1 : rd (pre ++ x :: xs) pre.length = x := by simp [rd]
    have e2 : rd (pre' ++ y :: ys) pre.length = y := by simp [rd, hp]
    rw [e1, e2]
    have e3 : (pre ++ x :: xs).set pre.length (both1 op x y) = (pre ++ [both1 op x y]) ++ xs := by simp
    have e4 : pre' ++ y :: ys = (pre' ++ [y]) ++ ys := by simp
    rw [e3, e4]
    have := both_l0 op n (pre ++ [both1 op x y]) (pre' ++ [y]) xs ys (by simpa using hx) (by simpa using hy) (by simp [hp])
    simp only [List.length_append, List.length_singleton] at this
    rw [this]
    simp
def val : List Int → Nat
  | [] => 0
  | b :: t => b.toNat + 2 * val t
theorem val_append : ∀ (xs : List Int) (x : Int), val (xs ++ [x]) = val xs + x.toNat * 2 ^ xs.length
  | [], x => by simp [val]
  | b :: t, x => by
    simp only [List.cons_append, val, val_append t x, List.length_cons, Nat.pow_succ]
    have e : x.toNat * (2 ^ t.length * 2) = 2 * (x.toNat * 2 ^ t.length) := by rw [← Nat.mul_assoc, Nat.mul_comm]
    rw [e, Nat.mul_add]
    omega
theorem of_l0 (xs : List Int) (h01 : ∀ x ∈ xs, x = 0 ∨ x = 1) (hl : xs.length = 32) : ∀ (m k : Nat) (n : Nat), m < k → m ≤ 32 → n * 2 ^ m + 2 ^ m ≤ 2 ^ 32 →
    seedcornref01_Of.l0 k xs (n : Int) ((m : Int) - 1) = some (((n * 2 ^ m + val (xs.take m) : Nat) : Int))
  | 0, k, n, hk, hm, hn => by
    obtain ⟨k, rfl⟩ : ∃ k', k = k' + 1 := ⟨k - 1, by omega⟩
    unfold seedcornref01_Of.l0
    rw [if_neg (by omega)]
    simp only [Nat.pow_zero, Nat.mul_one, List.take_zero, val, Nat.add_zero] at hn ⊢
    rw [Int.tmod_eq_emod_of_nonneg (by omega)]
    have : (2 : Nat) ^ 32 = 4294967296 := by decide
    congr 1
    omega
  | m + 1, k, n, hk, hm, hn => by
    obtain ⟨k, rfl⟩ : ∃ k', k = k' + 1 := ⟨k - 1, by omega⟩
    have hlt : m < xs.length := by omega
    have hx : rd xs (((m + 1 : Nat) : Int) - 1) = xs[m] := by
      have : (((m + 1 : Nat) : Int) - 1).toNat = m := by omega
      simp [rd, this, List.getD_eq_getElem?_getD, List.getElem?_eq_getElem hlt]
    have hb := h01 _ (List.getElem_mem hlt)
    have h2 : (2 : Nat) ^ 32 = 4294967296 := by decide
    have h1m : 1 ≤ 2 ^ m := Nat.one_le_two_pow
    have hnn : n * 2 ^ (m + 1) = (2 * n) * 2 ^ m := by rw [Nat.pow_succ]; rw [Nat.mul_comm (2 ^ m) 2, ← Nat.mul_assoc, Nat.mul_comm n 2]
    have hp : 2 ^ (m + 1) = 2 * 2 ^ m := by rw [Nat.pow_succ, Nat.mul_comm]
    have hle : 2 * n ≤ (2 * n) * 2 ^ m := Nat.le_mul_of_pos_right _ (by omega)
    unfold seedcornref01_Of.l0
    rw [if_pos (by omega), if_pos (by omega), if_pos (by omega), hx]
    have e1 : IntKind.u64.wrap (IntKind.u64.wrap (2 * (n : Int)) + IntKind.u64.wrap xs[m]) = ((2 * n + xs[m].toNat : Nat) : Int) := by
      simp only [IntKind.wrap_u64]
      omega
    have e2 : wrap64 ((((m + 1 : Nat) : Int) - 1) - 1) = (m : Int) - 1 := by rw [wrap_id _ (by omega) (by omega)]; omega
    rw [e1, e2, of_l0 xs h01 hl m k (2 * n + xs[m].toNat) (by omega) (by omega) ?_]
    · congr 2
      rw [List.take_add_one, List.getElem?_eq_getElem hlt]
      simp only [Option.toList]
      rw [val_append, List.length_take, Nat.min_eq_left (by omega), hnn, Nat.add_mul]
      omega
    · rw [Nat.add_mul]
      have : xs[m].toNat * 2 ^ m ≤ 1 * 2 ^ m := Nat.mul_le_mul_right _ (by omega)
      omega
theorem of_f (xs : List Int) (h01 : ∀ x ∈ xs, x = 0 ∨ x = 1) (hl : xs.length = 32) : seedcornref01_Of.f 40 xs = some ((val xs : Nat) : Int) := by
  have h := of_l0 xs h01 hl 32 40 0 (by omega) (by omega) (by omega)
  rw [List.take_of_length_le (by omega)] at h
  unfold seedcornref01_Of.f
  rw [hl]
  have e : wrap64 (((32 : Nat) : Int) - 1) = ((32 : Nat) : Int) - 1 := wrap_id _ (by omega) (by omega)
  rw [e]
  simpa using h
def comb (op : Int) (a b : Nat) : Nat := if op = 9 then a &&& b else if op = 10 then a ||| b else a ^^^ b
theorem comb_step (op : Int) (hop : op = 9 ∨ op = 10 ∨ op = 11) (a b : Nat) : (both1 op ((a % 2 : Nat) : Int) ((b % 2 : Nat) : Int)).toNat = comb op a b % 2 ∧ comb op (a / 2) (b / 2) = comb op a b / 2 := by
  have ha : a % 2 = 0 ∨ a % 2 = 1 := by omega
  have hb : b % 2 = 0 ∨ b % 2 = 1 := by omega
  constructor
  · rcases hop with rfl | rfl | rfl <;> simp only [comb] <;> (have h1 := Nat.and_mod_two_pow (a := a) (b := b) (n := 1); have h2 := Nat.or_mod_two_pow (a := a) (b := b) (n := 1); have h3 := Nat.xor_mod_two_pow (a := a) (b := b) (n := 1); simp only [Nat.pow_one] at h1 h2 h3; rcases ha with ha | ha <;> rcases hb with hb | hb <;> simp [h1, h2, h3, ha, hb, both1, wr0, wr1, wr2])
  · rcases hop with rfl | rfl | rfl <;> simp only [comb] <;> simp [Nat.and_div_two, Nat.or_div_two, Nat.xor_div_two]
theorem val_zip (op : Int) (hop : op = 9 ∨ op = 10 ∨ op = 11) : ∀ (k a b : Nat), val (List.zipWith (both1 op) (bitsR k a) (bitsR k b)) = comb op a b % 2 ^ k
  | 0, a, b => by simp [val, bitsR]; omega
  | k + 1, a, b => by
    obtain ⟨h1, h2⟩ := comb_step op hop a b
    simp only [bitsR, List.zipWith_cons_cons, val, val_zip op hop k]
    rw [h1, h2, Nat.pow_succ, Nat.mul_comm (2 ^ k) 2, Nat.mod_mul]
theorem zip_01 (op : Int) : ∀ xs ys : List Int, ∀ x ∈ List.zipWith (both1 op) xs ys, x = 0 ∨ x = 1
  | [], ys => by simp
  | _ :: _, [] => by simp
  | a :: xs, b :: ys => by
    intro x hx
    rw [List.zipWith_cons_cons] at hx
    rcases List.mem_cons.1 hx with rfl | hx
    · unfold both1; split <;> omega
    · exact zip_01 op xs ys x hx
theorem both_f (op : Int) (hop : op = 9 ∨ op = 10 ∨ op = 11) (a b : Int) (h1 : 0 ≤ a) (h2 : a < 4294967296) (h3 : 0 ≤ b) (h4 : b < 4294967296) : seedcornref01_both.f op a b = some ((comb op a.toNat b.toNat : Nat) : Int) := by
  obtain ⟨a, rfl⟩ := Int.eq_ofNat_of_zero_le h1
  obtain ⟨b, rfl⟩ := Int.eq_ofNat_of_zero_le h3
  unfold seedcornref01_both.f
  rw [bits_f a (by omega), bits_f b (by omega)]
  simp only [Option.bind_some, bitsR_len, and_self, if_true]
  have := both_l0 op 32 [] [] (bitsR 32 a) (bitsR 32 b) (bitsR_len _ _) (bitsR_len _ _) rfl
  simp only [List.nil_append, List.length_nil] at this
  rw [this, of_f _ (zip_01 op _ _) (by simp [bitsR_len]), val_zip op hop]
  have hlt : comb op a b < 2 ^ 32 := by
    have e : (2 : Nat) ^ 32 = 4294967296 := by decide
    unfold comb
    split
    · exact Nat.and_lt_two_pow _ (by omega)
    · split
      · exact Nat.or_lt_two_pow (by omega) (by omega)
      · exact Nat.xor_lt_two_pow (by omega) (by omega)
  rw [Nat.mod_eq_of_lt hlt]
  simp
theorem apply_xor (a b : Int) (h1 : 0 ≤ a) (h2 : a < 4294967296) (h3 : 0 ≤ b) (h4 : b < 4294967296) : seedcornref01_Apply.f 40 11 a b = some (((a.toNat ^^^ b.toNat : Nat) : Int), 0) := by
  have h := both_f 11 (Or.inr (Or.inr rfl)) a b h1 h2 h3 h4
  simp [seedcornref01_Apply.f, seedcornref01_Apply.j0, h, comb]
end Go.Proofs.YtdhkmdgieflioaaDoor.F
namespace Go.Proofs.YtdhkmdgieflioaaDoor.F
open Go.RowKit Go.Proofs.YtdhkmdgieflioaaDoorW.PrintWords Go.Proofs.YtdhkmdgieflioaaDoorW.PrintLast Go.Proofs.YtdhkmdgieflioaaDoorW.PrintMore
set_option linter.unusedVariables false
set_option linter.unusedSimpArgs false
theorem xor_one (m : Nat) : m ^^^ 1 = if m % 2 = 0 then m + 1 else m - 1 := by
  have h1 : (m ^^^ 1) / 2 = m / 2 := by
    have := @Nat.xor_div_two m 1
    simpa using this
  have h2 : (m ^^^ 1) % 2 = (m % 2) ^^^ 1 := by
    have := @Nat.xor_mod_two_pow m 1 1
    simpa using this
  rcases Nat.mod_two_eq_zero_or_one m with h | h
  · rw [h] at h2
    have : (0 ^^^ 1 : Nat) = 1 := by decide
    rw [if_pos h]
    omega
  · rw [h] at h2
    have : (1 ^^^ 1 : Nat) = 0 := by decide
    rw [if_neg (by omega)]
    omega
theorem xor_pow (n b : Nat) : ∃ m r, n = 2 ^ b * m + r ∧ r < 2 ^ b ∧ ((m % 2 = 0 ∧ n ^^^ 2 ^ b = 2 ^ b * (m + 1) + r) ∨ (m % 2 = 1 ∧ n ^^^ 2 ^ b = 2 ^ b * (m - 1) + r)) := by
  have hp : 0 < 2 ^ b := Nat.two_pow_pos b
  refine ⟨n / 2 ^ b, n % 2 ^ b, (Nat.div_add_mod n (2 ^ b)).symm, Nat.mod_lt _ hp, ?_⟩
  have h1 : (n ^^^ 2 ^ b) / 2 ^ b = (n / 2 ^ b) ^^^ 1 := by
    have := @Nat.xor_div_two_pow n (2 ^ b) b
    rw [this, Nat.div_self hp]
  have h2 : (n ^^^ 2 ^ b) % 2 ^ b = n % 2 ^ b := by
    have := @Nat.xor_mod_two_pow n (2 ^ b) b
    rw [this, Nat.mod_self, Nat.xor_zero]
  have h3 := Nat.div_add_mod (n ^^^ 2 ^ b) (2 ^ b)
  rw [h1, h2, xor_one] at h3
  rcases Nat.mod_two_eq_zero_or_one (n / 2 ^ b) with h | h
  · rw [if_pos h] at h3
    exact Or.inl ⟨h, h3.symm⟩
  · rw [if_neg (by omega)] at h3
    exact Or.inr ⟨h, h3.symm⟩
theorem flip_fields (n b : Nat) (hb : b < 24) (hn : n < 4294967296) (z : Nat) (hz : z = n ^^^ 2 ^ b) : z < 4294967296 ∧ z / 16777216 = n / 16777216 ∧ (20 ≤ b → z / 1048576 % 16 ≠ n / 1048576 % 16) ∧ (b < 20 → z / 1048576 % 16 = n / 1048576 % 16) ∧
    ((16 ≤ b ∧ b < 20) → z / 65536 % 16 ≠ n / 65536 % 16) ∧ ((b < 16 ∨ 20 ≤ b) → z / 65536 % 16 = n / 65536 % 16) ∧ (b < 16 → z % 65536 ≠ n % 65536) ∧ (16 ≤ b → z % 65536 = n % 65536) ∧ (b < 4 → z % 65536 / 16 = n % 65536 / 16) ∧ ((4 ≤ b ∧ b < 16) → z % 65536 / 16 ≠ n % 65536 / 16) := by
  obtain ⟨m, r, e, hr, h⟩ := xor_pow n b
  rw [← hz] at h
  clear hz
  have hc : b = 0 ∨ b = 1 ∨ b = 2 ∨ b = 3 ∨ b = 4 ∨ b = 5 ∨ b = 6 ∨ b = 7 ∨ b = 8 ∨ b = 9 ∨ b = 10 ∨ b = 11 ∨ b = 12 ∨ b = 13 ∨ b = 14 ∨ b = 15 ∨ b = 16 ∨ b = 17 ∨ b = 18 ∨ b = 19 ∨ b = 20 ∨ b = 21 ∨ b = 22 ∨ b = 23 := by omega
  rcases hc with rfl | rfl | rfl | rfl | rfl | rfl | rfl | rfl | rfl | rfl | rfl | rfl | rfl | rfl | rfl | rfl | rfl | rfl | rfl | rfl | rfl | rfl | rfl | rfl
  all_goals (simp only [Nat.reducePow] at e hr h; refine ⟨?_, ?_, ?_, ?_, ?_, ?_, ?_, ?_, ?_, ?_⟩ <;> omega)
end Go.Proofs.YtdhkmdgieflioaaDoor.F
namespace Go.Proofs.YtdhkmdgieflioaaDoor.F
open Go.RowKit Go.Proofs.YtdhkmdgieflioaaDoorW.PrintWords Go.Proofs.YtdhkmdgieflioaaDoorW.PrintLast Go.Proofs.YtdhkmdgieflioaaDoorW.PrintMore
set_option linter.unusedVariables false
set_option linter.unusedSimpArgs false
theorem wrapI {x : Int} (h0 : -9223372036854775808 ≤ x) (h1 : x ≤ 9223372036854775807) : wrap64 x = x := by unfold wrap64; omega
theorem alive_f : seedcornlaw07_alive.f = some true := by kernel_rfl
end Go.Proofs.YtdhkmdgieflioaaDoor.F
namespace Go.Proofs.YtdhkmdgieflioaaDoor.F
open Go.RowKit Go.Proofs.YtdhkmdgieflioaaDoorW.PrintWords Go.Proofs.YtdhkmdgieflioaaDoorW.PrintLast Go.Proofs.YtdhkmdgieflioaaDoorW.PrintMore
attribute [local go_sem] max2_int min2_int max_two min_two max_three min_three max_four min_four
set_option linter.unusedVariables false
set_option linter.unusedSimpArgs false
theorem eqA46 (d : Nat) (w : World) (x0 y0 : Int) (x1 y1 : Int) (x2 y2 : Int) (x3 y3 : Int) :
    (Op.equalIn (d + 2) 46 (.agg #[.int .i64 x0, .int .i64 x1, .int .i64 x2, .int .i64 x3]) (.agg #[.int .i64 y0, .int .i64 y1, .int .i64 y2, .int .i64 y3])).run Tryd.prog w = .ok (x0 == y0 && (x1 == y1 && (x2 == y2 && (x3 == y3)))) w := by
  refine eqA_of Tryd.underlying46 (by kernel_rfl) ?_
  refine eqf_cons (by rfl) (by go_simp; rfl) (by go_simp; rfl) (by go_simp) ?_
  refine eqf_cons (by rfl) (by go_simp; rfl) (by go_simp; rfl) (by go_simp) ?_
  refine eqf_cons (by rfl) (by go_simp; rfl) (by go_simp; rfl) (by go_simp) ?_
  exact eqf_last (by rfl) (by go_simp; rfl) (by go_simp; rfl) (by go_simp)
end Go.Proofs.YtdhkmdgieflioaaDoor.F
namespace Go.Proofs.YtdhkmdgieflioaaDoor.F
open Go.RowKit Go.Proofs.YtdhkmdgieflioaaDoorW.PrintWords Go.Proofs.YtdhkmdgieflioaaDoorW.PrintLast Go.Proofs.YtdhkmdgieflioaaDoorW.PrintMore
set_option linter.unusedVariables false
set_option linter.unusedSimpArgs false
def wB (h : Bool) (x m : Int) : Bool := if h = true then (if x ≥ 0 then decide (x ≤ m) else false) else x == 0
theorem hasB_w (p : ByteArray) (c n m : Int) (h : Bool) (hh : decide (Lib.indexByte p.data.toList c.toNat.toUInt8 < 0) = !h) : hasB p c n m = wB h n m := by
  unfold hasB wB
  cases h with
  | true =>
    rw [if_neg (of_decide_eq_false hh), if_pos rfl]
  | false =>
    rw [if_pos (of_decide_eq_true hh), if_neg (by decide)]
end Go.Proofs.YtdhkmdgieflioaaDoor.F
namespace Go.Proofs.YtdhkmdgieflioaaDoor.F
open Go.RowKit Go.Proofs.YtdhkmdgieflioaaDoorW.PrintWords Go.Proofs.YtdhkmdgieflioaaDoorW.PrintLast Go.Proofs.YtdhkmdgieflioaaDoorW.PrintMore
set_option linter.unusedVariables false
set_option linter.unusedSimpArgs false
theorem ba_ext {a b : ByteArray} (h : a.data.toList = b.data.toList) : a = b := bytes_eq (by rw [ByteArray.toList_eq, ByteArray.toList_eq, h])
theorem parts_all : ((List.range 28).all fun n => decide (n = 0) || ((seedcornref07_Parts.f 40 (n : Int)).map (·.data.toList) == some (partsOf (n : Int)).data.toList)) = true := by kernel_rfl
theorem parts_ev (op : Int) (h1 : 1 ≤ op) (h2 : op < 28) : Ev (fun k => seedcornref07_Parts.f k op) (partsOf op) := by
  obtain ⟨n, rfl⟩ : ∃ n : Nat, op = n := ⟨op.toNat, by omega⟩
  have h3 := List.all_eq_true.1 parts_all n (List.mem_range.2 (by omega))
  rw [decide_eq_false (show ¬ n = 0 by omega), Bool.false_or, beq_iff_eq] at h3
  have h4 : seedcornref07_Parts.f 40 (n : Int) = some (partsOf (n : Int)) := by
    obtain ⟨p, hp, hq⟩ := Option.map_eq_some_iff.1 h3
    rw [hp, ba_ext hq]
  refine ⟨40, fun k hk => ?_⟩
  obtain ⟨d, rfl⟩ : ∃ d, k = 40 + d := ⟨k - 40, by omega⟩
  clear hk
  induction d with
  | zero => exact h4
  | succ d ih => exact seedcornref07_Parts.mono _ (40 + d) _ ih
end Go.Proofs.YtdhkmdgieflioaaDoor.F
namespace Go.Proofs.YtdhkmdgieflioaaDoor.F
open Go.RowKit Go.Proofs.YtdhkmdgieflioaaDoorW.PrintWords Go.Proofs.YtdhkmdgieflioaaDoorW.PrintLast Go.Proofs.YtdhkmdgieflioaaDoorW.PrintMore
set_option linter.unusedVariables false
set_option linter.unusedSimpArgs false
theorem has_all : ((List.range 28).all fun n => (decide (Lib.indexByte (partsOf n).data.toList (97 : Int).toNat.toUInt8 < 0) == !(partsOf n).data.toList.contains 97) && (decide (Lib.indexByte (partsOf n).data.toList (98 : Int).toNat.toUInt8 < 0) == !(partsOf n).data.toList.contains 98) && (decide (Lib.indexByte (partsOf n).data.toList (99 : Int).toNat.toUInt8 < 0) == !(partsOf n).data.toList.contains 99) && (!endsR (partsOf n) || (partsOf n).data.toList.contains 114)) = true := by kernel_rfl
end Go.Proofs.YtdhkmdgieflioaaDoor.F
namespace Go.Proofs.YtdhkmdgieflioaaDoor.F
open Go.RowKit Go.Proofs.YtdhkmdgieflioaaDoorW.PrintWords Go.Proofs.YtdhkmdgieflioaaDoorW.PrintLast Go.Proofs.YtdhkmdgieflioaaDoorW.PrintMore
set_option linter.unusedVariables false
set_option linter.unusedSimpArgs false
def opB (v : Int) : Int := v / 16777216
def raB (v : Int) : Int := v / 1048576 % 16
def rbB (v : Int) : Int := v / 65536 % 16
def rcB (v : Int) : Int := v % 65536
def decB (v : Int) : Bool := rightB (opB v) (raB v) (rbB v) (rcB v)
end Go.Proofs.YtdhkmdgieflioaaDoor.F
namespace Go.Proofs.YtdhkmdgieflioaaDoor.F
open Go.RowKit Go.Proofs.YtdhkmdgieflioaaDoorW.PrintWords Go.Proofs.YtdhkmdgieflioaaDoorW.PrintLast Go.Proofs.YtdhkmdgieflioaaDoorW.PrintMore
set_option linter.unusedVariables false
set_option linter.unusedSimpArgs false
open Go.Maps
theorem dec_part (v : Int) (h0 : 0 ≤ v) (h1 : v < 4294967296) : wrap64 (v / 16777216) = opB v ∧ wrap64 (Go.bits .and .u32 (v / 1048576) 15) = raB v ∧ wrap64 (Go.bits .and .u32 (v / 65536) 15) = rbB v ∧ wrap64 (Go.bits .and .u32 v 65535) = rcB v := by
  unfold opB raB rbB rcB
  have wr : ∀ n : Int, 0 ≤ n → n < 2 ^ 32 → IntKind.u32.wrap n = n := by intro n g0 g1; rw [IntKind.wrap_u32]; omega
  have m1 := bits_mask .u32 32 (by decide) wr 4 (by decide) (v / 1048576) (by omega) (by omega)
  have m2 := bits_mask .u32 32 (by decide) wr 4 (by decide) (v / 65536) (by omega) (by omega)
  have m3 := bits_mask .u32 32 (by decide) wr 16 (by decide) v (by omega) (by omega)
  have e1 : (2 ^ 4 - 1 : Int) = 15 := by decide
  have e2 : (2 ^ 16 - 1 : Int) = 65535 := by decide
  have e3 : (2 ^ 4 : Int) = 16 := by decide
  have e4 : (2 ^ 16 : Int) = 65536 := by decide
  rw [e1, e3] at m1 m2
  rw [e2, e4] at m3
  rw [m1, m2, m3]
  have wi : ∀ x : Int, -9223372036854775808 ≤ x → x ≤ 9223372036854775807 → wrap64 x = x := by intro x g0 g1; unfold wrap64; omega
  exact ⟨wi _ (by omega) (by omega), wi _ (by omega) (by omega), wi _ (by omega) (by omega), wi _ (by omega) (by omega)⟩
theorem decode_f (v : Int) (h0 : 0 ≤ v) (h1 : v < 4294967296) : inst_Decode.f v = some (if decB v = true then (opB v, raB v, rbB v, rcB v, 0) else (0, 0, 0, 0, 7)) := by
  obtain ⟨d1, d2, d3, d4⟩ := dec_part v h0 h1
  unfold inst_Decode.f inst_Right.f
  rw [d1, d2, d3, d4]
  unfold decB
  simp only [Option.bind_some]
  split <;> rfl
end Go.Proofs.YtdhkmdgieflioaaDoor.F
namespace Go.Proofs.YtdhkmdgieflioaaDoor.F
open Go.RowKit Go.Proofs.YtdhkmdgieflioaaDoorW.PrintWords Go.Proofs.YtdhkmdgieflioaaDoorW.PrintLast Go.Proofs.YtdhkmdgieflioaaDoorW.PrintMore
set_option linter.unusedVariables false
set_option linter.unusedSimpArgs false
def hs (op : Int) (ch : UInt8) : Bool := (partsOf op).data.toList.contains ch
def thereC (bit : Nat) (ch : UInt8) : Bool := if ch = 97 then decide (20 ≤ bit) else if ch = 98 then decide (16 ≤ bit ∧ bit < 20) else if ch = 99 then decide (bit < 16) else decide (bit < 4)
def thereB (p : ByteArray) (bit : Nat) : Bool := p.data.toList.any (thereC bit)
theorem there_all : ((List.range 28).all fun n => !(endsR (partsOf (n : Int)) && hs (n : Int) 99) && (List.range 24).all fun bit => (thereB (partsOf (n : Int)) bit == (hs (n : Int) 97 && decide (20 ≤ bit) || hs (n : Int) 98 && decide (16 ≤ bit ∧ bit < 20) || hs (n : Int) 99 && decide (bit < 16) || endsR (partsOf (n : Int)) && decide (bit < 4)))) = true := by kernel_rfl
theorem there_eq (op : Int) (h1 : 1 ≤ op) (h2 : op < 28) (bit : Nat) (hb : bit < 24) : thereB (partsOf op) bit = (hs op 97 && decide (20 ≤ bit) || hs op 98 && decide (16 ≤ bit ∧ bit < 20) || hs op 99 && decide (bit < 16) || endsR (partsOf op) && decide (bit < 4)) ∧ (endsR (partsOf op) && hs op 99) = false := by
  obtain ⟨n, rfl⟩ : ∃ n : Nat, op = n := ⟨op.toNat, by omega⟩
  have h := List.all_eq_true.1 there_all n (List.mem_range.2 (by omega))
  rw [Bool.and_eq_true] at h
  exact ⟨beq_iff_eq.1 (List.all_eq_true.1 h.2 bit (List.mem_range.2 hb)), by have h1 := h.1; revert h1; cases endsR (partsOf (n : Int)) <;> cases hs (n : Int) 99 <;> simp⟩
theorem right_iff (op a b c : Int) (h1 : 1 ≤ op) (h2 : op < 28) (ha : 0 ≤ a ∧ a ≤ 15) (hb : 0 ≤ b ∧ b ≤ 15) (hc : 0 ≤ c ∧ c ≤ 65535) :
    rightB op a b c = ((hs op 97 || a == 0) && ((hs op 98 || b == 0) && (if endsR (partsOf op) = true then decide (c ≤ 15) else (hs op 99 || c == 0)))) := by
  have hall : ((decide (Lib.indexByte (partsOf op).data.toList (97 : Int).toNat.toUInt8 < 0) == !(partsOf op).data.toList.contains 97) && (decide (Lib.indexByte (partsOf op).data.toList (98 : Int).toNat.toUInt8 < 0) == !(partsOf op).data.toList.contains 98) && (decide (Lib.indexByte (partsOf op).data.toList (99 : Int).toNat.toUInt8 < 0) == !(partsOf op).data.toList.contains 99) && (!endsR (partsOf op) || (partsOf op).data.toList.contains 114)) = true := by
    obtain ⟨n, rfl⟩ : ∃ n : Nat, op = n := ⟨op.toNat, by omega⟩
    exact List.all_eq_true.1 has_all n (List.mem_range.2 (by omega))
  simp only [Bool.and_eq_true, beq_iff_eq] at hall
  obtain ⟨⟨⟨e1, e2⟩, e3⟩, _⟩ := hall
  unfold rightB
  rw [if_neg (by omega), hasB_w _ 97 a 15 _ e1, hasB_w _ 98 b 15 _ e2, hasB_w _ 99 c 65535 _ e3]
  unfold hs wB
  rw [if_pos ha.1, if_pos hb.1, if_pos hc.1, decide_eq_true ha.2, decide_eq_true hb.2, decide_eq_true hc.2]
  have hc2 : c ≥ 0 := hc.1
  rw [if_pos hc2]
  cases (partsOf op).data.toList.contains 97 <;> cases (partsOf op).data.toList.contains 98 <;> cases (partsOf op).data.toList.contains 99 <;> cases endsR (partsOf op) <;> cases (a == 0) <;> cases (b == 0) <;> simp
theorem flip_law (v z : Nat) (bit : Nat) (hb : bit < 24) (hv : v < 4294967296) (hz : z = v ^^^ 2 ^ bit) (hd : decB (v : Int) = true) : decB (z : Int) = thereB (partsOf (opB (v : Int))) bit := by
  obtain ⟨f0, f1, f2, f3, f4, f5, f6, f7, f8, f9⟩ := flip_fields v bit hb hv z hz
  obtain ⟨h1, h2, ha, hbb, hc⟩ := right_facts _ _ _ _ (show rightB (opB (v : Int)) (raB (v : Int)) (rbB (v : Int)) (rcB (v : Int)) = true from hd)
  obtain ⟨t1, t2⟩ := there_eq (opB (v : Int)) h1 h2 bit hb
  have ho : opB (z : Int) = opB (v : Int) := by unfold opB; omega
  have za : 0 ≤ raB (z : Int) ∧ raB (z : Int) ≤ 15 := by unfold raB; omega
  have zb : 0 ≤ rbB (z : Int) ∧ rbB (z : Int) ≤ 15 := by unfold rbB; omega
  have zc : 0 ≤ rcB (z : Int) ∧ rcB (z : Int) ≤ 65535 := by unfold rcB; omega
  have va : 0 ≤ raB (v : Int) ∧ raB (v : Int) ≤ 15 := by unfold raB; omega
  have vb : 0 ≤ rbB (v : Int) ∧ rbB (v : Int) ≤ 15 := by unfold rbB; omega
  have vc : 0 ≤ rcB (v : Int) ∧ rcB (v : Int) ≤ 65535 := by unfold rcB; omega
  have g2 : 20 ≤ bit → raB (z : Int) ≠ raB (v : Int) := by intro h; have := f2 h; unfold raB; omega
  have g3 : bit < 20 → raB (z : Int) = raB (v : Int) := by intro h; have := f3 h; unfold raB; omega
  have g4 : (16 ≤ bit ∧ bit < 20) → rbB (z : Int) ≠ rbB (v : Int) := by intro h; have := f4 h; unfold rbB; omega
  have g5 : (bit < 16 ∨ 20 ≤ bit) → rbB (z : Int) = rbB (v : Int) := by intro h; have := f5 h; unfold rbB; omega
  have g6 : bit < 16 → rcB (z : Int) ≠ rcB (v : Int) := by intro h; have := f6 h; unfold rcB; omega
  have g7 : 16 ≤ bit → rcB (z : Int) = rcB (v : Int) := by intro h; have := f7 h; unfold rcB; omega
  have g8 : bit < 4 → rcB (z : Int) / 16 = rcB (v : Int) / 16 := by intro h; have := f8 h; unfold rcB; omega
  have g9 : (4 ≤ bit ∧ bit < 16) → rcB (z : Int) / 16 ≠ rcB (v : Int) / 16 := by intro h; have := f9 h; unfold rcB; omega
  unfold decB at hd ⊢
  rw [ho, t1]
  rw [right_iff _ _ _ _ h1 h2 va vb vc] at hd
  rw [right_iff _ _ _ _ h1 h2 za zb zc]
  clear f0 f1 f2 f3 f4 f5 f6 f7 f8 f9 ho hz t1 ha hbb hc
  generalize hs (opB (v : Int)) 97 = x97 at *
  generalize hs (opB (v : Int)) 98 = x98 at *
  generalize hs (opB (v : Int)) 99 = x99 at *
  generalize endsR (partsOf (opB (v : Int))) = xr at *
  generalize raB (z : Int) = a' at *
  generalize rbB (z : Int) = b' at *
  generalize rcB (z : Int) = c' at *
  generalize raB (v : Int) = a at *
  generalize rbB (v : Int) = b at *
  generalize rcB (v : Int) = c at *
  rw [Bool.eq_iff_iff]
  simp only [Bool.and_eq_true, Bool.or_eq_true, beq_iff_eq, decide_eq_true_eq] at hd ⊢
  cases x97 <;> cases x98 <;> cases x99 <;> cases xr <;> simp at hd t2 ⊢ <;> omega
theorem shl_pow (bit : Nat) (h : bit < 24) : shl .u32 1 (bit : Int) = ((2 ^ bit : Nat) : Int) := by
  have hc : bit = 0 ∨ bit = 1 ∨ bit = 2 ∨ bit = 3 ∨ bit = 4 ∨ bit = 5 ∨ bit = 6 ∨ bit = 7 ∨ bit = 8 ∨ bit = 9 ∨ bit = 10 ∨ bit = 11 ∨ bit = 12 ∨ bit = 13 ∨ bit = 14 ∨ bit = 15 ∨ bit = 16 ∨ bit = 17 ∨ bit = 18 ∨ bit = 19 ∨ bit = 20 ∨ bit = 21 ∨ bit = 22 ∨ bit = 23 := by omega
  rcases hc with rfl | rfl | rfl | rfl | rfl | rfl | rfl | rfl | rfl | rfl | rfl | rfl | rfl | rfl | rfl | rfl | rfl | rfl | rfl | rfl | rfl | rfl | rfl | rfl <;> rfl
theorem fields_l0 (v : Int) (z : Nat) (bit : Nat) (hz : z < 4294967296) (p : ByteArray) (hp : p.size ≤ 100) (d : Nat) : ∀ i : Nat, i + d = p.size → Ev (fun k => seedcornlaw07_InstFields.l0 k (bit : Int) (z : Int) p ((p.data.toList.take i).any (thereC bit)) (i : Int)) (decB (z : Int) == thereB p bit) := by
  have hl : p.data.toList.length = p.size := rfl
  induction d with
  | zero =>
    intro i hi
    refine Ev.step (f := fun _ => some (decB (z : Int) == thereB p bit)) (fun k => ?_) (Ev.now _)
    simp only [seedcornlaw07_InstFields.l0]
    rw [if_neg (by omega), List.take_of_length_le (by omega), decode_f (z : Int) (by omega) (by omega)]
    simp only [Option.bind_some]
    unfold thereB
    cases decB (z : Int) <;> rfl
  | succ d ih =>
    intro i hi
    have hlt : i < p.size := by omega
    have hw : wrap64 ((i : Int) + 1) = ((i + 1 : Nat) : Int) := by rw [wrapI (by omega) (by omega)]; omega
    have hbt : bt p (i : Int) = (p[i].toNat : Int) := by
      unfold bt
      rw [dif_pos (by simpa using hlt)]
      rfl
    have hnext : (p.data.toList.take (i + 1)).any (thereC bit) = ((p.data.toList.take i).any (thereC bit) || thereC bit p[i]) := by
      have : p.data.toList[i]? = some p[i] := by rw [Array.getElem?_toList]; exact Array.getElem?_eq_getElem (by simpa using hlt)
      rw [List.take_add_one, this, List.any_append]
      simp
    have := ih (i + 1) (by omega)
    rw [hnext] at this
    generalize (p.data.toList.take i).any (thereC bit) = t at *
    generalize p[i] = ch at *
    refine Ev.step (fun k => ?_) this
    simp only [seedcornlaw07_InstFields.l0]
    rw [if_pos (by omega), if_pos (by omega), hbt, hw]
    have n97 (h : ¬ ch = 97) : ¬ (ch.toNat : Int) = 97 := fun x => h (UInt8.toNat_inj.1 (by have : (97 : UInt8).toNat = 97 := rfl; omega))
    have n98 (h : ¬ ch = 98) : ¬ (ch.toNat : Int) = 98 := fun x => h (UInt8.toNat_inj.1 (by have : (98 : UInt8).toNat = 98 := rfl; omega))
    have n99 (h : ¬ ch = 99) : ¬ (ch.toNat : Int) = 99 := fun x => h (UInt8.toNat_inj.1 (by have : (99 : UInt8).toNat = 99 := rfl; omega))
    unfold thereC
    by_cases h97 : ch = 97
    · subst h97
      rw [if_pos (by decide), if_pos rfl]
      cases t with
      | true => rfl
      | false =>
        rw [if_neg (by decide), Bool.false_or]
        congr 1
        rw [decide_eq_decide]; omega
    · rw [if_neg (n97 h97), if_neg h97]
      by_cases h98 : ch = 98
      · subst h98
        rw [if_pos (by decide), if_pos rfl]
        cases t with
        | true => rfl
        | false =>
          rw [if_neg (by decide), Bool.false_or]
          by_cases h16 : (bit : Int) ≥ 16
          · rw [if_pos h16]
            congr 1
            rw [decide_eq_decide]; omega
          · rw [if_neg h16]
            congr 1
            exact (decide_eq_false (by omega)).symm
      · rw [if_neg (n98 h98), if_neg h98]
        by_cases h99 : ch = 99
        · subst h99
          rw [if_pos (by decide), if_pos rfl]
          cases t with
          | true => rfl
          | false =>
            rw [if_neg (by decide), Bool.false_or]
            congr 1
            rw [decide_eq_decide]; omega
        · rw [if_neg (n99 h99), if_neg h99]
          cases t with
          | true => rfl
          | false =>
            rw [if_neg (by decide), Bool.false_or]
            congr 1
            rw [decide_eq_decide]; omega
theorem instFields_pure (w : Int) (b : Int) (w0 : (Lit.int .u32 w).wf = true) (w1 : (Lit.int .u8 b).wf = true) : ∃ k, seedcornlaw07_InstFields.f k w b = some true := by
  have hr := (Lit.wf_int_iff .u32 w).1 w0
  have h0 : 0 ≤ w := hr.1
  have h1 : w < 4294967296 := by have h2 : w ≤ 4294967295 := hr.2; omega
  have hrb := (Lit.wf_int_iff .u8 b).1 w1
  have b0 : 0 ≤ b := hrb.1
  have b1 : b ≤ 255 := hrb.2
  clear hr hrb w0 w1
  obtain ⟨d1, d2, d3, d4⟩ := dec_part w h0 h1
  refine Ev.rounds (g := fun k => seedcornlaw07_InstFields.f k w b) ?_
  unfold seedcornlaw07_InstFields.f
  rw [alive_f, decode_f w h0 h1, d1, d2, d3, d4]
  simp only [Option.bind_some, if_true]
  cases hd : decB w with
  | false => exact Ev.congr (fun k => by simp) (Ev.now true)
  | true =>
    simp only [if_true, bne_self_eq_false]
    obtain ⟨v, rfl⟩ : ∃ v : Nat, w = v := ⟨w.toNat, by omega⟩
    obtain ⟨bit, hbit⟩ : ∃ bit : Nat, bit = (b % 24).toNat := ⟨_, rfl⟩
    have hbl : bit < 24 := by omega
    have hbe : (Int.tmod b 24) % 4294967296 = (bit : Int) := by rw [Int.tmod_eq_emod_of_nonneg b0]; omega
    obtain ⟨g1, g2, ga, gb, gc⟩ := right_facts _ _ _ _ (show rightB (opB (v : Int)) (raB (v : Int)) (rbB (v : Int)) (rcB (v : Int)) = true from hd)
    have hf := flip_fields v bit hbl (by omega) _ rfl
    have hlaw := flip_law v _ bit hbl (by omega) rfl hd
    have hps := (parts_ascii (opB (v : Int)) g1 g2).1
    have hp2 : (2 : Nat) ^ bit < 4294967296 := Nat.lt_of_lt_of_le (Nat.pow_lt_pow_right (by decide) hbl) (by decide)
    have hx := apply_xor (v : Int) ((2 ^ bit : Nat) : Int) (by omega) (by omega) (Int.natCast_nonneg _) (Int.ofNat_lt.2 hp2)
    simp only [Int.toNat_natCast] at hx
    generalize v ^^^ 2 ^ bit = z at hf hlaw hx
    have hl := fields_l0 (v : Int) z bit hf.1 (partsOf (opB (v : Int))) hps (partsOf (opB (v : Int))).size 0 (by omega)
    rw [hlaw] at hl
    simp only [beq_self_eq_true] at hl
    refine Ev.step (f := fun k => (seedcornref01_Apply.f k 11 (v : Int) ((2 ^ bit : Nat) : Int)).bind fun bt381 => ((seedcornref07_Parts.f k (opB (v : Int))).bind fun t383 => (seedcornlaw07_InstFields.l0 k (bit : Int) bt381.1 t383 false 0))) (fun k => ?_) ?_
    · simp only [seedcornlaw07_InstFields.j0]
      rw [if_neg (by decide), hbe, shl_pow bit hbl]
    · refine Ev.bind (Ev.of (seedcornref01_Apply.mono _ _ _) hx) ?_
      refine Ev.bind (parts_ev _ g1 g2) ?_
      exact hl
end Go.Proofs.YtdhkmdgieflioaaDoor.F
namespace Go.Proofs.YtdhkmdgieflioaaDoor.F
open Go.RowKit Go.Proofs.YtdhkmdgieflioaaDoorW.PrintWords Go.Proofs.YtdhkmdgieflioaaDoorW.PrintLast Go.Proofs.YtdhkmdgieflioaaDoorW.PrintMore
set_option linter.unusedVariables false
set_option linter.unusedSimpArgs false
def headW1 : List Nat := [104, 97, 114, 110, 101, 115, 115]
def headW2 : List Nat := [51, 50, 102, 55, 102, 55, 97, 101, 99, 55, 52, 52, 56, 51, 55, 56, 98, 52, 55, 102, 57, 52, 99, 49, 52, 97, 48, 50, 49, 98, 55, 100, 99, 53, 55, 49, 51, 48, 101, 52, 51, 98, 52, 52, 53, 48, 56, 49, 57, 98, 55, 57, 53, 56, 54, 51, 100, 98, 99, 98, 102, 102, 56, 55]
def headW3 : List Nat := [99, 117, 116]
def headRest : List Nat := [97, 116, 32, 115, 101, 101, 100, 99, 111, 114, 110, 47, 115, 101, 101, 100, 99, 111, 114, 110, 108, 97, 119, 53, 48, 46, 83, 101, 101, 100, 76, 111, 97, 100, 115, 32, 115, 101, 101, 100, 99, 111, 114, 110, 47, 115, 101, 101, 100, 99, 111, 114, 110, 108, 97, 119, 53, 48, 46, 83, 101, 101, 100, 83, 109, 97, 108, 108, 32, 115, 101, 101, 100, 99, 111, 114, 110, 47, 115, 101, 101, 100, 99, 111, 114, 110, 108, 97, 119, 53, 48, 46, 83, 101, 101, 100, 73, 109, 97, 103, 101, 115, 32, 115, 101, 101, 100, 99, 111, 114, 110, 47, 115, 101, 101, 100, 99, 111, 114, 110, 108, 97, 119, 53, 48, 46, 83, 101, 101, 100, 78, 111, 116, 101, 115, 32, 115, 101, 101, 100, 99, 111, 114, 110, 47, 115, 101, 101, 100, 99, 111, 114, 110, 108, 97, 119, 53, 48, 46, 83, 101, 101, 100, 84, 119, 111, 32, 115, 101, 101, 100, 99, 111, 114, 110, 47, 115, 101, 101, 100, 99, 111, 114, 110, 108, 97, 119, 49, 49, 46, 76, 105, 115, 116, 105, 110, 103, 71, 111, 101, 115, 79, 110, 32, 115, 101, 101, 100, 99, 111, 114, 110, 47, 115, 101, 101, 100, 99, 111, 114, 110, 108, 97, 119, 48, 55, 46, 73, 110, 115, 116, 67, 111, 100, 101, 115, 32, 115, 101, 101, 100, 99, 111, 114, 110, 47, 115, 101, 101, 100, 99, 111, 114, 110, 108, 97, 119, 49, 49, 46, 76, 105, 115, 116, 105, 110, 103, 68, 97, 116, 97, 32, 115, 101, 101, 100, 99, 111, 114, 110, 47, 115, 101, 101, 100, 99, 111, 114, 110, 108, 97, 119, 48, 55, 46, 73, 110, 115, 116, 82, 101, 97, 100, 115, 32, 115, 101, 101, 100, 99, 111, 114, 110, 47, 115, 101, 101, 100, 99, 111, 114, 110, 108, 97, 119, 48, 55, 46, 73, 110, 115, 116, 65, 112, 97, 114, 116, 32, 115, 101, 101, 100, 99, 111, 114, 110, 47, 115, 101, 101, 100, 99, 111, 114, 110, 108, 97, 119, 48, 55, 46, 73, 110, 115, 116, 70, 105, 101, 108, 100, 115, 32, 115, 101, 101, 100, 99, 111, 114, 110, 47, 115, 101, 101, 100, 99, 111, 114, 110, 108, 97, 119, 48, 55, 46, 73, 110, 115, 116, 67, 111, 117, 110, 116, 115, 32, 115, 101, 101, 100, 99, 111, 114, 110, 47, 115, 101, 101, 100, 99, 111, 114, 110, 108, 97, 119, 48, 55, 46, 73, 110, 115, 116, 78, 97, 109, 101, 115, 32, 115, 101, 101, 100, 99, 111, 114, 110, 47, 115, 101, 101, 100, 99, 111, 114, 110, 108, 97, 119, 53, 48, 46, 83, 101, 101, 100, 73, 116, 115, 101, 108, 102, 32, 115, 101, 101, 100, 99, 111, 114, 110, 47, 115, 101, 101, 100, 99, 111, 114, 110, 108, 97, 119, 49, 49, 46, 76, 105, 115, 116, 105, 110, 103, 84, 97, 114, 103, 101, 116, 115, 32, 115, 101, 101, 100, 99, 111, 114, 110, 47, 115, 101, 101, 100, 99, 111, 114, 110, 108, 97, 119, 49, 49, 46, 76, 105, 115, 116, 105, 110, 103, 84, 101, 120, 116, 32, 115, 101, 101, 100, 99, 111, 114, 110, 47, 115, 101, 101, 100, 99, 111, 114, 110, 108, 97, 119, 49, 49, 46, 76, 105, 115, 116, 105, 110, 103, 76, 105, 110, 101, 115, 32, 115, 101, 101, 100, 99, 111, 114, 110, 47, 115, 101, 101, 100, 99, 111, 114, 110, 108, 97, 119, 49, 49, 46, 76, 105, 115, 116, 105, 110, 103, 80, 108, 97, 99, 101, 115, 32, 115, 101, 101, 100, 99, 111, 114, 110, 47, 115, 101, 101, 100, 99, 111, 114, 110, 108, 97, 119, 49, 49, 46, 76, 105, 115, 116, 105, 110, 103, 65, 112, 97, 114, 116]
def chars (l : List Nat) : List Char := l.map Char.ofNat
theorem head_is : Tryd.prog.initOrder = String.ofList (chars headW1 ++ Char.ofNat 32 :: (chars headW2 ++ Char.ofNat 32 :: (chars headW3 ++ Char.ofNat 32 :: chars headRest))) := by kernel_rfl
theorem words_step : ∀ (w r : List Char), (∀ c ∈ w, c ≠ Char.ofNat 32) → wordsSigns (w ++ Char.ofNat 32 :: r) = w :: wordsSigns r
  | [], r, _ => rfl
  | c :: w, r, h => by
    have ih := words_step w r (fun d hd => h d (List.mem_cons_of_mem _ hd))
    have hc := h c (List.mem_cons_self ..)
    show wordsSigns (c :: (w ++ Char.ofNat 32 :: r)) = _
    rw [wordsSigns.eq_def]
    split
    · rename_i e; cases e
    · rename_i e; injection e with e1 e2; exact absurd e1 hc
    · rename_i c' r' hne e
      injection e with e1 e2
      subst e1 e2
      rw [ih]
theorem words_head : wordsSigns Tryd.prog.initOrder.toList = chars headW1 :: chars headW2 :: chars headW3 :: wordsSigns (chars headRest) := by
  rw [head_is, String.toList_ofList]
  rw [words_step _ _ (by decide +kernel), words_step _ _ (by decide +kernel), words_step _ _ (by decide +kernel)]
theorem head0 : behindMainWord (wordsSigns Tryd.prog.initOrder.toList) = chars headW3 :: wordsSigns (chars headRest) := by
  rw [words_head]
  unfold behindMainWord
  simp only
  rw [if_pos (by decide +kernel)]
section
variable {P : Program}
theorem mainIs_of {s : List Char} {R : List (List Char)} (h : wordsSigns P.initOrder.toList = chars headW1 :: s :: R) (hs : isSumSigns s = true) : P.mainIs = some (true, s) := by
  unfold Program.mainIs
  rw [h]
  simp only [hs, Bool.not_true]
  rw [if_neg (by decide), if_pos (by decide +kernel)]
theorem headLifts_of {R : List (List Char)} (h : behindMainWord (wordsSigns P.initOrder.toList) = chars headW3 :: R) : P.headLifts = [] := by
  unfold Program.headLifts
  rw [h]
  kernel_rfl
theorem liftsFinal_of {R : List (List Char)} (h : behindMainWord (wordsSigns P.initOrder.toList) = chars headW3 :: R) : P.liftsFinal = false := by
  unfold Program.liftsFinal
  rw [h, headLifts_of h]
  kernel_rfl
theorem make_of {R : List (List Char)} (h : behindMainWord (wordsSigns P.initOrder.toList) = chars headW3 :: R) : P.make = some .cut := by
  unfold Program.make
  rw [h, headLifts_of h]
  kernel_rfl
theorem strip_of {R : List (List Char)} : stripLifts liftWords (chars headW3 :: R) = ([], chars headW3 :: R) := by kernel_rfl
theorem mayEnter_of {R : List (List Char)} (h : behindMainWord (wordsSigns P.initOrder.toList) = chars headW3 :: R) (h1 : P.laysLater = false) (h2 : P.bearsReflect = false) (h3 : P.doorFits [] = true) : P.mayEnter = true := by
  unfold Program.mayEnter
  rw [h]
  simp only [strip_of, h1, h2, h3]
  kernel_rfl
end
theorem main_is : Tryd.prog.mainIs = some (true, chars headW2) := mainIs_of words_head (by kernel_rfl)
theorem lifts_final : Tryd.prog.liftsFinal = false := liftsFinal_of head0
theorem make_cut : Tryd.prog.make = some .cut := make_of head0
theorem lays_later : Tryd.prog.laysLater = false := by kernel_rfl
theorem bears_reflect : Tryd.prog.bearsReflect = false := by kernel_rfl
theorem door_fits : Tryd.prog.doorFits [] = true := by kernel_rfl
theorem may_enter : Tryd.prog.mayEnter = true := mayEnter_of head0 lays_later bears_reflect door_fits
def kindsOf (P : Program) (fn : Func) (c : OpenClaim) : List (Option IntKind) := if c.domain.isEmpty then [] else fn.params.toList.map fun t => match P.underlying t with | some (.int k) => some k | _ => none
theorem joined_of {P : Program} {f : FuncId} {fn : Func} {s : ChangeSpec} {c : OpenClaim}
    (k1 : c.wf (OpenSpec.ofChange s) = true) (k2 : laidOutB P = true) (k3 : mapsRowed P = true)
    (k4 : fn.params.all (P.readableRec ·) = true) (k5 : namedTie P c.named s.vars = true)
    (k6 : (c.stops == []) = true) (k7 : (P.stops == []) = true) (k8 : (c.knobs == []) = true) (k9 : (P.stopKnobs == []) = true)
    (k10 : (c.inPlace == P.inPlace f) = true) (k11 : (c.unfollowed == P.unfollowed f) = true) (k12 : (c.recurses == P.recurses f) = true) (k13 : (c.named == P.varsNamed f) = true)
    (k14 : (c.maps == (fn.params.toList ++ s.plain.varTypes P).any (P.mapsRec ·)) = true) (k15 : (c.ifaces == (fn.params.toList ++ s.plain.varTypes P).any (P.ifacesRec ·)) = true) (k16 : (c.mapsOut == P.mapsAmong fn.resultTypes.toList) = true)
    (k17 : (c.loops == (fn.params.toList ++ s.plain.varTypes P).any (P.loopsFrom ·)) = true) (k18 : (c.wideKeys == (fn.params.toList ++ s.plain.varTypes P ++ fn.resultTypes.toList).any (P.wideKeysFrom ·)) = true)
    (k19 : s.vars.all (P.varReadable ·) = true) (k20 : fn.resultTypes.all (fun t => P.readableRec t && decide (t < P.types.size)) = true) (k21 : (c.ifacesOut == fn.resultTypes.toList.any (P.ifacesRec ·)) = true) (k22 : (c.loopsOut == fn.resultTypes.toList.any (P.loopsFrom ·)) = true) (k23 : (c.plainKeys == P.plainKeys) = true)
    (k24 : c.shortTexts.isNone = true) (k25 : P.stopsHeard = true) (k26 : P.mayEnter = true) (k27 : (c.lifted == P.liftsFinal) = true) (k28 : (P.make == some c.make) = true)
    (k29 : (c.kinds == kindsOf P fn c) = true) (k30 : (c.pinned == c.pinnedBy) = true)
    (k31 : (c.veiled == (fn.params.toList ++ s.plain.varTypes P ++ fn.resultTypes.toList).any (P.veiledRec ·)) = true) (k32 : c.veiledFits P fn.params.toList (fn.params.toList ++ s.plain.varTypes P ++ fn.resultTypes.toList) = true) :
    joinedFacts P f fn s c = true := by
  have h2 : ∀ a b : Bool, a = true → b = true → (a && b) = true := fun a b ha hb => by rw [ha, hb]; rfl
  unfold joinedFacts
  exact h2 _ _ (h2 _ _ (h2 _ _ (h2 _ _ (h2 _ _ (h2 _ _ (h2 _ _ (h2 _ _ (h2 _ _ (h2 _ _ (h2 _ _ (h2 _ _ (h2 _ _ (h2 _ _ (h2 _ _ (h2 _ _ (h2 _ _ (h2 _ _ (h2 _ _ (h2 _ _ (h2 _ _ (h2 _ _ (h2 _ _ (h2 _ _ (h2 _ _ (h2 _ _ (h2 _ _ (h2 _ _ (h2 _ _ (h2 _ _ (h2 _ _ (k1) k2) k3) k4) k5) k6) k7) k8) k9) k10) k11) k12) k13) k14) k15) k16) k17) k18) k19) k20) k21) k22) k23) k24) k25) k26) k27) k28) k29) k30) k31) k32
theorem p_laid : laidOutB Tryd.prog = true := by kernel_rfl
theorem p_rowed : mapsRowed Tryd.prog = true := by kernel_rfl
theorem p_stops : (Tryd.prog.stops == []) = true := by kernel_rfl
theorem p_knobs : (Tryd.prog.stopKnobs == []) = true := by kernel_rfl
theorem p_heard : Tryd.prog.stopsHeard = true := by kernel_rfl
theorem p_looks : Tryd.prog.looks [] = false := by kernel_rfl
theorem head_sum : chars headW2 = "32f7f7aec7448378b47f94c14a021b7dc57130e43b4450819b795863dbcbff87".toList := by kernel_rfl
theorem main_sum : Tryd.prog.mainIs = some (true, "32f7f7aec7448378b47f94c14a021b7dc57130e43b4450819b795863dbcbff87".toList) := head_sum ▸ main_is
end Go.Proofs.YtdhkmdgieflioaaDoor.F
