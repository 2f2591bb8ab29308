/- Texts of this claim: contracts of functions that the law reaches, and plain lemmas. -/
import Derived.Lib.Hide
import Derived.Outline
import Derived.WalkLawsBesides
import Derived.WalkSpells
import Derived.RegionTactic
import Derived.ChangeAlike
import Derived.Deep.QuietTactic
import Derived.BigQuiet
import Derived.StillTailTactics
import Derived.Deep.RegionHeld3
import Derived.Test.YtdhkmdgieflioaaDoorZ1
namespace Go.Proofs.YtdhkmdgieflioaaDoor.F
open Go.RowKit Go.Proofs.YtdhkmdgieflioaaDoorW.PrintWords Go.Proofs.YtdhkmdgieflioaaDoorW.PrintLast Go.Proofs.YtdhkmdgieflioaaDoorW.PrintMore
attribute [local go_sem] max2_int min2_int max_two min_two max_three min_three max_four min_four
set_option linter.unusedVariables false
set_option linter.unusedSimpArgs false
mutual
def seedcornref01_Apply.j0 : Nat → Int → Int → Int → Int → Bool → Option (Int × Int)
  | 0, _, _, _, _, _ => none
  | k + 1, x0, x1, x2, x14, x53 => if x53 = true then ((seedcornref01_both.f x0 x1 x2).bind fun t133 => (some (t133, 0))) else (if x14 = 12 then (seedcornref01_Apply.j1 k x0 x1 x2 x14 (x14 == 12)) else (seedcornref01_Apply.j1 k x0 x1 x2 x14 (x14 == 13)))
def seedcornref01_Apply.j1 : Nat → Int → Int → Int → Int → Bool → Option (Int × Int)
  | 0, _, _, _, _, _ => none
  | k + 1, x0, x1, x2, x14, x61 => if x61 = true then ((seedcornref01_shift.f k x0 x1 x2).bind fun t134 => (some (t134, 0))) else (if x14 = 14 then ((seedcornref01_flag.f (decide (x1 < x2))).bind fun t135 => (some (t135, 0))) else (if x14 = 15 then ((seedcornref01_flag.f (x1 == x2)).bind fun t136 => (some (t136, 0))) else (some (0, 1))))
end
def seedcornref01_Apply.f (k : Nat) (a0 : Int) (a1 : Int) (a2 : Int) : Option (Int × Int) := if a0 = 4 then (some ((Int.tmod (IntKind.u64.wrap ((IntKind.u64.wrap (a1)) + (IntKind.u64.wrap (a2)))) 4294967296) % 4294967296, 0)) else (if a0 = 5 then (some ((Int.tmod (IntKind.u64.wrap ((IntKind.u64.wrap ((IntKind.u64.wrap (a1)) + 4294967296)) - (IntKind.u64.wrap (a2)))) 4294967296) % 4294967296, 0)) else (if a0 = 6 then (some ((Int.tmod (IntKind.u64.wrap ((IntKind.u64.wrap (a1)) * (IntKind.u64.wrap (a2)))) 4294967296) % 4294967296, 0)) else (if a0 = 7 then (if a2 = 0 then (some (0, 14)) else (if (IntKind.u64.wrap (a2)) = 0 then (none) else (some ((IntKind.u64.wrap (Int.tdiv (IntKind.u64.wrap (a1)) (IntKind.u64.wrap (a2)))) % 4294967296, 0)))) else (if a0 = 8 then (if a2 = 0 then (some (0, 14)) else (if (IntKind.u64.wrap (a2)) = 0 then (none) else (some ((Int.tmod (IntKind.u64.wrap (a1)) (IntKind.u64.wrap (a2))) % 4294967296, 0)))) else (if a0 = 9 then (seedcornref01_Apply.j0 k a0 a1 a2 a0 (a0 == 9)) else (if a0 = 10 then (seedcornref01_Apply.j0 k a0 a1 a2 a0 (a0 == 10)) else (seedcornref01_Apply.j0 k a0 a1 a2 a0 (a0 == 11))))))))
theorem seedcornref01_Apply.mono_l : ∀ k, (∀ y0 y1 y2 y3 y4, LeO (seedcornref01_Apply.j0 k y0 y1 y2 y3 y4) (seedcornref01_Apply.j0 (k + 1) y0 y1 y2 y3 y4)) ∧ (∀ y0 y1 y2 y3 y4, LeO (seedcornref01_Apply.j1 k y0 y1 y2 y3 y4) (seedcornref01_Apply.j1 (k + 1) y0 y1 y2 y3 y4))
  | 0 => ⟨fun _ _ _ _ _ r h => by simp [seedcornref01_Apply.j0] at h, fun _ _ _ _ _ r h => by simp [seedcornref01_Apply.j1] at h⟩
  | k + 1 => by
    obtain ⟨ih0, ih1⟩ := seedcornref01_Apply.mono_l k
    refine ⟨?_, ?_⟩
    · intro y0 y1 y2 y3 y4
      unfold seedcornref01_Apply.j0
      repeat' first
      | (with_reducible exact ih0 _ _ _ _ _)
      | (with_reducible exact ih1 _ _ _ _ _)
      | (with_reducible exact seedcornref01_shift.mono _ _ _ _)
      | (with_reducible exact LeO.refl _)
      | (with_reducible exact LeO.none _)
      | (with_reducible refine LeO.ite ?_ ?_)
      | (with_reducible refine LeO.bind ?_ (fun _ => ?_))
      | exact ih0 _ _ _ _ _
      | exact ih1 _ _ _ _ _
      | exact seedcornref01_shift.mono _ _ _ _
      | exact LeO.none _
      | refine LeO.ite ?_ ?_
      | refine LeO.bind ?_ (fun _ => ?_)
    · intro y0 y1 y2 y3 y4
      unfold seedcornref01_Apply.j1
      repeat' first
      | (with_reducible exact ih0 _ _ _ _ _)
      | (with_reducible exact ih1 _ _ _ _ _)
      | (with_reducible exact seedcornref01_shift.mono _ _ _ _)
      | (with_reducible exact LeO.refl _)
      | (with_reducible exact LeO.none _)
      | (with_reducible refine LeO.ite ?_ ?_)
      | (with_reducible refine LeO.bind ?_ (fun _ => ?_))
      | exact ih0 _ _ _ _ _
      | exact ih1 _ _ _ _ _
      | exact seedcornref01_shift.mono _ _ _ _
      | exact LeO.none _
      | refine LeO.ite ?_ ?_
      | refine LeO.bind ?_ (fun _ => ?_)
theorem seedcornref01_Apply.mono : ∀ a0 a1 a2 k, LeO (seedcornref01_Apply.f k a0 a1 a2) (seedcornref01_Apply.f (k + 1) a0 a1 a2) := by
  intro a0 a1 a2 k
  obtain ⟨ih0, ih1⟩ := seedcornref01_Apply.mono_l k
  unfold seedcornref01_Apply.f
  repeat' first
      | (with_reducible exact ih0 _ _ _ _ _)
      | (with_reducible exact ih1 _ _ _ _ _)
      | (with_reducible exact seedcornref01_shift.mono _ _ _ _)
      | (with_reducible exact LeO.refl _)
      | (with_reducible exact LeO.none _)
      | (with_reducible refine LeO.ite ?_ ?_)
      | (with_reducible refine LeO.bind ?_ (fun _ => ?_))
      | exact ih0 _ _ _ _ _
      | exact ih1 _ _ _ _ _
      | exact seedcornref01_shift.mono _ _ _ _
      | exact LeO.none _
      | refine LeO.ite ?_ ?_
      | refine LeO.bind ?_ (fun _ => ?_)
set_option maxHeartbeats 8000000 in
set_option maxRecDepth 100000 in
theorem seedcornref01_Apply.calls (k : Nat) (a0 : Int) (a1 : Int) (a2 : Int) (r1 : Int) (r2 : Int) (w : World) (h : seedcornref01_Apply.f k a0 a1 a2 = some (r1, r2)) :
    Calls Tryd.prog 47 #[.int .i64 a0, .int .u32 a1, .int .u32 a2] w fun e w' => e = .returned (.tuple #[.int .u32 r1, .int .i64 r2]) ∧ Below w.heap.size w w' := by
  have HB := Aside0.mk (Below.refl w.heap.size w)
  have H : (if a0 = 4 then (some ((Int.tmod (IntKind.u64.wrap ((IntKind.u64.wrap (a1)) + (IntKind.u64.wrap (a2)))) 4294967296) % 4294967296, 0)) else (if a0 = 5 then (some ((Int.tmod (IntKind.u64.wrap ((IntKind.u64.wrap ((IntKind.u64.wrap (a1)) + 4294967296)) - (IntKind.u64.wrap (a2)))) 4294967296) % 4294967296, 0)) else (if a0 = 6 then (some ((Int.tmod (IntKind.u64.wrap ((IntKind.u64.wrap (a1)) * (IntKind.u64.wrap (a2)))) 4294967296) % 4294967296, 0)) else (if a0 = 7 then (if a2 = 0 then (some (0, 14)) else (if (IntKind.u64.wrap (a2)) = 0 then (none) else (some ((IntKind.u64.wrap (Int.tdiv (IntKind.u64.wrap (a1)) (IntKind.u64.wrap (a2)))) % 4294967296, 0)))) else (if a0 = 8 then (if a2 = 0 then (some (0, 14)) else (if (IntKind.u64.wrap (a2)) = 0 then (none) else (some ((Int.tmod (IntKind.u64.wrap (a1)) (IntKind.u64.wrap (a2))) % 4294967296, 0)))) else (if a0 = 9 then (seedcornref01_Apply.j0 k a0 a1 a2 a0 (a0 == 9)) else (if a0 = 10 then (seedcornref01_Apply.j0 k a0 a1 a2 a0 (a0 == 10)) else (seedcornref01_Apply.j0 k a0 a1 a2 a0 (a0 == 11))))))))) = some (r1, r2) := h
  clear h
  by_cases c4 : a0 = 4
  · rw [if_pos c4] at H
    have c4b0 : (a0 == 4) = true := beq_iff_eq.mpr c4
    have c4b1 : (a0 != 4) = false := bne_eq_false_iff_eq.mpr c4
    clear c4
    simp only [Option.some.injEq, Prod.mk.injEq] at H
    obtain ⟨rfl, rfl⟩ := H
    go_enter Tryd.func47, Tryd.ntmps47
    go_wp2
    go_ret2
    exact ⟨by first | rfl | (simp [errW_none, errW_some] <;> rfl) | (simp [*, errW_none, errW_some] <;> rfl), by repeat (first | (with_reducible first | exact HB.out | apply below_alloc | apply pw_below_drewN | apply below_drew1) | exact HB.out)⟩
  · rw [if_neg c4] at H
    have c4b0 : (a0 == 4) = false := beq_eq_false_iff_ne.mpr c4
    have c4b1 : (a0 != 4) = true := bne_iff_ne.mpr c4
    by_cases c5 : a0 = 5
    · rw [if_pos c5] at H
      have c5b0 : (a0 == 5) = true := beq_iff_eq.mpr c5
      have c5b1 : (a0 != 5) = false := bne_eq_false_iff_eq.mpr c5
      clear c5
      simp only [Option.some.injEq, Prod.mk.injEq] at H
      obtain ⟨rfl, rfl⟩ := H
      go_enter Tryd.func47, Tryd.ntmps47
      go_wp2
      go_ret2
      exact ⟨by first | rfl | (simp [errW_none, errW_some] <;> rfl) | (simp [*, errW_none, errW_some] <;> rfl), by repeat (first | (with_reducible first | exact HB.out | apply below_alloc | apply pw_below_drewN | apply below_drew1) | exact HB.out)⟩
    · rw [if_neg c5] at H
      have c5b0 : (a0 == 5) = false := beq_eq_false_iff_ne.mpr c5
      have c5b1 : (a0 != 5) = true := bne_iff_ne.mpr c5
      by_cases c6 : a0 = 6
      · rw [if_pos c6] at H
        have c6b0 : (a0 == 6) = true := beq_iff_eq.mpr c6
        have c6b1 : (a0 != 6) = false := bne_eq_false_iff_eq.mpr c6
        clear c6
        simp only [Option.some.injEq, Prod.mk.injEq] at H
        obtain ⟨rfl, rfl⟩ := H
        go_enter Tryd.func47, Tryd.ntmps47
        go_wp2
        go_ret2
        exact ⟨by first | rfl | (simp [errW_none, errW_some] <;> rfl) | (simp [*, errW_none, errW_some] <;> rfl), by repeat (first | (with_reducible first | exact HB.out | apply below_alloc | apply pw_below_drewN | apply below_drew1) | exact HB.out)⟩
      · rw [if_neg c6] at H
        have c6b0 : (a0 == 6) = false := beq_eq_false_iff_ne.mpr c6
        have c6b1 : (a0 != 6) = true := bne_iff_ne.mpr c6
        by_cases c7 : a0 = 7
        · rw [if_pos c7] at H
          have c7b0 : (a0 == 7) = true := beq_iff_eq.mpr c7
          have c7b1 : (a0 != 7) = false := bne_eq_false_iff_eq.mpr c7
          clear c7
          by_cases c8 : a2 = 0
          · rw [if_pos c8] at H
            have c8b0 : (a2 == 0) = true := beq_iff_eq.mpr c8
            have c8b1 : (a2 != 0) = false := bne_eq_false_iff_eq.mpr c8
            clear c8
            simp only [Option.some.injEq, Prod.mk.injEq] at H
            obtain ⟨rfl, rfl⟩ := H
            go_enter Tryd.func47, Tryd.ntmps47
            go_wp2
            go_ret2
            exact ⟨by first | rfl | (simp [errW_none, errW_some] <;> rfl) | (simp [*, errW_none, errW_some] <;> rfl), by repeat (first | (with_reducible first | exact HB.out | apply below_alloc | apply pw_below_drewN | apply below_drew1) | exact HB.out)⟩
          · rw [if_neg c8] at H
            have c8b0 : (a2 == 0) = false := beq_eq_false_iff_ne.mpr c8
            have c8b1 : (a2 != 0) = true := bne_iff_ne.mpr c8
            by_cases c9 : (IntKind.u64.wrap (a2)) = 0
            · rw [if_pos c9] at H
              exact absurd H (by simp)
            · rw [if_neg c9] at H
              have c9b0 : ((IntKind.u64.wrap (a2)) == 0) = false := beq_eq_false_iff_ne.mpr c9
              have c9b1 : ((IntKind.u64.wrap (a2)) != 0) = true := bne_iff_ne.mpr c9
              simp only [Option.some.injEq, Prod.mk.injEq] at H
              obtain ⟨rfl, rfl⟩ := H
              go_enter Tryd.func47, Tryd.ntmps47
              go_wp2
              go_ret2
              exact ⟨by first | rfl | (simp [errW_none, errW_some] <;> rfl) | (simp [*, errW_none, errW_some] <;> rfl), by repeat (first | (with_reducible first | exact HB.out | apply below_alloc | apply pw_below_drewN | apply below_drew1) | exact HB.out)⟩
        · rw [if_neg c7] at H
          have c7b0 : (a0 == 7) = false := beq_eq_false_iff_ne.mpr c7
          have c7b1 : (a0 != 7) = true := bne_iff_ne.mpr c7
          by_cases c10 : a0 = 8
          · rw [if_pos c10] at H
            have c10b0 : (a0 == 8) = true := beq_iff_eq.mpr c10
            have c10b1 : (a0 != 8) = false := bne_eq_false_iff_eq.mpr c10
            clear c10
            by_cases c11 : a2 = 0
            · rw [if_pos c11] at H
              have c11b0 : (a2 == 0) = true := beq_iff_eq.mpr c11
              have c11b1 : (a2 != 0) = false := bne_eq_false_iff_eq.mpr c11
              clear c11
              simp only [Option.some.injEq, Prod.mk.injEq] at H
              obtain ⟨rfl, rfl⟩ := H
              go_enter Tryd.func47, Tryd.ntmps47
              go_wp2
              go_ret2
              exact ⟨by first | rfl | (simp [errW_none, errW_some] <;> rfl) | (simp [*, errW_none, errW_some] <;> rfl), by repeat (first | (with_reducible first | exact HB.out | apply below_alloc | apply pw_below_drewN | apply below_drew1) | exact HB.out)⟩
            · rw [if_neg c11] at H
              have c11b0 : (a2 == 0) = false := beq_eq_false_iff_ne.mpr c11
              have c11b1 : (a2 != 0) = true := bne_iff_ne.mpr c11
              by_cases c12 : (IntKind.u64.wrap (a2)) = 0
              · rw [if_pos c12] at H
                exact absurd H (by simp)
              · rw [if_neg c12] at H
                have c12b0 : ((IntKind.u64.wrap (a2)) == 0) = false := beq_eq_false_iff_ne.mpr c12
                have c12b1 : ((IntKind.u64.wrap (a2)) != 0) = true := bne_iff_ne.mpr c12
                simp only [Option.some.injEq, Prod.mk.injEq] at H
                obtain ⟨rfl, rfl⟩ := H
                go_enter Tryd.func47, Tryd.ntmps47
                go_wp2
                go_ret2
                exact ⟨by first | rfl | (simp [errW_none, errW_some] <;> rfl) | (simp [*, errW_none, errW_some] <;> rfl), by repeat (first | (with_reducible first | exact HB.out | apply below_alloc | apply pw_below_drewN | apply below_drew1) | exact HB.out)⟩
          · rw [if_neg c10] at H
            have c10b0 : (a0 == 8) = false := beq_eq_false_iff_ne.mpr c10
            have c10b1 : (a0 != 8) = true := bne_iff_ne.mpr c10
            have HC13 := Aside0.mk H
            clear H
            go_enter Tryd.func47, Tryd.ntmps47
            go_upto_if 53 with (fail)
            go_cut [53] (fun v53 wc => ∃ (kq : Nat) (x53_12 : Bool), v53 = .bool x53_12 ∧ Aside0 (seedcornref01_Apply.j0 kq a0 a1 a2 a0 x53_12 = some (r1, r2)) ∧ Aside0 (kq ≤ k) ∧ Aside0 (Below w.heap.size w wc))
            case first =>
              have H := HC13.out
              clear HC13
              by_cases c14 : a0 = 9
              · rw [if_pos c14] at H
                have c14b0 : (a0 == 9) = true := beq_iff_eq.mpr c14
                have c14b1 : (a0 != 9) = false := bne_eq_false_iff_eq.mpr c14
                clear c14
                (first | rw [c14b0] | (simp only [i64_w, i32_w]; rw [c14b0]) | skip)
                have H' := Aside0.mk H
                clear H
                go_wp2
                go_meet
                case rel => exact ⟨_, ((a0 == 9)), (by first | rfl | (simp; done) | (simp [*]; done)), H', ⟨by first | omega | exact Nat.le_refl _⟩, ⟨by repeat (first | (with_reducible first | exact HB.out | apply below_alloc | apply pw_below_drewN | apply below_drew1) | exact HB.out)⟩⟩
              · rw [if_neg c14] at H
                have c14b0 : (a0 == 9) = false := beq_eq_false_iff_ne.mpr c14
                have c14b1 : (a0 != 9) = true := bne_iff_ne.mpr c14
                (first | rw [c14b0] | (simp only [i64_w, i32_w]; rw [c14b0]) | skip)
                by_cases c15 : a0 = 10
                · rw [if_pos c15] at H
                  have c15b0 : (a0 == 10) = true := beq_iff_eq.mpr c15
                  have c15b1 : (a0 != 10) = false := bne_eq_false_iff_eq.mpr c15
                  clear c15
                  have H' := Aside0.mk H
                  clear H
                  go_wp2
                  go_meet
                  case rel => exact ⟨_, ((a0 == 10)), (by first | rfl | (simp; done) | (simp [*]; done)), H', ⟨by first | omega | exact Nat.le_refl _⟩, ⟨by repeat (first | (with_reducible first | exact HB.out | apply below_alloc | apply pw_below_drewN | apply below_drew1) | exact HB.out)⟩⟩
                · rw [if_neg c15] at H
                  have c15b0 : (a0 == 10) = false := beq_eq_false_iff_ne.mpr c15
                  have c15b1 : (a0 != 10) = true := bne_iff_ne.mpr c15
                  have H' := Aside0.mk H
                  clear H
                  go_wp2
                  go_meet
                  case rel => exact ⟨_, ((a0 == 11)), (by first | rfl | (simp; done) | (simp [*]; done)), H', ⟨by first | omega | exact Nat.le_refl _⟩, ⟨by repeat (first | (with_reducible first | exact HB.out | apply below_alloc | apply pw_below_drewN | apply below_drew1) | exact HB.out)⟩⟩
            case rest =>
              clear HC13
              try clear c1
              try clear p2
              try clear c4
              try clear c4b0
              try clear c4b1
              try clear c5
              try clear c5b0
              try clear c5b1
              try clear c6
              try clear c6b0
              try clear c6b1
              try clear c7
              try clear c7b0
              try clear c7b1
              try clear c8
              try clear c8b0
              try clear c8b1
              try clear c9
              try clear c9b0
              try clear c9b1
              try clear c10
              try clear c10b0
              try clear c10b1
              try clear c11
              try clear c11b0
              try clear c11b1
              try clear c12
              try clear c12b0
              try clear c12b1
              try clear c14
              try clear c14b0
              try clear c14b1
              try clear c15
              try clear c15b0
              try clear c15b1
              obtain ⟨kq, x53_12, rfl, HA, HJ12, HB⟩ := hcut
              cases kq with
              | zero => exact absurd HA.out (by simp [seedcornref01_Apply.j0])
              | succ kj12 =>
                have H := HA.out
                clear HA
                simp only [seedcornref01_Apply.j0] at H
                by_cases c16 : x53_12 = true
                · subst c16
                  have H1 : ((seedcornref01_both.f a0 a1 a2).bind fun t133 => (some (t133, 0))) = some (r1, r2) := by rw [if_pos rfl] at H; exact H
                  clear H
                  have H := H1
                  clear H1
                  replace H := Option.bind_eq_some_iff.mp H
                  obtain ⟨t133, A170, H⟩ := H
                  replace H : (some (t133, 0)) = some (r1, r2) := H
                  have A17 := Aside0.mk A170
                  clear A170
                  simp only [Option.some.injEq, Prod.mk.injEq] at H
                  obtain ⟨rfl, rfl⟩ := H
                  go_wp2_with (first | ((with_reducible refine gate_callee (f := 83) rfl ?_); refine goesL_ (some 60) rfl rfl Tryd.func83 (by kernel_rfl) rfl #[.int .i64 a0, .int .u32 a1, .int .u32 a2] rfl (by (try simp only [List.map_toArray, List.map_cons, List.map_nil]); first | done | rfl | (simp only [List.length_drop, List.length_take]; rfl)) ?_; (with_reducible refine (seedcornref01_both.calls a0 a1 a2 t133 _ A17.out).mono ?_); rintro e w18 ⟨rfl, hb⟩; refine ⟨_, rfl, ?_⟩; have n0_ := Aside0.mk (below_step (by repeat (first | (with_reducible first | exact HB.out | apply below_alloc | apply pw_below_drewN | apply below_drew1) | exact HB.out)) hb); clear HB; have HB := n0_; clear n0_; (try clear hb); (try clear hb2); (try clear hk); (try clear hi)))
                  go_ret2
                  exact ⟨by first | rfl | (simp [errW_none, errW_some] <;> rfl) | (simp [*, errW_none, errW_some] <;> rfl), by repeat (first | (with_reducible first | exact HB.out | apply below_alloc | apply pw_below_drewN | apply below_drew1) | exact HB.out)⟩
                · replace c16 := Bool.eq_false_iff.mpr c16
                  subst c16
                  have H1 : (if a0 = 12 then (seedcornref01_Apply.j1 kj12 a0 a1 a2 a0 (a0 == 12)) else (seedcornref01_Apply.j1 kj12 a0 a1 a2 a0 (a0 == 13))) = some (r1, r2) := by rw [if_neg (show ¬ (false = true) by decide)] at H; exact H
                  clear H
                  have H := H1
                  clear H1
                  have HC19 := Aside0.mk H
                  clear H
                  go_upto_if 61 with (fail)
                  go_cut [61] (fun v61 wc => ∃ (kq : Nat) (x61_18 : Bool), v61 = .bool x61_18 ∧ Aside0 (seedcornref01_Apply.j1 kq a0 a1 a2 a0 x61_18 = some (r1, r2)) ∧ Aside0 (kq ≤ kj12) ∧ Aside0 (Below w.heap.size w wc))
                  case first =>
                    have H := HC19.out
                    clear HC19
                    by_cases c20 : a0 = 12
                    · rw [if_pos c20] at H
                      have c20b0 : (a0 == 12) = true := beq_iff_eq.mpr c20
                      have c20b1 : (a0 != 12) = false := bne_eq_false_iff_eq.mpr c20
                      clear c20
                      (first | rw [c20b0] | (simp only [i64_w, i32_w]; rw [c20b0]) | skip)
                      have H' := Aside0.mk H
                      clear H
                      go_wp2
                      go_meet
                      case rel => exact ⟨_, ((a0 == 12)), (by first | rfl | (simp; done) | (simp [*]; done)), H', ⟨by have := HJ12.out; first | omega | exact Nat.le_refl _⟩, ⟨by repeat (first | (with_reducible first | exact HB.out | apply below_alloc | apply pw_below_drewN | apply below_drew1) | exact HB.out)⟩⟩
                    · rw [if_neg c20] at H
                      have c20b0 : (a0 == 12) = false := beq_eq_false_iff_ne.mpr c20
                      have c20b1 : (a0 != 12) = true := bne_iff_ne.mpr c20
                      (first | rw [c20b0] | (simp only [i64_w, i32_w]; rw [c20b0]) | skip)
                      have H' := Aside0.mk H
                      clear H
                      go_wp2
                      go_meet
                      case rel => exact ⟨_, ((a0 == 13)), (by first | rfl | (simp; done) | (simp [*]; done)), H', ⟨by have := HJ12.out; first | omega | exact Nat.le_refl _⟩, ⟨by repeat (first | (with_reducible first | exact HB.out | apply below_alloc | apply pw_below_drewN | apply below_drew1) | exact HB.out)⟩⟩
                  case rest =>
                    clear HC19
                    try clear c1
                    try clear c2
                    try clear p2
                    try clear c4
                    try clear c4b0
                    try clear c4b1
                    try clear c5
                    try clear c5b0
                    try clear c5b1
                    try clear c6
                    try clear c6b0
                    try clear c6b1
                    try clear c7
                    try clear c7b0
                    try clear c7b1
                    try clear c8
                    try clear c8b0
                    try clear c8b1
                    try clear c9
                    try clear c9b0
                    try clear c9b1
                    try clear c10
                    try clear c10b0
                    try clear c10b1
                    try clear c11
                    try clear c11b0
                    try clear c11b1
                    try clear c12
                    try clear c12b0
                    try clear c12b1
                    try clear c14
                    try clear c14b0
                    try clear c14b1
                    try clear c15
                    try clear c15b0
                    try clear c15b1
                    try clear c16
                    try clear c20
                    try clear c20b0
                    try clear c20b1
                    try clear p2
                    obtain ⟨kq, x61_18, rfl, HA, HJ18, HB⟩ := hcut
                    cases kq with
                    | zero => exact absurd HA.out (by simp [seedcornref01_Apply.j1])
                    | succ kj18 =>
                      have H := HA.out
                      clear HA
                      simp only [seedcornref01_Apply.j1] at H
                      by_cases c21 : x61_18 = true
                      · subst c21
                        have H1 : ((seedcornref01_shift.f kj18 a0 a1 a2).bind fun t134 => (some (t134, 0))) = some (r1, r2) := by rw [if_pos rfl] at H; exact H
                        clear H
                        have H := H1
                        clear H1
                        replace H := Option.bind_eq_some_iff.mp H
                        obtain ⟨t134, A220, H⟩ := H
                        replace H : (some (t134, 0)) = some (r1, r2) := H
                        have A22 := Aside0.mk A220
                        clear A220
                        simp only [Option.some.injEq, Prod.mk.injEq] at H
                        obtain ⟨rfl, rfl⟩ := H
                        go_wp2_with (first | ((with_reducible refine gate_callee (f := 84) rfl ?_); refine goesL_ (some 67) rfl rfl Tryd.func84 (by kernel_rfl) rfl #[.int .i64 a0, .int .u32 a1, .int .u32 a2] rfl (by (try simp only [List.map_toArray, List.map_cons, List.map_nil]); first | done | rfl | (simp only [List.length_drop, List.length_take]; rfl)) ?_; (with_reducible refine (seedcornref01_shift.calls kj18 a0 a1 a2 t134 _ A22.out).mono ?_); rintro e w' ⟨rfl, ⟨nd, rfl⟩⟩; refine ⟨_, rfl, ?_⟩))
                        go_ret2
                        exact ⟨by first | rfl | (simp [errW_none, errW_some] <;> rfl) | (simp [*, errW_none, errW_some] <;> rfl), by repeat (first | (with_reducible first | exact HB.out | apply below_alloc | apply pw_below_drewN | apply below_drew1) | exact HB.out)⟩
                      · replace c21 := Bool.eq_false_iff.mpr c21
                        subst c21
                        have H1 : (if a0 = 14 then ((seedcornref01_flag.f (decide (a1 < a2))).bind fun t135 => (some (t135, 0))) else (if a0 = 15 then ((seedcornref01_flag.f (a1 == a2)).bind fun t136 => (some (t136, 0))) else (some (0, 1)))) = some (r1, r2) := by rw [if_neg (show ¬ (false = true) by decide)] at H; exact H
                        clear H
                        have H := H1
                        clear H1
                        by_cases c23 : a0 = 14
                        · rw [if_pos c23] at H
                          have c23b0 : (a0 == 14) = true := beq_iff_eq.mpr c23
                          have c23b1 : (a0 != 14) = false := bne_eq_false_iff_eq.mpr c23
                          clear c23
                          replace H := Option.bind_eq_some_iff.mp H
                          obtain ⟨t135, A240, H⟩ := H
                          replace H : (some (t135, 0)) = some (r1, r2) := H
                          have A24 := Aside0.mk A240
                          clear A240
                          simp only [Option.some.injEq, Prod.mk.injEq] at H
                          obtain ⟨rfl, rfl⟩ := H
                          go_wp2_with (first | ((with_reducible refine gate_callee (f := 85) rfl ?_); refine goesL_ (some 73) rfl rfl Tryd.func85 (by kernel_rfl) rfl #[.bool (decide (a1 < a2))] rfl (by (try simp only [List.map_toArray, List.map_cons, List.map_nil]); first | done | rfl | (simp only [List.length_drop, List.length_take]; rfl)) ?_; (with_reducible refine (seedcornref01_flag.calls (decide (a1 < a2)) t135 _ A24.out).mono ?_); rintro e w' ⟨rfl, ⟨nd, rfl⟩⟩; refine ⟨_, rfl, ?_⟩))
                          go_ret2
                          exact ⟨by first | rfl | (simp [errW_none, errW_some] <;> rfl) | (simp [*, errW_none, errW_some] <;> rfl), by repeat (first | (with_reducible first | exact HB.out | apply below_alloc | apply pw_below_drewN | apply below_drew1) | exact HB.out)⟩
                        · rw [if_neg c23] at H
                          have c23b0 : (a0 == 14) = false := beq_eq_false_iff_ne.mpr c23
                          have c23b1 : (a0 != 14) = true := bne_iff_ne.mpr c23
                          by_cases c25 : a0 = 15
                          · rw [if_pos c25] at H
                            have c25b0 : (a0 == 15) = true := beq_iff_eq.mpr c25
                            have c25b1 : (a0 != 15) = false := bne_eq_false_iff_eq.mpr c25
                            clear c25
                            replace H := Option.bind_eq_some_iff.mp H
                            obtain ⟨t136, A260, H⟩ := H
                            replace H : (some (t136, 0)) = some (r1, r2) := H
                            have A26 := Aside0.mk A260
                            clear A260
                            simp only [Option.some.injEq, Prod.mk.injEq] at H
                            obtain ⟨rfl, rfl⟩ := H
                            go_wp2_with (first | ((with_reducible refine gate_callee (f := 85) rfl ?_); refine goesL_ (some 79) rfl rfl Tryd.func85 (by kernel_rfl) rfl #[.bool (a1 == a2)] rfl (by (try simp only [List.map_toArray, List.map_cons, List.map_nil]); first | done | rfl | (simp only [List.length_drop, List.length_take]; rfl)) ?_; (with_reducible refine (seedcornref01_flag.calls (a1 == a2) t136 _ A26.out).mono ?_); rintro e w' ⟨rfl, ⟨nd, rfl⟩⟩; refine ⟨_, rfl, ?_⟩))
                            go_ret2
                            exact ⟨by first | rfl | (simp [errW_none, errW_some] <;> rfl) | (simp [*, errW_none, errW_some] <;> rfl), by repeat (first | (with_reducible first | exact HB.out | apply below_alloc | apply pw_below_drewN | apply below_drew1) | exact HB.out)⟩
                          · rw [if_neg c25] at H
                            have c25b0 : (a0 == 15) = false := beq_eq_false_iff_ne.mpr c25
                            have c25b1 : (a0 != 15) = true := bne_iff_ne.mpr c25
                            simp only [Option.some.injEq, Prod.mk.injEq] at H
                            obtain ⟨rfl, rfl⟩ := H
                            go_wp2
                            go_ret2
                            exact ⟨by first | rfl | (simp [errW_none, errW_some] <;> rfl) | (simp [*, errW_none, errW_some] <;> rfl), by repeat (first | (with_reducible first | exact HB.out | apply below_alloc | apply pw_below_drewN | apply below_drew1) | exact HB.out)⟩
end Go.Proofs.YtdhkmdgieflioaaDoor.F
namespace Go.Proofs.YtdhkmdgieflioaaDoor.F
open Go.RowKit Go.Proofs.YtdhkmdgieflioaaDoorW.PrintWords Go.Proofs.YtdhkmdgieflioaaDoorW.PrintLast Go.Proofs.YtdhkmdgieflioaaDoorW.PrintMore
set_option linter.unusedVariables false
set_option linter.unusedSimpArgs false
def bitsR : Nat → Nat → List Int
  | 0, _ => []
  | k + 1, a => ((a % 2 : Nat) : Int) :: bitsR k (a / 2)
theorem bitsR_len : ∀ k a, (bitsR k a).length = k
  | 0, _ => rfl
  | k + 1, a => by simp [bitsR, bitsR_len k]
theorem wrap_id (x : Int) (h0 : -9223372036854775808 ≤ x) (h1 : x < 9223372036854775808) : wrap64 x = x := by
  unfold wrap64; omega
theorem wr0 : wrap64 0 = 0 := wrap_id 0 (by omega) (by omega)
theorem wr1 : wrap64 1 = 1 := wrap_id 1 (by omega) (by omega)
theorem wr2 : wrap64 2 = 2 := wrap_id 2 (by omega) (by omega)
theorem bits_l0 : ∀ (n k : Nat) (a : Nat) (xs : List Int) (i : Nat), n < k → i + n = 32 → xs.length = i → a < 4294967296 → seedcornref01_Bits.l0 k a xs i = some (xs ++ bitsR n a)
  | 0, k, a, xs, i, hk, hi, hx, ha => by
    obtain ⟨k, rfl⟩ : ∃ k', k = k' + 1 := ⟨k - 1, by omega⟩
    unfold seedcornref01_Bits.l0
    rw [if_neg (by omega)]
    simp [bitsR]
  | n + 1, k, a, xs, i, hk, hi, hx, ha => by
    obtain ⟨k, rfl⟩ : ∃ k', k = k' + 1 := ⟨k - 1, by omega⟩
    unfold seedcornref01_Bits.l0
    rw [if_pos (by omega), if_pos (by omega)]
    have e1 : Int.tdiv (a : Int) 2 % 4294967296 = ((a / 2 : Nat) : Int) := by
      rw [Int.tdiv_eq_ediv_of_nonneg (by omega)]; omega
    have e2 : wrap64 (Int.tmod (a : Int) 2) = ((a % 2 : Nat) : Int) := by
      rw [Int.tmod_eq_emod_of_nonneg (by omega), wrap_id _ (by omega) (by omega)]; omega
    have e3 : wrap64 ((i : Int) + 1) = ((i + 1 : Nat) : Int) := by rw [wrap_id _ (by omega) (by omega)]; omega
    rw [e1, e2, e3, bits_l0 n k (a / 2) _ (i + 1) (by omega) (by omega) (by simp [hx]) (by omega)]
    simp [bitsR]
theorem bits_f (a : Nat) (ha : a < 4294967296) : seedcornref01_Bits.f 40 a = some (bitsR 32 a) := by
  have := bits_l0 32 40 a [] 0 (by omega) (by omega) rfl ha
  simpa [seedcornref01_Bits.f] using this
theorem both_l0 (op : Int) : ∀ (n : Nat) (pre pre' xs ys : List Int), xs.length = n → ys.length = n → pre.length = pre'.length → both.l0 n op (pre ++ xs) (pre' ++ ys) pre.length = pre ++ List.zipWith (both1 op) xs ys
  | 0, pre, pre', xs, ys, hx, hy, hp => by
    have := List.length_eq_zero_iff.1 hx
    subst this
    simp [both.l0]
  | n + 1, pre, pre', xs, ys, hx, hy, hp => by
    obtain ⟨x, xs, rfl⟩ : ∃ x t, xs = x :: t := by cases xs with
      | nil => simp at hx
      | cons x t => exact ⟨x, t, rfl⟩
    obtain ⟨y, ys, rfl⟩ : ∃ x t, ys = x :: t := by cases ys with
      | nil => simp at hy
      | cons x t => exact ⟨x, t, rfl⟩
    unfold both.l0
    have e1 : rd (pre ++ x :: xs) pre.length = x := by simp [rd]
    have e2 : rd (pre' ++ y :: ys) pre.length = y := by simp [rd, hp]
    rw [e1, e2]
    have e3 : (pre ++ x :: xs).set pre.length (both1 op x y) = (pre ++ [both1 op x y]) ++ xs := by simp
    have e4 : pre' ++ y :: ys = (pre' ++ [y]) ++ ys := by simp
    rw [e3, e4]
    have := both_l0 op n (pre ++ [both1 op x y]) (pre' ++ [y]) xs ys (by simpa using hx) (by simpa using hy) (by simp [hp])
    simp only [List.length_append, List.length_singleton] at this
    rw [this]
    simp
def val : List Int → Nat
  | [] => 0
  | b :: t => b.toNat + 2 * val t
theorem val_append : ∀ (xs : List Int) (x : Int), val (xs ++ [x]) = val xs + x.toNat * 2 ^ xs.length
  | [], x => by simp [val]
  | b :: t, x => by
    simp only [List.cons_append, val, val_append t x, List.length_cons, Nat.pow_succ]
    have e : x.toNat * (2 ^ t.length * 2) = 2 * (x.toNat * 2 ^ t.length) := by rw [← Nat.mul_assoc, Nat.mul_comm]
    rw [e, Nat.mul_add]
    omega
theorem of_l0 (xs : List Int) (h01 : ∀ x ∈ xs, x = 0 ∨ x = 1) (hl : xs.length = 32) : ∀ (m k : Nat) (n : Nat), m < k → m ≤ 32 → n * 2 ^ m + 2 ^ m ≤ 2 ^ 32 →
    seedcornref01_Of.l0 k xs (n : Int) ((m : Int) - 1) = some (((n * 2 ^ m + val (xs.take m) : Nat) : Int))
  | 0, k, n, hk, hm, hn => by
    obtain ⟨k, rfl⟩ : ∃ k', k = k' + 1 := ⟨k - 1, by omega⟩
    unfold seedcornref01_Of.l0
    rw [if_neg (by omega)]
    simp only [Nat.pow_zero, Nat.mul_one, List.take_zero, val, Nat.add_zero] at hn ⊢
    rw [Int.tmod_eq_emod_of_nonneg (by omega)]
    have : (2 : Nat) ^ 32 = 4294967296 := by decide
    congr 1
    omega
  | m + 1, k, n, hk, hm, hn => by
    obtain ⟨k, rfl⟩ : ∃ k', k = k' + 1 := ⟨k - 1, by omega⟩
    have hlt : m < xs.length := by omega
    have hx : rd xs (((m + 1 : Nat) : Int) - 1) = xs[m] := by
      have : (((m + 1 : Nat) : Int) - 1).toNat = m := by omega
      simp [rd, this, List.getD_eq_getElem?_getD, List.getElem?_eq_getElem hlt]
    have hb := h01 _ (List.getElem_mem hlt)
    have h2 : (2 : Nat) ^ 32 = 4294967296 := by decide
    have h1m : 1 ≤ 2 ^ m := Nat.one_le_two_pow
    have hnn : n * 2 ^ (m + 1) = (2 * n) * 2 ^ m := by rw [Nat.pow_succ]; rw [Nat.mul_comm (2 ^ m) 2, ← Nat.mul_assoc, Nat.mul_comm n 2]
    have hp : 2 ^ (m + 1) = 2 * 2 ^ m := by rw [Nat.pow_succ, Nat.mul_comm]
    have hle : 2 * n ≤ (2 * n) * 2 ^ m := Nat.le_mul_of_pos_right _ (by omega)
    unfold seedcornref01_Of.l0
    rw [if_pos (by omega), if_pos (by omega), if_pos (by omega), hx]
    have e1 : IntKind.u64.wrap (IntKind.u64.wrap (2 * (n : Int)) + IntKind.u64.wrap xs[m]) = ((2 * n + xs[m].toNat : Nat) : Int) := by
      simp only [IntKind.wrap_u64]
      omega
    have e2 : wrap64 ((((m + 1 : Nat) : Int) - 1) - 1) = (m : Int) - 1 := by rw [wrap_id _ (by omega) (by omega)]; omega
    rw [e1, e2, of_l0 xs h01 hl m k (2 * n + xs[m].toNat) (by omega) (by omega) ?_]
    · congr 2
      rw [List.take_add_one, List.getElem?_eq_getElem hlt]
      simp only [Option.toList]
      rw [val_append, List.length_take, Nat.min_eq_left (by omega), hnn, Nat.add_mul]
      omega
    · rw [Nat.add_mul]
      have : xs[m].toNat * 2 ^ m ≤ 1 * 2 ^ m := Nat.mul_le_mul_right _ (by omega)
      omega
theorem of_f (xs : List Int) (h01 : ∀ x ∈ xs, x = 0 ∨ x = 1) (hl : xs.length = 32) : seedcornref01_Of.f 40 xs = some ((val xs : Nat) : Int) := by
  have h := of_l0 xs h01 hl 32 40 0 (by omega) (by omega) (by omega)
  rw [List.take_of_length_le (by omega)] at h
  unfold seedcornref01_Of.f
  rw [hl]
  have e : wrap64 (((32 : Nat) : Int) - 1) = ((32 : Nat) : Int) - 1 := wrap_id _ (by omega) (by omega)
  rw [e]
  simpa using h
def comb (op : Int) (a b : Nat) : Nat := if op = 9 then a &&& b else if op = 10 then a ||| b else a ^^^ b
theorem comb_step (op : Int) (hop : op = 9 ∨ op = 10 ∨ op = 11) (a b : Nat) : (both1 op ((a % 2 : Nat) : Int) ((b % 2 : Nat) : Int)).toNat = comb op a b % 2 ∧ comb op (a / 2) (b / 2) = comb op a b / 2 := by
  have ha : a % 2 = 0 ∨ a % 2 = 1 := by omega
  have hb : b % 2 = 0 ∨ b % 2 = 1 := by omega
  constructor
  · rcases hop with rfl | rfl | rfl <;> simp only [comb] <;> (have h1 := Nat.and_mod_two_pow (a := a) (b := b) (n := 1); have h2 := Nat.or_mod_two_pow (a := a) (b := b) (n := 1); have h3 := Nat.xor_mod_two_pow (a := a) (b := b) (n := 1); simp only [Nat.pow_one] at h1 h2 h3; rcases ha with ha | ha <;> rcases hb with hb | hb <;> simp [h1, h2, h3, ha, hb, both1, wr0, wr1, wr2])
  · rcases hop with rfl | rfl | rfl <;> simp only [comb] <;> simp [Nat.and_div_two, Nat.or_div_two, Nat.xor_div_two]
theorem val_zip (op : Int) (hop : op = 9 ∨ op = 10 ∨ op = 11) : ∀ (k a b : Nat), val (List.zipWith (both1 op) (bitsR k a) (bitsR k b)) = comb op a b % 2 ^ k
  | 0, a, b => by simp [val, bitsR]; omega
  | k + 1, a, b => by
    obtain ⟨h1, h2⟩ := comb_step op hop a b
    simp only [bitsR, List.zipWith_cons_cons, val, val_zip op hop k]
    rw [h1, h2, Nat.pow_succ, Nat.mul_comm (2 ^ k) 2, Nat.mod_mul]
theorem zip_01 (op : Int) : ∀ xs ys : List Int, ∀ x ∈ List.zipWith (both1 op) xs ys, x = 0 ∨ x = 1
  | [], ys => by simp
  | _ :: _, [] => by simp
  | a :: xs, b :: ys => by
    intro x hx
    rw [List.zipWith_cons_cons] at hx
    rcases List.mem_cons.1 hx with rfl | hx
    · unfold both1; split <;> omega
    · exact zip_01 op xs ys x hx
theorem both_f (op : Int) (hop : op = 9 ∨ op = 10 ∨ op = 11) (a b : Int) (h1 : 0 ≤ a) (h2 : a < 4294967296) (h3 : 0 ≤ b) (h4 : b < 4294967296) : seedcornref01_both.f op a b = some ((comb op a.toNat b.toNat : Nat) : Int) := by
  obtain ⟨a, rfl⟩ := Int.eq_ofNat_of_zero_le h1
  obtain ⟨b, rfl⟩ := Int.eq_ofNat_of_zero_le h3
  unfold seedcornref01_both.f
  rw [bits_f a (by omega), bits_f b (by omega)]
  simp only [Option.bind_some, bitsR_len, and_self, if_true]
  have := both_l0 op 32 [] [] (bitsR 32 a) (bitsR 32 b) (bitsR_len _ _) (bitsR_len _ _) rfl
  simp only [List.nil_append, List.length_nil] at this
  rw [this, of_f _ (zip_01 op _ _) (by simp [bitsR_len]), val_zip op hop]
  have hlt : comb op a b < 2 ^ 32 := by
    have e : (2 : Nat) ^ 32 = 4294967296 := by decide
    unfold comb
    split
    · exact Nat.and_lt_two_pow _ (by omega)
    · split
      · exact Nat.or_lt_two_pow (by omega) (by omega)
      · exact Nat.xor_lt_two_pow (by omega) (by omega)
  rw [Nat.mod_eq_of_lt hlt]
  simp
theorem apply_or (a b : Int) (h1 : 0 ≤ a) (h2 : a < 4294967296) (h3 : 0 ≤ b) (h4 : b < 4294967296) : seedcornref01_Apply.f 40 10 a b = some (((a.toNat ||| b.toNat : Nat) : Int), 0) := by
  have h := both_f 10 (Or.inr (Or.inl rfl)) a b h1 h2 h3 h4
  simp [seedcornref01_Apply.f, seedcornref01_Apply.j0, h, comb]
end Go.Proofs.YtdhkmdgieflioaaDoor.F
namespace Go.Proofs.YtdhkmdgieflioaaDoor.F
open Go.RowKit Go.Proofs.YtdhkmdgieflioaaDoorW.PrintWords Go.Proofs.YtdhkmdgieflioaaDoorW.PrintLast Go.Proofs.YtdhkmdgieflioaaDoorW.PrintMore
set_option linter.unusedVariables false
set_option linter.unusedSimpArgs false
set_option maxRecDepth 100000 in
set_option maxHeartbeats 1000000 in
theorem apply_4 (x y : Int) (hx : 0 ≤ x) (hx2 : x < 4294967296) (hy : 0 ≤ y) (hy2 : y < 4294967296) (W : World) :
    Calls Tryd.prog 47 #[.int .i64 4, .int .u32 x, .int .u32 y] W fun e w' => e = .returned (.tuple #[.int .u32 ((x + y) % 4294967296), .int .i64 0]) ∧ W = w' := by
  go_enter Tryd.func47, Tryd.ntmps47
  go_wp2
  go_ret2
  exact ⟨rfl, rfl⟩
set_option maxRecDepth 100000 in
set_option maxHeartbeats 1000000 in
theorem apply_5 (x y : Int) (hx : 0 ≤ x) (hx2 : x < 4294967296) (hy : 0 ≤ y) (hy2 : y < 4294967296) (W : World) :
    Calls Tryd.prog 47 #[.int .i64 5, .int .u32 x, .int .u32 y] W fun e w' => e = .returned (.tuple #[.int .u32 ((x + 4294967296 - y) % 4294967296), .int .i64 0]) ∧ W = w' := by
  go_enter Tryd.func47, Tryd.ntmps47
  go_wp2
  go_ret2
  exact ⟨rfl, rfl⟩
set_option maxRecDepth 100000 in
set_option maxHeartbeats 1000000 in
theorem apply_6 (x y : Int) (hx : 0 ≤ x) (hx2 : x < 4294967296) (hy : 0 ≤ y) (hy2 : y < 4294967296) (W : World) :
    Calls Tryd.prog 47 #[.int .i64 6, .int .u32 x, .int .u32 y] W fun e w' => e = .returned (.tuple #[.int .u32 (x * y % 4294967296), .int .i64 0]) ∧ W = w' := by
  have hm : (IntKind.u64.wrap (x * y)).tmod 4294967296 % 4294967296 = x * y % 4294967296 := by
    have h0 : 0 ≤ x * y := Int.mul_nonneg hx hy
    generalize x * y = z at h0
    rw [IntKind.wrap_u64]
    have h1 : 0 ≤ z % 18446744073709551616 := by omega
    rw [Int.tmod_eq_emod_of_nonneg h1]
    omega
  have HM := Lib.hid hm
  clear hm
  go_enter Tryd.func47, Tryd.ntmps47
  go_wp2
  go_ret2
  exact ⟨by rw [← HM.out]; rfl, rfl⟩
set_option maxRecDepth 100000 in
set_option maxHeartbeats 1000000 in
theorem apply_14 (x y : Int) (hx : 0 ≤ x) (hx2 : x < 4294967296) (hy : 0 ≤ y) (hy2 : y < 4294967296) (W : World) :
    Calls Tryd.prog 47 #[.int .i64 14, .int .u32 x, .int .u32 y] W fun e w' => e = .returned (.tuple #[.int .u32 (if x < y then 1 else 0), .int .i64 0]) ∧ W = w' := by
  by_cases h : x < y
  · rw [if_pos h]
    go_enter Tryd.func47, Tryd.ntmps47
    go_wp2
    go_ret2
    exact ⟨rfl, rfl⟩
  · rw [if_neg h]
    go_enter Tryd.func47, Tryd.ntmps47
    go_wp2
    go_ret2
    exact ⟨rfl, rfl⟩
set_option maxRecDepth 100000 in
set_option maxHeartbeats 1000000 in
theorem apply_15 (x y : Int) (hx : 0 ≤ x) (hx2 : x < 4294967296) (hy : 0 ≤ y) (hy2 : y < 4294967296) (W : World) :
    Calls Tryd.prog 47 #[.int .i64 15, .int .u32 x, .int .u32 y] W fun e w' => e = .returned (.tuple #[.int .u32 (if x = y then 1 else 0), .int .i64 0]) ∧ W = w' := by
  by_cases h : x = y
  · rw [if_pos h]
    go_enter Tryd.func47, Tryd.ntmps47
    go_wp2
    go_ret2
    exact ⟨rfl, rfl⟩
  · rw [if_neg h]
    go_enter Tryd.func47, Tryd.ntmps47
    go_wp2
    go_ret2
    exact ⟨rfl, rfl⟩
end Go.Proofs.YtdhkmdgieflioaaDoor.F
namespace Go.Proofs.YtdhkmdgieflioaaDoor.F
open Go.RowKit Go.Proofs.YtdhkmdgieflioaaDoorW.PrintWords Go.Proofs.YtdhkmdgieflioaaDoorW.PrintLast Go.Proofs.YtdhkmdgieflioaaDoorW.PrintMore
set_option linter.unusedVariables false
set_option linter.unusedSimpArgs false
set_option maxRecDepth 100000 in
set_option maxHeartbeats 8000000 in
theorem step_1_10_0_16 (W : World) (g cc bc bo : Nat) (pc : Nat) (r0 r1 r2 r3 r4 r5 r6 r7 r8 r9 r10 r11 r12 r13 r14 r15 rd st : Int) (mem outv wordsv : Value) (o0 inp : ByteArray) (co1 co2 co3 : Nat) (cs CC OK : Array Value)
    (hpc : pc < 37) (hst : 0 ≤ st ∧ st < 1000000) (hg : W.heap[g]? = some (.cells #[.int .i64 pc, .int .u32 r0, .int .u32 r1, .int .u32 r2, .int .u32 r3, .int .u32 r4, .int .u32 r5, .int .u32 r6, .int .u32 r7, .int .u32 r8, .int .u32 r9, .int .u32 r10, .int .u32 r11, .int .u32 r12, .int .u32 r13, .int .u32 r14, .int .u32 r15, mem, .int .i64 rd, .string o0, .int .i64 st, .int .i64 0, outv, .slice (some ⟨bc, 0, none⟩) 37 co1, .slice (some ⟨bo, 0, none⟩) 37 co2, wordsv, .string inp, .slice (some ⟨cc, 0, none⟩) 37 co3] 145 (0, 0)))
    (hcc : W.heap[cc]? = some (.cells cs 3 (0, 0))) (hcs : ∃ n, cs[pc]? = some (.int .i64 n)) (hbc : W.heap[bc]? = some (.cells CC 46 (0, 0))) (hbo : W.heap[bo]? = some (.cells OK 4 (0, 0)))
    (hk0 : CC[pc * 4]? = some (.int .i64 1)) (hk1 : CC[pc * 4 + 1]? = some (.int .i64 10)) (hk2 : CC[pc * 4 + 2]? = some (.int .i64 0)) (hk3 : CC[pc * 4 + 3]? = some (.int .i64 16)) (hok : OK[pc]? = some (.bool true)) :
    Calls Tryd.prog 131 #[.pointer (some ⟨g, 0, none⟩)] W (StepPost W g cc none cs pc #[.int .i64 (pc + 1), .int .u32 r0, .int .u32 r1, .int .u32 r2, .int .u32 r3, .int .u32 r4, .int .u32 r5, .int .u32 r6, .int .u32 r7, .int .u32 r8, .int .u32 r9, .int .u32 16, .int .u32 r11, .int .u32 r12, .int .u32 r13, .int .u32 r14, .int .u32 r15, mem, .int .i64 rd, .string o0, .int .i64 (st + 1), .int .i64 0, outv, .slice (some ⟨bc, 0, none⟩) 37 co1, .slice (some ⟨bo, 0, none⟩) 37 co2, wordsv, .string inp, .slice (some ⟨cc, 0, none⟩) 37 co3]) := by
  have hu145 := Tryd.underlying145
  have hu109 := Tryd.underlying109
  have hu46 := Tryd.underlying46
  have hlg := blk_lt hg
  have hlc := blk_lt hcc
  have hlb := blk_lt hbc
  have hlo := blk_lt hbo
  have n1 : cc ≠ g := blk_ne hcc hg (by decide)
  have n1' : g ≠ cc := fun h => n1 h.symm
  have n2 : bc ≠ g := blk_ne hbc hg (by decide)
  have n3 : bc ≠ cc := blk_ne hbc hcc (by decide)
  have n4 : bo ≠ g := blk_ne hbo hg (by decide)
  have n5 : bo ≠ cc := blk_ne hbo hcc (by decide)
  obtain ⟨cn, hcn⟩ := hcs
  have BG := Aside0.mk hg
  have BC := Aside0.mk hcc
  have fc : W.cell? ⟨cc, pc, none⟩ = some (.int .i64 cn) := (blk_cell hcc pc).trans hcn
  have zc := blk_frozen hcc pc
  have k0 := (blk_cell hbc (pc * 4)).trans hk0
  have k1 := (blk_cell hbc (pc * 4 + 1)).trans hk1
  have k2 := (blk_cell hbc (pc * 4 + 2)).trans hk2
  have k3 := (blk_cell hbc (pc * 4 + 3)).trans hk3
  have ko := (blk_cell hbo pc).trans hok
  clear hg hcc hcn hbc hbo hk0 hk1 hk2 hk3 hok
  have f0 : W.cell? ⟨g, 0, none⟩ = some (.int .i64 pc) := (blk_cell BG.out 0).trans rfl
  have f20 : W.cell? ⟨g, 20, none⟩ = some (.int .i64 st) := (blk_cell BG.out 20).trans rfl
  have f23 : W.cell? ⟨g, 23, none⟩ = some (.slice (some ⟨bc, 0, none⟩) 37 co1) := (blk_cell BG.out 23).trans rfl
  have f24 : W.cell? ⟨g, 24, none⟩ = some (.slice (some ⟨bo, 0, none⟩) 37 co2) := (blk_cell BG.out 24).trans rfl
  have f27 : W.cell? ⟨g, 27, none⟩ = some (.slice (some ⟨cc, 0, none⟩) 37 co3) := (blk_cell BG.out 27).trans rfl
  have f11 : W.cell? ⟨g, 11, none⟩ = some (.int .u32 r10) := (blk_cell BG.out 11).trans rfl
  have z0 := blk_frozen BG.out 0
  have z11 := blk_frozen BG.out 11
  have z20 := blk_frozen BG.out 20
  have z21 := blk_frozen BG.out 21
  have h1 : ¬ (pc : Int) < 0 := by omega
  have h1b : decide ((pc : Int) < 0) = false := by simp
  go_enter Tryd.func131, Tryd.ntmps131
  go_wp2_with fail
  go_quiet (fail)
  go_wp2_with fail
  go_region
  go_wp2_with fail
  go_region
  go_wp2_with fail
  go_region
  go_wp2_with fail
  go_region
  go_wp2
  go_end0
  go_wp2
  all_goals first | go_end0 | ((try simp only [Exit.inBlock, Exit.then]); refine bodyPost_ret (results_none rfl _ _ _) rfl ?_)
  refine ⟨rfl, ?h1_, ?h2_, ?h3_⟩
  case h1_ => exact blk_is (by (repeat (with_reducible first | exact BG.out | apply blk_drewN | apply blk_drew | apply blk_alloc | apply blk_set | apply blk_farc n1'))) (by rfl)
  case h2_ => exact ⟨_, by (repeat (with_reducible first | exact BC.out | apply blk_drewN | apply blk_drew | apply blk_alloc | apply blk_set | apply blk_farc n1))⟩
  case h3_ => (repeat (with_reducible first | exact Stp.refl _ _ _ _ | refine Stp.drewN ?_ _ | refine Stp.drew ?_ | refine Stp.alloc ?_ _ | refine Stp.setg ?_ _ _ | refine Stp.setc ?_ _ _))
end Go.Proofs.YtdhkmdgieflioaaDoor.F
namespace Go.Proofs.YtdhkmdgieflioaaDoor.F
open Go.RowKit Go.Proofs.YtdhkmdgieflioaaDoorW.PrintWords Go.Proofs.YtdhkmdgieflioaaDoorW.PrintLast Go.Proofs.YtdhkmdgieflioaaDoorW.PrintMore
set_option linter.unusedVariables false
set_option linter.unusedSimpArgs false
set_option maxRecDepth 100000 in
set_option maxHeartbeats 8000000 in
theorem step_1_11_0_10 (W : World) (g cc bc bo : Nat) (pc : Nat) (r0 r1 r2 r3 r4 r5 r6 r7 r8 r9 r10 r11 r12 r13 r14 r15 rd st : Int) (mem outv wordsv : Value) (o0 inp : ByteArray) (co1 co2 co3 : Nat) (cs CC OK : Array Value)
    (hpc : pc < 37) (hst : 0 ≤ st ∧ st < 1000000) (hg : W.heap[g]? = some (.cells #[.int .i64 pc, .int .u32 r0, .int .u32 r1, .int .u32 r2, .int .u32 r3, .int .u32 r4, .int .u32 r5, .int .u32 r6, .int .u32 r7, .int .u32 r8, .int .u32 r9, .int .u32 r10, .int .u32 r11, .int .u32 r12, .int .u32 r13, .int .u32 r14, .int .u32 r15, mem, .int .i64 rd, .string o0, .int .i64 st, .int .i64 0, outv, .slice (some ⟨bc, 0, none⟩) 37 co1, .slice (some ⟨bo, 0, none⟩) 37 co2, wordsv, .string inp, .slice (some ⟨cc, 0, none⟩) 37 co3] 145 (0, 0)))
    (hcc : W.heap[cc]? = some (.cells cs 3 (0, 0))) (hcs : ∃ n, cs[pc]? = some (.int .i64 n)) (hbc : W.heap[bc]? = some (.cells CC 46 (0, 0))) (hbo : W.heap[bo]? = some (.cells OK 4 (0, 0)))
    (hk0 : CC[pc * 4]? = some (.int .i64 1)) (hk1 : CC[pc * 4 + 1]? = some (.int .i64 11)) (hk2 : CC[pc * 4 + 2]? = some (.int .i64 0)) (hk3 : CC[pc * 4 + 3]? = some (.int .i64 10)) (hok : OK[pc]? = some (.bool true)) :
    Calls Tryd.prog 131 #[.pointer (some ⟨g, 0, none⟩)] W (StepPost W g cc none cs pc #[.int .i64 (pc + 1), .int .u32 r0, .int .u32 r1, .int .u32 r2, .int .u32 r3, .int .u32 r4, .int .u32 r5, .int .u32 r6, .int .u32 r7, .int .u32 r8, .int .u32 r9, .int .u32 r10, .int .u32 10, .int .u32 r12, .int .u32 r13, .int .u32 r14, .int .u32 r15, mem, .int .i64 rd, .string o0, .int .i64 (st + 1), .int .i64 0, outv, .slice (some ⟨bc, 0, none⟩) 37 co1, .slice (some ⟨bo, 0, none⟩) 37 co2, wordsv, .string inp, .slice (some ⟨cc, 0, none⟩) 37 co3]) := by
  have hu145 := Tryd.underlying145
  have hu109 := Tryd.underlying109
  have hu46 := Tryd.underlying46
  have hlg := blk_lt hg
  have hlc := blk_lt hcc
  have hlb := blk_lt hbc
  have hlo := blk_lt hbo
  have n1 : cc ≠ g := blk_ne hcc hg (by decide)
  have n1' : g ≠ cc := fun h => n1 h.symm
  have n2 : bc ≠ g := blk_ne hbc hg (by decide)
  have n3 : bc ≠ cc := blk_ne hbc hcc (by decide)
  have n4 : bo ≠ g := blk_ne hbo hg (by decide)
  have n5 : bo ≠ cc := blk_ne hbo hcc (by decide)
  obtain ⟨cn, hcn⟩ := hcs
  have BG := Aside0.mk hg
  have BC := Aside0.mk hcc
  have fc : W.cell? ⟨cc, pc, none⟩ = some (.int .i64 cn) := (blk_cell hcc pc).trans hcn
  have zc := blk_frozen hcc pc
  have k0 := (blk_cell hbc (pc * 4)).trans hk0
  have k1 := (blk_cell hbc (pc * 4 + 1)).trans hk1
  have k2 := (blk_cell hbc (pc * 4 + 2)).trans hk2
  have k3 := (blk_cell hbc (pc * 4 + 3)).trans hk3
  have ko := (blk_cell hbo pc).trans hok
  clear hg hcc hcn hbc hbo hk0 hk1 hk2 hk3 hok
  have f0 : W.cell? ⟨g, 0, none⟩ = some (.int .i64 pc) := (blk_cell BG.out 0).trans rfl
  have f20 : W.cell? ⟨g, 20, none⟩ = some (.int .i64 st) := (blk_cell BG.out 20).trans rfl
  have f23 : W.cell? ⟨g, 23, none⟩ = some (.slice (some ⟨bc, 0, none⟩) 37 co1) := (blk_cell BG.out 23).trans rfl
  have f24 : W.cell? ⟨g, 24, none⟩ = some (.slice (some ⟨bo, 0, none⟩) 37 co2) := (blk_cell BG.out 24).trans rfl
  have f27 : W.cell? ⟨g, 27, none⟩ = some (.slice (some ⟨cc, 0, none⟩) 37 co3) := (blk_cell BG.out 27).trans rfl
  have f12 : W.cell? ⟨g, 12, none⟩ = some (.int .u32 r11) := (blk_cell BG.out 12).trans rfl
  have z0 := blk_frozen BG.out 0
  have z12 := blk_frozen BG.out 12
  have z20 := blk_frozen BG.out 20
  have z21 := blk_frozen BG.out 21
  have h1 : ¬ (pc : Int) < 0 := by omega
  have h1b : decide ((pc : Int) < 0) = false := by simp
  go_enter Tryd.func131, Tryd.ntmps131
  go_wp2_with fail
  go_quiet (fail)
  go_wp2_with fail
  go_region
  go_wp2_with fail
  go_region
  go_wp2_with fail
  go_region
  go_wp2_with fail
  go_region
  go_wp2
  go_end0
  go_wp2
  all_goals first | go_end0 | ((try simp only [Exit.inBlock, Exit.then]); refine bodyPost_ret (results_none rfl _ _ _) rfl ?_)
  refine ⟨rfl, ?h1_, ?h2_, ?h3_⟩
  case h1_ => exact blk_is (by (repeat (with_reducible first | exact BG.out | apply blk_drewN | apply blk_drew | apply blk_alloc | apply blk_set | apply blk_farc n1'))) (by rfl)
  case h2_ => exact ⟨_, by (repeat (with_reducible first | exact BC.out | apply blk_drewN | apply blk_drew | apply blk_alloc | apply blk_set | apply blk_farc n1))⟩
  case h3_ => (repeat (with_reducible first | exact Stp.refl _ _ _ _ | refine Stp.drewN ?_ _ | refine Stp.drew ?_ | refine Stp.alloc ?_ _ | refine Stp.setg ?_ _ _ | refine Stp.setc ?_ _ _))
end Go.Proofs.YtdhkmdgieflioaaDoor.F
namespace Go.Proofs.YtdhkmdgieflioaaDoor.F
open Go.RowKit Go.Proofs.YtdhkmdgieflioaaDoorW.PrintWords Go.Proofs.YtdhkmdgieflioaaDoorW.PrintLast Go.Proofs.YtdhkmdgieflioaaDoorW.PrintMore
set_option linter.unusedVariables false
set_option linter.unusedSimpArgs false
set_option maxRecDepth 100000 in
set_option maxHeartbeats 8000000 in
theorem step_23_1_0_0_in (W : World) (g cc bc bo : Nat) (pc : Nat) (r0 r1 r2 r3 r4 r5 r6 r7 r8 r9 r10 r11 r12 r13 r14 r15 rd st : Int) (mem outv wordsv : Value) (o0 inp : ByteArray) (co1 co2 co3 : Nat) (cs CC OK : Array Value)
    (hpc : pc < 37) (hst : 0 ≤ st ∧ st < 1000000) (hg : W.heap[g]? = some (.cells #[.int .i64 pc, .int .u32 r0, .int .u32 r1, .int .u32 r2, .int .u32 r3, .int .u32 r4, .int .u32 r5, .int .u32 r6, .int .u32 r7, .int .u32 r8, .int .u32 r9, .int .u32 r10, .int .u32 r11, .int .u32 r12, .int .u32 r13, .int .u32 r14, .int .u32 r15, mem, .int .i64 rd, .string o0, .int .i64 st, .int .i64 0, outv, .slice (some ⟨bc, 0, none⟩) 37 co1, .slice (some ⟨bo, 0, none⟩) 37 co2, wordsv, .string inp, .slice (some ⟨cc, 0, none⟩) 37 co3] 145 (0, 0)))
    (hcc : W.heap[cc]? = some (.cells cs 3 (0, 0))) (hcs : ∃ n, cs[pc]? = some (.int .i64 n)) (hbc : W.heap[bc]? = some (.cells CC 46 (0, 0))) (hbo : W.heap[bo]? = some (.cells OK 4 (0, 0)))
    (hk0 : CC[pc * 4]? = some (.int .i64 23)) (hk1 : CC[pc * 4 + 1]? = some (.int .i64 1)) (hk2 : CC[pc * 4 + 2]? = some (.int .i64 0)) (hk3 : CC[pc * 4 + 3]? = some (.int .i64 0)) (hok : OK[pc]? = some (.bool true))
    (rn : Nat) (hrn : rd = rn) (hlt : rn < inp.size) (hsz : inp.size < 1000000) :
    Calls Tryd.prog 131 #[.pointer (some ⟨g, 0, none⟩)] W (StepPost W g cc none cs pc #[.int .i64 (pc + 1), .int .u32 r0, .int .u32 ((inp[rn].toNat : Int) % 4294967296), .int .u32 r2, .int .u32 r3, .int .u32 r4, .int .u32 r5, .int .u32 r6, .int .u32 r7, .int .u32 r8, .int .u32 r9, .int .u32 r10, .int .u32 r11, .int .u32 r12, .int .u32 r13, .int .u32 r14, .int .u32 r15, mem, .int .i64 (rn + 1), .string o0, .int .i64 (st + 1), .int .i64 0, outv, .slice (some ⟨bc, 0, none⟩) 37 co1, .slice (some ⟨bo, 0, none⟩) 37 co2, wordsv, .string inp, .slice (some ⟨cc, 0, none⟩) 37 co3]) := by
  subst hrn
  have hu145 := Tryd.underlying145
  have hu109 := Tryd.underlying109
  have hu46 := Tryd.underlying46
  have hlg := blk_lt hg
  have hlc := blk_lt hcc
  have hlb := blk_lt hbc
  have hlo := blk_lt hbo
  have n1 : cc ≠ g := blk_ne hcc hg (by decide)
  have n1' : g ≠ cc := fun h => n1 h.symm
  have n2 : bc ≠ g := blk_ne hbc hg (by decide)
  have n3 : bc ≠ cc := blk_ne hbc hcc (by decide)
  have n4 : bo ≠ g := blk_ne hbo hg (by decide)
  have n5 : bo ≠ cc := blk_ne hbo hcc (by decide)
  obtain ⟨cn, hcn⟩ := hcs
  have BG := Aside0.mk hg
  have BC := Aside0.mk hcc
  have fc : W.cell? ⟨cc, pc, none⟩ = some (.int .i64 cn) := (blk_cell hcc pc).trans hcn
  have zc := blk_frozen hcc pc
  have k0 := (blk_cell hbc (pc * 4)).trans hk0
  have k1 := (blk_cell hbc (pc * 4 + 1)).trans hk1
  have k2 := (blk_cell hbc (pc * 4 + 2)).trans hk2
  have k3 := (blk_cell hbc (pc * 4 + 3)).trans hk3
  have ko := (blk_cell hbo pc).trans hok
  clear hg hcc hcn hbc hbo hk0 hk1 hk2 hk3 hok
  have f0 : W.cell? ⟨g, 0, none⟩ = some (.int .i64 pc) := (blk_cell BG.out 0).trans rfl
  have f20 : W.cell? ⟨g, 20, none⟩ = some (.int .i64 st) := (blk_cell BG.out 20).trans rfl
  have f23 : W.cell? ⟨g, 23, none⟩ = some (.slice (some ⟨bc, 0, none⟩) 37 co1) := (blk_cell BG.out 23).trans rfl
  have f24 : W.cell? ⟨g, 24, none⟩ = some (.slice (some ⟨bo, 0, none⟩) 37 co2) := (blk_cell BG.out 24).trans rfl
  have f27 : W.cell? ⟨g, 27, none⟩ = some (.slice (some ⟨cc, 0, none⟩) 37 co3) := (blk_cell BG.out 27).trans rfl
  have f2 : W.cell? ⟨g, 2, none⟩ = some (.int .u32 r1) := (blk_cell BG.out 2).trans rfl
  have f18 : W.cell? ⟨g, 18, none⟩ = some (.int .i64 rn) := (blk_cell BG.out 18).trans rfl
  have f26 : W.cell? ⟨g, 26, none⟩ = some (.string inp) := (blk_cell BG.out 26).trans rfl
  have z0 := blk_frozen BG.out 0
  have z2 := blk_frozen BG.out 2
  have z18 := blk_frozen BG.out 18
  have z20 := blk_frozen BG.out 20
  have z21 := blk_frozen BG.out 21
  have h1 : ¬ (pc : Int) < 0 := by omega
  have h1b : decide ((pc : Int) < 0) = false := by simp
  have g1b : decide ((rn : Int) < 0) = false := by simp
  go_enter Tryd.func131, Tryd.ntmps131
  go_wp2_with fail
  go_quiet (fail)
  go_wp2_with fail
  go_region
  go_wp2_with fail
  go_region
  go_wp2_with fail
  go_region
  go_wp2_with fail
  go_region
  go_wp2_with fail
  go_quiet (fail)
  go_wp2_with fail
  go_region
  go_wp2
  go_end0
  go_wp2
  all_goals first | go_end0 | ((try simp only [Exit.inBlock, Exit.then]); refine bodyPost_ret (results_none rfl _ _ _) rfl ?_)
  refine ⟨rfl, ?h1_, ?h2_, ?h3_⟩
  case h1_ => exact blk_is (by (repeat (with_reducible first | exact BG.out | apply blk_drewN | apply blk_drew | apply blk_alloc | apply blk_set | apply blk_farc n1'))) (by rfl)
  case h2_ => exact ⟨_, by (repeat (with_reducible first | exact BC.out | apply blk_drewN | apply blk_drew | apply blk_alloc | apply blk_set | apply blk_farc n1))⟩
  case h3_ => (repeat (with_reducible first | exact Stp.refl _ _ _ _ | refine Stp.drewN ?_ _ | refine Stp.drew ?_ | refine Stp.alloc ?_ _ | refine Stp.setg ?_ _ _ | refine Stp.setc ?_ _ _))
set_option maxRecDepth 100000 in
set_option maxHeartbeats 8000000 in
theorem step_23_1_0_0_end (W : World) (g cc bc bo : Nat) (pc : Nat) (r0 r1 r2 r3 r4 r5 r6 r7 r8 r9 r10 r11 r12 r13 r14 r15 rd st : Int) (mem outv wordsv : Value) (o0 inp : ByteArray) (co1 co2 co3 : Nat) (cs CC OK : Array Value)
    (hpc : pc < 37) (hst : 0 ≤ st ∧ st < 1000000) (hg : W.heap[g]? = some (.cells #[.int .i64 pc, .int .u32 r0, .int .u32 r1, .int .u32 r2, .int .u32 r3, .int .u32 r4, .int .u32 r5, .int .u32 r6, .int .u32 r7, .int .u32 r8, .int .u32 r9, .int .u32 r10, .int .u32 r11, .int .u32 r12, .int .u32 r13, .int .u32 r14, .int .u32 r15, mem, .int .i64 rd, .string o0, .int .i64 st, .int .i64 0, outv, .slice (some ⟨bc, 0, none⟩) 37 co1, .slice (some ⟨bo, 0, none⟩) 37 co2, wordsv, .string inp, .slice (some ⟨cc, 0, none⟩) 37 co3] 145 (0, 0)))
    (hcc : W.heap[cc]? = some (.cells cs 3 (0, 0))) (hcs : ∃ n, cs[pc]? = some (.int .i64 n)) (hbc : W.heap[bc]? = some (.cells CC 46 (0, 0))) (hbo : W.heap[bo]? = some (.cells OK 4 (0, 0)))
    (hk0 : CC[pc * 4]? = some (.int .i64 23)) (hk1 : CC[pc * 4 + 1]? = some (.int .i64 1)) (hk2 : CC[pc * 4 + 2]? = some (.int .i64 0)) (hk3 : CC[pc * 4 + 3]? = some (.int .i64 0)) (hok : OK[pc]? = some (.bool true))
    (rn : Nat) (hrn : rd = rn) (hlt : inp.size ≤ rn) (hsz : inp.size < 1000000) :
    Calls Tryd.prog 131 #[.pointer (some ⟨g, 0, none⟩)] W (StepPost W g cc none cs pc #[.int .i64 (pc + 1), .int .u32 r0, .int .u32 256, .int .u32 r2, .int .u32 r3, .int .u32 r4, .int .u32 r5, .int .u32 r6, .int .u32 r7, .int .u32 r8, .int .u32 r9, .int .u32 r10, .int .u32 r11, .int .u32 r12, .int .u32 r13, .int .u32 r14, .int .u32 r15, mem, .int .i64 rn, .string o0, .int .i64 (st + 1), .int .i64 0, outv, .slice (some ⟨bc, 0, none⟩) 37 co1, .slice (some ⟨bo, 0, none⟩) 37 co2, wordsv, .string inp, .slice (some ⟨cc, 0, none⟩) 37 co3]) := by
  subst hrn
  have hu145 := Tryd.underlying145
  have hu109 := Tryd.underlying109
  have hu46 := Tryd.underlying46
  have hlg := blk_lt hg
  have hlc := blk_lt hcc
  have hlb := blk_lt hbc
  have hlo := blk_lt hbo
  have n1 : cc ≠ g := blk_ne hcc hg (by decide)
  have n1' : g ≠ cc := fun h => n1 h.symm
  have n2 : bc ≠ g := blk_ne hbc hg (by decide)
  have n3 : bc ≠ cc := blk_ne hbc hcc (by decide)
  have n4 : bo ≠ g := blk_ne hbo hg (by decide)
  have n5 : bo ≠ cc := blk_ne hbo hcc (by decide)
  obtain ⟨cn, hcn⟩ := hcs
  have BG := Aside0.mk hg
  have BC := Aside0.mk hcc
  have fc : W.cell? ⟨cc, pc, none⟩ = some (.int .i64 cn) := (blk_cell hcc pc).trans hcn
  have zc := blk_frozen hcc pc
  have k0 := (blk_cell hbc (pc * 4)).trans hk0
  have k1 := (blk_cell hbc (pc * 4 + 1)).trans hk1
  have k2 := (blk_cell hbc (pc * 4 + 2)).trans hk2
  have k3 := (blk_cell hbc (pc * 4 + 3)).trans hk3
  have ko := (blk_cell hbo pc).trans hok
  clear hg hcc hcn hbc hbo hk0 hk1 hk2 hk3 hok
  have f0 : W.cell? ⟨g, 0, none⟩ = some (.int .i64 pc) := (blk_cell BG.out 0).trans rfl
  have f20 : W.cell? ⟨g, 20, none⟩ = some (.int .i64 st) := (blk_cell BG.out 20).trans rfl
  have f23 : W.cell? ⟨g, 23, none⟩ = some (.slice (some ⟨bc, 0, none⟩) 37 co1) := (blk_cell BG.out 23).trans rfl
  have f24 : W.cell? ⟨g, 24, none⟩ = some (.slice (some ⟨bo, 0, none⟩) 37 co2) := (blk_cell BG.out 24).trans rfl
  have f27 : W.cell? ⟨g, 27, none⟩ = some (.slice (some ⟨cc, 0, none⟩) 37 co3) := (blk_cell BG.out 27).trans rfl
  have f2 : W.cell? ⟨g, 2, none⟩ = some (.int .u32 r1) := (blk_cell BG.out 2).trans rfl
  have f18 : W.cell? ⟨g, 18, none⟩ = some (.int .i64 rn) := (blk_cell BG.out 18).trans rfl
  have f26 : W.cell? ⟨g, 26, none⟩ = some (.string inp) := (blk_cell BG.out 26).trans rfl
  have z0 := blk_frozen BG.out 0
  have z2 := blk_frozen BG.out 2
  have z18 := blk_frozen BG.out 18
  have z20 := blk_frozen BG.out 20
  have z21 := blk_frozen BG.out 21
  have h1 : ¬ (pc : Int) < 0 := by omega
  have h1b : decide ((pc : Int) < 0) = false := by simp
  have g1b : decide ((rn : Int) < 0) = false := by simp
  go_enter Tryd.func131, Tryd.ntmps131
  go_wp2_with fail
  go_quiet (fail)
  go_wp2_with fail
  go_region
  go_wp2_with fail
  go_region
  go_wp2_with fail
  go_region
  go_wp2_with fail
  go_region
  go_wp2_with fail
  go_quiet (fail)
  go_wp2
  go_end0
  go_wp2
  all_goals first | go_end0 | ((try simp only [Exit.inBlock, Exit.then]); refine bodyPost_ret (results_none rfl _ _ _) rfl ?_)
  refine ⟨rfl, ?h1_, ?h2_, ?h3_⟩
  case h1_ => exact blk_is (by (repeat (with_reducible first | exact BG.out | apply blk_drewN | apply blk_drew | apply blk_alloc | apply blk_set | apply blk_farc n1'))) (by rfl)
  case h2_ => exact ⟨_, by (repeat (with_reducible first | exact BC.out | apply blk_drewN | apply blk_drew | apply blk_alloc | apply blk_set | apply blk_farc n1))⟩
  case h3_ => (repeat (with_reducible first | exact Stp.refl _ _ _ _ | refine Stp.drewN ?_ _ | refine Stp.drew ?_ | refine Stp.alloc ?_ _ | refine Stp.setg ?_ _ _ | refine Stp.setc ?_ _ _))
end Go.Proofs.YtdhkmdgieflioaaDoor.F
namespace Go.Proofs.YtdhkmdgieflioaaDoor.F
open Go.RowKit Go.Proofs.YtdhkmdgieflioaaDoorW.PrintWords Go.Proofs.YtdhkmdgieflioaaDoorW.PrintLast Go.Proofs.YtdhkmdgieflioaaDoorW.PrintMore
set_option linter.unusedVariables false
set_option linter.unusedSimpArgs false
set_option maxRecDepth 100000 in
set_option maxHeartbeats 8000000 in
theorem step_1_2_0_256 (W : World) (g cc bc bo : Nat) (pc : Nat) (r0 r1 r2 r3 r4 r5 r6 r7 r8 r9 r10 r11 r12 r13 r14 r15 rd st : Int) (mem outv wordsv : Value) (o0 inp : ByteArray) (co1 co2 co3 : Nat) (cs CC OK : Array Value)
    (hpc : pc < 37) (hst : 0 ≤ st ∧ st < 1000000) (hg : W.heap[g]? = some (.cells #[.int .i64 pc, .int .u32 r0, .int .u32 r1, .int .u32 r2, .int .u32 r3, .int .u32 r4, .int .u32 r5, .int .u32 r6, .int .u32 r7, .int .u32 r8, .int .u32 r9, .int .u32 r10, .int .u32 r11, .int .u32 r12, .int .u32 r13, .int .u32 r14, .int .u32 r15, mem, .int .i64 rd, .string o0, .int .i64 st, .int .i64 0, outv, .slice (some ⟨bc, 0, none⟩) 37 co1, .slice (some ⟨bo, 0, none⟩) 37 co2, wordsv, .string inp, .slice (some ⟨cc, 0, none⟩) 37 co3] 145 (0, 0)))
    (hcc : W.heap[cc]? = some (.cells cs 3 (0, 0))) (hcs : ∃ n, cs[pc]? = some (.int .i64 n)) (hbc : W.heap[bc]? = some (.cells CC 46 (0, 0))) (hbo : W.heap[bo]? = some (.cells OK 4 (0, 0)))
    (hk0 : CC[pc * 4]? = some (.int .i64 1)) (hk1 : CC[pc * 4 + 1]? = some (.int .i64 2)) (hk2 : CC[pc * 4 + 2]? = some (.int .i64 0)) (hk3 : CC[pc * 4 + 3]? = some (.int .i64 256)) (hok : OK[pc]? = some (.bool true)) :
    Calls Tryd.prog 131 #[.pointer (some ⟨g, 0, none⟩)] W (StepPost W g cc none cs pc #[.int .i64 (pc + 1), .int .u32 r0, .int .u32 r1, .int .u32 256, .int .u32 r3, .int .u32 r4, .int .u32 r5, .int .u32 r6, .int .u32 r7, .int .u32 r8, .int .u32 r9, .int .u32 r10, .int .u32 r11, .int .u32 r12, .int .u32 r13, .int .u32 r14, .int .u32 r15, mem, .int .i64 rd, .string o0, .int .i64 (st + 1), .int .i64 0, outv, .slice (some ⟨bc, 0, none⟩) 37 co1, .slice (some ⟨bo, 0, none⟩) 37 co2, wordsv, .string inp, .slice (some ⟨cc, 0, none⟩) 37 co3]) := by
  have hu145 := Tryd.underlying145
  have hu109 := Tryd.underlying109
  have hu46 := Tryd.underlying46
  have hlg := blk_lt hg
  have hlc := blk_lt hcc
  have hlb := blk_lt hbc
  have hlo := blk_lt hbo
  have n1 : cc ≠ g := blk_ne hcc hg (by decide)
  have n1' : g ≠ cc := fun h => n1 h.symm
  have n2 : bc ≠ g := blk_ne hbc hg (by decide)
  have n3 : bc ≠ cc := blk_ne hbc hcc (by decide)
  have n4 : bo ≠ g := blk_ne hbo hg (by decide)
  have n5 : bo ≠ cc := blk_ne hbo hcc (by decide)
  obtain ⟨cn, hcn⟩ := hcs
  have BG := Aside0.mk hg
  have BC := Aside0.mk hcc
  have fc : W.cell? ⟨cc, pc, none⟩ = some (.int .i64 cn) := (blk_cell hcc pc).trans hcn
  have zc := blk_frozen hcc pc
  have k0 := (blk_cell hbc (pc * 4)).trans hk0
  have k1 := (blk_cell hbc (pc * 4 + 1)).trans hk1
  have k2 := (blk_cell hbc (pc * 4 + 2)).trans hk2
  have k3 := (blk_cell hbc (pc * 4 + 3)).trans hk3
  have ko := (blk_cell hbo pc).trans hok
  clear hg hcc hcn hbc hbo hk0 hk1 hk2 hk3 hok
  have f0 : W.cell? ⟨g, 0, none⟩ = some (.int .i64 pc) := (blk_cell BG.out 0).trans rfl
  have f20 : W.cell? ⟨g, 20, none⟩ = some (.int .i64 st) := (blk_cell BG.out 20).trans rfl
  have f23 : W.cell? ⟨g, 23, none⟩ = some (.slice (some ⟨bc, 0, none⟩) 37 co1) := (blk_cell BG.out 23).trans rfl
  have f24 : W.cell? ⟨g, 24, none⟩ = some (.slice (some ⟨bo, 0, none⟩) 37 co2) := (blk_cell BG.out 24).trans rfl
  have f27 : W.cell? ⟨g, 27, none⟩ = some (.slice (some ⟨cc, 0, none⟩) 37 co3) := (blk_cell BG.out 27).trans rfl
  have f3 : W.cell? ⟨g, 3, none⟩ = some (.int .u32 r2) := (blk_cell BG.out 3).trans rfl
  have z0 := blk_frozen BG.out 0
  have z3 := blk_frozen BG.out 3
  have z20 := blk_frozen BG.out 20
  have z21 := blk_frozen BG.out 21
  have h1 : ¬ (pc : Int) < 0 := by omega
  have h1b : decide ((pc : Int) < 0) = false := by simp
  go_enter Tryd.func131, Tryd.ntmps131
  go_wp2_with fail
  go_quiet (fail)
  go_wp2_with fail
  go_region
  go_wp2_with fail
  go_region
  go_wp2_with fail
  go_region
  go_wp2_with fail
  go_region
  go_wp2
  go_end0
  go_wp2
  all_goals first | go_end0 | ((try simp only [Exit.inBlock, Exit.then]); refine bodyPost_ret (results_none rfl _ _ _) rfl ?_)
  refine ⟨rfl, ?h1_, ?h2_, ?h3_⟩
  case h1_ => exact blk_is (by (repeat (with_reducible first | exact BG.out | apply blk_drewN | apply blk_drew | apply blk_alloc | apply blk_set | apply blk_farc n1'))) (by rfl)
  case h2_ => exact ⟨_, by (repeat (with_reducible first | exact BC.out | apply blk_drewN | apply blk_drew | apply blk_alloc | apply blk_set | apply blk_farc n1))⟩
  case h3_ => (repeat (with_reducible first | exact Stp.refl _ _ _ _ | refine Stp.drewN ?_ _ | refine Stp.drew ?_ | refine Stp.alloc ?_ _ | refine Stp.setg ?_ _ _ | refine Stp.setc ?_ _ _))
end Go.Proofs.YtdhkmdgieflioaaDoor.F
namespace Go.Proofs.YtdhkmdgieflioaaDoor.F
open Go.RowKit Go.Proofs.YtdhkmdgieflioaaDoorW.PrintWords Go.Proofs.YtdhkmdgieflioaaDoorW.PrintLast Go.Proofs.YtdhkmdgieflioaaDoorW.PrintMore
set_option linter.unusedVariables false
set_option linter.unusedSimpArgs false
set_option maxRecDepth 100000 in
set_option maxHeartbeats 8000000 in
theorem step_15_5_1_2 (W : World) (g cc bc bo : Nat) (pc : Nat) (r0 r1 r2 r3 r4 r5 r6 r7 r8 r9 r10 r11 r12 r13 r14 r15 rd st : Int) (mem outv wordsv : Value) (o0 inp : ByteArray) (co1 co2 co3 : Nat) (cs CC OK : Array Value)
    (hpc : pc < 37) (hst : 0 ≤ st ∧ st < 1000000) (hg : W.heap[g]? = some (.cells #[.int .i64 pc, .int .u32 r0, .int .u32 r1, .int .u32 r2, .int .u32 r3, .int .u32 r4, .int .u32 r5, .int .u32 r6, .int .u32 r7, .int .u32 r8, .int .u32 r9, .int .u32 r10, .int .u32 r11, .int .u32 r12, .int .u32 r13, .int .u32 r14, .int .u32 r15, mem, .int .i64 rd, .string o0, .int .i64 st, .int .i64 0, outv, .slice (some ⟨bc, 0, none⟩) 37 co1, .slice (some ⟨bo, 0, none⟩) 37 co2, wordsv, .string inp, .slice (some ⟨cc, 0, none⟩) 37 co3] 145 (0, 0)))
    (hcc : W.heap[cc]? = some (.cells cs 3 (0, 0))) (hcs : ∃ n, cs[pc]? = some (.int .i64 n)) (hbc : W.heap[bc]? = some (.cells CC 46 (0, 0))) (hbo : W.heap[bo]? = some (.cells OK 4 (0, 0)))
    (hk0 : CC[pc * 4]? = some (.int .i64 15)) (hk1 : CC[pc * 4 + 1]? = some (.int .i64 5)) (hk2 : CC[pc * 4 + 2]? = some (.int .i64 1)) (hk3 : CC[pc * 4 + 3]? = some (.int .i64 2)) (hok : OK[pc]? = some (.bool true))
    (hx : 0 ≤ r1) (hx2 : r1 < 4294967296) (hy : 0 ≤ r2) (hy2 : r2 < 4294967296) :
    Calls Tryd.prog 131 #[.pointer (some ⟨g, 0, none⟩)] W (StepPost W g cc none cs pc #[.int .i64 (pc + 1), .int .u32 r0, .int .u32 r1, .int .u32 r2, .int .u32 r3, .int .u32 r4, .int .u32 (if r1 = r2 then 1 else 0), .int .u32 r6, .int .u32 r7, .int .u32 r8, .int .u32 r9, .int .u32 r10, .int .u32 r11, .int .u32 r12, .int .u32 r13, .int .u32 r14, .int .u32 r15, mem, .int .i64 rd, .string o0, .int .i64 (st + 1), .int .i64 0, outv, .slice (some ⟨bc, 0, none⟩) 37 co1, .slice (some ⟨bo, 0, none⟩) 37 co2, wordsv, .string inp, .slice (some ⟨cc, 0, none⟩) 37 co3]) := by
  have hu145 := Tryd.underlying145
  have hu109 := Tryd.underlying109
  have hu46 := Tryd.underlying46
  have hlg := blk_lt hg
  have hlc := blk_lt hcc
  have hlb := blk_lt hbc
  have hlo := blk_lt hbo
  have n1 : cc ≠ g := blk_ne hcc hg (by decide)
  have n1' : g ≠ cc := fun h => n1 h.symm
  have n2 : bc ≠ g := blk_ne hbc hg (by decide)
  have n3 : bc ≠ cc := blk_ne hbc hcc (by decide)
  have n4 : bo ≠ g := blk_ne hbo hg (by decide)
  have n5 : bo ≠ cc := blk_ne hbo hcc (by decide)
  obtain ⟨cn, hcn⟩ := hcs
  have BG := Aside0.mk hg
  have BC := Aside0.mk hcc
  have fc : W.cell? ⟨cc, pc, none⟩ = some (.int .i64 cn) := (blk_cell hcc pc).trans hcn
  have zc := blk_frozen hcc pc
  have k0 := (blk_cell hbc (pc * 4)).trans hk0
  have k1 := (blk_cell hbc (pc * 4 + 1)).trans hk1
  have k2 := (blk_cell hbc (pc * 4 + 2)).trans hk2
  have k3 := (blk_cell hbc (pc * 4 + 3)).trans hk3
  have ko := (blk_cell hbo pc).trans hok
  clear hg hcc hcn hbc hbo hk0 hk1 hk2 hk3 hok
  have f0 : W.cell? ⟨g, 0, none⟩ = some (.int .i64 pc) := (blk_cell BG.out 0).trans rfl
  have f20 : W.cell? ⟨g, 20, none⟩ = some (.int .i64 st) := (blk_cell BG.out 20).trans rfl
  have f23 : W.cell? ⟨g, 23, none⟩ = some (.slice (some ⟨bc, 0, none⟩) 37 co1) := (blk_cell BG.out 23).trans rfl
  have f24 : W.cell? ⟨g, 24, none⟩ = some (.slice (some ⟨bo, 0, none⟩) 37 co2) := (blk_cell BG.out 24).trans rfl
  have f27 : W.cell? ⟨g, 27, none⟩ = some (.slice (some ⟨cc, 0, none⟩) 37 co3) := (blk_cell BG.out 27).trans rfl
  have f2 : W.cell? ⟨g, 2, none⟩ = some (.int .u32 r1) := (blk_cell BG.out 2).trans rfl
  have f3 : W.cell? ⟨g, 3, none⟩ = some (.int .u32 r2) := (blk_cell BG.out 3).trans rfl
  have f6 : W.cell? ⟨g, 6, none⟩ = some (.int .u32 r5) := (blk_cell BG.out 6).trans rfl
  have z0 := blk_frozen BG.out 0
  have z6 := blk_frozen BG.out 6
  have z20 := blk_frozen BG.out 20
  have z21 := blk_frozen BG.out 21
  have h1 : ¬ (pc : Int) < 0 := by omega
  have h1b : decide ((pc : Int) < 0) = false := by simp
  obtain ⟨rv, hrv⟩ : ∃ rv : Int, rv = if r1 = r2 then 1 else 0 := ⟨_, rfl⟩
  have hap : ∀ W_, Calls Tryd.prog 47 #[.int .i64 15, .int .u32 r1, .int .u32 r2] W_ fun e w' => e = .returned (.tuple #[.int .u32 rv, .int .i64 0]) ∧ w' = W_ := fun W_ => (apply_15 r1 r2 hx hx2 hy hy2 W_).mono fun e w' h => ⟨by rw [hrv]; exact h.1, h.2.symm⟩
  have HAP := Aside0.mk hap
  clear hap
  rw [← hrv]
  clear hrv
  go_enter Tryd.func131, Tryd.ntmps131
  go_wp2_with fail
  go_quiet (fail)
  go_wp2_with fail
  go_region
  go_wp2_with fail
  go_region
  go_wp2_with fail
  go_region
  go_wp2_with fail
  go_region
  go_wp2_with fail
  go_quiet ((exact (HAP.out _).mono fun _ _ h => ⟨h.1, _, h.2⟩))
  go_wp2
  go_end0
  go_wp2
  all_goals first | go_end0 | ((try simp only [Exit.inBlock, Exit.then]); refine bodyPost_ret (results_none rfl _ _ _) rfl ?_)
  refine ⟨rfl, ?h1_, ?h2_, ?h3_⟩
  case h1_ => exact blk_is (by (repeat (with_reducible first | exact BG.out | apply blk_drewN | apply blk_drew | apply blk_alloc | apply blk_set | apply blk_farc n1'))) (by rfl)
  case h2_ => exact ⟨_, by (repeat (with_reducible first | exact BC.out | apply blk_drewN | apply blk_drew | apply blk_alloc | apply blk_set | apply blk_farc n1))⟩
  case h3_ => (repeat (with_reducible first | exact Stp.refl _ _ _ _ | refine Stp.drewN ?_ _ | refine Stp.drew ?_ | refine Stp.alloc ?_ _ | refine Stp.setg ?_ _ _ | refine Stp.setc ?_ _ _))
end Go.Proofs.YtdhkmdgieflioaaDoor.F
namespace Go.Proofs.YtdhkmdgieflioaaDoor.F
open Go.RowKit Go.Proofs.YtdhkmdgieflioaaDoorW.PrintWords Go.Proofs.YtdhkmdgieflioaaDoorW.PrintLast Go.Proofs.YtdhkmdgieflioaaDoorW.PrintMore
set_option linter.unusedVariables false
set_option linter.unusedSimpArgs false
set_option maxRecDepth 100000 in
set_option maxHeartbeats 8000000 in
theorem step_20_5_0_36_z (W : World) (g cc bc bo : Nat) (pc : Nat) (r0 r1 r2 r3 r4 r5 r6 r7 r8 r9 r10 r11 r12 r13 r14 r15 rd st : Int) (mem outv wordsv : Value) (o0 inp : ByteArray) (co1 co2 co3 : Nat) (cs CC OK : Array Value)
    (hpc : pc < 37) (hst : 0 ≤ st ∧ st < 1000000) (hg : W.heap[g]? = some (.cells #[.int .i64 pc, .int .u32 r0, .int .u32 r1, .int .u32 r2, .int .u32 r3, .int .u32 r4, .int .u32 r5, .int .u32 r6, .int .u32 r7, .int .u32 r8, .int .u32 r9, .int .u32 r10, .int .u32 r11, .int .u32 r12, .int .u32 r13, .int .u32 r14, .int .u32 r15, mem, .int .i64 rd, .string o0, .int .i64 st, .int .i64 0, outv, .slice (some ⟨bc, 0, none⟩) 37 co1, .slice (some ⟨bo, 0, none⟩) 37 co2, wordsv, .string inp, .slice (some ⟨cc, 0, none⟩) 37 co3] 145 (0, 0)))
    (hcc : W.heap[cc]? = some (.cells cs 3 (0, 0))) (hcs : ∃ n, cs[pc]? = some (.int .i64 n)) (hbc : W.heap[bc]? = some (.cells CC 46 (0, 0))) (hbo : W.heap[bo]? = some (.cells OK 4 (0, 0)))
    (hk0 : CC[pc * 4]? = some (.int .i64 20)) (hk1 : CC[pc * 4 + 1]? = some (.int .i64 5)) (hk2 : CC[pc * 4 + 2]? = some (.int .i64 0)) (hk3 : CC[pc * 4 + 3]? = some (.int .i64 36)) (hok : OK[pc]? = some (.bool true))
    (hz1 : (r5 == 0) = true) (hz2 : (r5 != 0) = false) :
    Calls Tryd.prog 131 #[.pointer (some ⟨g, 0, none⟩)] W (StepPost W g cc none cs pc #[.int .i64 (pc + 1), .int .u32 r0, .int .u32 r1, .int .u32 r2, .int .u32 r3, .int .u32 r4, .int .u32 r5, .int .u32 r6, .int .u32 r7, .int .u32 r8, .int .u32 r9, .int .u32 r10, .int .u32 r11, .int .u32 r12, .int .u32 r13, .int .u32 r14, .int .u32 r15, mem, .int .i64 rd, .string o0, .int .i64 (st + 1), .int .i64 0, outv, .slice (some ⟨bc, 0, none⟩) 37 co1, .slice (some ⟨bo, 0, none⟩) 37 co2, wordsv, .string inp, .slice (some ⟨cc, 0, none⟩) 37 co3]) := by
  have hu145 := Tryd.underlying145
  have hu109 := Tryd.underlying109
  have hu46 := Tryd.underlying46
  have hlg := blk_lt hg
  have hlc := blk_lt hcc
  have hlb := blk_lt hbc
  have hlo := blk_lt hbo
  have n1 : cc ≠ g := blk_ne hcc hg (by decide)
  have n1' : g ≠ cc := fun h => n1 h.symm
  have n2 : bc ≠ g := blk_ne hbc hg (by decide)
  have n3 : bc ≠ cc := blk_ne hbc hcc (by decide)
  have n4 : bo ≠ g := blk_ne hbo hg (by decide)
  have n5 : bo ≠ cc := blk_ne hbo hcc (by decide)
  obtain ⟨cn, hcn⟩ := hcs
  have BG := Aside0.mk hg
  have BC := Aside0.mk hcc
  have fc : W.cell? ⟨cc, pc, none⟩ = some (.int .i64 cn) := (blk_cell hcc pc).trans hcn
  have zc := blk_frozen hcc pc
  have k0 := (blk_cell hbc (pc * 4)).trans hk0
  have k1 := (blk_cell hbc (pc * 4 + 1)).trans hk1
  have k2 := (blk_cell hbc (pc * 4 + 2)).trans hk2
  have k3 := (blk_cell hbc (pc * 4 + 3)).trans hk3
  have ko := (blk_cell hbo pc).trans hok
  clear hg hcc hcn hbc hbo hk0 hk1 hk2 hk3 hok
  have f0 : W.cell? ⟨g, 0, none⟩ = some (.int .i64 pc) := (blk_cell BG.out 0).trans rfl
  have f20 : W.cell? ⟨g, 20, none⟩ = some (.int .i64 st) := (blk_cell BG.out 20).trans rfl
  have f23 : W.cell? ⟨g, 23, none⟩ = some (.slice (some ⟨bc, 0, none⟩) 37 co1) := (blk_cell BG.out 23).trans rfl
  have f24 : W.cell? ⟨g, 24, none⟩ = some (.slice (some ⟨bo, 0, none⟩) 37 co2) := (blk_cell BG.out 24).trans rfl
  have f27 : W.cell? ⟨g, 27, none⟩ = some (.slice (some ⟨cc, 0, none⟩) 37 co3) := (blk_cell BG.out 27).trans rfl
  have f6 : W.cell? ⟨g, 6, none⟩ = some (.int .u32 r5) := (blk_cell BG.out 6).trans rfl
  have z0 := blk_frozen BG.out 0
  have z6 := blk_frozen BG.out 6
  have z20 := blk_frozen BG.out 20
  have z21 := blk_frozen BG.out 21
  have h1 : ¬ (pc : Int) < 0 := by omega
  have h1b : decide ((pc : Int) < 0) = false := by simp
  go_enter Tryd.func131, Tryd.ntmps131
  go_wp2_with fail
  go_quiet (fail)
  go_wp2_with fail
  go_region
  go_wp2_with fail
  go_region
  go_wp2_with fail
  go_region
  go_wp2_with fail
  go_region
  go_wp2
  go_end0
  go_wp2
  all_goals first | go_end0 | ((try simp only [Exit.inBlock, Exit.then]); refine bodyPost_ret (results_none rfl _ _ _) rfl ?_)
  refine ⟨rfl, ?h1_, ?h2_, ?h3_⟩
  case h1_ => exact blk_is (by (repeat (with_reducible first | exact BG.out | apply blk_drewN | apply blk_drew | apply blk_alloc | apply blk_set | apply blk_farc n1'))) (by rfl)
  case h2_ => exact ⟨_, by (repeat (with_reducible first | exact BC.out | apply blk_drewN | apply blk_drew | apply blk_alloc | apply blk_set | apply blk_farc n1))⟩
  case h3_ => (repeat (with_reducible first | exact Stp.refl _ _ _ _ | refine Stp.drewN ?_ _ | refine Stp.drew ?_ | refine Stp.alloc ?_ _ | refine Stp.setg ?_ _ _ | refine Stp.setc ?_ _ _))
set_option maxRecDepth 100000 in
set_option maxHeartbeats 8000000 in
theorem step_20_5_0_36_n (W : World) (g cc bc bo : Nat) (pc : Nat) (r0 r1 r2 r3 r4 r5 r6 r7 r8 r9 r10 r11 r12 r13 r14 r15 rd st : Int) (mem outv wordsv : Value) (o0 inp : ByteArray) (co1 co2 co3 : Nat) (cs CC OK : Array Value)
    (hpc : pc < 37) (hst : 0 ≤ st ∧ st < 1000000) (hg : W.heap[g]? = some (.cells #[.int .i64 pc, .int .u32 r0, .int .u32 r1, .int .u32 r2, .int .u32 r3, .int .u32 r4, .int .u32 r5, .int .u32 r6, .int .u32 r7, .int .u32 r8, .int .u32 r9, .int .u32 r10, .int .u32 r11, .int .u32 r12, .int .u32 r13, .int .u32 r14, .int .u32 r15, mem, .int .i64 rd, .string o0, .int .i64 st, .int .i64 0, outv, .slice (some ⟨bc, 0, none⟩) 37 co1, .slice (some ⟨bo, 0, none⟩) 37 co2, wordsv, .string inp, .slice (some ⟨cc, 0, none⟩) 37 co3] 145 (0, 0)))
    (hcc : W.heap[cc]? = some (.cells cs 3 (0, 0))) (hcs : ∃ n, cs[pc]? = some (.int .i64 n)) (hbc : W.heap[bc]? = some (.cells CC 46 (0, 0))) (hbo : W.heap[bo]? = some (.cells OK 4 (0, 0)))
    (hk0 : CC[pc * 4]? = some (.int .i64 20)) (hk1 : CC[pc * 4 + 1]? = some (.int .i64 5)) (hk2 : CC[pc * 4 + 2]? = some (.int .i64 0)) (hk3 : CC[pc * 4 + 3]? = some (.int .i64 36)) (hok : OK[pc]? = some (.bool true))
    (hz1 : (r5 == 0) = false) (hz2 : (r5 != 0) = true) :
    Calls Tryd.prog 131 #[.pointer (some ⟨g, 0, none⟩)] W (StepPost W g cc none cs pc #[.int .i64 36, .int .u32 r0, .int .u32 r1, .int .u32 r2, .int .u32 r3, .int .u32 r4, .int .u32 r5, .int .u32 r6, .int .u32 r7, .int .u32 r8, .int .u32 r9, .int .u32 r10, .int .u32 r11, .int .u32 r12, .int .u32 r13, .int .u32 r14, .int .u32 r15, mem, .int .i64 rd, .string o0, .int .i64 (st + 1), .int .i64 0, outv, .slice (some ⟨bc, 0, none⟩) 37 co1, .slice (some ⟨bo, 0, none⟩) 37 co2, wordsv, .string inp, .slice (some ⟨cc, 0, none⟩) 37 co3]) := by
  have hu145 := Tryd.underlying145
  have hu109 := Tryd.underlying109
  have hu46 := Tryd.underlying46
  have hlg := blk_lt hg
  have hlc := blk_lt hcc
  have hlb := blk_lt hbc
  have hlo := blk_lt hbo
  have n1 : cc ≠ g := blk_ne hcc hg (by decide)
  have n1' : g ≠ cc := fun h => n1 h.symm
  have n2 : bc ≠ g := blk_ne hbc hg (by decide)
  have n3 : bc ≠ cc := blk_ne hbc hcc (by decide)
  have n4 : bo ≠ g := blk_ne hbo hg (by decide)
  have n5 : bo ≠ cc := blk_ne hbo hcc (by decide)
  obtain ⟨cn, hcn⟩ := hcs
  have BG := Aside0.mk hg
  have BC := Aside0.mk hcc
  have fc : W.cell? ⟨cc, pc, none⟩ = some (.int .i64 cn) := (blk_cell hcc pc).trans hcn
  have zc := blk_frozen hcc pc
  have k0 := (blk_cell hbc (pc * 4)).trans hk0
  have k1 := (blk_cell hbc (pc * 4 + 1)).trans hk1
  have k2 := (blk_cell hbc (pc * 4 + 2)).trans hk2
  have k3 := (blk_cell hbc (pc * 4 + 3)).trans hk3
  have ko := (blk_cell hbo pc).trans hok
  clear hg hcc hcn hbc hbo hk0 hk1 hk2 hk3 hok
  have f0 : W.cell? ⟨g, 0, none⟩ = some (.int .i64 pc) := (blk_cell BG.out 0).trans rfl
  have f20 : W.cell? ⟨g, 20, none⟩ = some (.int .i64 st) := (blk_cell BG.out 20).trans rfl
  have f23 : W.cell? ⟨g, 23, none⟩ = some (.slice (some ⟨bc, 0, none⟩) 37 co1) := (blk_cell BG.out 23).trans rfl
  have f24 : W.cell? ⟨g, 24, none⟩ = some (.slice (some ⟨bo, 0, none⟩) 37 co2) := (blk_cell BG.out 24).trans rfl
  have f27 : W.cell? ⟨g, 27, none⟩ = some (.slice (some ⟨cc, 0, none⟩) 37 co3) := (blk_cell BG.out 27).trans rfl
  have f6 : W.cell? ⟨g, 6, none⟩ = some (.int .u32 r5) := (blk_cell BG.out 6).trans rfl
  have z0 := blk_frozen BG.out 0
  have z6 := blk_frozen BG.out 6
  have z20 := blk_frozen BG.out 20
  have z21 := blk_frozen BG.out 21
  have h1 : ¬ (pc : Int) < 0 := by omega
  have h1b : decide ((pc : Int) < 0) = false := by simp
  go_enter Tryd.func131, Tryd.ntmps131
  go_wp2_with fail
  go_quiet (fail)
  go_wp2_with fail
  go_region
  go_wp2_with fail
  go_region
  go_wp2_with fail
  go_region
  go_wp2_with fail
  go_region
  go_wp2
  go_end0
  go_wp2
  all_goals first | go_end0 | ((try simp only [Exit.inBlock, Exit.then]); refine bodyPost_ret (results_none rfl _ _ _) rfl ?_)
  refine ⟨rfl, ?h1_, ?h2_, ?h3_⟩
  case h1_ => exact blk_is (by (repeat (with_reducible first | exact BG.out | apply blk_drewN | apply blk_drew | apply blk_alloc | apply blk_set | apply blk_farc n1'))) (by rfl)
  case h2_ => exact ⟨_, by (repeat (with_reducible first | exact BC.out | apply blk_drewN | apply blk_drew | apply blk_alloc | apply blk_set | apply blk_farc n1))⟩
  case h3_ => (repeat (with_reducible first | exact Stp.refl _ _ _ _ | refine Stp.drewN ?_ _ | refine Stp.drew ?_ | refine Stp.alloc ?_ _ | refine Stp.setg ?_ _ _ | refine Stp.setc ?_ _ _))
end Go.Proofs.YtdhkmdgieflioaaDoor.F
namespace Go.Proofs.YtdhkmdgieflioaaDoor.F
open Go.RowKit Go.Proofs.YtdhkmdgieflioaaDoorW.PrintWords Go.Proofs.YtdhkmdgieflioaaDoorW.PrintLast Go.Proofs.YtdhkmdgieflioaaDoorW.PrintMore
set_option linter.unusedVariables false
set_option linter.unusedSimpArgs false
set_option maxRecDepth 100000 in
set_option maxHeartbeats 8000000 in
theorem step_1_2_0_35 (W : World) (g cc bc bo : Nat) (pc : Nat) (r0 r1 r2 r3 r4 r5 r6 r7 r8 r9 r10 r11 r12 r13 r14 r15 rd st : Int) (mem outv wordsv : Value) (o0 inp : ByteArray) (co1 co2 co3 : Nat) (cs CC OK : Array Value)
    (hpc : pc < 37) (hst : 0 ≤ st ∧ st < 1000000) (hg : W.heap[g]? = some (.cells #[.int .i64 pc, .int .u32 r0, .int .u32 r1, .int .u32 r2, .int .u32 r3, .int .u32 r4, .int .u32 r5, .int .u32 r6, .int .u32 r7, .int .u32 r8, .int .u32 r9, .int .u32 r10, .int .u32 r11, .int .u32 r12, .int .u32 r13, .int .u32 r14, .int .u32 r15, mem, .int .i64 rd, .string o0, .int .i64 st, .int .i64 0, outv, .slice (some ⟨bc, 0, none⟩) 37 co1, .slice (some ⟨bo, 0, none⟩) 37 co2, wordsv, .string inp, .slice (some ⟨cc, 0, none⟩) 37 co3] 145 (0, 0)))
    (hcc : W.heap[cc]? = some (.cells cs 3 (0, 0))) (hcs : ∃ n, cs[pc]? = some (.int .i64 n)) (hbc : W.heap[bc]? = some (.cells CC 46 (0, 0))) (hbo : W.heap[bo]? = some (.cells OK 4 (0, 0)))
    (hk0 : CC[pc * 4]? = some (.int .i64 1)) (hk1 : CC[pc * 4 + 1]? = some (.int .i64 2)) (hk2 : CC[pc * 4 + 2]? = some (.int .i64 0)) (hk3 : CC[pc * 4 + 3]? = some (.int .i64 35)) (hok : OK[pc]? = some (.bool true)) :
    Calls Tryd.prog 131 #[.pointer (some ⟨g, 0, none⟩)] W (StepPost W g cc none cs pc #[.int .i64 (pc + 1), .int .u32 r0, .int .u32 r1, .int .u32 35, .int .u32 r3, .int .u32 r4, .int .u32 r5, .int .u32 r6, .int .u32 r7, .int .u32 r8, .int .u32 r9, .int .u32 r10, .int .u32 r11, .int .u32 r12, .int .u32 r13, .int .u32 r14, .int .u32 r15, mem, .int .i64 rd, .string o0, .int .i64 (st + 1), .int .i64 0, outv, .slice (some ⟨bc, 0, none⟩) 37 co1, .slice (some ⟨bo, 0, none⟩) 37 co2, wordsv, .string inp, .slice (some ⟨cc, 0, none⟩) 37 co3]) := by
  have hu145 := Tryd.underlying145
  have hu109 := Tryd.underlying109
  have hu46 := Tryd.underlying46
  have hlg := blk_lt hg
  have hlc := blk_lt hcc
  have hlb := blk_lt hbc
  have hlo := blk_lt hbo
  have n1 : cc ≠ g := blk_ne hcc hg (by decide)
  have n1' : g ≠ cc := fun h => n1 h.symm
  have n2 : bc ≠ g := blk_ne hbc hg (by decide)
  have n3 : bc ≠ cc := blk_ne hbc hcc (by decide)
  have n4 : bo ≠ g := blk_ne hbo hg (by decide)
  have n5 : bo ≠ cc := blk_ne hbo hcc (by decide)
  obtain ⟨cn, hcn⟩ := hcs
  have BG := Aside0.mk hg
  have BC := Aside0.mk hcc
  have fc : W.cell? ⟨cc, pc, none⟩ = some (.int .i64 cn) := (blk_cell hcc pc).trans hcn
  have zc := blk_frozen hcc pc
  have k0 := (blk_cell hbc (pc * 4)).trans hk0
  have k1 := (blk_cell hbc (pc * 4 + 1)).trans hk1
  have k2 := (blk_cell hbc (pc * 4 + 2)).trans hk2
  have k3 := (blk_cell hbc (pc * 4 + 3)).trans hk3
  have ko := (blk_cell hbo pc).trans hok
  clear hg hcc hcn hbc hbo hk0 hk1 hk2 hk3 hok
  have f0 : W.cell? ⟨g, 0, none⟩ = some (.int .i64 pc) := (blk_cell BG.out 0).trans rfl
  have f20 : W.cell? ⟨g, 20, none⟩ = some (.int .i64 st) := (blk_cell BG.out 20).trans rfl
  have f23 : W.cell? ⟨g, 23, none⟩ = some (.slice (some ⟨bc, 0, none⟩) 37 co1) := (blk_cell BG.out 23).trans rfl
  have f24 : W.cell? ⟨g, 24, none⟩ = some (.slice (some ⟨bo, 0, none⟩) 37 co2) := (blk_cell BG.out 24).trans rfl
  have f27 : W.cell? ⟨g, 27, none⟩ = some (.slice (some ⟨cc, 0, none⟩) 37 co3) := (blk_cell BG.out 27).trans rfl
  have f3 : W.cell? ⟨g, 3, none⟩ = some (.int .u32 r2) := (blk_cell BG.out 3).trans rfl
  have z0 := blk_frozen BG.out 0
  have z3 := blk_frozen BG.out 3
  have z20 := blk_frozen BG.out 20
  have z21 := blk_frozen BG.out 21
  have h1 : ¬ (pc : Int) < 0 := by omega
  have h1b : decide ((pc : Int) < 0) = false := by simp
  go_enter Tryd.func131, Tryd.ntmps131
  go_wp2_with fail
  go_quiet (fail)
  go_wp2_with fail
  go_region
  go_wp2_with fail
  go_region
  go_wp2_with fail
  go_region
  go_wp2_with fail
  go_region
  go_wp2
  go_end0
  go_wp2
  all_goals first | go_end0 | ((try simp only [Exit.inBlock, Exit.then]); refine bodyPost_ret (results_none rfl _ _ _) rfl ?_)
  refine ⟨rfl, ?h1_, ?h2_, ?h3_⟩
  case h1_ => exact blk_is (by (repeat (with_reducible first | exact BG.out | apply blk_drewN | apply blk_drew | apply blk_alloc | apply blk_set | apply blk_farc n1'))) (by rfl)
  case h2_ => exact ⟨_, by (repeat (with_reducible first | exact BC.out | apply blk_drewN | apply blk_drew | apply blk_alloc | apply blk_set | apply blk_farc n1))⟩
  case h3_ => (repeat (with_reducible first | exact Stp.refl _ _ _ _ | refine Stp.drewN ?_ _ | refine Stp.drew ?_ | refine Stp.alloc ?_ _ | refine Stp.setg ?_ _ _ | refine Stp.setc ?_ _ _))
end Go.Proofs.YtdhkmdgieflioaaDoor.F
namespace Go.Proofs.YtdhkmdgieflioaaDoor.F
open Go.RowKit Go.Proofs.YtdhkmdgieflioaaDoorW.PrintWords Go.Proofs.YtdhkmdgieflioaaDoorW.PrintLast Go.Proofs.YtdhkmdgieflioaaDoorW.PrintMore
set_option linter.unusedVariables false
set_option linter.unusedSimpArgs false
set_option maxRecDepth 100000 in
set_option maxHeartbeats 8000000 in
theorem step_20_5_0_29_z (W : World) (g cc bc bo : Nat) (pc : Nat) (r0 r1 r2 r3 r4 r5 r6 r7 r8 r9 r10 r11 r12 r13 r14 r15 rd st : Int) (mem outv wordsv : Value) (o0 inp : ByteArray) (co1 co2 co3 : Nat) (cs CC OK : Array Value)
    (hpc : pc < 37) (hst : 0 ≤ st ∧ st < 1000000) (hg : W.heap[g]? = some (.cells #[.int .i64 pc, .int .u32 r0, .int .u32 r1, .int .u32 r2, .int .u32 r3, .int .u32 r4, .int .u32 r5, .int .u32 r6, .int .u32 r7, .int .u32 r8, .int .u32 r9, .int .u32 r10, .int .u32 r11, .int .u32 r12, .int .u32 r13, .int .u32 r14, .int .u32 r15, mem, .int .i64 rd, .string o0, .int .i64 st, .int .i64 0, outv, .slice (some ⟨bc, 0, none⟩) 37 co1, .slice (some ⟨bo, 0, none⟩) 37 co2, wordsv, .string inp, .slice (some ⟨cc, 0, none⟩) 37 co3] 145 (0, 0)))
    (hcc : W.heap[cc]? = some (.cells cs 3 (0, 0))) (hcs : ∃ n, cs[pc]? = some (.int .i64 n)) (hbc : W.heap[bc]? = some (.cells CC 46 (0, 0))) (hbo : W.heap[bo]? = some (.cells OK 4 (0, 0)))
    (hk0 : CC[pc * 4]? = some (.int .i64 20)) (hk1 : CC[pc * 4 + 1]? = some (.int .i64 5)) (hk2 : CC[pc * 4 + 2]? = some (.int .i64 0)) (hk3 : CC[pc * 4 + 3]? = some (.int .i64 29)) (hok : OK[pc]? = some (.bool true))
    (hz1 : (r5 == 0) = true) (hz2 : (r5 != 0) = false) :
    Calls Tryd.prog 131 #[.pointer (some ⟨g, 0, none⟩)] W (StepPost W g cc none cs pc #[.int .i64 (pc + 1), .int .u32 r0, .int .u32 r1, .int .u32 r2, .int .u32 r3, .int .u32 r4, .int .u32 r5, .int .u32 r6, .int .u32 r7, .int .u32 r8, .int .u32 r9, .int .u32 r10, .int .u32 r11, .int .u32 r12, .int .u32 r13, .int .u32 r14, .int .u32 r15, mem, .int .i64 rd, .string o0, .int .i64 (st + 1), .int .i64 0, outv, .slice (some ⟨bc, 0, none⟩) 37 co1, .slice (some ⟨bo, 0, none⟩) 37 co2, wordsv, .string inp, .slice (some ⟨cc, 0, none⟩) 37 co3]) := by
  have hu145 := Tryd.underlying145
  have hu109 := Tryd.underlying109
  have hu46 := Tryd.underlying46
  have hlg := blk_lt hg
  have hlc := blk_lt hcc
  have hlb := blk_lt hbc
  have hlo := blk_lt hbo
  have n1 : cc ≠ g := blk_ne hcc hg (by decide)
  have n1' : g ≠ cc := fun h => n1 h.symm
  have n2 : bc ≠ g := blk_ne hbc hg (by decide)
  have n3 : bc ≠ cc := blk_ne hbc hcc (by decide)
  have n4 : bo ≠ g := blk_ne hbo hg (by decide)
  have n5 : bo ≠ cc := blk_ne hbo hcc (by decide)
  obtain ⟨cn, hcn⟩ := hcs
  have BG := Aside0.mk hg
  have BC := Aside0.mk hcc
  have fc : W.cell? ⟨cc, pc, none⟩ = some (.int .i64 cn) := (blk_cell hcc pc).trans hcn
  have zc := blk_frozen hcc pc
  have k0 := (blk_cell hbc (pc * 4)).trans hk0
  have k1 := (blk_cell hbc (pc * 4 + 1)).trans hk1
  have k2 := (blk_cell hbc (pc * 4 + 2)).trans hk2
  have k3 := (blk_cell hbc (pc * 4 + 3)).trans hk3
  have ko := (blk_cell hbo pc).trans hok
  clear hg hcc hcn hbc hbo hk0 hk1 hk2 hk3 hok
  have f0 : W.cell? ⟨g, 0, none⟩ = some (.int .i64 pc) := (blk_cell BG.out 0).trans rfl
  have f20 : W.cell? ⟨g, 20, none⟩ = some (.int .i64 st) := (blk_cell BG.out 20).trans rfl
  have f23 : W.cell? ⟨g, 23, none⟩ = some (.slice (some ⟨bc, 0, none⟩) 37 co1) := (blk_cell BG.out 23).trans rfl
  have f24 : W.cell? ⟨g, 24, none⟩ = some (.slice (some ⟨bo, 0, none⟩) 37 co2) := (blk_cell BG.out 24).trans rfl
  have f27 : W.cell? ⟨g, 27, none⟩ = some (.slice (some ⟨cc, 0, none⟩) 37 co3) := (blk_cell BG.out 27).trans rfl
  have f6 : W.cell? ⟨g, 6, none⟩ = some (.int .u32 r5) := (blk_cell BG.out 6).trans rfl
  have z0 := blk_frozen BG.out 0
  have z6 := blk_frozen BG.out 6
  have z20 := blk_frozen BG.out 20
  have z21 := blk_frozen BG.out 21
  have h1 : ¬ (pc : Int) < 0 := by omega
  have h1b : decide ((pc : Int) < 0) = false := by simp
  go_enter Tryd.func131, Tryd.ntmps131
  go_wp2_with fail
  go_quiet (fail)
  go_wp2_with fail
  go_region
  go_wp2_with fail
  go_region
  go_wp2_with fail
  go_region
  go_wp2_with fail
  go_region
  go_wp2
  go_end0
  go_wp2
  all_goals first | go_end0 | ((try simp only [Exit.inBlock, Exit.then]); refine bodyPost_ret (results_none rfl _ _ _) rfl ?_)
  refine ⟨rfl, ?h1_, ?h2_, ?h3_⟩
  case h1_ => exact blk_is (by (repeat (with_reducible first | exact BG.out | apply blk_drewN | apply blk_drew | apply blk_alloc | apply blk_set | apply blk_farc n1'))) (by rfl)
  case h2_ => exact ⟨_, by (repeat (with_reducible first | exact BC.out | apply blk_drewN | apply blk_drew | apply blk_alloc | apply blk_set | apply blk_farc n1))⟩
  case h3_ => (repeat (with_reducible first | exact Stp.refl _ _ _ _ | refine Stp.drewN ?_ _ | refine Stp.drew ?_ | refine Stp.alloc ?_ _ | refine Stp.setg ?_ _ _ | refine Stp.setc ?_ _ _))
set_option maxRecDepth 100000 in
set_option maxHeartbeats 8000000 in
theorem step_20_5_0_29_n (W : World) (g cc bc bo : Nat) (pc : Nat) (r0 r1 r2 r3 r4 r5 r6 r7 r8 r9 r10 r11 r12 r13 r14 r15 rd st : Int) (mem outv wordsv : Value) (o0 inp : ByteArray) (co1 co2 co3 : Nat) (cs CC OK : Array Value)
    (hpc : pc < 37) (hst : 0 ≤ st ∧ st < 1000000) (hg : W.heap[g]? = some (.cells #[.int .i64 pc, .int .u32 r0, .int .u32 r1, .int .u32 r2, .int .u32 r3, .int .u32 r4, .int .u32 r5, .int .u32 r6, .int .u32 r7, .int .u32 r8, .int .u32 r9, .int .u32 r10, .int .u32 r11, .int .u32 r12, .int .u32 r13, .int .u32 r14, .int .u32 r15, mem, .int .i64 rd, .string o0, .int .i64 st, .int .i64 0, outv, .slice (some ⟨bc, 0, none⟩) 37 co1, .slice (some ⟨bo, 0, none⟩) 37 co2, wordsv, .string inp, .slice (some ⟨cc, 0, none⟩) 37 co3] 145 (0, 0)))
    (hcc : W.heap[cc]? = some (.cells cs 3 (0, 0))) (hcs : ∃ n, cs[pc]? = some (.int .i64 n)) (hbc : W.heap[bc]? = some (.cells CC 46 (0, 0))) (hbo : W.heap[bo]? = some (.cells OK 4 (0, 0)))
    (hk0 : CC[pc * 4]? = some (.int .i64 20)) (hk1 : CC[pc * 4 + 1]? = some (.int .i64 5)) (hk2 : CC[pc * 4 + 2]? = some (.int .i64 0)) (hk3 : CC[pc * 4 + 3]? = some (.int .i64 29)) (hok : OK[pc]? = some (.bool true))
    (hz1 : (r5 == 0) = false) (hz2 : (r5 != 0) = true) :
    Calls Tryd.prog 131 #[.pointer (some ⟨g, 0, none⟩)] W (StepPost W g cc none cs pc #[.int .i64 29, .int .u32 r0, .int .u32 r1, .int .u32 r2, .int .u32 r3, .int .u32 r4, .int .u32 r5, .int .u32 r6, .int .u32 r7, .int .u32 r8, .int .u32 r9, .int .u32 r10, .int .u32 r11, .int .u32 r12, .int .u32 r13, .int .u32 r14, .int .u32 r15, mem, .int .i64 rd, .string o0, .int .i64 (st + 1), .int .i64 0, outv, .slice (some ⟨bc, 0, none⟩) 37 co1, .slice (some ⟨bo, 0, none⟩) 37 co2, wordsv, .string inp, .slice (some ⟨cc, 0, none⟩) 37 co3]) := by
  have hu145 := Tryd.underlying145
  have hu109 := Tryd.underlying109
  have hu46 := Tryd.underlying46
  have hlg := blk_lt hg
  have hlc := blk_lt hcc
  have hlb := blk_lt hbc
  have hlo := blk_lt hbo
  have n1 : cc ≠ g := blk_ne hcc hg (by decide)
  have n1' : g ≠ cc := fun h => n1 h.symm
  have n2 : bc ≠ g := blk_ne hbc hg (by decide)
  have n3 : bc ≠ cc := blk_ne hbc hcc (by decide)
  have n4 : bo ≠ g := blk_ne hbo hg (by decide)
  have n5 : bo ≠ cc := blk_ne hbo hcc (by decide)
  obtain ⟨cn, hcn⟩ := hcs
  have BG := Aside0.mk hg
  have BC := Aside0.mk hcc
  have fc : W.cell? ⟨cc, pc, none⟩ = some (.int .i64 cn) := (blk_cell hcc pc).trans hcn
  have zc := blk_frozen hcc pc
  have k0 := (blk_cell hbc (pc * 4)).trans hk0
  have k1 := (blk_cell hbc (pc * 4 + 1)).trans hk1
  have k2 := (blk_cell hbc (pc * 4 + 2)).trans hk2
  have k3 := (blk_cell hbc (pc * 4 + 3)).trans hk3
  have ko := (blk_cell hbo pc).trans hok
  clear hg hcc hcn hbc hbo hk0 hk1 hk2 hk3 hok
  have f0 : W.cell? ⟨g, 0, none⟩ = some (.int .i64 pc) := (blk_cell BG.out 0).trans rfl
  have f20 : W.cell? ⟨g, 20, none⟩ = some (.int .i64 st) := (blk_cell BG.out 20).trans rfl
  have f23 : W.cell? ⟨g, 23, none⟩ = some (.slice (some ⟨bc, 0, none⟩) 37 co1) := (blk_cell BG.out 23).trans rfl
  have f24 : W.cell? ⟨g, 24, none⟩ = some (.slice (some ⟨bo, 0, none⟩) 37 co2) := (blk_cell BG.out 24).trans rfl
  have f27 : W.cell? ⟨g, 27, none⟩ = some (.slice (some ⟨cc, 0, none⟩) 37 co3) := (blk_cell BG.out 27).trans rfl
  have f6 : W.cell? ⟨g, 6, none⟩ = some (.int .u32 r5) := (blk_cell BG.out 6).trans rfl
  have z0 := blk_frozen BG.out 0
  have z6 := blk_frozen BG.out 6
  have z20 := blk_frozen BG.out 20
  have z21 := blk_frozen BG.out 21
  have h1 : ¬ (pc : Int) < 0 := by omega
  have h1b : decide ((pc : Int) < 0) = false := by simp
  go_enter Tryd.func131, Tryd.ntmps131
  go_wp2_with fail
  go_quiet (fail)
  go_wp2_with fail
  go_region
  go_wp2_with fail
  go_region
  go_wp2_with fail
  go_region
  go_wp2_with fail
  go_region
  go_wp2
  go_end0
  go_wp2
  all_goals first | go_end0 | ((try simp only [Exit.inBlock, Exit.then]); refine bodyPost_ret (results_none rfl _ _ _) rfl ?_)
  refine ⟨rfl, ?h1_, ?h2_, ?h3_⟩
  case h1_ => exact blk_is (by (repeat (with_reducible first | exact BG.out | apply blk_drewN | apply blk_drew | apply blk_alloc | apply blk_set | apply blk_farc n1'))) (by rfl)
  case h2_ => exact ⟨_, by (repeat (with_reducible first | exact BC.out | apply blk_drewN | apply blk_drew | apply blk_alloc | apply blk_set | apply blk_farc n1))⟩
  case h3_ => (repeat (with_reducible first | exact Stp.refl _ _ _ _ | refine Stp.drewN ?_ _ | refine Stp.drew ?_ | refine Stp.alloc ?_ _ | refine Stp.setg ?_ _ _ | refine Stp.setc ?_ _ _))
end Go.Proofs.YtdhkmdgieflioaaDoor.F
namespace Go.Proofs.YtdhkmdgieflioaaDoor.F
open Go.RowKit Go.Proofs.YtdhkmdgieflioaaDoorW.PrintWords Go.Proofs.YtdhkmdgieflioaaDoorW.PrintLast Go.Proofs.YtdhkmdgieflioaaDoorW.PrintMore
set_option linter.unusedVariables false
set_option linter.unusedSimpArgs false
set_option maxRecDepth 100000 in
set_option maxHeartbeats 8000000 in
theorem step_1_2_0_48 (W : World) (g cc bc bo : Nat) (pc : Nat) (r0 r1 r2 r3 r4 r5 r6 r7 r8 r9 r10 r11 r12 r13 r14 r15 rd st : Int) (mem outv wordsv : Value) (o0 inp : ByteArray) (co1 co2 co3 : Nat) (cs CC OK : Array Value)
    (hpc : pc < 37) (hst : 0 ≤ st ∧ st < 1000000) (hg : W.heap[g]? = some (.cells #[.int .i64 pc, .int .u32 r0, .int .u32 r1, .int .u32 r2, .int .u32 r3, .int .u32 r4, .int .u32 r5, .int .u32 r6, .int .u32 r7, .int .u32 r8, .int .u32 r9, .int .u32 r10, .int .u32 r11, .int .u32 r12, .int .u32 r13, .int .u32 r14, .int .u32 r15, mem, .int .i64 rd, .string o0, .int .i64 st, .int .i64 0, outv, .slice (some ⟨bc, 0, none⟩) 37 co1, .slice (some ⟨bo, 0, none⟩) 37 co2, wordsv, .string inp, .slice (some ⟨cc, 0, none⟩) 37 co3] 145 (0, 0)))
    (hcc : W.heap[cc]? = some (.cells cs 3 (0, 0))) (hcs : ∃ n, cs[pc]? = some (.int .i64 n)) (hbc : W.heap[bc]? = some (.cells CC 46 (0, 0))) (hbo : W.heap[bo]? = some (.cells OK 4 (0, 0)))
    (hk0 : CC[pc * 4]? = some (.int .i64 1)) (hk1 : CC[pc * 4 + 1]? = some (.int .i64 2)) (hk2 : CC[pc * 4 + 2]? = some (.int .i64 0)) (hk3 : CC[pc * 4 + 3]? = some (.int .i64 48)) (hok : OK[pc]? = some (.bool true)) :
    Calls Tryd.prog 131 #[.pointer (some ⟨g, 0, none⟩)] W (StepPost W g cc none cs pc #[.int .i64 (pc + 1), .int .u32 r0, .int .u32 r1, .int .u32 48, .int .u32 r3, .int .u32 r4, .int .u32 r5, .int .u32 r6, .int .u32 r7, .int .u32 r8, .int .u32 r9, .int .u32 r10, .int .u32 r11, .int .u32 r12, .int .u32 r13, .int .u32 r14, .int .u32 r15, mem, .int .i64 rd, .string o0, .int .i64 (st + 1), .int .i64 0, outv, .slice (some ⟨bc, 0, none⟩) 37 co1, .slice (some ⟨bo, 0, none⟩) 37 co2, wordsv, .string inp, .slice (some ⟨cc, 0, none⟩) 37 co3]) := by
  have hu145 := Tryd.underlying145
  have hu109 := Tryd.underlying109
  have hu46 := Tryd.underlying46
  have hlg := blk_lt hg
  have hlc := blk_lt hcc
  have hlb := blk_lt hbc
  have hlo := blk_lt hbo
  have n1 : cc ≠ g := blk_ne hcc hg (by decide)
  have n1' : g ≠ cc := fun h => n1 h.symm
  have n2 : bc ≠ g := blk_ne hbc hg (by decide)
  have n3 : bc ≠ cc := blk_ne hbc hcc (by decide)
  have n4 : bo ≠ g := blk_ne hbo hg (by decide)
  have n5 : bo ≠ cc := blk_ne hbo hcc (by decide)
  obtain ⟨cn, hcn⟩ := hcs
  have BG := Aside0.mk hg
  have BC := Aside0.mk hcc
  have fc : W.cell? ⟨cc, pc, none⟩ = some (.int .i64 cn) := (blk_cell hcc pc).trans hcn
  have zc := blk_frozen hcc pc
  have k0 := (blk_cell hbc (pc * 4)).trans hk0
  have k1 := (blk_cell hbc (pc * 4 + 1)).trans hk1
  have k2 := (blk_cell hbc (pc * 4 + 2)).trans hk2
  have k3 := (blk_cell hbc (pc * 4 + 3)).trans hk3
  have ko := (blk_cell hbo pc).trans hok
  clear hg hcc hcn hbc hbo hk0 hk1 hk2 hk3 hok
  have f0 : W.cell? ⟨g, 0, none⟩ = some (.int .i64 pc) := (blk_cell BG.out 0).trans rfl
  have f20 : W.cell? ⟨g, 20, none⟩ = some (.int .i64 st) := (blk_cell BG.out 20).trans rfl
  have f23 : W.cell? ⟨g, 23, none⟩ = some (.slice (some ⟨bc, 0, none⟩) 37 co1) := (blk_cell BG.out 23).trans rfl
  have f24 : W.cell? ⟨g, 24, none⟩ = some (.slice (some ⟨bo, 0, none⟩) 37 co2) := (blk_cell BG.out 24).trans rfl
  have f27 : W.cell? ⟨g, 27, none⟩ = some (.slice (some ⟨cc, 0, none⟩) 37 co3) := (blk_cell BG.out 27).trans rfl
  have f3 : W.cell? ⟨g, 3, none⟩ = some (.int .u32 r2) := (blk_cell BG.out 3).trans rfl
  have z0 := blk_frozen BG.out 0
  have z3 := blk_frozen BG.out 3
  have z20 := blk_frozen BG.out 20
  have z21 := blk_frozen BG.out 21
  have h1 : ¬ (pc : Int) < 0 := by omega
  have h1b : decide ((pc : Int) < 0) = false := by simp
  go_enter Tryd.func131, Tryd.ntmps131
  go_wp2_with fail
  go_quiet (fail)
  go_wp2_with fail
  go_region
  go_wp2_with fail
  go_region
  go_wp2_with fail
  go_region
  go_wp2_with fail
  go_region
  go_wp2
  go_end0
  go_wp2
  all_goals first | go_end0 | ((try simp only [Exit.inBlock, Exit.then]); refine bodyPost_ret (results_none rfl _ _ _) rfl ?_)
  refine ⟨rfl, ?h1_, ?h2_, ?h3_⟩
  case h1_ => exact blk_is (by (repeat (with_reducible first | exact BG.out | apply blk_drewN | apply blk_drew | apply blk_alloc | apply blk_set | apply blk_farc n1'))) (by rfl)
  case h2_ => exact ⟨_, by (repeat (with_reducible first | exact BC.out | apply blk_drewN | apply blk_drew | apply blk_alloc | apply blk_set | apply blk_farc n1))⟩
  case h3_ => (repeat (with_reducible first | exact Stp.refl _ _ _ _ | refine Stp.drewN ?_ _ | refine Stp.drew ?_ | refine Stp.alloc ?_ _ | refine Stp.setg ?_ _ _ | refine Stp.setc ?_ _ _))
end Go.Proofs.YtdhkmdgieflioaaDoor.F
namespace Go.Proofs.YtdhkmdgieflioaaDoor.F
open Go.RowKit Go.Proofs.YtdhkmdgieflioaaDoorW.PrintWords Go.Proofs.YtdhkmdgieflioaaDoorW.PrintLast Go.Proofs.YtdhkmdgieflioaaDoorW.PrintMore
set_option linter.unusedVariables false
set_option linter.unusedSimpArgs false
open SeedSim
theorem sim_0 (W : World) (g cc bc bo : Nat) (r0 r1 r2 r3 r4 r5 r6 r7 r8 r9 r10 r11 r12 r13 r14 r15 : Int) (rn st : Nat) (outs : List Int) (mem outv wordsv : Value) (o0 inp : ByteArray) (co1 co2 co3 : Nat) (cs CC OK : Array Value) (B : Nat)
    (hst : st < 1000000) (hg : W.heap[g]? = some (.cells (WC bc bo cc co1 co2 co3 mem wordsv o0 inp ⟨0, [r0, r1, r2, r3, r4, r5, r6, r7, r8, r9, r10, r11, r12, r13, r14, r15], rn, outs, st, 0⟩ outv) 145 (0, 0))) (hcc : W.heap[cc]? = some (.cells cs 3 (0, 0))) (hcs : Counts cs)
    (hbc : W.heap[bc]? = some (.cells CC 46 (0, 0))) (hbo : W.heap[bo]? = some (.cells OK 4 (0, 0))) (hrows : Rows CC OK) (ho : OutOk W B outv outs)
    (hrng : ∀ i : Nat, i < 16 → 0 ≤ List.getD [r0, r1, r2, r3, r4, r5, r6, r7, r8, r9, r10, r11, r12, r13, r14, r15] i 0 ∧ List.getD [r0, r1, r2, r3, r4, r5, r6, r7, r8, r9, r10, r11, r12, r13, r14, r15] i 0 < 4294967296) (hread : rn ≤ inp.size) (hsz : inp.size < 1000000) (hB : B ≤ W.heap.size) :
    Calls Tryd.prog 131 #[.pointer (some ⟨g, 0, none⟩)] W (SimPost W g bc bo cc co1 co2 co3 mem wordsv o0 inp B outv (SeedSim.step (inpL inp) ⟨0, [r0, r1, r2, r3, r4, r5, r6, r7, r8, r9, r10, r11, r12, r13, r14, r15], rn, outs, st, 0⟩)) := by
  have hs : SeedSim.step (inpL inp) ⟨0, [r0, r1, r2, r3, r4, r5, r6, r7, r8, r9, r10, r11, r12, r13, r14, r15], rn, outs, st, 0⟩ = ⟨1, [r0, r1, r2, r3, r4, r5, r6, r7, r8, r9, 16, r11, r12, r13, r14, r15], rn, outs, st + 1, 0⟩ := by simp [SeedSim.step, SeedSim.code, SeedSim.exec, SeedSim.g, SeedSim.alu]
  rw [hs]
  exact sim_of hg hcc hcs ho (by rfl) rfl (step_1_10_0_16 W g cc bc bo 0 r0 r1 r2 r3 r4 r5 r6 r7 r8 r9 r10 r11 r12 r13 r14 r15 (rn : Int) (st : Int) mem outv wordsv o0 inp co1 co2 co3 cs CC OK (by decide) ⟨by omega, by omega⟩ hg hcc (hcs 0 (by decide)) hbc hbo (hrows.c0 0 _ rfl) (hrows.c1 0 _ rfl) (hrows.c2 0 _ rfl) (hrows.c3 0 _ rfl) (hrows.ok 0 (by decide)))
theorem sim_1 (W : World) (g cc bc bo : Nat) (r0 r1 r2 r3 r4 r5 r6 r7 r8 r9 r10 r11 r12 r13 r14 r15 : Int) (rn st : Nat) (outs : List Int) (mem outv wordsv : Value) (o0 inp : ByteArray) (co1 co2 co3 : Nat) (cs CC OK : Array Value) (B : Nat)
    (hst : st < 1000000) (hg : W.heap[g]? = some (.cells (WC bc bo cc co1 co2 co3 mem wordsv o0 inp ⟨1, [r0, r1, r2, r3, r4, r5, r6, r7, r8, r9, r10, r11, r12, r13, r14, r15], rn, outs, st, 0⟩ outv) 145 (0, 0))) (hcc : W.heap[cc]? = some (.cells cs 3 (0, 0))) (hcs : Counts cs)
    (hbc : W.heap[bc]? = some (.cells CC 46 (0, 0))) (hbo : W.heap[bo]? = some (.cells OK 4 (0, 0))) (hrows : Rows CC OK) (ho : OutOk W B outv outs)
    (hrng : ∀ i : Nat, i < 16 → 0 ≤ List.getD [r0, r1, r2, r3, r4, r5, r6, r7, r8, r9, r10, r11, r12, r13, r14, r15] i 0 ∧ List.getD [r0, r1, r2, r3, r4, r5, r6, r7, r8, r9, r10, r11, r12, r13, r14, r15] i 0 < 4294967296) (hread : rn ≤ inp.size) (hsz : inp.size < 1000000) (hB : B ≤ W.heap.size) :
    Calls Tryd.prog 131 #[.pointer (some ⟨g, 0, none⟩)] W (SimPost W g bc bo cc co1 co2 co3 mem wordsv o0 inp B outv (SeedSim.step (inpL inp) ⟨1, [r0, r1, r2, r3, r4, r5, r6, r7, r8, r9, r10, r11, r12, r13, r14, r15], rn, outs, st, 0⟩)) := by
  have hs : SeedSim.step (inpL inp) ⟨1, [r0, r1, r2, r3, r4, r5, r6, r7, r8, r9, r10, r11, r12, r13, r14, r15], rn, outs, st, 0⟩ = ⟨2, [r0, r1, r2, r3, r4, r5, r6, r7, r8, r9, r10, 10, r12, r13, r14, r15], rn, outs, st + 1, 0⟩ := by simp [SeedSim.step, SeedSim.code, SeedSim.exec, SeedSim.g, SeedSim.alu]
  rw [hs]
  exact sim_of hg hcc hcs ho (by rfl) rfl (step_1_11_0_10 W g cc bc bo 1 r0 r1 r2 r3 r4 r5 r6 r7 r8 r9 r10 r11 r12 r13 r14 r15 (rn : Int) (st : Int) mem outv wordsv o0 inp co1 co2 co3 cs CC OK (by decide) ⟨by omega, by omega⟩ hg hcc (hcs 1 (by decide)) hbc hbo (hrows.c0 1 _ rfl) (hrows.c1 1 _ rfl) (hrows.c2 1 _ rfl) (hrows.c3 1 _ rfl) (hrows.ok 1 (by decide)))
theorem sim_2 (W : World) (g cc bc bo : Nat) (r0 r1 r2 r3 r4 r5 r6 r7 r8 r9 r10 r11 r12 r13 r14 r15 : Int) (rn st : Nat) (outs : List Int) (mem outv wordsv : Value) (o0 inp : ByteArray) (co1 co2 co3 : Nat) (cs CC OK : Array Value) (B : Nat)
    (hst : st < 1000000) (hg : W.heap[g]? = some (.cells (WC bc bo cc co1 co2 co3 mem wordsv o0 inp ⟨2, [r0, r1, r2, r3, r4, r5, r6, r7, r8, r9, r10, r11, r12, r13, r14, r15], rn, outs, st, 0⟩ outv) 145 (0, 0))) (hcc : W.heap[cc]? = some (.cells cs 3 (0, 0))) (hcs : Counts cs)
    (hbc : W.heap[bc]? = some (.cells CC 46 (0, 0))) (hbo : W.heap[bo]? = some (.cells OK 4 (0, 0))) (hrows : Rows CC OK) (ho : OutOk W B outv outs)
    (hrng : ∀ i : Nat, i < 16 → 0 ≤ List.getD [r0, r1, r2, r3, r4, r5, r6, r7, r8, r9, r10, r11, r12, r13, r14, r15] i 0 ∧ List.getD [r0, r1, r2, r3, r4, r5, r6, r7, r8, r9, r10, r11, r12, r13, r14, r15] i 0 < 4294967296) (hread : rn ≤ inp.size) (hsz : inp.size < 1000000) (hB : B ≤ W.heap.size) :
    Calls Tryd.prog 131 #[.pointer (some ⟨g, 0, none⟩)] W (SimPost W g bc bo cc co1 co2 co3 mem wordsv o0 inp B outv (SeedSim.step (inpL inp) ⟨2, [r0, r1, r2, r3, r4, r5, r6, r7, r8, r9, r10, r11, r12, r13, r14, r15], rn, outs, st, 0⟩)) := by
  by_cases hlt : rn < inp.size
  · have hlt2 : rn < (inpL inp).length := by rw [inpL_len]; exact hlt
    have hs : SeedSim.step (inpL inp) ⟨2, [r0, r1, r2, r3, r4, r5, r6, r7, r8, r9, r10, r11, r12, r13, r14, r15], rn, outs, st, 0⟩ = ⟨3, [r0, (inp[rn].toNat : Int) % 4294967296, r2, r3, r4, r5, r6, r7, r8, r9, r10, r11, r12, r13, r14, r15], rn + 1, outs, st + 1, 0⟩ := by simp [SeedSim.step, SeedSim.code, SeedSim.exec, SeedSim.g, SeedSim.alu, hlt2, inpL_get inp rn hlt]
    rw [hs]
    exact sim_of hg hcc hcs ho (by rfl) rfl (step_23_1_0_0_in W g cc bc bo 2 r0 r1 r2 r3 r4 r5 r6 r7 r8 r9 r10 r11 r12 r13 r14 r15 (rn : Int) (st : Int) mem outv wordsv o0 inp co1 co2 co3 cs CC OK (by decide) ⟨by omega, by omega⟩ hg hcc (hcs 2 (by decide)) hbc hbo (hrows.c0 2 _ rfl) (hrows.c1 2 _ rfl) (hrows.c2 2 _ rfl) (hrows.c3 2 _ rfl) (hrows.ok 2 (by decide)) rn rfl hlt hsz)
  · have hlt2 : ¬ rn < (inpL inp).length := by rw [inpL_len]; exact hlt
    have hs : SeedSim.step (inpL inp) ⟨2, [r0, r1, r2, r3, r4, r5, r6, r7, r8, r9, r10, r11, r12, r13, r14, r15], rn, outs, st, 0⟩ = ⟨3, [r0, 256, r2, r3, r4, r5, r6, r7, r8, r9, r10, r11, r12, r13, r14, r15], rn, outs, st + 1, 0⟩ := by simp [SeedSim.step, SeedSim.code, SeedSim.exec, SeedSim.g, SeedSim.alu, hlt2]
    rw [hs]
    exact sim_of hg hcc hcs ho (by rfl) rfl (step_23_1_0_0_end W g cc bc bo 2 r0 r1 r2 r3 r4 r5 r6 r7 r8 r9 r10 r11 r12 r13 r14 r15 (rn : Int) (st : Int) mem outv wordsv o0 inp co1 co2 co3 cs CC OK (by decide) ⟨by omega, by omega⟩ hg hcc (hcs 2 (by decide)) hbc hbo (hrows.c0 2 _ rfl) (hrows.c1 2 _ rfl) (hrows.c2 2 _ rfl) (hrows.c3 2 _ rfl) (hrows.ok 2 (by decide)) rn rfl (by omega) hsz)
theorem sim_3 (W : World) (g cc bc bo : Nat) (r0 r1 r2 r3 r4 r5 r6 r7 r8 r9 r10 r11 r12 r13 r14 r15 : Int) (rn st : Nat) (outs : List Int) (mem outv wordsv : Value) (o0 inp : ByteArray) (co1 co2 co3 : Nat) (cs CC OK : Array Value) (B : Nat)
    (hst : st < 1000000) (hg : W.heap[g]? = some (.cells (WC bc bo cc co1 co2 co3 mem wordsv o0 inp ⟨3, [r0, r1, r2, r3, r4, r5, r6, r7, r8, r9, r10, r11, r12, r13, r14, r15], rn, outs, st, 0⟩ outv) 145 (0, 0))) (hcc : W.heap[cc]? = some (.cells cs 3 (0, 0))) (hcs : Counts cs)
    (hbc : W.heap[bc]? = some (.cells CC 46 (0, 0))) (hbo : W.heap[bo]? = some (.cells OK 4 (0, 0))) (hrows : Rows CC OK) (ho : OutOk W B outv outs)
    (hrng : ∀ i : Nat, i < 16 → 0 ≤ List.getD [r0, r1, r2, r3, r4, r5, r6, r7, r8, r9, r10, r11, r12, r13, r14, r15] i 0 ∧ List.getD [r0, r1, r2, r3, r4, r5, r6, r7, r8, r9, r10, r11, r12, r13, r14, r15] i 0 < 4294967296) (hread : rn ≤ inp.size) (hsz : inp.size < 1000000) (hB : B ≤ W.heap.size) :
    Calls Tryd.prog 131 #[.pointer (some ⟨g, 0, none⟩)] W (SimPost W g bc bo cc co1 co2 co3 mem wordsv o0 inp B outv (SeedSim.step (inpL inp) ⟨3, [r0, r1, r2, r3, r4, r5, r6, r7, r8, r9, r10, r11, r12, r13, r14, r15], rn, outs, st, 0⟩)) := by
  have hs : SeedSim.step (inpL inp) ⟨3, [r0, r1, r2, r3, r4, r5, r6, r7, r8, r9, r10, r11, r12, r13, r14, r15], rn, outs, st, 0⟩ = ⟨4, [r0, r1, 256, r3, r4, r5, r6, r7, r8, r9, r10, r11, r12, r13, r14, r15], rn, outs, st + 1, 0⟩ := by simp [SeedSim.step, SeedSim.code, SeedSim.exec, SeedSim.g, SeedSim.alu]
  rw [hs]
  exact sim_of hg hcc hcs ho (by rfl) rfl (step_1_2_0_256 W g cc bc bo 3 r0 r1 r2 r3 r4 r5 r6 r7 r8 r9 r10 r11 r12 r13 r14 r15 (rn : Int) (st : Int) mem outv wordsv o0 inp co1 co2 co3 cs CC OK (by decide) ⟨by omega, by omega⟩ hg hcc (hcs 3 (by decide)) hbc hbo (hrows.c0 3 _ rfl) (hrows.c1 3 _ rfl) (hrows.c2 3 _ rfl) (hrows.c3 3 _ rfl) (hrows.ok 3 (by decide)))
theorem sim_4 (W : World) (g cc bc bo : Nat) (r0 r1 r2 r3 r4 r5 r6 r7 r8 r9 r10 r11 r12 r13 r14 r15 : Int) (rn st : Nat) (outs : List Int) (mem outv wordsv : Value) (o0 inp : ByteArray) (co1 co2 co3 : Nat) (cs CC OK : Array Value) (B : Nat)
    (hst : st < 1000000) (hg : W.heap[g]? = some (.cells (WC bc bo cc co1 co2 co3 mem wordsv o0 inp ⟨4, [r0, r1, r2, r3, r4, r5, r6, r7, r8, r9, r10, r11, r12, r13, r14, r15], rn, outs, st, 0⟩ outv) 145 (0, 0))) (hcc : W.heap[cc]? = some (.cells cs 3 (0, 0))) (hcs : Counts cs)
    (hbc : W.heap[bc]? = some (.cells CC 46 (0, 0))) (hbo : W.heap[bo]? = some (.cells OK 4 (0, 0))) (hrows : Rows CC OK) (ho : OutOk W B outv outs)
    (hrng : ∀ i : Nat, i < 16 → 0 ≤ List.getD [r0, r1, r2, r3, r4, r5, r6, r7, r8, r9, r10, r11, r12, r13, r14, r15] i 0 ∧ List.getD [r0, r1, r2, r3, r4, r5, r6, r7, r8, r9, r10, r11, r12, r13, r14, r15] i 0 < 4294967296) (hread : rn ≤ inp.size) (hsz : inp.size < 1000000) (hB : B ≤ W.heap.size) :
    Calls Tryd.prog 131 #[.pointer (some ⟨g, 0, none⟩)] W (SimPost W g bc bo cc co1 co2 co3 mem wordsv o0 inp B outv (SeedSim.step (inpL inp) ⟨4, [r0, r1, r2, r3, r4, r5, r6, r7, r8, r9, r10, r11, r12, r13, r14, r15], rn, outs, st, 0⟩)) := by
  have hs : SeedSim.step (inpL inp) ⟨4, [r0, r1, r2, r3, r4, r5, r6, r7, r8, r9, r10, r11, r12, r13, r14, r15], rn, outs, st, 0⟩ = ⟨5, [r0, r1, r2, r3, r4, if r1 = r2 then 1 else 0, r6, r7, r8, r9, r10, r11, r12, r13, r14, r15], rn, outs, st + 1, 0⟩ := by simp [SeedSim.step, SeedSim.code, SeedSim.exec, SeedSim.g, SeedSim.alu]
  rw [hs]
  exact sim_of hg hcc hcs ho (by rfl) rfl (step_15_5_1_2 W g cc bc bo 4 r0 r1 r2 r3 r4 r5 r6 r7 r8 r9 r10 r11 r12 r13 r14 r15 (rn : Int) (st : Int) mem outv wordsv o0 inp co1 co2 co3 cs CC OK (by decide) ⟨by omega, by omega⟩ hg hcc (hcs 4 (by decide)) hbc hbo (hrows.c0 4 _ rfl) (hrows.c1 4 _ rfl) (hrows.c2 4 _ rfl) (hrows.c3 4 _ rfl) (hrows.ok 4 (by decide)) (hrng 1 (by decide)).1 (hrng 1 (by decide)).2 (hrng 2 (by decide)).1 (hrng 2 (by decide)).2)
theorem sim_5 (W : World) (g cc bc bo : Nat) (r0 r1 r2 r3 r4 r5 r6 r7 r8 r9 r10 r11 r12 r13 r14 r15 : Int) (rn st : Nat) (outs : List Int) (mem outv wordsv : Value) (o0 inp : ByteArray) (co1 co2 co3 : Nat) (cs CC OK : Array Value) (B : Nat)
    (hst : st < 1000000) (hg : W.heap[g]? = some (.cells (WC bc bo cc co1 co2 co3 mem wordsv o0 inp ⟨5, [r0, r1, r2, r3, r4, r5, r6, r7, r8, r9, r10, r11, r12, r13, r14, r15], rn, outs, st, 0⟩ outv) 145 (0, 0))) (hcc : W.heap[cc]? = some (.cells cs 3 (0, 0))) (hcs : Counts cs)
    (hbc : W.heap[bc]? = some (.cells CC 46 (0, 0))) (hbo : W.heap[bo]? = some (.cells OK 4 (0, 0))) (hrows : Rows CC OK) (ho : OutOk W B outv outs)
    (hrng : ∀ i : Nat, i < 16 → 0 ≤ List.getD [r0, r1, r2, r3, r4, r5, r6, r7, r8, r9, r10, r11, r12, r13, r14, r15] i 0 ∧ List.getD [r0, r1, r2, r3, r4, r5, r6, r7, r8, r9, r10, r11, r12, r13, r14, r15] i 0 < 4294967296) (hread : rn ≤ inp.size) (hsz : inp.size < 1000000) (hB : B ≤ W.heap.size) :
    Calls Tryd.prog 131 #[.pointer (some ⟨g, 0, none⟩)] W (SimPost W g bc bo cc co1 co2 co3 mem wordsv o0 inp B outv (SeedSim.step (inpL inp) ⟨5, [r0, r1, r2, r3, r4, r5, r6, r7, r8, r9, r10, r11, r12, r13, r14, r15], rn, outs, st, 0⟩)) := by
  by_cases hz : r5 = 0
  · have hs : SeedSim.step (inpL inp) ⟨5, [r0, r1, r2, r3, r4, r5, r6, r7, r8, r9, r10, r11, r12, r13, r14, r15], rn, outs, st, 0⟩ = ⟨6, [r0, r1, r2, r3, r4, r5, r6, r7, r8, r9, r10, r11, r12, r13, r14, r15], rn, outs, st + 1, 0⟩ := by simp [SeedSim.step, SeedSim.code, SeedSim.exec, SeedSim.g, SeedSim.alu, hz]
    rw [hs]
    exact sim_of hg hcc hcs ho (by rfl) rfl (step_20_5_0_36_z W g cc bc bo 5 r0 r1 r2 r3 r4 r5 r6 r7 r8 r9 r10 r11 r12 r13 r14 r15 (rn : Int) (st : Int) mem outv wordsv o0 inp co1 co2 co3 cs CC OK (by decide) ⟨by omega, by omega⟩ hg hcc (hcs 5 (by decide)) hbc hbo (hrows.c0 5 _ rfl) (hrows.c1 5 _ rfl) (hrows.c2 5 _ rfl) (hrows.c3 5 _ rfl) (hrows.ok 5 (by decide)) (by rw [hz]; rfl) (by rw [hz]; rfl))
  · have hs : SeedSim.step (inpL inp) ⟨5, [r0, r1, r2, r3, r4, r5, r6, r7, r8, r9, r10, r11, r12, r13, r14, r15], rn, outs, st, 0⟩ = ⟨36, [r0, r1, r2, r3, r4, r5, r6, r7, r8, r9, r10, r11, r12, r13, r14, r15], rn, outs, st + 1, 0⟩ := by simp [SeedSim.step, SeedSim.code, SeedSim.exec, SeedSim.g, SeedSim.alu, hz]
    rw [hs]
    exact sim_of hg hcc hcs ho (by rfl) rfl (step_20_5_0_36_n W g cc bc bo 5 r0 r1 r2 r3 r4 r5 r6 r7 r8 r9 r10 r11 r12 r13 r14 r15 (rn : Int) (st : Int) mem outv wordsv o0 inp co1 co2 co3 cs CC OK (by decide) ⟨by omega, by omega⟩ hg hcc (hcs 5 (by decide)) hbc hbo (hrows.c0 5 _ rfl) (hrows.c1 5 _ rfl) (hrows.c2 5 _ rfl) (hrows.c3 5 _ rfl) (hrows.ok 5 (by decide)) (by simpa using hz) (by simpa using hz))
theorem sim_6 (W : World) (g cc bc bo : Nat) (r0 r1 r2 r3 r4 r5 r6 r7 r8 r9 r10 r11 r12 r13 r14 r15 : Int) (rn st : Nat) (outs : List Int) (mem outv wordsv : Value) (o0 inp : ByteArray) (co1 co2 co3 : Nat) (cs CC OK : Array Value) (B : Nat)
    (hst : st < 1000000) (hg : W.heap[g]? = some (.cells (WC bc bo cc co1 co2 co3 mem wordsv o0 inp ⟨6, [r0, r1, r2, r3, r4, r5, r6, r7, r8, r9, r10, r11, r12, r13, r14, r15], rn, outs, st, 0⟩ outv) 145 (0, 0))) (hcc : W.heap[cc]? = some (.cells cs 3 (0, 0))) (hcs : Counts cs)
    (hbc : W.heap[bc]? = some (.cells CC 46 (0, 0))) (hbo : W.heap[bo]? = some (.cells OK 4 (0, 0))) (hrows : Rows CC OK) (ho : OutOk W B outv outs)
    (hrng : ∀ i : Nat, i < 16 → 0 ≤ List.getD [r0, r1, r2, r3, r4, r5, r6, r7, r8, r9, r10, r11, r12, r13, r14, r15] i 0 ∧ List.getD [r0, r1, r2, r3, r4, r5, r6, r7, r8, r9, r10, r11, r12, r13, r14, r15] i 0 < 4294967296) (hread : rn ≤ inp.size) (hsz : inp.size < 1000000) (hB : B ≤ W.heap.size) :
    Calls Tryd.prog 131 #[.pointer (some ⟨g, 0, none⟩)] W (SimPost W g bc bo cc co1 co2 co3 mem wordsv o0 inp B outv (SeedSim.step (inpL inp) ⟨6, [r0, r1, r2, r3, r4, r5, r6, r7, r8, r9, r10, r11, r12, r13, r14, r15], rn, outs, st, 0⟩)) := by
  have hs : SeedSim.step (inpL inp) ⟨6, [r0, r1, r2, r3, r4, r5, r6, r7, r8, r9, r10, r11, r12, r13, r14, r15], rn, outs, st, 0⟩ = ⟨7, [r0, r1, 35, r3, r4, r5, r6, r7, r8, r9, r10, r11, r12, r13, r14, r15], rn, outs, st + 1, 0⟩ := by simp [SeedSim.step, SeedSim.code, SeedSim.exec, SeedSim.g, SeedSim.alu]
  rw [hs]
  exact sim_of hg hcc hcs ho (by rfl) rfl (step_1_2_0_35 W g cc bc bo 6 r0 r1 r2 r3 r4 r5 r6 r7 r8 r9 r10 r11 r12 r13 r14 r15 (rn : Int) (st : Int) mem outv wordsv o0 inp co1 co2 co3 cs CC OK (by decide) ⟨by omega, by omega⟩ hg hcc (hcs 6 (by decide)) hbc hbo (hrows.c0 6 _ rfl) (hrows.c1 6 _ rfl) (hrows.c2 6 _ rfl) (hrows.c3 6 _ rfl) (hrows.ok 6 (by decide)))
theorem sim_7 (W : World) (g cc bc bo : Nat) (r0 r1 r2 r3 r4 r5 r6 r7 r8 r9 r10 r11 r12 r13 r14 r15 : Int) (rn st : Nat) (outs : List Int) (mem outv wordsv : Value) (o0 inp : ByteArray) (co1 co2 co3 : Nat) (cs CC OK : Array Value) (B : Nat)
    (hst : st < 1000000) (hg : W.heap[g]? = some (.cells (WC bc bo cc co1 co2 co3 mem wordsv o0 inp ⟨7, [r0, r1, r2, r3, r4, r5, r6, r7, r8, r9, r10, r11, r12, r13, r14, r15], rn, outs, st, 0⟩ outv) 145 (0, 0))) (hcc : W.heap[cc]? = some (.cells cs 3 (0, 0))) (hcs : Counts cs)
    (hbc : W.heap[bc]? = some (.cells CC 46 (0, 0))) (hbo : W.heap[bo]? = some (.cells OK 4 (0, 0))) (hrows : Rows CC OK) (ho : OutOk W B outv outs)
    (hrng : ∀ i : Nat, i < 16 → 0 ≤ List.getD [r0, r1, r2, r3, r4, r5, r6, r7, r8, r9, r10, r11, r12, r13, r14, r15] i 0 ∧ List.getD [r0, r1, r2, r3, r4, r5, r6, r7, r8, r9, r10, r11, r12, r13, r14, r15] i 0 < 4294967296) (hread : rn ≤ inp.size) (hsz : inp.size < 1000000) (hB : B ≤ W.heap.size) :
    Calls Tryd.prog 131 #[.pointer (some ⟨g, 0, none⟩)] W (SimPost W g bc bo cc co1 co2 co3 mem wordsv o0 inp B outv (SeedSim.step (inpL inp) ⟨7, [r0, r1, r2, r3, r4, r5, r6, r7, r8, r9, r10, r11, r12, r13, r14, r15], rn, outs, st, 0⟩)) := by
  have hs : SeedSim.step (inpL inp) ⟨7, [r0, r1, r2, r3, r4, r5, r6, r7, r8, r9, r10, r11, r12, r13, r14, r15], rn, outs, st, 0⟩ = ⟨8, [r0, r1, r2, r3, r4, if r1 = r2 then 1 else 0, r6, r7, r8, r9, r10, r11, r12, r13, r14, r15], rn, outs, st + 1, 0⟩ := by simp [SeedSim.step, SeedSim.code, SeedSim.exec, SeedSim.g, SeedSim.alu]
  rw [hs]
  exact sim_of hg hcc hcs ho (by rfl) rfl (step_15_5_1_2 W g cc bc bo 7 r0 r1 r2 r3 r4 r5 r6 r7 r8 r9 r10 r11 r12 r13 r14 r15 (rn : Int) (st : Int) mem outv wordsv o0 inp co1 co2 co3 cs CC OK (by decide) ⟨by omega, by omega⟩ hg hcc (hcs 7 (by decide)) hbc hbo (hrows.c0 7 _ rfl) (hrows.c1 7 _ rfl) (hrows.c2 7 _ rfl) (hrows.c3 7 _ rfl) (hrows.ok 7 (by decide)) (hrng 1 (by decide)).1 (hrng 1 (by decide)).2 (hrng 2 (by decide)).1 (hrng 2 (by decide)).2)
theorem sim_8 (W : World) (g cc bc bo : Nat) (r0 r1 r2 r3 r4 r5 r6 r7 r8 r9 r10 r11 r12 r13 r14 r15 : Int) (rn st : Nat) (outs : List Int) (mem outv wordsv : Value) (o0 inp : ByteArray) (co1 co2 co3 : Nat) (cs CC OK : Array Value) (B : Nat)
    (hst : st < 1000000) (hg : W.heap[g]? = some (.cells (WC bc bo cc co1 co2 co3 mem wordsv o0 inp ⟨8, [r0, r1, r2, r3, r4, r5, r6, r7, r8, r9, r10, r11, r12, r13, r14, r15], rn, outs, st, 0⟩ outv) 145 (0, 0))) (hcc : W.heap[cc]? = some (.cells cs 3 (0, 0))) (hcs : Counts cs)
    (hbc : W.heap[bc]? = some (.cells CC 46 (0, 0))) (hbo : W.heap[bo]? = some (.cells OK 4 (0, 0))) (hrows : Rows CC OK) (ho : OutOk W B outv outs)
    (hrng : ∀ i : Nat, i < 16 → 0 ≤ List.getD [r0, r1, r2, r3, r4, r5, r6, r7, r8, r9, r10, r11, r12, r13, r14, r15] i 0 ∧ List.getD [r0, r1, r2, r3, r4, r5, r6, r7, r8, r9, r10, r11, r12, r13, r14, r15] i 0 < 4294967296) (hread : rn ≤ inp.size) (hsz : inp.size < 1000000) (hB : B ≤ W.heap.size) :
    Calls Tryd.prog 131 #[.pointer (some ⟨g, 0, none⟩)] W (SimPost W g bc bo cc co1 co2 co3 mem wordsv o0 inp B outv (SeedSim.step (inpL inp) ⟨8, [r0, r1, r2, r3, r4, r5, r6, r7, r8, r9, r10, r11, r12, r13, r14, r15], rn, outs, st, 0⟩)) := by
  by_cases hz : r5 = 0
  · have hs : SeedSim.step (inpL inp) ⟨8, [r0, r1, r2, r3, r4, r5, r6, r7, r8, r9, r10, r11, r12, r13, r14, r15], rn, outs, st, 0⟩ = ⟨9, [r0, r1, r2, r3, r4, r5, r6, r7, r8, r9, r10, r11, r12, r13, r14, r15], rn, outs, st + 1, 0⟩ := by simp [SeedSim.step, SeedSim.code, SeedSim.exec, SeedSim.g, SeedSim.alu, hz]
    rw [hs]
    exact sim_of hg hcc hcs ho (by rfl) rfl (step_20_5_0_29_z W g cc bc bo 8 r0 r1 r2 r3 r4 r5 r6 r7 r8 r9 r10 r11 r12 r13 r14 r15 (rn : Int) (st : Int) mem outv wordsv o0 inp co1 co2 co3 cs CC OK (by decide) ⟨by omega, by omega⟩ hg hcc (hcs 8 (by decide)) hbc hbo (hrows.c0 8 _ rfl) (hrows.c1 8 _ rfl) (hrows.c2 8 _ rfl) (hrows.c3 8 _ rfl) (hrows.ok 8 (by decide)) (by rw [hz]; rfl) (by rw [hz]; rfl))
  · have hs : SeedSim.step (inpL inp) ⟨8, [r0, r1, r2, r3, r4, r5, r6, r7, r8, r9, r10, r11, r12, r13, r14, r15], rn, outs, st, 0⟩ = ⟨29, [r0, r1, r2, r3, r4, r5, r6, r7, r8, r9, r10, r11, r12, r13, r14, r15], rn, outs, st + 1, 0⟩ := by simp [SeedSim.step, SeedSim.code, SeedSim.exec, SeedSim.g, SeedSim.alu, hz]
    rw [hs]
    exact sim_of hg hcc hcs ho (by rfl) rfl (step_20_5_0_29_n W g cc bc bo 8 r0 r1 r2 r3 r4 r5 r6 r7 r8 r9 r10 r11 r12 r13 r14 r15 (rn : Int) (st : Int) mem outv wordsv o0 inp co1 co2 co3 cs CC OK (by decide) ⟨by omega, by omega⟩ hg hcc (hcs 8 (by decide)) hbc hbo (hrows.c0 8 _ rfl) (hrows.c1 8 _ rfl) (hrows.c2 8 _ rfl) (hrows.c3 8 _ rfl) (hrows.ok 8 (by decide)) (by simpa using hz) (by simpa using hz))
theorem sim_9 (W : World) (g cc bc bo : Nat) (r0 r1 r2 r3 r4 r5 r6 r7 r8 r9 r10 r11 r12 r13 r14 r15 : Int) (rn st : Nat) (outs : List Int) (mem outv wordsv : Value) (o0 inp : ByteArray) (co1 co2 co3 : Nat) (cs CC OK : Array Value) (B : Nat)
    (hst : st < 1000000) (hg : W.heap[g]? = some (.cells (WC bc bo cc co1 co2 co3 mem wordsv o0 inp ⟨9, [r0, r1, r2, r3, r4, r5, r6, r7, r8, r9, r10, r11, r12, r13, r14, r15], rn, outs, st, 0⟩ outv) 145 (0, 0))) (hcc : W.heap[cc]? = some (.cells cs 3 (0, 0))) (hcs : Counts cs)
    (hbc : W.heap[bc]? = some (.cells CC 46 (0, 0))) (hbo : W.heap[bo]? = some (.cells OK 4 (0, 0))) (hrows : Rows CC OK) (ho : OutOk W B outv outs)
    (hrng : ∀ i : Nat, i < 16 → 0 ≤ List.getD [r0, r1, r2, r3, r4, r5, r6, r7, r8, r9, r10, r11, r12, r13, r14, r15] i 0 ∧ List.getD [r0, r1, r2, r3, r4, r5, r6, r7, r8, r9, r10, r11, r12, r13, r14, r15] i 0 < 4294967296) (hread : rn ≤ inp.size) (hsz : inp.size < 1000000) (hB : B ≤ W.heap.size) :
    Calls Tryd.prog 131 #[.pointer (some ⟨g, 0, none⟩)] W (SimPost W g bc bo cc co1 co2 co3 mem wordsv o0 inp B outv (SeedSim.step (inpL inp) ⟨9, [r0, r1, r2, r3, r4, r5, r6, r7, r8, r9, r10, r11, r12, r13, r14, r15], rn, outs, st, 0⟩)) := by
  have hs : SeedSim.step (inpL inp) ⟨9, [r0, r1, r2, r3, r4, r5, r6, r7, r8, r9, r10, r11, r12, r13, r14, r15], rn, outs, st, 0⟩ = ⟨10, [r0, r1, 48, r3, r4, r5, r6, r7, r8, r9, r10, r11, r12, r13, r14, r15], rn, outs, st + 1, 0⟩ := by simp [SeedSim.step, SeedSim.code, SeedSim.exec, SeedSim.g, SeedSim.alu]
  rw [hs]
  exact sim_of hg hcc hcs ho (by rfl) rfl (step_1_2_0_48 W g cc bc bo 9 r0 r1 r2 r3 r4 r5 r6 r7 r8 r9 r10 r11 r12 r13 r14 r15 (rn : Int) (st : Int) mem outv wordsv o0 inp co1 co2 co3 cs CC OK (by decide) ⟨by omega, by omega⟩ hg hcc (hcs 9 (by decide)) hbc hbo (hrows.c0 9 _ rfl) (hrows.c1 9 _ rfl) (hrows.c2 9 _ rfl) (hrows.c3 9 _ rfl) (hrows.ok 9 (by decide)))
end Go.Proofs.YtdhkmdgieflioaaDoor.F
namespace Go.Proofs.YtdhkmdgieflioaaDoor.F
open Go.RowKit Go.Proofs.YtdhkmdgieflioaaDoorW.PrintWords Go.Proofs.YtdhkmdgieflioaaDoorW.PrintLast Go.Proofs.YtdhkmdgieflioaaDoorW.PrintMore
set_option linter.unusedVariables false
set_option linter.unusedSimpArgs false
set_option maxRecDepth 100000 in
set_option maxHeartbeats 8000000 in
theorem step_5_6_1_2 (W : World) (g cc bc bo : Nat) (pc : Nat) (r0 r1 r2 r3 r4 r5 r6 r7 r8 r9 r10 r11 r12 r13 r14 r15 rd st : Int) (mem outv wordsv : Value) (o0 inp : ByteArray) (co1 co2 co3 : Nat) (cs CC OK : Array Value)
    (hpc : pc < 37) (hst : 0 ≤ st ∧ st < 1000000) (hg : W.heap[g]? = some (.cells #[.int .i64 pc, .int .u32 r0, .int .u32 r1, .int .u32 r2, .int .u32 r3, .int .u32 r4, .int .u32 r5, .int .u32 r6, .int .u32 r7, .int .u32 r8, .int .u32 r9, .int .u32 r10, .int .u32 r11, .int .u32 r12, .int .u32 r13, .int .u32 r14, .int .u32 r15, mem, .int .i64 rd, .string o0, .int .i64 st, .int .i64 0, outv, .slice (some ⟨bc, 0, none⟩) 37 co1, .slice (some ⟨bo, 0, none⟩) 37 co2, wordsv, .string inp, .slice (some ⟨cc, 0, none⟩) 37 co3] 145 (0, 0)))
    (hcc : W.heap[cc]? = some (.cells cs 3 (0, 0))) (hcs : ∃ n, cs[pc]? = some (.int .i64 n)) (hbc : W.heap[bc]? = some (.cells CC 46 (0, 0))) (hbo : W.heap[bo]? = some (.cells OK 4 (0, 0)))
    (hk0 : CC[pc * 4]? = some (.int .i64 5)) (hk1 : CC[pc * 4 + 1]? = some (.int .i64 6)) (hk2 : CC[pc * 4 + 2]? = some (.int .i64 1)) (hk3 : CC[pc * 4 + 3]? = some (.int .i64 2)) (hok : OK[pc]? = some (.bool true))
    (hx : 0 ≤ r1) (hx2 : r1 < 4294967296) (hy : 0 ≤ r2) (hy2 : r2 < 4294967296) :
    Calls Tryd.prog 131 #[.pointer (some ⟨g, 0, none⟩)] W (StepPost W g cc none cs pc #[.int .i64 (pc + 1), .int .u32 r0, .int .u32 r1, .int .u32 r2, .int .u32 r3, .int .u32 r4, .int .u32 r5, .int .u32 ((r1 + 4294967296 - r2) % 4294967296), .int .u32 r7, .int .u32 r8, .int .u32 r9, .int .u32 r10, .int .u32 r11, .int .u32 r12, .int .u32 r13, .int .u32 r14, .int .u32 r15, mem, .int .i64 rd, .string o0, .int .i64 (st + 1), .int .i64 0, outv, .slice (some ⟨bc, 0, none⟩) 37 co1, .slice (some ⟨bo, 0, none⟩) 37 co2, wordsv, .string inp, .slice (some ⟨cc, 0, none⟩) 37 co3]) := by
  have hu145 := Tryd.underlying145
  have hu109 := Tryd.underlying109
  have hu46 := Tryd.underlying46
  have hlg := blk_lt hg
  have hlc := blk_lt hcc
  have hlb := blk_lt hbc
  have hlo := blk_lt hbo
  have n1 : cc ≠ g := blk_ne hcc hg (by decide)
  have n1' : g ≠ cc := fun h => n1 h.symm
  have n2 : bc ≠ g := blk_ne hbc hg (by decide)
  have n3 : bc ≠ cc := blk_ne hbc hcc (by decide)
  have n4 : bo ≠ g := blk_ne hbo hg (by decide)
  have n5 : bo ≠ cc := blk_ne hbo hcc (by decide)
  obtain ⟨cn, hcn⟩ := hcs
  have BG := Aside0.mk hg
  have BC := Aside0.mk hcc
  have fc : W.cell? ⟨cc, pc, none⟩ = some (.int .i64 cn) := (blk_cell hcc pc).trans hcn
  have zc := blk_frozen hcc pc
  have k0 := (blk_cell hbc (pc * 4)).trans hk0
  have k1 := (blk_cell hbc (pc * 4 + 1)).trans hk1
  have k2 := (blk_cell hbc (pc * 4 + 2)).trans hk2
  have k3 := (blk_cell hbc (pc * 4 + 3)).trans hk3
  have ko := (blk_cell hbo pc).trans hok
  clear hg hcc hcn hbc hbo hk0 hk1 hk2 hk3 hok
  have f0 : W.cell? ⟨g, 0, none⟩ = some (.int .i64 pc) := (blk_cell BG.out 0).trans rfl
  have f20 : W.cell? ⟨g, 20, none⟩ = some (.int .i64 st) := (blk_cell BG.out 20).trans rfl
  have f23 : W.cell? ⟨g, 23, none⟩ = some (.slice (some ⟨bc, 0, none⟩) 37 co1) := (blk_cell BG.out 23).trans rfl
  have f24 : W.cell? ⟨g, 24, none⟩ = some (.slice (some ⟨bo, 0, none⟩) 37 co2) := (blk_cell BG.out 24).trans rfl
  have f27 : W.cell? ⟨g, 27, none⟩ = some (.slice (some ⟨cc, 0, none⟩) 37 co3) := (blk_cell BG.out 27).trans rfl
  have f2 : W.cell? ⟨g, 2, none⟩ = some (.int .u32 r1) := (blk_cell BG.out 2).trans rfl
  have f3 : W.cell? ⟨g, 3, none⟩ = some (.int .u32 r2) := (blk_cell BG.out 3).trans rfl
  have f7 : W.cell? ⟨g, 7, none⟩ = some (.int .u32 r6) := (blk_cell BG.out 7).trans rfl
  have z0 := blk_frozen BG.out 0
  have z7 := blk_frozen BG.out 7
  have z20 := blk_frozen BG.out 20
  have z21 := blk_frozen BG.out 21
  have h1 : ¬ (pc : Int) < 0 := by omega
  have h1b : decide ((pc : Int) < 0) = false := by simp
  obtain ⟨rv, hrv⟩ : ∃ rv : Int, rv = (r1 + 4294967296 - r2) % 4294967296 := ⟨_, rfl⟩
  have hap : ∀ W_, Calls Tryd.prog 47 #[.int .i64 5, .int .u32 r1, .int .u32 r2] W_ fun e w' => e = .returned (.tuple #[.int .u32 rv, .int .i64 0]) ∧ w' = W_ := fun W_ => (apply_5 r1 r2 hx hx2 hy hy2 W_).mono fun e w' h => ⟨by rw [hrv]; exact h.1, h.2.symm⟩
  have HAP := Aside0.mk hap
  clear hap
  rw [← hrv]
  clear hrv
  go_enter Tryd.func131, Tryd.ntmps131
  go_wp2_with fail
  go_quiet (fail)
  go_wp2_with fail
  go_region
  go_wp2_with fail
  go_region
  go_wp2_with fail
  go_region
  go_wp2_with fail
  go_region
  go_wp2_with fail
  go_quiet ((exact (HAP.out _).mono fun _ _ h => ⟨h.1, _, h.2⟩))
  go_wp2
  go_end0
  go_wp2
  all_goals first | go_end0 | ((try simp only [Exit.inBlock, Exit.then]); refine bodyPost_ret (results_none rfl _ _ _) rfl ?_)
  refine ⟨rfl, ?h1_, ?h2_, ?h3_⟩
  case h1_ => exact blk_is (by (repeat (with_reducible first | exact BG.out | apply blk_drewN | apply blk_drew | apply blk_alloc | apply blk_set | apply blk_farc n1'))) (by rfl)
  case h2_ => exact ⟨_, by (repeat (with_reducible first | exact BC.out | apply blk_drewN | apply blk_drew | apply blk_alloc | apply blk_set | apply blk_farc n1))⟩
  case h3_ => (repeat (with_reducible first | exact Stp.refl _ _ _ _ | refine Stp.drewN ?_ _ | refine Stp.drew ?_ | refine Stp.alloc ?_ _ | refine Stp.setg ?_ _ _ | refine Stp.setc ?_ _ _))
end Go.Proofs.YtdhkmdgieflioaaDoor.F
namespace Go.Proofs.YtdhkmdgieflioaaDoor.F
open Go.RowKit Go.Proofs.YtdhkmdgieflioaaDoorW.PrintWords Go.Proofs.YtdhkmdgieflioaaDoorW.PrintLast Go.Proofs.YtdhkmdgieflioaaDoorW.PrintMore
set_option linter.unusedVariables false
set_option linter.unusedSimpArgs false
set_option maxRecDepth 100000 in
set_option maxHeartbeats 8000000 in
theorem step_14_5_6_11 (W : World) (g cc bc bo : Nat) (pc : Nat) (r0 r1 r2 r3 r4 r5 r6 r7 r8 r9 r10 r11 r12 r13 r14 r15 rd st : Int) (mem outv wordsv : Value) (o0 inp : ByteArray) (co1 co2 co3 : Nat) (cs CC OK : Array Value)
    (hpc : pc < 37) (hst : 0 ≤ st ∧ st < 1000000) (hg : W.heap[g]? = some (.cells #[.int .i64 pc, .int .u32 r0, .int .u32 r1, .int .u32 r2, .int .u32 r3, .int .u32 r4, .int .u32 r5, .int .u32 r6, .int .u32 r7, .int .u32 r8, .int .u32 r9, .int .u32 r10, .int .u32 r11, .int .u32 r12, .int .u32 r13, .int .u32 r14, .int .u32 r15, mem, .int .i64 rd, .string o0, .int .i64 st, .int .i64 0, outv, .slice (some ⟨bc, 0, none⟩) 37 co1, .slice (some ⟨bo, 0, none⟩) 37 co2, wordsv, .string inp, .slice (some ⟨cc, 0, none⟩) 37 co3] 145 (0, 0)))
    (hcc : W.heap[cc]? = some (.cells cs 3 (0, 0))) (hcs : ∃ n, cs[pc]? = some (.int .i64 n)) (hbc : W.heap[bc]? = some (.cells CC 46 (0, 0))) (hbo : W.heap[bo]? = some (.cells OK 4 (0, 0)))
    (hk0 : CC[pc * 4]? = some (.int .i64 14)) (hk1 : CC[pc * 4 + 1]? = some (.int .i64 5)) (hk2 : CC[pc * 4 + 2]? = some (.int .i64 6)) (hk3 : CC[pc * 4 + 3]? = some (.int .i64 11)) (hok : OK[pc]? = some (.bool true))
    (hx : 0 ≤ r6) (hx2 : r6 < 4294967296) (hy : 0 ≤ r11) (hy2 : r11 < 4294967296) :
    Calls Tryd.prog 131 #[.pointer (some ⟨g, 0, none⟩)] W (StepPost W g cc none cs pc #[.int .i64 (pc + 1), .int .u32 r0, .int .u32 r1, .int .u32 r2, .int .u32 r3, .int .u32 r4, .int .u32 (if r6 < r11 then 1 else 0), .int .u32 r6, .int .u32 r7, .int .u32 r8, .int .u32 r9, .int .u32 r10, .int .u32 r11, .int .u32 r12, .int .u32 r13, .int .u32 r14, .int .u32 r15, mem, .int .i64 rd, .string o0, .int .i64 (st + 1), .int .i64 0, outv, .slice (some ⟨bc, 0, none⟩) 37 co1, .slice (some ⟨bo, 0, none⟩) 37 co2, wordsv, .string inp, .slice (some ⟨cc, 0, none⟩) 37 co3]) := by
  have hu145 := Tryd.underlying145
  have hu109 := Tryd.underlying109
  have hu46 := Tryd.underlying46
  have hlg := blk_lt hg
  have hlc := blk_lt hcc
  have hlb := blk_lt hbc
  have hlo := blk_lt hbo
  have n1 : cc ≠ g := blk_ne hcc hg (by decide)
  have n1' : g ≠ cc := fun h => n1 h.symm
  have n2 : bc ≠ g := blk_ne hbc hg (by decide)
  have n3 : bc ≠ cc := blk_ne hbc hcc (by decide)
  have n4 : bo ≠ g := blk_ne hbo hg (by decide)
  have n5 : bo ≠ cc := blk_ne hbo hcc (by decide)
  obtain ⟨cn, hcn⟩ := hcs
  have BG := Aside0.mk hg
  have BC := Aside0.mk hcc
  have fc : W.cell? ⟨cc, pc, none⟩ = some (.int .i64 cn) := (blk_cell hcc pc).trans hcn
  have zc := blk_frozen hcc pc
  have k0 := (blk_cell hbc (pc * 4)).trans hk0
  have k1 := (blk_cell hbc (pc * 4 + 1)).trans hk1
  have k2 := (blk_cell hbc (pc * 4 + 2)).trans hk2
  have k3 := (blk_cell hbc (pc * 4 + 3)).trans hk3
  have ko := (blk_cell hbo pc).trans hok
  clear hg hcc hcn hbc hbo hk0 hk1 hk2 hk3 hok
  have f0 : W.cell? ⟨g, 0, none⟩ = some (.int .i64 pc) := (blk_cell BG.out 0).trans rfl
  have f20 : W.cell? ⟨g, 20, none⟩ = some (.int .i64 st) := (blk_cell BG.out 20).trans rfl
  have f23 : W.cell? ⟨g, 23, none⟩ = some (.slice (some ⟨bc, 0, none⟩) 37 co1) := (blk_cell BG.out 23).trans rfl
  have f24 : W.cell? ⟨g, 24, none⟩ = some (.slice (some ⟨bo, 0, none⟩) 37 co2) := (blk_cell BG.out 24).trans rfl
  have f27 : W.cell? ⟨g, 27, none⟩ = some (.slice (some ⟨cc, 0, none⟩) 37 co3) := (blk_cell BG.out 27).trans rfl
  have f6 : W.cell? ⟨g, 6, none⟩ = some (.int .u32 r5) := (blk_cell BG.out 6).trans rfl
  have f7 : W.cell? ⟨g, 7, none⟩ = some (.int .u32 r6) := (blk_cell BG.out 7).trans rfl
  have f12 : W.cell? ⟨g, 12, none⟩ = some (.int .u32 r11) := (blk_cell BG.out 12).trans rfl
  have z0 := blk_frozen BG.out 0
  have z6 := blk_frozen BG.out 6
  have z20 := blk_frozen BG.out 20
  have z21 := blk_frozen BG.out 21
  have h1 : ¬ (pc : Int) < 0 := by omega
  have h1b : decide ((pc : Int) < 0) = false := by simp
  obtain ⟨rv, hrv⟩ : ∃ rv : Int, rv = if r6 < r11 then 1 else 0 := ⟨_, rfl⟩
  have hap : ∀ W_, Calls Tryd.prog 47 #[.int .i64 14, .int .u32 r6, .int .u32 r11] W_ fun e w' => e = .returned (.tuple #[.int .u32 rv, .int .i64 0]) ∧ w' = W_ := fun W_ => (apply_14 r6 r11 hx hx2 hy hy2 W_).mono fun e w' h => ⟨by rw [hrv]; exact h.1, h.2.symm⟩
  have HAP := Aside0.mk hap
  clear hap
  rw [← hrv]
  clear hrv
  go_enter Tryd.func131, Tryd.ntmps131
  go_wp2_with fail
  go_quiet (fail)
  go_wp2_with fail
  go_region
  go_wp2_with fail
  go_region
  go_wp2_with fail
  go_region
  go_wp2_with fail
  go_region
  go_wp2_with fail
  go_quiet ((exact (HAP.out _).mono fun _ _ h => ⟨h.1, _, h.2⟩))
  go_wp2
  go_end0
  go_wp2
  all_goals first | go_end0 | ((try simp only [Exit.inBlock, Exit.then]); refine bodyPost_ret (results_none rfl _ _ _) rfl ?_)
  refine ⟨rfl, ?h1_, ?h2_, ?h3_⟩
  case h1_ => exact blk_is (by (repeat (with_reducible first | exact BG.out | apply blk_drewN | apply blk_drew | apply blk_alloc | apply blk_set | apply blk_farc n1'))) (by rfl)
  case h2_ => exact ⟨_, by (repeat (with_reducible first | exact BC.out | apply blk_drewN | apply blk_drew | apply blk_alloc | apply blk_set | apply blk_farc n1))⟩
  case h3_ => (repeat (with_reducible first | exact Stp.refl _ _ _ _ | refine Stp.drewN ?_ _ | refine Stp.drew ?_ | refine Stp.alloc ?_ _ | refine Stp.setg ?_ _ _ | refine Stp.setc ?_ _ _))
end Go.Proofs.YtdhkmdgieflioaaDoor.F
namespace Go.Proofs.YtdhkmdgieflioaaDoor.F
open Go.RowKit Go.Proofs.YtdhkmdgieflioaaDoorW.PrintWords Go.Proofs.YtdhkmdgieflioaaDoorW.PrintLast Go.Proofs.YtdhkmdgieflioaaDoorW.PrintMore
set_option linter.unusedVariables false
set_option linter.unusedSimpArgs false
set_option maxRecDepth 100000 in
set_option maxHeartbeats 8000000 in
theorem step_20_5_0_21_z (W : World) (g cc bc bo : Nat) (pc : Nat) (r0 r1 r2 r3 r4 r5 r6 r7 r8 r9 r10 r11 r12 r13 r14 r15 rd st : Int) (mem outv wordsv : Value) (o0 inp : ByteArray) (co1 co2 co3 : Nat) (cs CC OK : Array Value)
    (hpc : pc < 37) (hst : 0 ≤ st ∧ st < 1000000) (hg : W.heap[g]? = some (.cells #[.int .i64 pc, .int .u32 r0, .int .u32 r1, .int .u32 r2, .int .u32 r3, .int .u32 r4, .int .u32 r5, .int .u32 r6, .int .u32 r7, .int .u32 r8, .int .u32 r9, .int .u32 r10, .int .u32 r11, .int .u32 r12, .int .u32 r13, .int .u32 r14, .int .u32 r15, mem, .int .i64 rd, .string o0, .int .i64 st, .int .i64 0, outv, .slice (some ⟨bc, 0, none⟩) 37 co1, .slice (some ⟨bo, 0, none⟩) 37 co2, wordsv, .string inp, .slice (some ⟨cc, 0, none⟩) 37 co3] 145 (0, 0)))
    (hcc : W.heap[cc]? = some (.cells cs 3 (0, 0))) (hcs : ∃ n, cs[pc]? = some (.int .i64 n)) (hbc : W.heap[bc]? = some (.cells CC 46 (0, 0))) (hbo : W.heap[bo]? = some (.cells OK 4 (0, 0)))
    (hk0 : CC[pc * 4]? = some (.int .i64 20)) (hk1 : CC[pc * 4 + 1]? = some (.int .i64 5)) (hk2 : CC[pc * 4 + 2]? = some (.int .i64 0)) (hk3 : CC[pc * 4 + 3]? = some (.int .i64 21)) (hok : OK[pc]? = some (.bool true))
    (hz1 : (r5 == 0) = true) (hz2 : (r5 != 0) = false) :
    Calls Tryd.prog 131 #[.pointer (some ⟨g, 0, none⟩)] W (StepPost W g cc none cs pc #[.int .i64 (pc + 1), .int .u32 r0, .int .u32 r1, .int .u32 r2, .int .u32 r3, .int .u32 r4, .int .u32 r5, .int .u32 r6, .int .u32 r7, .int .u32 r8, .int .u32 r9, .int .u32 r10, .int .u32 r11, .int .u32 r12, .int .u32 r13, .int .u32 r14, .int .u32 r15, mem, .int .i64 rd, .string o0, .int .i64 (st + 1), .int .i64 0, outv, .slice (some ⟨bc, 0, none⟩) 37 co1, .slice (some ⟨bo, 0, none⟩) 37 co2, wordsv, .string inp, .slice (some ⟨cc, 0, none⟩) 37 co3]) := by
  have hu145 := Tryd.underlying145
  have hu109 := Tryd.underlying109
  have hu46 := Tryd.underlying46
  have hlg := blk_lt hg
  have hlc := blk_lt hcc
  have hlb := blk_lt hbc
  have hlo := blk_lt hbo
  have n1 : cc ≠ g := blk_ne hcc hg (by decide)
  have n1' : g ≠ cc := fun h => n1 h.symm
  have n2 : bc ≠ g := blk_ne hbc hg (by decide)
  have n3 : bc ≠ cc := blk_ne hbc hcc (by decide)
  have n4 : bo ≠ g := blk_ne hbo hg (by decide)
  have n5 : bo ≠ cc := blk_ne hbo hcc (by decide)
  obtain ⟨cn, hcn⟩ := hcs
  have BG := Aside0.mk hg
  have BC := Aside0.mk hcc
  have fc : W.cell? ⟨cc, pc, none⟩ = some (.int .i64 cn) := (blk_cell hcc pc).trans hcn
  have zc := blk_frozen hcc pc
  have k0 := (blk_cell hbc (pc * 4)).trans hk0
  have k1 := (blk_cell hbc (pc * 4 + 1)).trans hk1
  have k2 := (blk_cell hbc (pc * 4 + 2)).trans hk2
  have k3 := (blk_cell hbc (pc * 4 + 3)).trans hk3
  have ko := (blk_cell hbo pc).trans hok
  clear hg hcc hcn hbc hbo hk0 hk1 hk2 hk3 hok
  have f0 : W.cell? ⟨g, 0, none⟩ = some (.int .i64 pc) := (blk_cell BG.out 0).trans rfl
  have f20 : W.cell? ⟨g, 20, none⟩ = some (.int .i64 st) := (blk_cell BG.out 20).trans rfl
  have f23 : W.cell? ⟨g, 23, none⟩ = some (.slice (some ⟨bc, 0, none⟩) 37 co1) := (blk_cell BG.out 23).trans rfl
  have f24 : W.cell? ⟨g, 24, none⟩ = some (.slice (some ⟨bo, 0, none⟩) 37 co2) := (blk_cell BG.out 24).trans rfl
  have f27 : W.cell? ⟨g, 27, none⟩ = some (.slice (some ⟨cc, 0, none⟩) 37 co3) := (blk_cell BG.out 27).trans rfl
  have f6 : W.cell? ⟨g, 6, none⟩ = some (.int .u32 r5) := (blk_cell BG.out 6).trans rfl
  have z0 := blk_frozen BG.out 0
  have z6 := blk_frozen BG.out 6
  have z20 := blk_frozen BG.out 20
  have z21 := blk_frozen BG.out 21
  have h1 : ¬ (pc : Int) < 0 := by omega
  have h1b : decide ((pc : Int) < 0) = false := by simp
  go_enter Tryd.func131, Tryd.ntmps131
  go_wp2_with fail
  go_quiet (fail)
  go_wp2_with fail
  go_region
  go_wp2_with fail
  go_region
  go_wp2_with fail
  go_region
  go_wp2_with fail
  go_region
  go_wp2
  go_end0
  go_wp2
  all_goals first | go_end0 | ((try simp only [Exit.inBlock, Exit.then]); refine bodyPost_ret (results_none rfl _ _ _) rfl ?_)
  refine ⟨rfl, ?h1_, ?h2_, ?h3_⟩
  case h1_ => exact blk_is (by (repeat (with_reducible first | exact BG.out | apply blk_drewN | apply blk_drew | apply blk_alloc | apply blk_set | apply blk_farc n1'))) (by rfl)
  case h2_ => exact ⟨_, by (repeat (with_reducible first | exact BC.out | apply blk_drewN | apply blk_drew | apply blk_alloc | apply blk_set | apply blk_farc n1))⟩
  case h3_ => (repeat (with_reducible first | exact Stp.refl _ _ _ _ | refine Stp.drewN ?_ _ | refine Stp.drew ?_ | refine Stp.alloc ?_ _ | refine Stp.setg ?_ _ _ | refine Stp.setc ?_ _ _))
set_option maxRecDepth 100000 in
set_option maxHeartbeats 8000000 in
theorem step_20_5_0_21_n (W : World) (g cc bc bo : Nat) (pc : Nat) (r0 r1 r2 r3 r4 r5 r6 r7 r8 r9 r10 r11 r12 r13 r14 r15 rd st : Int) (mem outv wordsv : Value) (o0 inp : ByteArray) (co1 co2 co3 : Nat) (cs CC OK : Array Value)
    (hpc : pc < 37) (hst : 0 ≤ st ∧ st < 1000000) (hg : W.heap[g]? = some (.cells #[.int .i64 pc, .int .u32 r0, .int .u32 r1, .int .u32 r2, .int .u32 r3, .int .u32 r4, .int .u32 r5, .int .u32 r6, .int .u32 r7, .int .u32 r8, .int .u32 r9, .int .u32 r10, .int .u32 r11, .int .u32 r12, .int .u32 r13, .int .u32 r14, .int .u32 r15, mem, .int .i64 rd, .string o0, .int .i64 st, .int .i64 0, outv, .slice (some ⟨bc, 0, none⟩) 37 co1, .slice (some ⟨bo, 0, none⟩) 37 co2, wordsv, .string inp, .slice (some ⟨cc, 0, none⟩) 37 co3] 145 (0, 0)))
    (hcc : W.heap[cc]? = some (.cells cs 3 (0, 0))) (hcs : ∃ n, cs[pc]? = some (.int .i64 n)) (hbc : W.heap[bc]? = some (.cells CC 46 (0, 0))) (hbo : W.heap[bo]? = some (.cells OK 4 (0, 0)))
    (hk0 : CC[pc * 4]? = some (.int .i64 20)) (hk1 : CC[pc * 4 + 1]? = some (.int .i64 5)) (hk2 : CC[pc * 4 + 2]? = some (.int .i64 0)) (hk3 : CC[pc * 4 + 3]? = some (.int .i64 21)) (hok : OK[pc]? = some (.bool true))
    (hz1 : (r5 == 0) = false) (hz2 : (r5 != 0) = true) :
    Calls Tryd.prog 131 #[.pointer (some ⟨g, 0, none⟩)] W (StepPost W g cc none cs pc #[.int .i64 21, .int .u32 r0, .int .u32 r1, .int .u32 r2, .int .u32 r3, .int .u32 r4, .int .u32 r5, .int .u32 r6, .int .u32 r7, .int .u32 r8, .int .u32 r9, .int .u32 r10, .int .u32 r11, .int .u32 r12, .int .u32 r13, .int .u32 r14, .int .u32 r15, mem, .int .i64 rd, .string o0, .int .i64 (st + 1), .int .i64 0, outv, .slice (some ⟨bc, 0, none⟩) 37 co1, .slice (some ⟨bo, 0, none⟩) 37 co2, wordsv, .string inp, .slice (some ⟨cc, 0, none⟩) 37 co3]) := by
  have hu145 := Tryd.underlying145
  have hu109 := Tryd.underlying109
  have hu46 := Tryd.underlying46
  have hlg := blk_lt hg
  have hlc := blk_lt hcc
  have hlb := blk_lt hbc
  have hlo := blk_lt hbo
  have n1 : cc ≠ g := blk_ne hcc hg (by decide)
  have n1' : g ≠ cc := fun h => n1 h.symm
  have n2 : bc ≠ g := blk_ne hbc hg (by decide)
  have n3 : bc ≠ cc := blk_ne hbc hcc (by decide)
  have n4 : bo ≠ g := blk_ne hbo hg (by decide)
  have n5 : bo ≠ cc := blk_ne hbo hcc (by decide)
  obtain ⟨cn, hcn⟩ := hcs
  have BG := Aside0.mk hg
  have BC := Aside0.mk hcc
  have fc : W.cell? ⟨cc, pc, none⟩ = some (.int .i64 cn) := (blk_cell hcc pc).trans hcn
  have zc := blk_frozen hcc pc
  have k0 := (blk_cell hbc (pc * 4)).trans hk0
  have k1 := (blk_cell hbc (pc * 4 + 1)).trans hk1
  have k2 := (blk_cell hbc (pc * 4 + 2)).trans hk2
  have k3 := (blk_cell hbc (pc * 4 + 3)).trans hk3
  have ko := (blk_cell hbo pc).trans hok
  clear hg hcc hcn hbc hbo hk0 hk1 hk2 hk3 hok
  have f0 : W.cell? ⟨g, 0, none⟩ = some (.int .i64 pc) := (blk_cell BG.out 0).trans rfl
  have f20 : W.cell? ⟨g, 20, none⟩ = some (.int .i64 st) := (blk_cell BG.out 20).trans rfl
  have f23 : W.cell? ⟨g, 23, none⟩ = some (.slice (some ⟨bc, 0, none⟩) 37 co1) := (blk_cell BG.out 23).trans rfl
  have f24 : W.cell? ⟨g, 24, none⟩ = some (.slice (some ⟨bo, 0, none⟩) 37 co2) := (blk_cell BG.out 24).trans rfl
  have f27 : W.cell? ⟨g, 27, none⟩ = some (.slice (some ⟨cc, 0, none⟩) 37 co3) := (blk_cell BG.out 27).trans rfl
  have f6 : W.cell? ⟨g, 6, none⟩ = some (.int .u32 r5) := (blk_cell BG.out 6).trans rfl
  have z0 := blk_frozen BG.out 0
  have z6 := blk_frozen BG.out 6
  have z20 := blk_frozen BG.out 20
  have z21 := blk_frozen BG.out 21
  have h1 : ¬ (pc : Int) < 0 := by omega
  have h1b : decide ((pc : Int) < 0) = false := by simp
  go_enter Tryd.func131, Tryd.ntmps131
  go_wp2_with fail
  go_quiet (fail)
  go_wp2_with fail
  go_region
  go_wp2_with fail
  go_region
  go_wp2_with fail
  go_region
  go_wp2_with fail
  go_region
  go_wp2
  go_end0
  go_wp2
  all_goals first | go_end0 | ((try simp only [Exit.inBlock, Exit.then]); refine bodyPost_ret (results_none rfl _ _ _) rfl ?_)
  refine ⟨rfl, ?h1_, ?h2_, ?h3_⟩
  case h1_ => exact blk_is (by (repeat (with_reducible first | exact BG.out | apply blk_drewN | apply blk_drew | apply blk_alloc | apply blk_set | apply blk_farc n1'))) (by rfl)
  case h2_ => exact ⟨_, by (repeat (with_reducible first | exact BC.out | apply blk_drewN | apply blk_drew | apply blk_alloc | apply blk_set | apply blk_farc n1))⟩
  case h3_ => (repeat (with_reducible first | exact Stp.refl _ _ _ _ | refine Stp.drewN ?_ _ | refine Stp.drew ?_ | refine Stp.alloc ?_ _ | refine Stp.setg ?_ _ _ | refine Stp.setc ?_ _ _))
end Go.Proofs.YtdhkmdgieflioaaDoor.F
namespace Go.Proofs.YtdhkmdgieflioaaDoor.F
open Go.RowKit Go.Proofs.YtdhkmdgieflioaaDoorW.PrintWords Go.Proofs.YtdhkmdgieflioaaDoorW.PrintLast Go.Proofs.YtdhkmdgieflioaaDoorW.PrintMore
set_option linter.unusedVariables false
set_option linter.unusedSimpArgs false
set_option maxRecDepth 100000 in
set_option maxHeartbeats 8000000 in
theorem step_1_2_0_32 (W : World) (g cc bc bo : Nat) (pc : Nat) (r0 r1 r2 r3 r4 r5 r6 r7 r8 r9 r10 r11 r12 r13 r14 r15 rd st : Int) (mem outv wordsv : Value) (o0 inp : ByteArray) (co1 co2 co3 : Nat) (cs CC OK : Array Value)
    (hpc : pc < 37) (hst : 0 ≤ st ∧ st < 1000000) (hg : W.heap[g]? = some (.cells #[.int .i64 pc, .int .u32 r0, .int .u32 r1, .int .u32 r2, .int .u32 r3, .int .u32 r4, .int .u32 r5, .int .u32 r6, .int .u32 r7, .int .u32 r8, .int .u32 r9, .int .u32 r10, .int .u32 r11, .int .u32 r12, .int .u32 r13, .int .u32 r14, .int .u32 r15, mem, .int .i64 rd, .string o0, .int .i64 st, .int .i64 0, outv, .slice (some ⟨bc, 0, none⟩) 37 co1, .slice (some ⟨bo, 0, none⟩) 37 co2, wordsv, .string inp, .slice (some ⟨cc, 0, none⟩) 37 co3] 145 (0, 0)))
    (hcc : W.heap[cc]? = some (.cells cs 3 (0, 0))) (hcs : ∃ n, cs[pc]? = some (.int .i64 n)) (hbc : W.heap[bc]? = some (.cells CC 46 (0, 0))) (hbo : W.heap[bo]? = some (.cells OK 4 (0, 0)))
    (hk0 : CC[pc * 4]? = some (.int .i64 1)) (hk1 : CC[pc * 4 + 1]? = some (.int .i64 2)) (hk2 : CC[pc * 4 + 2]? = some (.int .i64 0)) (hk3 : CC[pc * 4 + 3]? = some (.int .i64 32)) (hok : OK[pc]? = some (.bool true)) :
    Calls Tryd.prog 131 #[.pointer (some ⟨g, 0, none⟩)] W (StepPost W g cc none cs pc #[.int .i64 (pc + 1), .int .u32 r0, .int .u32 r1, .int .u32 32, .int .u32 r3, .int .u32 r4, .int .u32 r5, .int .u32 r6, .int .u32 r7, .int .u32 r8, .int .u32 r9, .int .u32 r10, .int .u32 r11, .int .u32 r12, .int .u32 r13, .int .u32 r14, .int .u32 r15, mem, .int .i64 rd, .string o0, .int .i64 (st + 1), .int .i64 0, outv, .slice (some ⟨bc, 0, none⟩) 37 co1, .slice (some ⟨bo, 0, none⟩) 37 co2, wordsv, .string inp, .slice (some ⟨cc, 0, none⟩) 37 co3]) := by
  have hu145 := Tryd.underlying145
  have hu109 := Tryd.underlying109
  have hu46 := Tryd.underlying46
  have hlg := blk_lt hg
  have hlc := blk_lt hcc
  have hlb := blk_lt hbc
  have hlo := blk_lt hbo
  have n1 : cc ≠ g := blk_ne hcc hg (by decide)
  have n1' : g ≠ cc := fun h => n1 h.symm
  have n2 : bc ≠ g := blk_ne hbc hg (by decide)
  have n3 : bc ≠ cc := blk_ne hbc hcc (by decide)
  have n4 : bo ≠ g := blk_ne hbo hg (by decide)
  have n5 : bo ≠ cc := blk_ne hbo hcc (by decide)
  obtain ⟨cn, hcn⟩ := hcs
  have BG := Aside0.mk hg
  have BC := Aside0.mk hcc
  have fc : W.cell? ⟨cc, pc, none⟩ = some (.int .i64 cn) := (blk_cell hcc pc).trans hcn
  have zc := blk_frozen hcc pc
  have k0 := (blk_cell hbc (pc * 4)).trans hk0
  have k1 := (blk_cell hbc (pc * 4 + 1)).trans hk1
  have k2 := (blk_cell hbc (pc * 4 + 2)).trans hk2
  have k3 := (blk_cell hbc (pc * 4 + 3)).trans hk3
  have ko := (blk_cell hbo pc).trans hok
  clear hg hcc hcn hbc hbo hk0 hk1 hk2 hk3 hok
  have f0 : W.cell? ⟨g, 0, none⟩ = some (.int .i64 pc) := (blk_cell BG.out 0).trans rfl
  have f20 : W.cell? ⟨g, 20, none⟩ = some (.int .i64 st) := (blk_cell BG.out 20).trans rfl
  have f23 : W.cell? ⟨g, 23, none⟩ = some (.slice (some ⟨bc, 0, none⟩) 37 co1) := (blk_cell BG.out 23).trans rfl
  have f24 : W.cell? ⟨g, 24, none⟩ = some (.slice (some ⟨bo, 0, none⟩) 37 co2) := (blk_cell BG.out 24).trans rfl
  have f27 : W.cell? ⟨g, 27, none⟩ = some (.slice (some ⟨cc, 0, none⟩) 37 co3) := (blk_cell BG.out 27).trans rfl
  have f3 : W.cell? ⟨g, 3, none⟩ = some (.int .u32 r2) := (blk_cell BG.out 3).trans rfl
  have z0 := blk_frozen BG.out 0
  have z3 := blk_frozen BG.out 3
  have z20 := blk_frozen BG.out 20
  have z21 := blk_frozen BG.out 21
  have h1 : ¬ (pc : Int) < 0 := by omega
  have h1b : decide ((pc : Int) < 0) = false := by simp
  go_enter Tryd.func131, Tryd.ntmps131
  go_wp2_with fail
  go_quiet (fail)
  go_wp2_with fail
  go_region
  go_wp2_with fail
  go_region
  go_wp2_with fail
  go_region
  go_wp2_with fail
  go_region
  go_wp2
  go_end0
  go_wp2
  all_goals first | go_end0 | ((try simp only [Exit.inBlock, Exit.then]); refine bodyPost_ret (results_none rfl _ _ _) rfl ?_)
  refine ⟨rfl, ?h1_, ?h2_, ?h3_⟩
  case h1_ => exact blk_is (by (repeat (with_reducible first | exact BG.out | apply blk_drewN | apply blk_drew | apply blk_alloc | apply blk_set | apply blk_farc n1'))) (by rfl)
  case h2_ => exact ⟨_, by (repeat (with_reducible first | exact BC.out | apply blk_drewN | apply blk_drew | apply blk_alloc | apply blk_set | apply blk_farc n1))⟩
  case h3_ => (repeat (with_reducible first | exact Stp.refl _ _ _ _ | refine Stp.drewN ?_ _ | refine Stp.drew ?_ | refine Stp.alloc ?_ _ | refine Stp.setg ?_ _ _ | refine Stp.setc ?_ _ _))
end Go.Proofs.YtdhkmdgieflioaaDoor.F
namespace Go.Proofs.YtdhkmdgieflioaaDoor.F
open Go.RowKit Go.Proofs.YtdhkmdgieflioaaDoorW.PrintWords Go.Proofs.YtdhkmdgieflioaaDoorW.PrintLast Go.Proofs.YtdhkmdgieflioaaDoorW.PrintMore
set_option linter.unusedVariables false
set_option linter.unusedSimpArgs false
set_option maxRecDepth 100000 in
set_option maxHeartbeats 8000000 in
theorem step_10_6_1_2 (W : World) (g cc bc bo : Nat) (pc : Nat) (r0 r1 r2 r3 r4 r5 r6 r7 r8 r9 r10 r11 r12 r13 r14 r15 rd st : Int) (mem outv wordsv : Value) (o0 inp : ByteArray) (co1 co2 co3 : Nat) (cs CC OK : Array Value)
    (hpc : pc < 37) (hst : 0 ≤ st ∧ st < 1000000) (hg : W.heap[g]? = some (.cells #[.int .i64 pc, .int .u32 r0, .int .u32 r1, .int .u32 r2, .int .u32 r3, .int .u32 r4, .int .u32 r5, .int .u32 r6, .int .u32 r7, .int .u32 r8, .int .u32 r9, .int .u32 r10, .int .u32 r11, .int .u32 r12, .int .u32 r13, .int .u32 r14, .int .u32 r15, mem, .int .i64 rd, .string o0, .int .i64 st, .int .i64 0, outv, .slice (some ⟨bc, 0, none⟩) 37 co1, .slice (some ⟨bo, 0, none⟩) 37 co2, wordsv, .string inp, .slice (some ⟨cc, 0, none⟩) 37 co3] 145 (0, 0)))
    (hcc : W.heap[cc]? = some (.cells cs 3 (0, 0))) (hcs : ∃ n, cs[pc]? = some (.int .i64 n)) (hbc : W.heap[bc]? = some (.cells CC 46 (0, 0))) (hbo : W.heap[bo]? = some (.cells OK 4 (0, 0)))
    (hk0 : CC[pc * 4]? = some (.int .i64 10)) (hk1 : CC[pc * 4 + 1]? = some (.int .i64 6)) (hk2 : CC[pc * 4 + 2]? = some (.int .i64 1)) (hk3 : CC[pc * 4 + 3]? = some (.int .i64 2)) (hok : OK[pc]? = some (.bool true))
    (rv : Int) (hap : ∀ W_, Calls Tryd.prog 47 #[.int .i64 10, .int .u32 r1, .int .u32 r2] W_ fun e w' => e = .returned (.tuple #[.int .u32 rv, .int .i64 0]) ∧ Below W_.heap.size W_ w') :
    Calls Tryd.prog 131 #[.pointer (some ⟨g, 0, none⟩)] W (StepPost W g cc none cs pc #[.int .i64 (pc + 1), .int .u32 r0, .int .u32 r1, .int .u32 r2, .int .u32 r3, .int .u32 r4, .int .u32 r5, .int .u32 rv, .int .u32 r7, .int .u32 r8, .int .u32 r9, .int .u32 r10, .int .u32 r11, .int .u32 r12, .int .u32 r13, .int .u32 r14, .int .u32 r15, mem, .int .i64 rd, .string o0, .int .i64 (st + 1), .int .i64 0, outv, .slice (some ⟨bc, 0, none⟩) 37 co1, .slice (some ⟨bo, 0, none⟩) 37 co2, wordsv, .string inp, .slice (some ⟨cc, 0, none⟩) 37 co3]) := by
  have hu145 := Tryd.underlying145
  have hu109 := Tryd.underlying109
  have hu46 := Tryd.underlying46
  have hlg := blk_lt hg
  have hlc := blk_lt hcc
  have hlb := blk_lt hbc
  have hlo := blk_lt hbo
  have n1 : cc ≠ g := blk_ne hcc hg (by decide)
  have n1' : g ≠ cc := fun h => n1 h.symm
  have n2 : bc ≠ g := blk_ne hbc hg (by decide)
  have n3 : bc ≠ cc := blk_ne hbc hcc (by decide)
  have n4 : bo ≠ g := blk_ne hbo hg (by decide)
  have n5 : bo ≠ cc := blk_ne hbo hcc (by decide)
  obtain ⟨cn, hcn⟩ := hcs
  have BG := Aside0.mk hg
  have BC := Aside0.mk hcc
  have fc : W.cell? ⟨cc, pc, none⟩ = some (.int .i64 cn) := (blk_cell hcc pc).trans hcn
  have zc := blk_frozen hcc pc
  have k0 := (blk_cell hbc (pc * 4)).trans hk0
  have k1 := (blk_cell hbc (pc * 4 + 1)).trans hk1
  have k2 := (blk_cell hbc (pc * 4 + 2)).trans hk2
  have k3 := (blk_cell hbc (pc * 4 + 3)).trans hk3
  have ko := (blk_cell hbo pc).trans hok
  clear hg hcc hcn hbc hbo hk0 hk1 hk2 hk3 hok
  have f0 : W.cell? ⟨g, 0, none⟩ = some (.int .i64 pc) := (blk_cell BG.out 0).trans rfl
  have f20 : W.cell? ⟨g, 20, none⟩ = some (.int .i64 st) := (blk_cell BG.out 20).trans rfl
  have f23 : W.cell? ⟨g, 23, none⟩ = some (.slice (some ⟨bc, 0, none⟩) 37 co1) := (blk_cell BG.out 23).trans rfl
  have f24 : W.cell? ⟨g, 24, none⟩ = some (.slice (some ⟨bo, 0, none⟩) 37 co2) := (blk_cell BG.out 24).trans rfl
  have f27 : W.cell? ⟨g, 27, none⟩ = some (.slice (some ⟨cc, 0, none⟩) 37 co3) := (blk_cell BG.out 27).trans rfl
  have f2 : W.cell? ⟨g, 2, none⟩ = some (.int .u32 r1) := (blk_cell BG.out 2).trans rfl
  have f3 : W.cell? ⟨g, 3, none⟩ = some (.int .u32 r2) := (blk_cell BG.out 3).trans rfl
  have f7 : W.cell? ⟨g, 7, none⟩ = some (.int .u32 r6) := (blk_cell BG.out 7).trans rfl
  have z0 := blk_frozen BG.out 0
  have z7 := blk_frozen BG.out 7
  have z20 := blk_frozen BG.out 20
  have z21 := blk_frozen BG.out 21
  have h1 : ¬ (pc : Int) < 0 := by omega
  have h1b : decide ((pc : Int) < 0) = false := by simp
  have HAP := Aside0.mk hap
  clear hap
  go_enter Tryd.func131, Tryd.ntmps131
  go_wp2_with fail
  go_quiet (fail)
  go_wp2_with fail
  go_region
  go_wp2_with fail
  go_region
  go_wp2_with fail
  go_region
  go_wp2_with fail
  go_region
  generalize hW2 : World.drew _ = W2
  have hG : W2.heap[g]? = some (.cells #[.int .i64 pc, .int .u32 r0, .int .u32 r1, .int .u32 r2, .int .u32 r3, .int .u32 r4, .int .u32 r5, .int .u32 r6, .int .u32 r7, .int .u32 r8, .int .u32 r9, .int .u32 r10, .int .u32 r11, .int .u32 r12, .int .u32 r13, .int .u32 r14, .int .u32 r15, mem, .int .i64 rd, .string o0, .int .i64 (st + 1), .int .i64 0, outv, .slice (some ⟨bc, 0, none⟩) 37 co1, .slice (some ⟨bo, 0, none⟩) 37 co2, wordsv, .string inp, .slice (some ⟨cc, 0, none⟩) 37 co3] 145 (0, 0)) := blk_is (by rw [← hW2]; (repeat (with_reducible first | exact BG.out | apply blk_drewN | apply blk_drew | apply blk_alloc | apply blk_set | apply blk_farc n1'))) (by rfl)
  have hC : W2.heap[cc]? = some (.cells (cs.setIfInBounds pc (.int .i64 (wrap64 (cn + 1)))) 3 (0, 0)) := by rw [← hW2]; (repeat (with_reducible first | exact BC.out | apply blk_drewN | apply blk_drew | apply blk_alloc | apply blk_set | apply blk_farc n1))
  have hI : W2.heap[W.heap.size]? = some (.cells #[.int .i64 10, .int .i64 6, .int .i64 1, .int .i64 2] 46 (0, 0)) := by rw [← hW2]; (repeat (first | (with_reducible apply blk_drewN) | (with_reducible apply blk_drew) | exact blk_newat (by simp [World.setCell, World.drewN])))
  have hS : Stp W W2 g cc none := by rw [← hW2]; (repeat (with_reducible first | exact Stp.refl _ _ _ _ | refine Stp.drewN ?_ _ | refine Stp.drew ?_ | refine Stp.alloc ?_ _ | refine Stp.setg ?_ _ _ | refine Stp.setc ?_ _ _))
  clear hW2 fc zc k0 k1 k2 k3 ko f0 f20 f23 f24 f27 f2 f3 f7 z0 z7 z20 z21
  have e0 : W2.cell? ⟨g, 0, none⟩ = some (.int .i64 pc) := (blk_cell hG 0).trans rfl; have e2 : W2.cell? ⟨g, 2, none⟩ = some (.int .u32 r1) := (blk_cell hG 2).trans rfl; have e3 : W2.cell? ⟨g, 3, none⟩ = some (.int .u32 r2) := (blk_cell hG 3).trans rfl; have e7 : W2.cell? ⟨g, 7, none⟩ = some (.int .u32 r6) := (blk_cell hG 7).trans rfl; have y0 := blk_frozen hG 0; have y7 := blk_frozen hG 7; have i0 : W2.cell? ⟨W.heap.size, 0, none⟩ = some (.int .i64 10) := (blk_cell hI 0).trans rfl; have i1 : W2.cell? ⟨W.heap.size, 1, none⟩ = some (.int .i64 6) := (blk_cell hI 1).trans rfl; have i2 : W2.cell? ⟨W.heap.size, 2, none⟩ = some (.int .i64 1) := (blk_cell hI 2).trans rfl; have i3 : W2.cell? ⟨W.heap.size, 3, none⟩ = some (.int .i64 2) := (blk_cell hI 3).trans rfl; skip
  go_wp2_with fail
  go_region_held3 (fun w' => w'.cell? ⟨W.heap.size, 0, none⟩ = some (.int .i64 10) ∧ w'.cell? ⟨W.heap.size, 1, none⟩ = some (.int .i64 6) ∧ w'.cell? ⟨W.heap.size, 2, none⟩ = some (.int .i64 1) ∧ w'.cell? ⟨W.heap.size, 3, none⟩ = some (.int .i64 2) ∧ w'.cell? ⟨g, 2, none⟩ = some (.int .u32 r1) ∧ w'.cell? ⟨g, 3, none⟩ = some (.int .u32 r2) ∧ w'.heap[g]? = some (.cells #[.int .i64 pc, .int .u32 r0, .int .u32 r1, .int .u32 r2, .int .u32 r3, .int .u32 r4, .int .u32 r5, .int .u32 r6, .int .u32 r7, .int .u32 r8, .int .u32 r9, .int .u32 r10, .int .u32 r11, .int .u32 r12, .int .u32 r13, .int .u32 r14, .int .u32 r15, mem, .int .i64 rd, .string o0, .int .i64 (st + 1), .int .i64 0, outv, .slice (some ⟨bc, 0, none⟩) 37 co1, .slice (some ⟨bo, 0, none⟩) 37 co2, wordsv, .string inp, .slice (some ⟨cc, 0, none⟩) 37 co3] 145 (0, 0)) ∧ w'.heap[cc]? = some (.cells (cs.setIfInBounds pc (.int .i64 (wrap64 (cn + 1)))) 3 (0, 0)) ∧ w'.heap[W.heap.size]? = some (.cells #[.int .i64 10, .int .i64 6, .int .i64 1, .int .i64 2] 46 (0, 0)) ∧ Stp W w' g cc none)
    (first | exact ⟨i0, i1, i2, i3, e2, e3, hG, hC, hI, Stp.drew hS⟩ | (go_split_ands; have jG := blk_below (g := g) (o := (.cells #[.int .i64 pc, .int .u32 r0, .int .u32 r1, .int .u32 r2, .int .u32 r3, .int .u32 r4, .int .u32 r5, .int .u32 r6, .int .u32 r7, .int .u32 r8, .int .u32 r9, .int .u32 r10, .int .u32 r11, .int .u32 r12, .int .u32 r13, .int .u32 r14, .int .u32 r15, mem, .int .i64 rd, .string o0, .int .i64 (st + 1), .int .i64 0, outv, .slice (some ⟨bc, 0, none⟩) 37 co1, .slice (some ⟨bo, 0, none⟩) 37 co2, wordsv, .string inp, .slice (some ⟨cc, 0, none⟩) 37 co3] 145 (0, 0))) (by assumption) hb; have jC := blk_below (g := cc) (o := (.cells (cs.setIfInBounds pc (.int .i64 (wrap64 (cn + 1)))) 3 (0, 0))) (by assumption) hb; have jI := blk_below (g := W.heap.size) (o := (.cells #[.int .i64 10, .int .i64 6, .int .i64 1, .int .i64 2] 46 (0, 0))) (by assumption) hb; have jS := Stp.below (g := g) (cc := cc) (o := none) (W := W) (by assumption) hb; exact ⟨(blk_cell jI 0).trans rfl, (blk_cell jI 1).trans rfl, (blk_cell jI 2).trans rfl, (blk_cell jI 3).trans rfl, (blk_cell jG 2).trans rfl, (blk_cell jG 3).trans rfl, jG, jC, jI, jS⟩))
    (first | (go_at_call 47; (with_reducible refine (HAP.out _).mono ?_); rintro e w2 ⟨rfl, hb⟩))
  go_split_ands
  have n0_ := Aside0.mk (show w2.heap[g]? = some (.cells #[.int .i64 pc, .int .u32 r0, .int .u32 r1, .int .u32 r2, .int .u32 r3, .int .u32 r4, .int .u32 r5, .int .u32 r6, .int .u32 r7, .int .u32 r8, .int .u32 r9, .int .u32 r10, .int .u32 r11, .int .u32 r12, .int .u32 r13, .int .u32 r14, .int .u32 r15, mem, .int .i64 rd, .string o0, .int .i64 (st + 1), .int .i64 0, outv, .slice (some ⟨bc, 0, none⟩) 37 co1, .slice (some ⟨bo, 0, none⟩) 37 co2, wordsv, .string inp, .slice (some ⟨cc, 0, none⟩) 37 co3] 145 (0, 0)) from by assumption)
  have n1_ := Aside0.mk (show w2.heap[cc]? = some (.cells (cs.setIfInBounds pc (.int .i64 (wrap64 (cn + 1)))) 3 (0, 0)) from by assumption)
  have n2_ := Aside0.mk (show w2.heap[W.heap.size]? = some (.cells #[.int .i64 10, .int .i64 6, .int .i64 1, .int .i64 2] 46 (0, 0)) from by assumption)
  have n3_ := Aside0.mk (show Stp W w2 g cc none from by assumption)
  clear hG hC hI hS e0 e7 e2 e3 y0 y7 i0 i1 i2 i3 hb
  have d0 : w2.cell? ⟨g, 0, none⟩ = some (.int .i64 pc) := (blk_cell n0_.out 0).trans rfl
  have di : w2.cell? ⟨W.heap.size, 1, none⟩ = some (.int .i64 6) := (blk_cell n2_.out 1).trans rfl
  have da : w2.cell? ⟨g, 7, none⟩ = some (.int .u32 r6) := (blk_cell n0_.out 7).trans rfl
  have x0 := blk_frozen n0_.out 0
  have x1 := blk_frozen n0_.out 7
  go_wp2
  go_end0
  go_wp2
  all_goals first | go_end0 | ((try simp only [Exit.inBlock, Exit.then]); refine bodyPost_ret (results_none rfl _ _ _) rfl ?_)
  refine ⟨rfl, ?h1_, ?h2_, ?h3_⟩
  case h1_ => exact blk_is (by (repeat (with_reducible first | exact n0_.out | apply blk_drewN | apply blk_drew | apply blk_alloc | apply blk_set | apply blk_farc n1'))) (by rfl)
  case h2_ => exact ⟨_, by (repeat (with_reducible first | exact n1_.out | apply blk_drewN | apply blk_drew | apply blk_alloc | apply blk_set | apply blk_farc n1))⟩
  case h3_ => (repeat (with_reducible first | exact n3_.out | refine Stp.drewN ?_ _ | refine Stp.drew ?_ | refine Stp.alloc ?_ _ | refine Stp.setg ?_ _ _ | refine Stp.setc ?_ _ _))
end Go.Proofs.YtdhkmdgieflioaaDoor.F
namespace Go.Proofs.YtdhkmdgieflioaaDoor.F
open Go.RowKit Go.Proofs.YtdhkmdgieflioaaDoorW.PrintWords Go.Proofs.YtdhkmdgieflioaaDoorW.PrintLast Go.Proofs.YtdhkmdgieflioaaDoorW.PrintMore
set_option linter.unusedVariables false
set_option linter.unusedSimpArgs false
set_option maxRecDepth 100000 in
set_option maxHeartbeats 8000000 in
theorem step_1_2_0_97 (W : World) (g cc bc bo : Nat) (pc : Nat) (r0 r1 r2 r3 r4 r5 r6 r7 r8 r9 r10 r11 r12 r13 r14 r15 rd st : Int) (mem outv wordsv : Value) (o0 inp : ByteArray) (co1 co2 co3 : Nat) (cs CC OK : Array Value)
    (hpc : pc < 37) (hst : 0 ≤ st ∧ st < 1000000) (hg : W.heap[g]? = some (.cells #[.int .i64 pc, .int .u32 r0, .int .u32 r1, .int .u32 r2, .int .u32 r3, .int .u32 r4, .int .u32 r5, .int .u32 r6, .int .u32 r7, .int .u32 r8, .int .u32 r9, .int .u32 r10, .int .u32 r11, .int .u32 r12, .int .u32 r13, .int .u32 r14, .int .u32 r15, mem, .int .i64 rd, .string o0, .int .i64 st, .int .i64 0, outv, .slice (some ⟨bc, 0, none⟩) 37 co1, .slice (some ⟨bo, 0, none⟩) 37 co2, wordsv, .string inp, .slice (some ⟨cc, 0, none⟩) 37 co3] 145 (0, 0)))
    (hcc : W.heap[cc]? = some (.cells cs 3 (0, 0))) (hcs : ∃ n, cs[pc]? = some (.int .i64 n)) (hbc : W.heap[bc]? = some (.cells CC 46 (0, 0))) (hbo : W.heap[bo]? = some (.cells OK 4 (0, 0)))
    (hk0 : CC[pc * 4]? = some (.int .i64 1)) (hk1 : CC[pc * 4 + 1]? = some (.int .i64 2)) (hk2 : CC[pc * 4 + 2]? = some (.int .i64 0)) (hk3 : CC[pc * 4 + 3]? = some (.int .i64 97)) (hok : OK[pc]? = some (.bool true)) :
    Calls Tryd.prog 131 #[.pointer (some ⟨g, 0, none⟩)] W (StepPost W g cc none cs pc #[.int .i64 (pc + 1), .int .u32 r0, .int .u32 r1, .int .u32 97, .int .u32 r3, .int .u32 r4, .int .u32 r5, .int .u32 r6, .int .u32 r7, .int .u32 r8, .int .u32 r9, .int .u32 r10, .int .u32 r11, .int .u32 r12, .int .u32 r13, .int .u32 r14, .int .u32 r15, mem, .int .i64 rd, .string o0, .int .i64 (st + 1), .int .i64 0, outv, .slice (some ⟨bc, 0, none⟩) 37 co1, .slice (some ⟨bo, 0, none⟩) 37 co2, wordsv, .string inp, .slice (some ⟨cc, 0, none⟩) 37 co3]) := by
  have hu145 := Tryd.underlying145
  have hu109 := Tryd.underlying109
  have hu46 := Tryd.underlying46
  have hlg := blk_lt hg
  have hlc := blk_lt hcc
  have hlb := blk_lt hbc
  have hlo := blk_lt hbo
  have n1 : cc ≠ g := blk_ne hcc hg (by decide)
  have n1' : g ≠ cc := fun h => n1 h.symm
  have n2 : bc ≠ g := blk_ne hbc hg (by decide)
  have n3 : bc ≠ cc := blk_ne hbc hcc (by decide)
  have n4 : bo ≠ g := blk_ne hbo hg (by decide)
  have n5 : bo ≠ cc := blk_ne hbo hcc (by decide)
  obtain ⟨cn, hcn⟩ := hcs
  have BG := Aside0.mk hg
  have BC := Aside0.mk hcc
  have fc : W.cell? ⟨cc, pc, none⟩ = some (.int .i64 cn) := (blk_cell hcc pc).trans hcn
  have zc := blk_frozen hcc pc
  have k0 := (blk_cell hbc (pc * 4)).trans hk0
  have k1 := (blk_cell hbc (pc * 4 + 1)).trans hk1
  have k2 := (blk_cell hbc (pc * 4 + 2)).trans hk2
  have k3 := (blk_cell hbc (pc * 4 + 3)).trans hk3
  have ko := (blk_cell hbo pc).trans hok
  clear hg hcc hcn hbc hbo hk0 hk1 hk2 hk3 hok
  have f0 : W.cell? ⟨g, 0, none⟩ = some (.int .i64 pc) := (blk_cell BG.out 0).trans rfl
  have f20 : W.cell? ⟨g, 20, none⟩ = some (.int .i64 st) := (blk_cell BG.out 20).trans rfl
  have f23 : W.cell? ⟨g, 23, none⟩ = some (.slice (some ⟨bc, 0, none⟩) 37 co1) := (blk_cell BG.out 23).trans rfl
  have f24 : W.cell? ⟨g, 24, none⟩ = some (.slice (some ⟨bo, 0, none⟩) 37 co2) := (blk_cell BG.out 24).trans rfl
  have f27 : W.cell? ⟨g, 27, none⟩ = some (.slice (some ⟨cc, 0, none⟩) 37 co3) := (blk_cell BG.out 27).trans rfl
  have f3 : W.cell? ⟨g, 3, none⟩ = some (.int .u32 r2) := (blk_cell BG.out 3).trans rfl
  have z0 := blk_frozen BG.out 0
  have z3 := blk_frozen BG.out 3
  have z20 := blk_frozen BG.out 20
  have z21 := blk_frozen BG.out 21
  have h1 : ¬ (pc : Int) < 0 := by omega
  have h1b : decide ((pc : Int) < 0) = false := by simp
  go_enter Tryd.func131, Tryd.ntmps131
  go_wp2_with fail
  go_quiet (fail)
  go_wp2_with fail
  go_region
  go_wp2_with fail
  go_region
  go_wp2_with fail
  go_region
  go_wp2_with fail
  go_region
  go_wp2
  go_end0
  go_wp2
  all_goals first | go_end0 | ((try simp only [Exit.inBlock, Exit.then]); refine bodyPost_ret (results_none rfl _ _ _) rfl ?_)
  refine ⟨rfl, ?h1_, ?h2_, ?h3_⟩
  case h1_ => exact blk_is (by (repeat (with_reducible first | exact BG.out | apply blk_drewN | apply blk_drew | apply blk_alloc | apply blk_set | apply blk_farc n1'))) (by rfl)
  case h2_ => exact ⟨_, by (repeat (with_reducible first | exact BC.out | apply blk_drewN | apply blk_drew | apply blk_alloc | apply blk_set | apply blk_farc n1))⟩
  case h3_ => (repeat (with_reducible first | exact Stp.refl _ _ _ _ | refine Stp.drewN ?_ _ | refine Stp.drew ?_ | refine Stp.alloc ?_ _ | refine Stp.setg ?_ _ _ | refine Stp.setc ?_ _ _))
end Go.Proofs.YtdhkmdgieflioaaDoor.F
namespace Go.Proofs.YtdhkmdgieflioaaDoor.F
open Go.RowKit Go.Proofs.YtdhkmdgieflioaaDoorW.PrintWords Go.Proofs.YtdhkmdgieflioaaDoorW.PrintLast Go.Proofs.YtdhkmdgieflioaaDoorW.PrintMore
set_option linter.unusedVariables false
set_option linter.unusedSimpArgs false
set_option maxRecDepth 100000 in
set_option maxHeartbeats 8000000 in
theorem step_5_6_6_2 (W : World) (g cc bc bo : Nat) (pc : Nat) (r0 r1 r2 r3 r4 r5 r6 r7 r8 r9 r10 r11 r12 r13 r14 r15 rd st : Int) (mem outv wordsv : Value) (o0 inp : ByteArray) (co1 co2 co3 : Nat) (cs CC OK : Array Value)
    (hpc : pc < 37) (hst : 0 ≤ st ∧ st < 1000000) (hg : W.heap[g]? = some (.cells #[.int .i64 pc, .int .u32 r0, .int .u32 r1, .int .u32 r2, .int .u32 r3, .int .u32 r4, .int .u32 r5, .int .u32 r6, .int .u32 r7, .int .u32 r8, .int .u32 r9, .int .u32 r10, .int .u32 r11, .int .u32 r12, .int .u32 r13, .int .u32 r14, .int .u32 r15, mem, .int .i64 rd, .string o0, .int .i64 st, .int .i64 0, outv, .slice (some ⟨bc, 0, none⟩) 37 co1, .slice (some ⟨bo, 0, none⟩) 37 co2, wordsv, .string inp, .slice (some ⟨cc, 0, none⟩) 37 co3] 145 (0, 0)))
    (hcc : W.heap[cc]? = some (.cells cs 3 (0, 0))) (hcs : ∃ n, cs[pc]? = some (.int .i64 n)) (hbc : W.heap[bc]? = some (.cells CC 46 (0, 0))) (hbo : W.heap[bo]? = some (.cells OK 4 (0, 0)))
    (hk0 : CC[pc * 4]? = some (.int .i64 5)) (hk1 : CC[pc * 4 + 1]? = some (.int .i64 6)) (hk2 : CC[pc * 4 + 2]? = some (.int .i64 6)) (hk3 : CC[pc * 4 + 3]? = some (.int .i64 2)) (hok : OK[pc]? = some (.bool true))
    (hx : 0 ≤ r6) (hx2 : r6 < 4294967296) (hy : 0 ≤ r2) (hy2 : r2 < 4294967296) :
    Calls Tryd.prog 131 #[.pointer (some ⟨g, 0, none⟩)] W (StepPost W g cc none cs pc #[.int .i64 (pc + 1), .int .u32 r0, .int .u32 r1, .int .u32 r2, .int .u32 r3, .int .u32 r4, .int .u32 r5, .int .u32 ((r6 + 4294967296 - r2) % 4294967296), .int .u32 r7, .int .u32 r8, .int .u32 r9, .int .u32 r10, .int .u32 r11, .int .u32 r12, .int .u32 r13, .int .u32 r14, .int .u32 r15, mem, .int .i64 rd, .string o0, .int .i64 (st + 1), .int .i64 0, outv, .slice (some ⟨bc, 0, none⟩) 37 co1, .slice (some ⟨bo, 0, none⟩) 37 co2, wordsv, .string inp, .slice (some ⟨cc, 0, none⟩) 37 co3]) := by
  have hu145 := Tryd.underlying145
  have hu109 := Tryd.underlying109
  have hu46 := Tryd.underlying46
  have hlg := blk_lt hg
  have hlc := blk_lt hcc
  have hlb := blk_lt hbc
  have hlo := blk_lt hbo
  have n1 : cc ≠ g := blk_ne hcc hg (by decide)
  have n1' : g ≠ cc := fun h => n1 h.symm
  have n2 : bc ≠ g := blk_ne hbc hg (by decide)
  have n3 : bc ≠ cc := blk_ne hbc hcc (by decide)
  have n4 : bo ≠ g := blk_ne hbo hg (by decide)
  have n5 : bo ≠ cc := blk_ne hbo hcc (by decide)
  obtain ⟨cn, hcn⟩ := hcs
  have BG := Aside0.mk hg
  have BC := Aside0.mk hcc
  have fc : W.cell? ⟨cc, pc, none⟩ = some (.int .i64 cn) := (blk_cell hcc pc).trans hcn
  have zc := blk_frozen hcc pc
  have k0 := (blk_cell hbc (pc * 4)).trans hk0
  have k1 := (blk_cell hbc (pc * 4 + 1)).trans hk1
  have k2 := (blk_cell hbc (pc * 4 + 2)).trans hk2
  have k3 := (blk_cell hbc (pc * 4 + 3)).trans hk3
  have ko := (blk_cell hbo pc).trans hok
  clear hg hcc hcn hbc hbo hk0 hk1 hk2 hk3 hok
  have f0 : W.cell? ⟨g, 0, none⟩ = some (.int .i64 pc) := (blk_cell BG.out 0).trans rfl
  have f20 : W.cell? ⟨g, 20, none⟩ = some (.int .i64 st) := (blk_cell BG.out 20).trans rfl
  have f23 : W.cell? ⟨g, 23, none⟩ = some (.slice (some ⟨bc, 0, none⟩) 37 co1) := (blk_cell BG.out 23).trans rfl
  have f24 : W.cell? ⟨g, 24, none⟩ = some (.slice (some ⟨bo, 0, none⟩) 37 co2) := (blk_cell BG.out 24).trans rfl
  have f27 : W.cell? ⟨g, 27, none⟩ = some (.slice (some ⟨cc, 0, none⟩) 37 co3) := (blk_cell BG.out 27).trans rfl
  have f3 : W.cell? ⟨g, 3, none⟩ = some (.int .u32 r2) := (blk_cell BG.out 3).trans rfl
  have f7 : W.cell? ⟨g, 7, none⟩ = some (.int .u32 r6) := (blk_cell BG.out 7).trans rfl
  have z0 := blk_frozen BG.out 0
  have z7 := blk_frozen BG.out 7
  have z20 := blk_frozen BG.out 20
  have z21 := blk_frozen BG.out 21
  have h1 : ¬ (pc : Int) < 0 := by omega
  have h1b : decide ((pc : Int) < 0) = false := by simp
  obtain ⟨rv, hrv⟩ : ∃ rv : Int, rv = (r6 + 4294967296 - r2) % 4294967296 := ⟨_, rfl⟩
  have hap : ∀ W_, Calls Tryd.prog 47 #[.int .i64 5, .int .u32 r6, .int .u32 r2] W_ fun e w' => e = .returned (.tuple #[.int .u32 rv, .int .i64 0]) ∧ w' = W_ := fun W_ => (apply_5 r6 r2 hx hx2 hy hy2 W_).mono fun e w' h => ⟨by rw [hrv]; exact h.1, h.2.symm⟩
  have HAP := Aside0.mk hap
  clear hap
  rw [← hrv]
  clear hrv
  go_enter Tryd.func131, Tryd.ntmps131
  go_wp2_with fail
  go_quiet (fail)
  go_wp2_with fail
  go_region
  go_wp2_with fail
  go_region
  go_wp2_with fail
  go_region
  go_wp2_with fail
  go_region
  go_wp2_with fail
  go_quiet ((exact (HAP.out _).mono fun _ _ h => ⟨h.1, _, h.2⟩))
  go_wp2
  go_end0
  go_wp2
  all_goals first | go_end0 | ((try simp only [Exit.inBlock, Exit.then]); refine bodyPost_ret (results_none rfl _ _ _) rfl ?_)
  refine ⟨rfl, ?h1_, ?h2_, ?h3_⟩
  case h1_ => exact blk_is (by (repeat (with_reducible first | exact BG.out | apply blk_drewN | apply blk_drew | apply blk_alloc | apply blk_set | apply blk_farc n1'))) (by rfl)
  case h2_ => exact ⟨_, by (repeat (with_reducible first | exact BC.out | apply blk_drewN | apply blk_drew | apply blk_alloc | apply blk_set | apply blk_farc n1))⟩
  case h3_ => (repeat (with_reducible first | exact Stp.refl _ _ _ _ | refine Stp.drewN ?_ _ | refine Stp.drew ?_ | refine Stp.alloc ?_ _ | refine Stp.setg ?_ _ _ | refine Stp.setc ?_ _ _))
end Go.Proofs.YtdhkmdgieflioaaDoor.F
namespace Go.Proofs.YtdhkmdgieflioaaDoor.F
open Go.RowKit Go.Proofs.YtdhkmdgieflioaaDoorW.PrintWords Go.Proofs.YtdhkmdgieflioaaDoorW.PrintLast Go.Proofs.YtdhkmdgieflioaaDoorW.PrintMore
set_option linter.unusedVariables false
set_option linter.unusedSimpArgs false
set_option maxRecDepth 100000 in
set_option maxHeartbeats 8000000 in
theorem step_1_2_0_6 (W : World) (g cc bc bo : Nat) (pc : Nat) (r0 r1 r2 r3 r4 r5 r6 r7 r8 r9 r10 r11 r12 r13 r14 r15 rd st : Int) (mem outv wordsv : Value) (o0 inp : ByteArray) (co1 co2 co3 : Nat) (cs CC OK : Array Value)
    (hpc : pc < 37) (hst : 0 ≤ st ∧ st < 1000000) (hg : W.heap[g]? = some (.cells #[.int .i64 pc, .int .u32 r0, .int .u32 r1, .int .u32 r2, .int .u32 r3, .int .u32 r4, .int .u32 r5, .int .u32 r6, .int .u32 r7, .int .u32 r8, .int .u32 r9, .int .u32 r10, .int .u32 r11, .int .u32 r12, .int .u32 r13, .int .u32 r14, .int .u32 r15, mem, .int .i64 rd, .string o0, .int .i64 st, .int .i64 0, outv, .slice (some ⟨bc, 0, none⟩) 37 co1, .slice (some ⟨bo, 0, none⟩) 37 co2, wordsv, .string inp, .slice (some ⟨cc, 0, none⟩) 37 co3] 145 (0, 0)))
    (hcc : W.heap[cc]? = some (.cells cs 3 (0, 0))) (hcs : ∃ n, cs[pc]? = some (.int .i64 n)) (hbc : W.heap[bc]? = some (.cells CC 46 (0, 0))) (hbo : W.heap[bo]? = some (.cells OK 4 (0, 0)))
    (hk0 : CC[pc * 4]? = some (.int .i64 1)) (hk1 : CC[pc * 4 + 1]? = some (.int .i64 2)) (hk2 : CC[pc * 4 + 2]? = some (.int .i64 0)) (hk3 : CC[pc * 4 + 3]? = some (.int .i64 6)) (hok : OK[pc]? = some (.bool true)) :
    Calls Tryd.prog 131 #[.pointer (some ⟨g, 0, none⟩)] W (StepPost W g cc none cs pc #[.int .i64 (pc + 1), .int .u32 r0, .int .u32 r1, .int .u32 6, .int .u32 r3, .int .u32 r4, .int .u32 r5, .int .u32 r6, .int .u32 r7, .int .u32 r8, .int .u32 r9, .int .u32 r10, .int .u32 r11, .int .u32 r12, .int .u32 r13, .int .u32 r14, .int .u32 r15, mem, .int .i64 rd, .string o0, .int .i64 (st + 1), .int .i64 0, outv, .slice (some ⟨bc, 0, none⟩) 37 co1, .slice (some ⟨bo, 0, none⟩) 37 co2, wordsv, .string inp, .slice (some ⟨cc, 0, none⟩) 37 co3]) := by
  have hu145 := Tryd.underlying145
  have hu109 := Tryd.underlying109
  have hu46 := Tryd.underlying46
  have hlg := blk_lt hg
  have hlc := blk_lt hcc
  have hlb := blk_lt hbc
  have hlo := blk_lt hbo
  have n1 : cc ≠ g := blk_ne hcc hg (by decide)
  have n1' : g ≠ cc := fun h => n1 h.symm
  have n2 : bc ≠ g := blk_ne hbc hg (by decide)
  have n3 : bc ≠ cc := blk_ne hbc hcc (by decide)
  have n4 : bo ≠ g := blk_ne hbo hg (by decide)
  have n5 : bo ≠ cc := blk_ne hbo hcc (by decide)
  obtain ⟨cn, hcn⟩ := hcs
  have BG := Aside0.mk hg
  have BC := Aside0.mk hcc
  have fc : W.cell? ⟨cc, pc, none⟩ = some (.int .i64 cn) := (blk_cell hcc pc).trans hcn
  have zc := blk_frozen hcc pc
  have k0 := (blk_cell hbc (pc * 4)).trans hk0
  have k1 := (blk_cell hbc (pc * 4 + 1)).trans hk1
  have k2 := (blk_cell hbc (pc * 4 + 2)).trans hk2
  have k3 := (blk_cell hbc (pc * 4 + 3)).trans hk3
  have ko := (blk_cell hbo pc).trans hok
  clear hg hcc hcn hbc hbo hk0 hk1 hk2 hk3 hok
  have f0 : W.cell? ⟨g, 0, none⟩ = some (.int .i64 pc) := (blk_cell BG.out 0).trans rfl
  have f20 : W.cell? ⟨g, 20, none⟩ = some (.int .i64 st) := (blk_cell BG.out 20).trans rfl
  have f23 : W.cell? ⟨g, 23, none⟩ = some (.slice (some ⟨bc, 0, none⟩) 37 co1) := (blk_cell BG.out 23).trans rfl
  have f24 : W.cell? ⟨g, 24, none⟩ = some (.slice (some ⟨bo, 0, none⟩) 37 co2) := (blk_cell BG.out 24).trans rfl
  have f27 : W.cell? ⟨g, 27, none⟩ = some (.slice (some ⟨cc, 0, none⟩) 37 co3) := (blk_cell BG.out 27).trans rfl
  have f3 : W.cell? ⟨g, 3, none⟩ = some (.int .u32 r2) := (blk_cell BG.out 3).trans rfl
  have z0 := blk_frozen BG.out 0
  have z3 := blk_frozen BG.out 3
  have z20 := blk_frozen BG.out 20
  have z21 := blk_frozen BG.out 21
  have h1 : ¬ (pc : Int) < 0 := by omega
  have h1b : decide ((pc : Int) < 0) = false := by simp
  go_enter Tryd.func131, Tryd.ntmps131
  go_wp2_with fail
  go_quiet (fail)
  go_wp2_with fail
  go_region
  go_wp2_with fail
  go_region
  go_wp2_with fail
  go_region
  go_wp2_with fail
  go_region
  go_wp2
  go_end0
  go_wp2
  all_goals first | go_end0 | ((try simp only [Exit.inBlock, Exit.then]); refine bodyPost_ret (results_none rfl _ _ _) rfl ?_)
  refine ⟨rfl, ?h1_, ?h2_, ?h3_⟩
  case h1_ => exact blk_is (by (repeat (with_reducible first | exact BG.out | apply blk_drewN | apply blk_drew | apply blk_alloc | apply blk_set | apply blk_farc n1'))) (by rfl)
  case h2_ => exact ⟨_, by (repeat (with_reducible first | exact BC.out | apply blk_drewN | apply blk_drew | apply blk_alloc | apply blk_set | apply blk_farc n1))⟩
  case h3_ => (repeat (with_reducible first | exact Stp.refl _ _ _ _ | refine Stp.drewN ?_ _ | refine Stp.drew ?_ | refine Stp.alloc ?_ _ | refine Stp.setg ?_ _ _ | refine Stp.setc ?_ _ _))
end Go.Proofs.YtdhkmdgieflioaaDoor.F
namespace Go.Proofs.YtdhkmdgieflioaaDoor.F
open Go.RowKit Go.Proofs.YtdhkmdgieflioaaDoorW.PrintWords Go.Proofs.YtdhkmdgieflioaaDoorW.PrintLast Go.Proofs.YtdhkmdgieflioaaDoorW.PrintMore
set_option linter.unusedVariables false
set_option linter.unusedSimpArgs false
set_option maxRecDepth 100000 in
set_option maxHeartbeats 8000000 in
theorem step_14_5_6_2 (W : World) (g cc bc bo : Nat) (pc : Nat) (r0 r1 r2 r3 r4 r5 r6 r7 r8 r9 r10 r11 r12 r13 r14 r15 rd st : Int) (mem outv wordsv : Value) (o0 inp : ByteArray) (co1 co2 co3 : Nat) (cs CC OK : Array Value)
    (hpc : pc < 37) (hst : 0 ≤ st ∧ st < 1000000) (hg : W.heap[g]? = some (.cells #[.int .i64 pc, .int .u32 r0, .int .u32 r1, .int .u32 r2, .int .u32 r3, .int .u32 r4, .int .u32 r5, .int .u32 r6, .int .u32 r7, .int .u32 r8, .int .u32 r9, .int .u32 r10, .int .u32 r11, .int .u32 r12, .int .u32 r13, .int .u32 r14, .int .u32 r15, mem, .int .i64 rd, .string o0, .int .i64 st, .int .i64 0, outv, .slice (some ⟨bc, 0, none⟩) 37 co1, .slice (some ⟨bo, 0, none⟩) 37 co2, wordsv, .string inp, .slice (some ⟨cc, 0, none⟩) 37 co3] 145 (0, 0)))
    (hcc : W.heap[cc]? = some (.cells cs 3 (0, 0))) (hcs : ∃ n, cs[pc]? = some (.int .i64 n)) (hbc : W.heap[bc]? = some (.cells CC 46 (0, 0))) (hbo : W.heap[bo]? = some (.cells OK 4 (0, 0)))
    (hk0 : CC[pc * 4]? = some (.int .i64 14)) (hk1 : CC[pc * 4 + 1]? = some (.int .i64 5)) (hk2 : CC[pc * 4 + 2]? = some (.int .i64 6)) (hk3 : CC[pc * 4 + 3]? = some (.int .i64 2)) (hok : OK[pc]? = some (.bool true))
    (hx : 0 ≤ r6) (hx2 : r6 < 4294967296) (hy : 0 ≤ r2) (hy2 : r2 < 4294967296) :
    Calls Tryd.prog 131 #[.pointer (some ⟨g, 0, none⟩)] W (StepPost W g cc none cs pc #[.int .i64 (pc + 1), .int .u32 r0, .int .u32 r1, .int .u32 r2, .int .u32 r3, .int .u32 r4, .int .u32 (if r6 < r2 then 1 else 0), .int .u32 r6, .int .u32 r7, .int .u32 r8, .int .u32 r9, .int .u32 r10, .int .u32 r11, .int .u32 r12, .int .u32 r13, .int .u32 r14, .int .u32 r15, mem, .int .i64 rd, .string o0, .int .i64 (st + 1), .int .i64 0, outv, .slice (some ⟨bc, 0, none⟩) 37 co1, .slice (some ⟨bo, 0, none⟩) 37 co2, wordsv, .string inp, .slice (some ⟨cc, 0, none⟩) 37 co3]) := by
  have hu145 := Tryd.underlying145
  have hu109 := Tryd.underlying109
  have hu46 := Tryd.underlying46
  have hlg := blk_lt hg
  have hlc := blk_lt hcc
  have hlb := blk_lt hbc
  have hlo := blk_lt hbo
  have n1 : cc ≠ g := blk_ne hcc hg (by decide)
  have n1' : g ≠ cc := fun h => n1 h.symm
  have n2 : bc ≠ g := blk_ne hbc hg (by decide)
  have n3 : bc ≠ cc := blk_ne hbc hcc (by decide)
  have n4 : bo ≠ g := blk_ne hbo hg (by decide)
  have n5 : bo ≠ cc := blk_ne hbo hcc (by decide)
  obtain ⟨cn, hcn⟩ := hcs
  have BG := Aside0.mk hg
  have BC := Aside0.mk hcc
  have fc : W.cell? ⟨cc, pc, none⟩ = some (.int .i64 cn) := (blk_cell hcc pc).trans hcn
  have zc := blk_frozen hcc pc
  have k0 := (blk_cell hbc (pc * 4)).trans hk0
  have k1 := (blk_cell hbc (pc * 4 + 1)).trans hk1
  have k2 := (blk_cell hbc (pc * 4 + 2)).trans hk2
  have k3 := (blk_cell hbc (pc * 4 + 3)).trans hk3
  have ko := (blk_cell hbo pc).trans hok
  clear hg hcc hcn hbc hbo hk0 hk1 hk2 hk3 hok
  have f0 : W.cell? ⟨g, 0, none⟩ = some (.int .i64 pc) := (blk_cell BG.out 0).trans rfl
  have f20 : W.cell? ⟨g, 20, none⟩ = some (.int .i64 st) := (blk_cell BG.out 20).trans rfl
  have f23 : W.cell? ⟨g, 23, none⟩ = some (.slice (some ⟨bc, 0, none⟩) 37 co1) := (blk_cell BG.out 23).trans rfl
  have f24 : W.cell? ⟨g, 24, none⟩ = some (.slice (some ⟨bo, 0, none⟩) 37 co2) := (blk_cell BG.out 24).trans rfl
  have f27 : W.cell? ⟨g, 27, none⟩ = some (.slice (some ⟨cc, 0, none⟩) 37 co3) := (blk_cell BG.out 27).trans rfl
  have f3 : W.cell? ⟨g, 3, none⟩ = some (.int .u32 r2) := (blk_cell BG.out 3).trans rfl
  have f6 : W.cell? ⟨g, 6, none⟩ = some (.int .u32 r5) := (blk_cell BG.out 6).trans rfl
  have f7 : W.cell? ⟨g, 7, none⟩ = some (.int .u32 r6) := (blk_cell BG.out 7).trans rfl
  have z0 := blk_frozen BG.out 0
  have z6 := blk_frozen BG.out 6
  have z20 := blk_frozen BG.out 20
  have z21 := blk_frozen BG.out 21
  have h1 : ¬ (pc : Int) < 0 := by omega
  have h1b : decide ((pc : Int) < 0) = false := by simp
  obtain ⟨rv, hrv⟩ : ∃ rv : Int, rv = if r6 < r2 then 1 else 0 := ⟨_, rfl⟩
  have hap : ∀ W_, Calls Tryd.prog 47 #[.int .i64 14, .int .u32 r6, .int .u32 r2] W_ fun e w' => e = .returned (.tuple #[.int .u32 rv, .int .i64 0]) ∧ w' = W_ := fun W_ => (apply_14 r6 r2 hx hx2 hy hy2 W_).mono fun e w' h => ⟨by rw [hrv]; exact h.1, h.2.symm⟩
  have HAP := Aside0.mk hap
  clear hap
  rw [← hrv]
  clear hrv
  go_enter Tryd.func131, Tryd.ntmps131
  go_wp2_with fail
  go_quiet (fail)
  go_wp2_with fail
  go_region
  go_wp2_with fail
  go_region
  go_wp2_with fail
  go_region
  go_wp2_with fail
  go_region
  go_wp2_with fail
  go_quiet ((exact (HAP.out _).mono fun _ _ h => ⟨h.1, _, h.2⟩))
  go_wp2
  go_end0
  go_wp2
  all_goals first | go_end0 | ((try simp only [Exit.inBlock, Exit.then]); refine bodyPost_ret (results_none rfl _ _ _) rfl ?_)
  refine ⟨rfl, ?h1_, ?h2_, ?h3_⟩
  case h1_ => exact blk_is (by (repeat (with_reducible first | exact BG.out | apply blk_drewN | apply blk_drew | apply blk_alloc | apply blk_set | apply blk_farc n1'))) (by rfl)
  case h2_ => exact ⟨_, by (repeat (with_reducible first | exact BC.out | apply blk_drewN | apply blk_drew | apply blk_alloc | apply blk_set | apply blk_farc n1))⟩
  case h3_ => (repeat (with_reducible first | exact Stp.refl _ _ _ _ | refine Stp.drewN ?_ _ | refine Stp.drew ?_ | refine Stp.alloc ?_ _ | refine Stp.setg ?_ _ _ | refine Stp.setc ?_ _ _))
end Go.Proofs.YtdhkmdgieflioaaDoor.F
namespace Go.Proofs.YtdhkmdgieflioaaDoor.F
open Go.RowKit Go.Proofs.YtdhkmdgieflioaaDoorW.PrintWords Go.Proofs.YtdhkmdgieflioaaDoorW.PrintLast Go.Proofs.YtdhkmdgieflioaaDoorW.PrintMore
set_option linter.unusedVariables false
set_option linter.unusedSimpArgs false
set_option maxRecDepth 100000 in
set_option maxHeartbeats 8000000 in
theorem step_19_5_0_2_z (W : World) (g cc bc bo : Nat) (pc : Nat) (r0 r1 r2 r3 r4 r5 r6 r7 r8 r9 r10 r11 r12 r13 r14 r15 rd st : Int) (mem outv wordsv : Value) (o0 inp : ByteArray) (co1 co2 co3 : Nat) (cs CC OK : Array Value)
    (hpc : pc < 37) (hst : 0 ≤ st ∧ st < 1000000) (hg : W.heap[g]? = some (.cells #[.int .i64 pc, .int .u32 r0, .int .u32 r1, .int .u32 r2, .int .u32 r3, .int .u32 r4, .int .u32 r5, .int .u32 r6, .int .u32 r7, .int .u32 r8, .int .u32 r9, .int .u32 r10, .int .u32 r11, .int .u32 r12, .int .u32 r13, .int .u32 r14, .int .u32 r15, mem, .int .i64 rd, .string o0, .int .i64 st, .int .i64 0, outv, .slice (some ⟨bc, 0, none⟩) 37 co1, .slice (some ⟨bo, 0, none⟩) 37 co2, wordsv, .string inp, .slice (some ⟨cc, 0, none⟩) 37 co3] 145 (0, 0)))
    (hcc : W.heap[cc]? = some (.cells cs 3 (0, 0))) (hcs : ∃ n, cs[pc]? = some (.int .i64 n)) (hbc : W.heap[bc]? = some (.cells CC 46 (0, 0))) (hbo : W.heap[bo]? = some (.cells OK 4 (0, 0)))
    (hk0 : CC[pc * 4]? = some (.int .i64 19)) (hk1 : CC[pc * 4 + 1]? = some (.int .i64 5)) (hk2 : CC[pc * 4 + 2]? = some (.int .i64 0)) (hk3 : CC[pc * 4 + 3]? = some (.int .i64 2)) (hok : OK[pc]? = some (.bool true))
    (hz1 : (r5 == 0) = true) (hz2 : (r5 != 0) = false) :
    Calls Tryd.prog 131 #[.pointer (some ⟨g, 0, none⟩)] W (StepPost W g cc none cs pc #[.int .i64 2, .int .u32 r0, .int .u32 r1, .int .u32 r2, .int .u32 r3, .int .u32 r4, .int .u32 r5, .int .u32 r6, .int .u32 r7, .int .u32 r8, .int .u32 r9, .int .u32 r10, .int .u32 r11, .int .u32 r12, .int .u32 r13, .int .u32 r14, .int .u32 r15, mem, .int .i64 rd, .string o0, .int .i64 (st + 1), .int .i64 0, outv, .slice (some ⟨bc, 0, none⟩) 37 co1, .slice (some ⟨bo, 0, none⟩) 37 co2, wordsv, .string inp, .slice (some ⟨cc, 0, none⟩) 37 co3]) := by
  have hu145 := Tryd.underlying145
  have hu109 := Tryd.underlying109
  have hu46 := Tryd.underlying46
  have hlg := blk_lt hg
  have hlc := blk_lt hcc
  have hlb := blk_lt hbc
  have hlo := blk_lt hbo
  have n1 : cc ≠ g := blk_ne hcc hg (by decide)
  have n1' : g ≠ cc := fun h => n1 h.symm
  have n2 : bc ≠ g := blk_ne hbc hg (by decide)
  have n3 : bc ≠ cc := blk_ne hbc hcc (by decide)
  have n4 : bo ≠ g := blk_ne hbo hg (by decide)
  have n5 : bo ≠ cc := blk_ne hbo hcc (by decide)
  obtain ⟨cn, hcn⟩ := hcs
  have BG := Aside0.mk hg
  have BC := Aside0.mk hcc
  have fc : W.cell? ⟨cc, pc, none⟩ = some (.int .i64 cn) := (blk_cell hcc pc).trans hcn
  have zc := blk_frozen hcc pc
  have k0 := (blk_cell hbc (pc * 4)).trans hk0
  have k1 := (blk_cell hbc (pc * 4 + 1)).trans hk1
  have k2 := (blk_cell hbc (pc * 4 + 2)).trans hk2
  have k3 := (blk_cell hbc (pc * 4 + 3)).trans hk3
  have ko := (blk_cell hbo pc).trans hok
  clear hg hcc hcn hbc hbo hk0 hk1 hk2 hk3 hok
  have f0 : W.cell? ⟨g, 0, none⟩ = some (.int .i64 pc) := (blk_cell BG.out 0).trans rfl
  have f20 : W.cell? ⟨g, 20, none⟩ = some (.int .i64 st) := (blk_cell BG.out 20).trans rfl
  have f23 : W.cell? ⟨g, 23, none⟩ = some (.slice (some ⟨bc, 0, none⟩) 37 co1) := (blk_cell BG.out 23).trans rfl
  have f24 : W.cell? ⟨g, 24, none⟩ = some (.slice (some ⟨bo, 0, none⟩) 37 co2) := (blk_cell BG.out 24).trans rfl
  have f27 : W.cell? ⟨g, 27, none⟩ = some (.slice (some ⟨cc, 0, none⟩) 37 co3) := (blk_cell BG.out 27).trans rfl
  have f6 : W.cell? ⟨g, 6, none⟩ = some (.int .u32 r5) := (blk_cell BG.out 6).trans rfl
  have z0 := blk_frozen BG.out 0
  have z6 := blk_frozen BG.out 6
  have z20 := blk_frozen BG.out 20
  have z21 := blk_frozen BG.out 21
  have h1 : ¬ (pc : Int) < 0 := by omega
  have h1b : decide ((pc : Int) < 0) = false := by simp
  go_enter Tryd.func131, Tryd.ntmps131
  go_wp2_with fail
  go_quiet (fail)
  go_wp2_with fail
  go_region
  go_wp2_with fail
  go_region
  go_wp2_with fail
  go_region
  go_wp2_with fail
  go_region
  go_wp2
  go_end0
  go_wp2
  all_goals first | go_end0 | ((try simp only [Exit.inBlock, Exit.then]); refine bodyPost_ret (results_none rfl _ _ _) rfl ?_)
  refine ⟨rfl, ?h1_, ?h2_, ?h3_⟩
  case h1_ => exact blk_is (by (repeat (with_reducible first | exact BG.out | apply blk_drewN | apply blk_drew | apply blk_alloc | apply blk_set | apply blk_farc n1'))) (by rfl)
  case h2_ => exact ⟨_, by (repeat (with_reducible first | exact BC.out | apply blk_drewN | apply blk_drew | apply blk_alloc | apply blk_set | apply blk_farc n1))⟩
  case h3_ => (repeat (with_reducible first | exact Stp.refl _ _ _ _ | refine Stp.drewN ?_ _ | refine Stp.drew ?_ | refine Stp.alloc ?_ _ | refine Stp.setg ?_ _ _ | refine Stp.setc ?_ _ _))
set_option maxRecDepth 100000 in
set_option maxHeartbeats 8000000 in
theorem step_19_5_0_2_n (W : World) (g cc bc bo : Nat) (pc : Nat) (r0 r1 r2 r3 r4 r5 r6 r7 r8 r9 r10 r11 r12 r13 r14 r15 rd st : Int) (mem outv wordsv : Value) (o0 inp : ByteArray) (co1 co2 co3 : Nat) (cs CC OK : Array Value)
    (hpc : pc < 37) (hst : 0 ≤ st ∧ st < 1000000) (hg : W.heap[g]? = some (.cells #[.int .i64 pc, .int .u32 r0, .int .u32 r1, .int .u32 r2, .int .u32 r3, .int .u32 r4, .int .u32 r5, .int .u32 r6, .int .u32 r7, .int .u32 r8, .int .u32 r9, .int .u32 r10, .int .u32 r11, .int .u32 r12, .int .u32 r13, .int .u32 r14, .int .u32 r15, mem, .int .i64 rd, .string o0, .int .i64 st, .int .i64 0, outv, .slice (some ⟨bc, 0, none⟩) 37 co1, .slice (some ⟨bo, 0, none⟩) 37 co2, wordsv, .string inp, .slice (some ⟨cc, 0, none⟩) 37 co3] 145 (0, 0)))
    (hcc : W.heap[cc]? = some (.cells cs 3 (0, 0))) (hcs : ∃ n, cs[pc]? = some (.int .i64 n)) (hbc : W.heap[bc]? = some (.cells CC 46 (0, 0))) (hbo : W.heap[bo]? = some (.cells OK 4 (0, 0)))
    (hk0 : CC[pc * 4]? = some (.int .i64 19)) (hk1 : CC[pc * 4 + 1]? = some (.int .i64 5)) (hk2 : CC[pc * 4 + 2]? = some (.int .i64 0)) (hk3 : CC[pc * 4 + 3]? = some (.int .i64 2)) (hok : OK[pc]? = some (.bool true))
    (hz1 : (r5 == 0) = false) (hz2 : (r5 != 0) = true) :
    Calls Tryd.prog 131 #[.pointer (some ⟨g, 0, none⟩)] W (StepPost W g cc none cs pc #[.int .i64 (pc + 1), .int .u32 r0, .int .u32 r1, .int .u32 r2, .int .u32 r3, .int .u32 r4, .int .u32 r5, .int .u32 r6, .int .u32 r7, .int .u32 r8, .int .u32 r9, .int .u32 r10, .int .u32 r11, .int .u32 r12, .int .u32 r13, .int .u32 r14, .int .u32 r15, mem, .int .i64 rd, .string o0, .int .i64 (st + 1), .int .i64 0, outv, .slice (some ⟨bc, 0, none⟩) 37 co1, .slice (some ⟨bo, 0, none⟩) 37 co2, wordsv, .string inp, .slice (some ⟨cc, 0, none⟩) 37 co3]) := by
  have hu145 := Tryd.underlying145
  have hu109 := Tryd.underlying109
  have hu46 := Tryd.underlying46
  have hlg := blk_lt hg
  have hlc := blk_lt hcc
  have hlb := blk_lt hbc
  have hlo := blk_lt hbo
  have n1 : cc ≠ g := blk_ne hcc hg (by decide)
  have n1' : g ≠ cc := fun h => n1 h.symm
  have n2 : bc ≠ g := blk_ne hbc hg (by decide)
  have n3 : bc ≠ cc := blk_ne hbc hcc (by decide)
  have n4 : bo ≠ g := blk_ne hbo hg (by decide)
  have n5 : bo ≠ cc := blk_ne hbo hcc (by decide)
  obtain ⟨cn, hcn⟩ := hcs
  have BG := Aside0.mk hg
  have BC := Aside0.mk hcc
  have fc : W.cell? ⟨cc, pc, none⟩ = some (.int .i64 cn) := (blk_cell hcc pc).trans hcn
  have zc := blk_frozen hcc pc
  have k0 := (blk_cell hbc (pc * 4)).trans hk0
  have k1 := (blk_cell hbc (pc * 4 + 1)).trans hk1
  have k2 := (blk_cell hbc (pc * 4 + 2)).trans hk2
  have k3 := (blk_cell hbc (pc * 4 + 3)).trans hk3
  have ko := (blk_cell hbo pc).trans hok
  clear hg hcc hcn hbc hbo hk0 hk1 hk2 hk3 hok
  have f0 : W.cell? ⟨g, 0, none⟩ = some (.int .i64 pc) := (blk_cell BG.out 0).trans rfl
  have f20 : W.cell? ⟨g, 20, none⟩ = some (.int .i64 st) := (blk_cell BG.out 20).trans rfl
  have f23 : W.cell? ⟨g, 23, none⟩ = some (.slice (some ⟨bc, 0, none⟩) 37 co1) := (blk_cell BG.out 23).trans rfl
  have f24 : W.cell? ⟨g, 24, none⟩ = some (.slice (some ⟨bo, 0, none⟩) 37 co2) := (blk_cell BG.out 24).trans rfl
  have f27 : W.cell? ⟨g, 27, none⟩ = some (.slice (some ⟨cc, 0, none⟩) 37 co3) := (blk_cell BG.out 27).trans rfl
  have f6 : W.cell? ⟨g, 6, none⟩ = some (.int .u32 r5) := (blk_cell BG.out 6).trans rfl
  have z0 := blk_frozen BG.out 0
  have z6 := blk_frozen BG.out 6
  have z20 := blk_frozen BG.out 20
  have z21 := blk_frozen BG.out 21
  have h1 : ¬ (pc : Int) < 0 := by omega
  have h1b : decide ((pc : Int) < 0) = false := by simp
  go_enter Tryd.func131, Tryd.ntmps131
  go_wp2_with fail
  go_quiet (fail)
  go_wp2_with fail
  go_region
  go_wp2_with fail
  go_region
  go_wp2_with fail
  go_region
  go_wp2_with fail
  go_region
  go_wp2
  go_end0
  go_wp2
  all_goals first | go_end0 | ((try simp only [Exit.inBlock, Exit.then]); refine bodyPost_ret (results_none rfl _ _ _) rfl ?_)
  refine ⟨rfl, ?h1_, ?h2_, ?h3_⟩
  case h1_ => exact blk_is (by (repeat (with_reducible first | exact BG.out | apply blk_drewN | apply blk_drew | apply blk_alloc | apply blk_set | apply blk_farc n1'))) (by rfl)
  case h2_ => exact ⟨_, by (repeat (with_reducible first | exact BC.out | apply blk_drewN | apply blk_drew | apply blk_alloc | apply blk_set | apply blk_farc n1))⟩
  case h3_ => (repeat (with_reducible first | exact Stp.refl _ _ _ _ | refine Stp.drewN ?_ _ | refine Stp.drew ?_ | refine Stp.alloc ?_ _ | refine Stp.setg ?_ _ _ | refine Stp.setc ?_ _ _))
end Go.Proofs.YtdhkmdgieflioaaDoor.F
namespace Go.Proofs.YtdhkmdgieflioaaDoor.F
open Go.RowKit Go.Proofs.YtdhkmdgieflioaaDoorW.PrintWords Go.Proofs.YtdhkmdgieflioaaDoorW.PrintLast Go.Proofs.YtdhkmdgieflioaaDoorW.PrintMore
set_option linter.unusedVariables false
set_option linter.unusedSimpArgs false
open SeedSim
theorem sim_10 (W : World) (g cc bc bo : Nat) (r0 r1 r2 r3 r4 r5 r6 r7 r8 r9 r10 r11 r12 r13 r14 r15 : Int) (rn st : Nat) (outs : List Int) (mem outv wordsv : Value) (o0 inp : ByteArray) (co1 co2 co3 : Nat) (cs CC OK : Array Value) (B : Nat)
    (hst : st < 1000000) (hg : W.heap[g]? = some (.cells (WC bc bo cc co1 co2 co3 mem wordsv o0 inp ⟨10, [r0, r1, r2, r3, r4, r5, r6, r7, r8, r9, r10, r11, r12, r13, r14, r15], rn, outs, st, 0⟩ outv) 145 (0, 0))) (hcc : W.heap[cc]? = some (.cells cs 3 (0, 0))) (hcs : Counts cs)
    (hbc : W.heap[bc]? = some (.cells CC 46 (0, 0))) (hbo : W.heap[bo]? = some (.cells OK 4 (0, 0))) (hrows : Rows CC OK) (ho : OutOk W B outv outs)
    (hrng : ∀ i : Nat, i < 16 → 0 ≤ List.getD [r0, r1, r2, r3, r4, r5, r6, r7, r8, r9, r10, r11, r12, r13, r14, r15] i 0 ∧ List.getD [r0, r1, r2, r3, r4, r5, r6, r7, r8, r9, r10, r11, r12, r13, r14, r15] i 0 < 4294967296) (hread : rn ≤ inp.size) (hsz : inp.size < 1000000) (hB : B ≤ W.heap.size) :
    Calls Tryd.prog 131 #[.pointer (some ⟨g, 0, none⟩)] W (SimPost W g bc bo cc co1 co2 co3 mem wordsv o0 inp B outv (SeedSim.step (inpL inp) ⟨10, [r0, r1, r2, r3, r4, r5, r6, r7, r8, r9, r10, r11, r12, r13, r14, r15], rn, outs, st, 0⟩)) := by
  have hs : SeedSim.step (inpL inp) ⟨10, [r0, r1, r2, r3, r4, r5, r6, r7, r8, r9, r10, r11, r12, r13, r14, r15], rn, outs, st, 0⟩ = ⟨11, [r0, r1, r2, r3, r4, r5, (r1 + 4294967296 - r2) % 4294967296, r7, r8, r9, r10, r11, r12, r13, r14, r15], rn, outs, st + 1, 0⟩ := by simp [SeedSim.step, SeedSim.code, SeedSim.exec, SeedSim.g, SeedSim.alu]
  rw [hs]
  exact sim_of hg hcc hcs ho (by rfl) rfl (step_5_6_1_2 W g cc bc bo 10 r0 r1 r2 r3 r4 r5 r6 r7 r8 r9 r10 r11 r12 r13 r14 r15 (rn : Int) (st : Int) mem outv wordsv o0 inp co1 co2 co3 cs CC OK (by decide) ⟨by omega, by omega⟩ hg hcc (hcs 10 (by decide)) hbc hbo (hrows.c0 10 _ rfl) (hrows.c1 10 _ rfl) (hrows.c2 10 _ rfl) (hrows.c3 10 _ rfl) (hrows.ok 10 (by decide)) (hrng 1 (by decide)).1 (hrng 1 (by decide)).2 (hrng 2 (by decide)).1 (hrng 2 (by decide)).2)
theorem sim_11 (W : World) (g cc bc bo : Nat) (r0 r1 r2 r3 r4 r5 r6 r7 r8 r9 r10 r11 r12 r13 r14 r15 : Int) (rn st : Nat) (outs : List Int) (mem outv wordsv : Value) (o0 inp : ByteArray) (co1 co2 co3 : Nat) (cs CC OK : Array Value) (B : Nat)
    (hst : st < 1000000) (hg : W.heap[g]? = some (.cells (WC bc bo cc co1 co2 co3 mem wordsv o0 inp ⟨11, [r0, r1, r2, r3, r4, r5, r6, r7, r8, r9, r10, r11, r12, r13, r14, r15], rn, outs, st, 0⟩ outv) 145 (0, 0))) (hcc : W.heap[cc]? = some (.cells cs 3 (0, 0))) (hcs : Counts cs)
    (hbc : W.heap[bc]? = some (.cells CC 46 (0, 0))) (hbo : W.heap[bo]? = some (.cells OK 4 (0, 0))) (hrows : Rows CC OK) (ho : OutOk W B outv outs)
    (hrng : ∀ i : Nat, i < 16 → 0 ≤ List.getD [r0, r1, r2, r3, r4, r5, r6, r7, r8, r9, r10, r11, r12, r13, r14, r15] i 0 ∧ List.getD [r0, r1, r2, r3, r4, r5, r6, r7, r8, r9, r10, r11, r12, r13, r14, r15] i 0 < 4294967296) (hread : rn ≤ inp.size) (hsz : inp.size < 1000000) (hB : B ≤ W.heap.size) :
    Calls Tryd.prog 131 #[.pointer (some ⟨g, 0, none⟩)] W (SimPost W g bc bo cc co1 co2 co3 mem wordsv o0 inp B outv (SeedSim.step (inpL inp) ⟨11, [r0, r1, r2, r3, r4, r5, r6, r7, r8, r9, r10, r11, r12, r13, r14, r15], rn, outs, st, 0⟩)) := by
  have hs : SeedSim.step (inpL inp) ⟨11, [r0, r1, r2, r3, r4, r5, r6, r7, r8, r9, r10, r11, r12, r13, r14, r15], rn, outs, st, 0⟩ = ⟨12, [r0, r1, r2, r3, r4, if r6 < r11 then 1 else 0, r6, r7, r8, r9, r10, r11, r12, r13, r14, r15], rn, outs, st + 1, 0⟩ := by simp [SeedSim.step, SeedSim.code, SeedSim.exec, SeedSim.g, SeedSim.alu]
  rw [hs]
  exact sim_of hg hcc hcs ho (by rfl) rfl (step_14_5_6_11 W g cc bc bo 11 r0 r1 r2 r3 r4 r5 r6 r7 r8 r9 r10 r11 r12 r13 r14 r15 (rn : Int) (st : Int) mem outv wordsv o0 inp co1 co2 co3 cs CC OK (by decide) ⟨by omega, by omega⟩ hg hcc (hcs 11 (by decide)) hbc hbo (hrows.c0 11 _ rfl) (hrows.c1 11 _ rfl) (hrows.c2 11 _ rfl) (hrows.c3 11 _ rfl) (hrows.ok 11 (by decide)) (hrng 6 (by decide)).1 (hrng 6 (by decide)).2 (hrng 11 (by decide)).1 (hrng 11 (by decide)).2)
theorem sim_12 (W : World) (g cc bc bo : Nat) (r0 r1 r2 r3 r4 r5 r6 r7 r8 r9 r10 r11 r12 r13 r14 r15 : Int) (rn st : Nat) (outs : List Int) (mem outv wordsv : Value) (o0 inp : ByteArray) (co1 co2 co3 : Nat) (cs CC OK : Array Value) (B : Nat)
    (hst : st < 1000000) (hg : W.heap[g]? = some (.cells (WC bc bo cc co1 co2 co3 mem wordsv o0 inp ⟨12, [r0, r1, r2, r3, r4, r5, r6, r7, r8, r9, r10, r11, r12, r13, r14, r15], rn, outs, st, 0⟩ outv) 145 (0, 0))) (hcc : W.heap[cc]? = some (.cells cs 3 (0, 0))) (hcs : Counts cs)
    (hbc : W.heap[bc]? = some (.cells CC 46 (0, 0))) (hbo : W.heap[bo]? = some (.cells OK 4 (0, 0))) (hrows : Rows CC OK) (ho : OutOk W B outv outs)
    (hrng : ∀ i : Nat, i < 16 → 0 ≤ List.getD [r0, r1, r2, r3, r4, r5, r6, r7, r8, r9, r10, r11, r12, r13, r14, r15] i 0 ∧ List.getD [r0, r1, r2, r3, r4, r5, r6, r7, r8, r9, r10, r11, r12, r13, r14, r15] i 0 < 4294967296) (hread : rn ≤ inp.size) (hsz : inp.size < 1000000) (hB : B ≤ W.heap.size) :
    Calls Tryd.prog 131 #[.pointer (some ⟨g, 0, none⟩)] W (SimPost W g bc bo cc co1 co2 co3 mem wordsv o0 inp B outv (SeedSim.step (inpL inp) ⟨12, [r0, r1, r2, r3, r4, r5, r6, r7, r8, r9, r10, r11, r12, r13, r14, r15], rn, outs, st, 0⟩)) := by
  by_cases hz : r5 = 0
  · have hs : SeedSim.step (inpL inp) ⟨12, [r0, r1, r2, r3, r4, r5, r6, r7, r8, r9, r10, r11, r12, r13, r14, r15], rn, outs, st, 0⟩ = ⟨13, [r0, r1, r2, r3, r4, r5, r6, r7, r8, r9, r10, r11, r12, r13, r14, r15], rn, outs, st + 1, 0⟩ := by simp [SeedSim.step, SeedSim.code, SeedSim.exec, SeedSim.g, SeedSim.alu, hz]
    rw [hs]
    exact sim_of hg hcc hcs ho (by rfl) rfl (step_20_5_0_21_z W g cc bc bo 12 r0 r1 r2 r3 r4 r5 r6 r7 r8 r9 r10 r11 r12 r13 r14 r15 (rn : Int) (st : Int) mem outv wordsv o0 inp co1 co2 co3 cs CC OK (by decide) ⟨by omega, by omega⟩ hg hcc (hcs 12 (by decide)) hbc hbo (hrows.c0 12 _ rfl) (hrows.c1 12 _ rfl) (hrows.c2 12 _ rfl) (hrows.c3 12 _ rfl) (hrows.ok 12 (by decide)) (by rw [hz]; rfl) (by rw [hz]; rfl))
  · have hs : SeedSim.step (inpL inp) ⟨12, [r0, r1, r2, r3, r4, r5, r6, r7, r8, r9, r10, r11, r12, r13, r14, r15], rn, outs, st, 0⟩ = ⟨21, [r0, r1, r2, r3, r4, r5, r6, r7, r8, r9, r10, r11, r12, r13, r14, r15], rn, outs, st + 1, 0⟩ := by simp [SeedSim.step, SeedSim.code, SeedSim.exec, SeedSim.g, SeedSim.alu, hz]
    rw [hs]
    exact sim_of hg hcc hcs ho (by rfl) rfl (step_20_5_0_21_n W g cc bc bo 12 r0 r1 r2 r3 r4 r5 r6 r7 r8 r9 r10 r11 r12 r13 r14 r15 (rn : Int) (st : Int) mem outv wordsv o0 inp co1 co2 co3 cs CC OK (by decide) ⟨by omega, by omega⟩ hg hcc (hcs 12 (by decide)) hbc hbo (hrows.c0 12 _ rfl) (hrows.c1 12 _ rfl) (hrows.c2 12 _ rfl) (hrows.c3 12 _ rfl) (hrows.ok 12 (by decide)) (by simpa using hz) (by simpa using hz))
theorem sim_13 (W : World) (g cc bc bo : Nat) (r0 r1 r2 r3 r4 r5 r6 r7 r8 r9 r10 r11 r12 r13 r14 r15 : Int) (rn st : Nat) (outs : List Int) (mem outv wordsv : Value) (o0 inp : ByteArray) (co1 co2 co3 : Nat) (cs CC OK : Array Value) (B : Nat)
    (hst : st < 1000000) (hg : W.heap[g]? = some (.cells (WC bc bo cc co1 co2 co3 mem wordsv o0 inp ⟨13, [r0, r1, r2, r3, r4, r5, r6, r7, r8, r9, r10, r11, r12, r13, r14, r15], rn, outs, st, 0⟩ outv) 145 (0, 0))) (hcc : W.heap[cc]? = some (.cells cs 3 (0, 0))) (hcs : Counts cs)
    (hbc : W.heap[bc]? = some (.cells CC 46 (0, 0))) (hbo : W.heap[bo]? = some (.cells OK 4 (0, 0))) (hrows : Rows CC OK) (ho : OutOk W B outv outs)
    (hrng : ∀ i : Nat, i < 16 → 0 ≤ List.getD [r0, r1, r2, r3, r4, r5, r6, r7, r8, r9, r10, r11, r12, r13, r14, r15] i 0 ∧ List.getD [r0, r1, r2, r3, r4, r5, r6, r7, r8, r9, r10, r11, r12, r13, r14, r15] i 0 < 4294967296) (hread : rn ≤ inp.size) (hsz : inp.size < 1000000) (hB : B ≤ W.heap.size) :
    Calls Tryd.prog 131 #[.pointer (some ⟨g, 0, none⟩)] W (SimPost W g bc bo cc co1 co2 co3 mem wordsv o0 inp B outv (SeedSim.step (inpL inp) ⟨13, [r0, r1, r2, r3, r4, r5, r6, r7, r8, r9, r10, r11, r12, r13, r14, r15], rn, outs, st, 0⟩)) := by
  have hs : SeedSim.step (inpL inp) ⟨13, [r0, r1, r2, r3, r4, r5, r6, r7, r8, r9, r10, r11, r12, r13, r14, r15], rn, outs, st, 0⟩ = ⟨14, [r0, r1, 32, r3, r4, r5, r6, r7, r8, r9, r10, r11, r12, r13, r14, r15], rn, outs, st + 1, 0⟩ := by simp [SeedSim.step, SeedSim.code, SeedSim.exec, SeedSim.g, SeedSim.alu]
  rw [hs]
  exact sim_of hg hcc hcs ho (by rfl) rfl (step_1_2_0_32 W g cc bc bo 13 r0 r1 r2 r3 r4 r5 r6 r7 r8 r9 r10 r11 r12 r13 r14 r15 (rn : Int) (st : Int) mem outv wordsv o0 inp co1 co2 co3 cs CC OK (by decide) ⟨by omega, by omega⟩ hg hcc (hcs 13 (by decide)) hbc hbo (hrows.c0 13 _ rfl) (hrows.c1 13 _ rfl) (hrows.c2 13 _ rfl) (hrows.c3 13 _ rfl) (hrows.ok 13 (by decide)))
theorem sim_14 (W : World) (g cc bc bo : Nat) (r0 r1 r2 r3 r4 r5 r6 r7 r8 r9 r10 r11 r12 r13 r14 r15 : Int) (rn st : Nat) (outs : List Int) (mem outv wordsv : Value) (o0 inp : ByteArray) (co1 co2 co3 : Nat) (cs CC OK : Array Value) (B : Nat)
    (hst : st < 1000000) (hg : W.heap[g]? = some (.cells (WC bc bo cc co1 co2 co3 mem wordsv o0 inp ⟨14, [r0, r1, r2, r3, r4, r5, r6, r7, r8, r9, r10, r11, r12, r13, r14, r15], rn, outs, st, 0⟩ outv) 145 (0, 0))) (hcc : W.heap[cc]? = some (.cells cs 3 (0, 0))) (hcs : Counts cs)
    (hbc : W.heap[bc]? = some (.cells CC 46 (0, 0))) (hbo : W.heap[bo]? = some (.cells OK 4 (0, 0))) (hrows : Rows CC OK) (ho : OutOk W B outv outs)
    (hrng : ∀ i : Nat, i < 16 → 0 ≤ List.getD [r0, r1, r2, r3, r4, r5, r6, r7, r8, r9, r10, r11, r12, r13, r14, r15] i 0 ∧ List.getD [r0, r1, r2, r3, r4, r5, r6, r7, r8, r9, r10, r11, r12, r13, r14, r15] i 0 < 4294967296) (hread : rn ≤ inp.size) (hsz : inp.size < 1000000) (hB : B ≤ W.heap.size) :
    Calls Tryd.prog 131 #[.pointer (some ⟨g, 0, none⟩)] W (SimPost W g bc bo cc co1 co2 co3 mem wordsv o0 inp B outv (SeedSim.step (inpL inp) ⟨14, [r0, r1, r2, r3, r4, r5, r6, r7, r8, r9, r10, r11, r12, r13, r14, r15], rn, outs, st, 0⟩)) := by
  have hap : ∀ W_, Calls Tryd.prog 47 #[.int .i64 10, .int .u32 r1, .int .u32 r2] W_ fun e w' => e = .returned (.tuple #[.int .u32 ((r1.toNat ||| r2.toNat : Nat) : Int), .int .i64 0]) ∧ Below W_.heap.size W_ w' := fun W_ => seedcornref01_Apply.calls 40 10 r1 r2 _ 0 W_ (apply_or r1 r2 (hrng 1 (by decide)).1 (hrng 1 (by decide)).2 (hrng 2 (by decide)).1 (hrng 2 (by decide)).2)
  have hs : SeedSim.step (inpL inp) ⟨14, [r0, r1, r2, r3, r4, r5, r6, r7, r8, r9, r10, r11, r12, r13, r14, r15], rn, outs, st, 0⟩ = ⟨15, [r0, r1, r2, r3, r4, r5, ((r1.toNat ||| r2.toNat : Nat) : Int), r7, r8, r9, r10, r11, r12, r13, r14, r15], rn, outs, st + 1, 0⟩ := by simp [SeedSim.step, SeedSim.code, SeedSim.exec, SeedSim.g, SeedSim.alu]
  rw [hs]
  exact sim_of hg hcc hcs ho (by rfl) rfl (step_10_6_1_2 W g cc bc bo 14 r0 r1 r2 r3 r4 r5 r6 r7 r8 r9 r10 r11 r12 r13 r14 r15 (rn : Int) (st : Int) mem outv wordsv o0 inp co1 co2 co3 cs CC OK (by decide) ⟨by omega, by omega⟩ hg hcc (hcs 14 (by decide)) hbc hbo (hrows.c0 14 _ rfl) (hrows.c1 14 _ rfl) (hrows.c2 14 _ rfl) (hrows.c3 14 _ rfl) (hrows.ok 14 (by decide)) _ hap)
theorem sim_15 (W : World) (g cc bc bo : Nat) (r0 r1 r2 r3 r4 r5 r6 r7 r8 r9 r10 r11 r12 r13 r14 r15 : Int) (rn st : Nat) (outs : List Int) (mem outv wordsv : Value) (o0 inp : ByteArray) (co1 co2 co3 : Nat) (cs CC OK : Array Value) (B : Nat)
    (hst : st < 1000000) (hg : W.heap[g]? = some (.cells (WC bc bo cc co1 co2 co3 mem wordsv o0 inp ⟨15, [r0, r1, r2, r3, r4, r5, r6, r7, r8, r9, r10, r11, r12, r13, r14, r15], rn, outs, st, 0⟩ outv) 145 (0, 0))) (hcc : W.heap[cc]? = some (.cells cs 3 (0, 0))) (hcs : Counts cs)
    (hbc : W.heap[bc]? = some (.cells CC 46 (0, 0))) (hbo : W.heap[bo]? = some (.cells OK 4 (0, 0))) (hrows : Rows CC OK) (ho : OutOk W B outv outs)
    (hrng : ∀ i : Nat, i < 16 → 0 ≤ List.getD [r0, r1, r2, r3, r4, r5, r6, r7, r8, r9, r10, r11, r12, r13, r14, r15] i 0 ∧ List.getD [r0, r1, r2, r3, r4, r5, r6, r7, r8, r9, r10, r11, r12, r13, r14, r15] i 0 < 4294967296) (hread : rn ≤ inp.size) (hsz : inp.size < 1000000) (hB : B ≤ W.heap.size) :
    Calls Tryd.prog 131 #[.pointer (some ⟨g, 0, none⟩)] W (SimPost W g bc bo cc co1 co2 co3 mem wordsv o0 inp B outv (SeedSim.step (inpL inp) ⟨15, [r0, r1, r2, r3, r4, r5, r6, r7, r8, r9, r10, r11, r12, r13, r14, r15], rn, outs, st, 0⟩)) := by
  have hs : SeedSim.step (inpL inp) ⟨15, [r0, r1, r2, r3, r4, r5, r6, r7, r8, r9, r10, r11, r12, r13, r14, r15], rn, outs, st, 0⟩ = ⟨16, [r0, r1, 97, r3, r4, r5, r6, r7, r8, r9, r10, r11, r12, r13, r14, r15], rn, outs, st + 1, 0⟩ := by simp [SeedSim.step, SeedSim.code, SeedSim.exec, SeedSim.g, SeedSim.alu]
  rw [hs]
  exact sim_of hg hcc hcs ho (by rfl) rfl (step_1_2_0_97 W g cc bc bo 15 r0 r1 r2 r3 r4 r5 r6 r7 r8 r9 r10 r11 r12 r13 r14 r15 (rn : Int) (st : Int) mem outv wordsv o0 inp co1 co2 co3 cs CC OK (by decide) ⟨by omega, by omega⟩ hg hcc (hcs 15 (by decide)) hbc hbo (hrows.c0 15 _ rfl) (hrows.c1 15 _ rfl) (hrows.c2 15 _ rfl) (hrows.c3 15 _ rfl) (hrows.ok 15 (by decide)))
theorem sim_16 (W : World) (g cc bc bo : Nat) (r0 r1 r2 r3 r4 r5 r6 r7 r8 r9 r10 r11 r12 r13 r14 r15 : Int) (rn st : Nat) (outs : List Int) (mem outv wordsv : Value) (o0 inp : ByteArray) (co1 co2 co3 : Nat) (cs CC OK : Array Value) (B : Nat)
    (hst : st < 1000000) (hg : W.heap[g]? = some (.cells (WC bc bo cc co1 co2 co3 mem wordsv o0 inp ⟨16, [r0, r1, r2, r3, r4, r5, r6, r7, r8, r9, r10, r11, r12, r13, r14, r15], rn, outs, st, 0⟩ outv) 145 (0, 0))) (hcc : W.heap[cc]? = some (.cells cs 3 (0, 0))) (hcs : Counts cs)
    (hbc : W.heap[bc]? = some (.cells CC 46 (0, 0))) (hbo : W.heap[bo]? = some (.cells OK 4 (0, 0))) (hrows : Rows CC OK) (ho : OutOk W B outv outs)
    (hrng : ∀ i : Nat, i < 16 → 0 ≤ List.getD [r0, r1, r2, r3, r4, r5, r6, r7, r8, r9, r10, r11, r12, r13, r14, r15] i 0 ∧ List.getD [r0, r1, r2, r3, r4, r5, r6, r7, r8, r9, r10, r11, r12, r13, r14, r15] i 0 < 4294967296) (hread : rn ≤ inp.size) (hsz : inp.size < 1000000) (hB : B ≤ W.heap.size) :
    Calls Tryd.prog 131 #[.pointer (some ⟨g, 0, none⟩)] W (SimPost W g bc bo cc co1 co2 co3 mem wordsv o0 inp B outv (SeedSim.step (inpL inp) ⟨16, [r0, r1, r2, r3, r4, r5, r6, r7, r8, r9, r10, r11, r12, r13, r14, r15], rn, outs, st, 0⟩)) := by
  have hs : SeedSim.step (inpL inp) ⟨16, [r0, r1, r2, r3, r4, r5, r6, r7, r8, r9, r10, r11, r12, r13, r14, r15], rn, outs, st, 0⟩ = ⟨17, [r0, r1, r2, r3, r4, r5, (r6 + 4294967296 - r2) % 4294967296, r7, r8, r9, r10, r11, r12, r13, r14, r15], rn, outs, st + 1, 0⟩ := by simp [SeedSim.step, SeedSim.code, SeedSim.exec, SeedSim.g, SeedSim.alu]
  rw [hs]
  exact sim_of hg hcc hcs ho (by rfl) rfl (step_5_6_6_2 W g cc bc bo 16 r0 r1 r2 r3 r4 r5 r6 r7 r8 r9 r10 r11 r12 r13 r14 r15 (rn : Int) (st : Int) mem outv wordsv o0 inp co1 co2 co3 cs CC OK (by decide) ⟨by omega, by omega⟩ hg hcc (hcs 16 (by decide)) hbc hbo (hrows.c0 16 _ rfl) (hrows.c1 16 _ rfl) (hrows.c2 16 _ rfl) (hrows.c3 16 _ rfl) (hrows.ok 16 (by decide)) (hrng 6 (by decide)).1 (hrng 6 (by decide)).2 (hrng 2 (by decide)).1 (hrng 2 (by decide)).2)
theorem sim_17 (W : World) (g cc bc bo : Nat) (r0 r1 r2 r3 r4 r5 r6 r7 r8 r9 r10 r11 r12 r13 r14 r15 : Int) (rn st : Nat) (outs : List Int) (mem outv wordsv : Value) (o0 inp : ByteArray) (co1 co2 co3 : Nat) (cs CC OK : Array Value) (B : Nat)
    (hst : st < 1000000) (hg : W.heap[g]? = some (.cells (WC bc bo cc co1 co2 co3 mem wordsv o0 inp ⟨17, [r0, r1, r2, r3, r4, r5, r6, r7, r8, r9, r10, r11, r12, r13, r14, r15], rn, outs, st, 0⟩ outv) 145 (0, 0))) (hcc : W.heap[cc]? = some (.cells cs 3 (0, 0))) (hcs : Counts cs)
    (hbc : W.heap[bc]? = some (.cells CC 46 (0, 0))) (hbo : W.heap[bo]? = some (.cells OK 4 (0, 0))) (hrows : Rows CC OK) (ho : OutOk W B outv outs)
    (hrng : ∀ i : Nat, i < 16 → 0 ≤ List.getD [r0, r1, r2, r3, r4, r5, r6, r7, r8, r9, r10, r11, r12, r13, r14, r15] i 0 ∧ List.getD [r0, r1, r2, r3, r4, r5, r6, r7, r8, r9, r10, r11, r12, r13, r14, r15] i 0 < 4294967296) (hread : rn ≤ inp.size) (hsz : inp.size < 1000000) (hB : B ≤ W.heap.size) :
    Calls Tryd.prog 131 #[.pointer (some ⟨g, 0, none⟩)] W (SimPost W g bc bo cc co1 co2 co3 mem wordsv o0 inp B outv (SeedSim.step (inpL inp) ⟨17, [r0, r1, r2, r3, r4, r5, r6, r7, r8, r9, r10, r11, r12, r13, r14, r15], rn, outs, st, 0⟩)) := by
  have hs : SeedSim.step (inpL inp) ⟨17, [r0, r1, r2, r3, r4, r5, r6, r7, r8, r9, r10, r11, r12, r13, r14, r15], rn, outs, st, 0⟩ = ⟨18, [r0, r1, 6, r3, r4, r5, r6, r7, r8, r9, r10, r11, r12, r13, r14, r15], rn, outs, st + 1, 0⟩ := by simp [SeedSim.step, SeedSim.code, SeedSim.exec, SeedSim.g, SeedSim.alu]
  rw [hs]
  exact sim_of hg hcc hcs ho (by rfl) rfl (step_1_2_0_6 W g cc bc bo 17 r0 r1 r2 r3 r4 r5 r6 r7 r8 r9 r10 r11 r12 r13 r14 r15 (rn : Int) (st : Int) mem outv wordsv o0 inp co1 co2 co3 cs CC OK (by decide) ⟨by omega, by omega⟩ hg hcc (hcs 17 (by decide)) hbc hbo (hrows.c0 17 _ rfl) (hrows.c1 17 _ rfl) (hrows.c2 17 _ rfl) (hrows.c3 17 _ rfl) (hrows.ok 17 (by decide)))
theorem sim_18 (W : World) (g cc bc bo : Nat) (r0 r1 r2 r3 r4 r5 r6 r7 r8 r9 r10 r11 r12 r13 r14 r15 : Int) (rn st : Nat) (outs : List Int) (mem outv wordsv : Value) (o0 inp : ByteArray) (co1 co2 co3 : Nat) (cs CC OK : Array Value) (B : Nat)
    (hst : st < 1000000) (hg : W.heap[g]? = some (.cells (WC bc bo cc co1 co2 co3 mem wordsv o0 inp ⟨18, [r0, r1, r2, r3, r4, r5, r6, r7, r8, r9, r10, r11, r12, r13, r14, r15], rn, outs, st, 0⟩ outv) 145 (0, 0))) (hcc : W.heap[cc]? = some (.cells cs 3 (0, 0))) (hcs : Counts cs)
    (hbc : W.heap[bc]? = some (.cells CC 46 (0, 0))) (hbo : W.heap[bo]? = some (.cells OK 4 (0, 0))) (hrows : Rows CC OK) (ho : OutOk W B outv outs)
    (hrng : ∀ i : Nat, i < 16 → 0 ≤ List.getD [r0, r1, r2, r3, r4, r5, r6, r7, r8, r9, r10, r11, r12, r13, r14, r15] i 0 ∧ List.getD [r0, r1, r2, r3, r4, r5, r6, r7, r8, r9, r10, r11, r12, r13, r14, r15] i 0 < 4294967296) (hread : rn ≤ inp.size) (hsz : inp.size < 1000000) (hB : B ≤ W.heap.size) :
    Calls Tryd.prog 131 #[.pointer (some ⟨g, 0, none⟩)] W (SimPost W g bc bo cc co1 co2 co3 mem wordsv o0 inp B outv (SeedSim.step (inpL inp) ⟨18, [r0, r1, r2, r3, r4, r5, r6, r7, r8, r9, r10, r11, r12, r13, r14, r15], rn, outs, st, 0⟩)) := by
  have hs : SeedSim.step (inpL inp) ⟨18, [r0, r1, r2, r3, r4, r5, r6, r7, r8, r9, r10, r11, r12, r13, r14, r15], rn, outs, st, 0⟩ = ⟨19, [r0, r1, r2, r3, r4, if r6 < r2 then 1 else 0, r6, r7, r8, r9, r10, r11, r12, r13, r14, r15], rn, outs, st + 1, 0⟩ := by simp [SeedSim.step, SeedSim.code, SeedSim.exec, SeedSim.g, SeedSim.alu]
  rw [hs]
  exact sim_of hg hcc hcs ho (by rfl) rfl (step_14_5_6_2 W g cc bc bo 18 r0 r1 r2 r3 r4 r5 r6 r7 r8 r9 r10 r11 r12 r13 r14 r15 (rn : Int) (st : Int) mem outv wordsv o0 inp co1 co2 co3 cs CC OK (by decide) ⟨by omega, by omega⟩ hg hcc (hcs 18 (by decide)) hbc hbo (hrows.c0 18 _ rfl) (hrows.c1 18 _ rfl) (hrows.c2 18 _ rfl) (hrows.c3 18 _ rfl) (hrows.ok 18 (by decide)) (hrng 6 (by decide)).1 (hrng 6 (by decide)).2 (hrng 2 (by decide)).1 (hrng 2 (by decide)).2)
theorem sim_19 (W : World) (g cc bc bo : Nat) (r0 r1 r2 r3 r4 r5 r6 r7 r8 r9 r10 r11 r12 r13 r14 r15 : Int) (rn st : Nat) (outs : List Int) (mem outv wordsv : Value) (o0 inp : ByteArray) (co1 co2 co3 : Nat) (cs CC OK : Array Value) (B : Nat)
    (hst : st < 1000000) (hg : W.heap[g]? = some (.cells (WC bc bo cc co1 co2 co3 mem wordsv o0 inp ⟨19, [r0, r1, r2, r3, r4, r5, r6, r7, r8, r9, r10, r11, r12, r13, r14, r15], rn, outs, st, 0⟩ outv) 145 (0, 0))) (hcc : W.heap[cc]? = some (.cells cs 3 (0, 0))) (hcs : Counts cs)
    (hbc : W.heap[bc]? = some (.cells CC 46 (0, 0))) (hbo : W.heap[bo]? = some (.cells OK 4 (0, 0))) (hrows : Rows CC OK) (ho : OutOk W B outv outs)
    (hrng : ∀ i : Nat, i < 16 → 0 ≤ List.getD [r0, r1, r2, r3, r4, r5, r6, r7, r8, r9, r10, r11, r12, r13, r14, r15] i 0 ∧ List.getD [r0, r1, r2, r3, r4, r5, r6, r7, r8, r9, r10, r11, r12, r13, r14, r15] i 0 < 4294967296) (hread : rn ≤ inp.size) (hsz : inp.size < 1000000) (hB : B ≤ W.heap.size) :
    Calls Tryd.prog 131 #[.pointer (some ⟨g, 0, none⟩)] W (SimPost W g bc bo cc co1 co2 co3 mem wordsv o0 inp B outv (SeedSim.step (inpL inp) ⟨19, [r0, r1, r2, r3, r4, r5, r6, r7, r8, r9, r10, r11, r12, r13, r14, r15], rn, outs, st, 0⟩)) := by
  by_cases hz : r5 = 0
  · have hs : SeedSim.step (inpL inp) ⟨19, [r0, r1, r2, r3, r4, r5, r6, r7, r8, r9, r10, r11, r12, r13, r14, r15], rn, outs, st, 0⟩ = ⟨2, [r0, r1, r2, r3, r4, r5, r6, r7, r8, r9, r10, r11, r12, r13, r14, r15], rn, outs, st + 1, 0⟩ := by simp [SeedSim.step, SeedSim.code, SeedSim.exec, SeedSim.g, SeedSim.alu, hz]
    rw [hs]
    exact sim_of hg hcc hcs ho (by rfl) rfl (step_19_5_0_2_z W g cc bc bo 19 r0 r1 r2 r3 r4 r5 r6 r7 r8 r9 r10 r11 r12 r13 r14 r15 (rn : Int) (st : Int) mem outv wordsv o0 inp co1 co2 co3 cs CC OK (by decide) ⟨by omega, by omega⟩ hg hcc (hcs 19 (by decide)) hbc hbo (hrows.c0 19 _ rfl) (hrows.c1 19 _ rfl) (hrows.c2 19 _ rfl) (hrows.c3 19 _ rfl) (hrows.ok 19 (by decide)) (by rw [hz]; rfl) (by rw [hz]; rfl))
  · have hs : SeedSim.step (inpL inp) ⟨19, [r0, r1, r2, r3, r4, r5, r6, r7, r8, r9, r10, r11, r12, r13, r14, r15], rn, outs, st, 0⟩ = ⟨20, [r0, r1, r2, r3, r4, r5, r6, r7, r8, r9, r10, r11, r12, r13, r14, r15], rn, outs, st + 1, 0⟩ := by simp [SeedSim.step, SeedSim.code, SeedSim.exec, SeedSim.g, SeedSim.alu, hz]
    rw [hs]
    exact sim_of hg hcc hcs ho (by rfl) rfl (step_19_5_0_2_n W g cc bc bo 19 r0 r1 r2 r3 r4 r5 r6 r7 r8 r9 r10 r11 r12 r13 r14 r15 (rn : Int) (st : Int) mem outv wordsv o0 inp co1 co2 co3 cs CC OK (by decide) ⟨by omega, by omega⟩ hg hcc (hcs 19 (by decide)) hbc hbo (hrows.c0 19 _ rfl) (hrows.c1 19 _ rfl) (hrows.c2 19 _ rfl) (hrows.c3 19 _ rfl) (hrows.ok 19 (by decide)) (by simpa using hz) (by simpa using hz))
end Go.Proofs.YtdhkmdgieflioaaDoor.F
namespace Go.Proofs.YtdhkmdgieflioaaDoor.F
open Go.RowKit Go.Proofs.YtdhkmdgieflioaaDoorW.PrintWords Go.Proofs.YtdhkmdgieflioaaDoorW.PrintLast Go.Proofs.YtdhkmdgieflioaaDoorW.PrintMore
set_option linter.unusedVariables false
set_option linter.unusedSimpArgs false
set_option maxRecDepth 100000 in
set_option maxHeartbeats 8000000 in
theorem step_4_6_6_11 (W : World) (g cc bc bo : Nat) (pc : Nat) (r0 r1 r2 r3 r4 r5 r6 r7 r8 r9 r10 r11 r12 r13 r14 r15 rd st : Int) (mem outv wordsv : Value) (o0 inp : ByteArray) (co1 co2 co3 : Nat) (cs CC OK : Array Value)
    (hpc : pc < 37) (hst : 0 ≤ st ∧ st < 1000000) (hg : W.heap[g]? = some (.cells #[.int .i64 pc, .int .u32 r0, .int .u32 r1, .int .u32 r2, .int .u32 r3, .int .u32 r4, .int .u32 r5, .int .u32 r6, .int .u32 r7, .int .u32 r8, .int .u32 r9, .int .u32 r10, .int .u32 r11, .int .u32 r12, .int .u32 r13, .int .u32 r14, .int .u32 r15, mem, .int .i64 rd, .string o0, .int .i64 st, .int .i64 0, outv, .slice (some ⟨bc, 0, none⟩) 37 co1, .slice (some ⟨bo, 0, none⟩) 37 co2, wordsv, .string inp, .slice (some ⟨cc, 0, none⟩) 37 co3] 145 (0, 0)))
    (hcc : W.heap[cc]? = some (.cells cs 3 (0, 0))) (hcs : ∃ n, cs[pc]? = some (.int .i64 n)) (hbc : W.heap[bc]? = some (.cells CC 46 (0, 0))) (hbo : W.heap[bo]? = some (.cells OK 4 (0, 0)))
    (hk0 : CC[pc * 4]? = some (.int .i64 4)) (hk1 : CC[pc * 4 + 1]? = some (.int .i64 6)) (hk2 : CC[pc * 4 + 2]? = some (.int .i64 6)) (hk3 : CC[pc * 4 + 3]? = some (.int .i64 11)) (hok : OK[pc]? = some (.bool true))
    (hx : 0 ≤ r6) (hx2 : r6 < 4294967296) (hy : 0 ≤ r11) (hy2 : r11 < 4294967296) :
    Calls Tryd.prog 131 #[.pointer (some ⟨g, 0, none⟩)] W (StepPost W g cc none cs pc #[.int .i64 (pc + 1), .int .u32 r0, .int .u32 r1, .int .u32 r2, .int .u32 r3, .int .u32 r4, .int .u32 r5, .int .u32 ((r6 + r11) % 4294967296), .int .u32 r7, .int .u32 r8, .int .u32 r9, .int .u32 r10, .int .u32 r11, .int .u32 r12, .int .u32 r13, .int .u32 r14, .int .u32 r15, mem, .int .i64 rd, .string o0, .int .i64 (st + 1), .int .i64 0, outv, .slice (some ⟨bc, 0, none⟩) 37 co1, .slice (some ⟨bo, 0, none⟩) 37 co2, wordsv, .string inp, .slice (some ⟨cc, 0, none⟩) 37 co3]) := by
  have hu145 := Tryd.underlying145
  have hu109 := Tryd.underlying109
  have hu46 := Tryd.underlying46
  have hlg := blk_lt hg
  have hlc := blk_lt hcc
  have hlb := blk_lt hbc
  have hlo := blk_lt hbo
  have n1 : cc ≠ g := blk_ne hcc hg (by decide)
  have n1' : g ≠ cc := fun h => n1 h.symm
  have n2 : bc ≠ g := blk_ne hbc hg (by decide)
  have n3 : bc ≠ cc := blk_ne hbc hcc (by decide)
  have n4 : bo ≠ g := blk_ne hbo hg (by decide)
  have n5 : bo ≠ cc := blk_ne hbo hcc (by decide)
  obtain ⟨cn, hcn⟩ := hcs
  have BG := Aside0.mk hg
  have BC := Aside0.mk hcc
  have fc : W.cell? ⟨cc, pc, none⟩ = some (.int .i64 cn) := (blk_cell hcc pc).trans hcn
  have zc := blk_frozen hcc pc
  have k0 := (blk_cell hbc (pc * 4)).trans hk0
  have k1 := (blk_cell hbc (pc * 4 + 1)).trans hk1
  have k2 := (blk_cell hbc (pc * 4 + 2)).trans hk2
  have k3 := (blk_cell hbc (pc * 4 + 3)).trans hk3
  have ko := (blk_cell hbo pc).trans hok
  clear hg hcc hcn hbc hbo hk0 hk1 hk2 hk3 hok
  have f0 : W.cell? ⟨g, 0, none⟩ = some (.int .i64 pc) := (blk_cell BG.out 0).trans rfl
  have f20 : W.cell? ⟨g, 20, none⟩ = some (.int .i64 st) := (blk_cell BG.out 20).trans rfl
  have f23 : W.cell? ⟨g, 23, none⟩ = some (.slice (some ⟨bc, 0, none⟩) 37 co1) := (blk_cell BG.out 23).trans rfl
  have f24 : W.cell? ⟨g, 24, none⟩ = some (.slice (some ⟨bo, 0, none⟩) 37 co2) := (blk_cell BG.out 24).trans rfl
  have f27 : W.cell? ⟨g, 27, none⟩ = some (.slice (some ⟨cc, 0, none⟩) 37 co3) := (blk_cell BG.out 27).trans rfl
  have f7 : W.cell? ⟨g, 7, none⟩ = some (.int .u32 r6) := (blk_cell BG.out 7).trans rfl
  have f12 : W.cell? ⟨g, 12, none⟩ = some (.int .u32 r11) := (blk_cell BG.out 12).trans rfl
  have z0 := blk_frozen BG.out 0
  have z7 := blk_frozen BG.out 7
  have z20 := blk_frozen BG.out 20
  have z21 := blk_frozen BG.out 21
  have h1 : ¬ (pc : Int) < 0 := by omega
  have h1b : decide ((pc : Int) < 0) = false := by simp
  obtain ⟨rv, hrv⟩ : ∃ rv : Int, rv = (r6 + r11) % 4294967296 := ⟨_, rfl⟩
  have hap : ∀ W_, Calls Tryd.prog 47 #[.int .i64 4, .int .u32 r6, .int .u32 r11] W_ fun e w' => e = .returned (.tuple #[.int .u32 rv, .int .i64 0]) ∧ w' = W_ := fun W_ => (apply_4 r6 r11 hx hx2 hy hy2 W_).mono fun e w' h => ⟨by rw [hrv]; exact h.1, h.2.symm⟩
  have HAP := Aside0.mk hap
  clear hap
  rw [← hrv]
  clear hrv
  go_enter Tryd.func131, Tryd.ntmps131
  go_wp2_with fail
  go_quiet (fail)
  go_wp2_with fail
  go_region
  go_wp2_with fail
  go_region
  go_wp2_with fail
  go_region
  go_wp2_with fail
  go_region
  go_wp2_with fail
  go_quiet ((exact (HAP.out _).mono fun _ _ h => ⟨h.1, _, h.2⟩))
  go_wp2
  go_end0
  go_wp2
  all_goals first | go_end0 | ((try simp only [Exit.inBlock, Exit.then]); refine bodyPost_ret (results_none rfl _ _ _) rfl ?_)
  refine ⟨rfl, ?h1_, ?h2_, ?h3_⟩
  case h1_ => exact blk_is (by (repeat (with_reducible first | exact BG.out | apply blk_drewN | apply blk_drew | apply blk_alloc | apply blk_set | apply blk_farc n1'))) (by rfl)
  case h2_ => exact ⟨_, by (repeat (with_reducible first | exact BC.out | apply blk_drewN | apply blk_drew | apply blk_alloc | apply blk_set | apply blk_farc n1))⟩
  case h3_ => (repeat (with_reducible first | exact Stp.refl _ _ _ _ | refine Stp.drewN ?_ _ | refine Stp.drew ?_ | refine Stp.alloc ?_ _ | refine Stp.setg ?_ _ _ | refine Stp.setc ?_ _ _))
end Go.Proofs.YtdhkmdgieflioaaDoor.F
namespace Go.Proofs.YtdhkmdgieflioaaDoor.F
open Go.RowKit Go.Proofs.YtdhkmdgieflioaaDoorW.PrintWords Go.Proofs.YtdhkmdgieflioaaDoorW.PrintLast Go.Proofs.YtdhkmdgieflioaaDoorW.PrintMore
set_option linter.unusedVariables false
set_option linter.unusedSimpArgs false
set_option maxRecDepth 100000 in
set_option maxHeartbeats 8000000 in
theorem step_20_4_0_25_z (W : World) (g cc bc bo : Nat) (pc : Nat) (r0 r1 r2 r3 r4 r5 r6 r7 r8 r9 r10 r11 r12 r13 r14 r15 rd st : Int) (mem outv wordsv : Value) (o0 inp : ByteArray) (co1 co2 co3 : Nat) (cs CC OK : Array Value)
    (hpc : pc < 37) (hst : 0 ≤ st ∧ st < 1000000) (hg : W.heap[g]? = some (.cells #[.int .i64 pc, .int .u32 r0, .int .u32 r1, .int .u32 r2, .int .u32 r3, .int .u32 r4, .int .u32 r5, .int .u32 r6, .int .u32 r7, .int .u32 r8, .int .u32 r9, .int .u32 r10, .int .u32 r11, .int .u32 r12, .int .u32 r13, .int .u32 r14, .int .u32 r15, mem, .int .i64 rd, .string o0, .int .i64 st, .int .i64 0, outv, .slice (some ⟨bc, 0, none⟩) 37 co1, .slice (some ⟨bo, 0, none⟩) 37 co2, wordsv, .string inp, .slice (some ⟨cc, 0, none⟩) 37 co3] 145 (0, 0)))
    (hcc : W.heap[cc]? = some (.cells cs 3 (0, 0))) (hcs : ∃ n, cs[pc]? = some (.int .i64 n)) (hbc : W.heap[bc]? = some (.cells CC 46 (0, 0))) (hbo : W.heap[bo]? = some (.cells OK 4 (0, 0)))
    (hk0 : CC[pc * 4]? = some (.int .i64 20)) (hk1 : CC[pc * 4 + 1]? = some (.int .i64 4)) (hk2 : CC[pc * 4 + 2]? = some (.int .i64 0)) (hk3 : CC[pc * 4 + 3]? = some (.int .i64 25)) (hok : OK[pc]? = some (.bool true))
    (hz1 : (r4 == 0) = true) (hz2 : (r4 != 0) = false) :
    Calls Tryd.prog 131 #[.pointer (some ⟨g, 0, none⟩)] W (StepPost W g cc none cs pc #[.int .i64 (pc + 1), .int .u32 r0, .int .u32 r1, .int .u32 r2, .int .u32 r3, .int .u32 r4, .int .u32 r5, .int .u32 r6, .int .u32 r7, .int .u32 r8, .int .u32 r9, .int .u32 r10, .int .u32 r11, .int .u32 r12, .int .u32 r13, .int .u32 r14, .int .u32 r15, mem, .int .i64 rd, .string o0, .int .i64 (st + 1), .int .i64 0, outv, .slice (some ⟨bc, 0, none⟩) 37 co1, .slice (some ⟨bo, 0, none⟩) 37 co2, wordsv, .string inp, .slice (some ⟨cc, 0, none⟩) 37 co3]) := by
  have hu145 := Tryd.underlying145
  have hu109 := Tryd.underlying109
  have hu46 := Tryd.underlying46
  have hlg := blk_lt hg
  have hlc := blk_lt hcc
  have hlb := blk_lt hbc
  have hlo := blk_lt hbo
  have n1 : cc ≠ g := blk_ne hcc hg (by decide)
  have n1' : g ≠ cc := fun h => n1 h.symm
  have n2 : bc ≠ g := blk_ne hbc hg (by decide)
  have n3 : bc ≠ cc := blk_ne hbc hcc (by decide)
  have n4 : bo ≠ g := blk_ne hbo hg (by decide)
  have n5 : bo ≠ cc := blk_ne hbo hcc (by decide)
  obtain ⟨cn, hcn⟩ := hcs
  have BG := Aside0.mk hg
  have BC := Aside0.mk hcc
  have fc : W.cell? ⟨cc, pc, none⟩ = some (.int .i64 cn) := (blk_cell hcc pc).trans hcn
  have zc := blk_frozen hcc pc
  have k0 := (blk_cell hbc (pc * 4)).trans hk0
  have k1 := (blk_cell hbc (pc * 4 + 1)).trans hk1
  have k2 := (blk_cell hbc (pc * 4 + 2)).trans hk2
  have k3 := (blk_cell hbc (pc * 4 + 3)).trans hk3
  have ko := (blk_cell hbo pc).trans hok
  clear hg hcc hcn hbc hbo hk0 hk1 hk2 hk3 hok
  have f0 : W.cell? ⟨g, 0, none⟩ = some (.int .i64 pc) := (blk_cell BG.out 0).trans rfl
  have f20 : W.cell? ⟨g, 20, none⟩ = some (.int .i64 st) := (blk_cell BG.out 20).trans rfl
  have f23 : W.cell? ⟨g, 23, none⟩ = some (.slice (some ⟨bc, 0, none⟩) 37 co1) := (blk_cell BG.out 23).trans rfl
  have f24 : W.cell? ⟨g, 24, none⟩ = some (.slice (some ⟨bo, 0, none⟩) 37 co2) := (blk_cell BG.out 24).trans rfl
  have f27 : W.cell? ⟨g, 27, none⟩ = some (.slice (some ⟨cc, 0, none⟩) 37 co3) := (blk_cell BG.out 27).trans rfl
  have f5 : W.cell? ⟨g, 5, none⟩ = some (.int .u32 r4) := (blk_cell BG.out 5).trans rfl
  have z0 := blk_frozen BG.out 0
  have z5 := blk_frozen BG.out 5
  have z20 := blk_frozen BG.out 20
  have z21 := blk_frozen BG.out 21
  have h1 : ¬ (pc : Int) < 0 := by omega
  have h1b : decide ((pc : Int) < 0) = false := by simp
  go_enter Tryd.func131, Tryd.ntmps131
  go_wp2_with fail
  go_quiet (fail)
  go_wp2_with fail
  go_region
  go_wp2_with fail
  go_region
  go_wp2_with fail
  go_region
  go_wp2_with fail
  go_region
  go_wp2
  go_end0
  go_wp2
  all_goals first | go_end0 | ((try simp only [Exit.inBlock, Exit.then]); refine bodyPost_ret (results_none rfl _ _ _) rfl ?_)
  refine ⟨rfl, ?h1_, ?h2_, ?h3_⟩
  case h1_ => exact blk_is (by (repeat (with_reducible first | exact BG.out | apply blk_drewN | apply blk_drew | apply blk_alloc | apply blk_set | apply blk_farc n1'))) (by rfl)
  case h2_ => exact ⟨_, by (repeat (with_reducible first | exact BC.out | apply blk_drewN | apply blk_drew | apply blk_alloc | apply blk_set | apply blk_farc n1))⟩
  case h3_ => (repeat (with_reducible first | exact Stp.refl _ _ _ _ | refine Stp.drewN ?_ _ | refine Stp.drew ?_ | refine Stp.alloc ?_ _ | refine Stp.setg ?_ _ _ | refine Stp.setc ?_ _ _))
set_option maxRecDepth 100000 in
set_option maxHeartbeats 8000000 in
theorem step_20_4_0_25_n (W : World) (g cc bc bo : Nat) (pc : Nat) (r0 r1 r2 r3 r4 r5 r6 r7 r8 r9 r10 r11 r12 r13 r14 r15 rd st : Int) (mem outv wordsv : Value) (o0 inp : ByteArray) (co1 co2 co3 : Nat) (cs CC OK : Array Value)
    (hpc : pc < 37) (hst : 0 ≤ st ∧ st < 1000000) (hg : W.heap[g]? = some (.cells #[.int .i64 pc, .int .u32 r0, .int .u32 r1, .int .u32 r2, .int .u32 r3, .int .u32 r4, .int .u32 r5, .int .u32 r6, .int .u32 r7, .int .u32 r8, .int .u32 r9, .int .u32 r10, .int .u32 r11, .int .u32 r12, .int .u32 r13, .int .u32 r14, .int .u32 r15, mem, .int .i64 rd, .string o0, .int .i64 st, .int .i64 0, outv, .slice (some ⟨bc, 0, none⟩) 37 co1, .slice (some ⟨bo, 0, none⟩) 37 co2, wordsv, .string inp, .slice (some ⟨cc, 0, none⟩) 37 co3] 145 (0, 0)))
    (hcc : W.heap[cc]? = some (.cells cs 3 (0, 0))) (hcs : ∃ n, cs[pc]? = some (.int .i64 n)) (hbc : W.heap[bc]? = some (.cells CC 46 (0, 0))) (hbo : W.heap[bo]? = some (.cells OK 4 (0, 0)))
    (hk0 : CC[pc * 4]? = some (.int .i64 20)) (hk1 : CC[pc * 4 + 1]? = some (.int .i64 4)) (hk2 : CC[pc * 4 + 2]? = some (.int .i64 0)) (hk3 : CC[pc * 4 + 3]? = some (.int .i64 25)) (hok : OK[pc]? = some (.bool true))
    (hz1 : (r4 == 0) = false) (hz2 : (r4 != 0) = true) :
    Calls Tryd.prog 131 #[.pointer (some ⟨g, 0, none⟩)] W (StepPost W g cc none cs pc #[.int .i64 25, .int .u32 r0, .int .u32 r1, .int .u32 r2, .int .u32 r3, .int .u32 r4, .int .u32 r5, .int .u32 r6, .int .u32 r7, .int .u32 r8, .int .u32 r9, .int .u32 r10, .int .u32 r11, .int .u32 r12, .int .u32 r13, .int .u32 r14, .int .u32 r15, mem, .int .i64 rd, .string o0, .int .i64 (st + 1), .int .i64 0, outv, .slice (some ⟨bc, 0, none⟩) 37 co1, .slice (some ⟨bo, 0, none⟩) 37 co2, wordsv, .string inp, .slice (some ⟨cc, 0, none⟩) 37 co3]) := by
  have hu145 := Tryd.underlying145
  have hu109 := Tryd.underlying109
  have hu46 := Tryd.underlying46
  have hlg := blk_lt hg
  have hlc := blk_lt hcc
  have hlb := blk_lt hbc
  have hlo := blk_lt hbo
  have n1 : cc ≠ g := blk_ne hcc hg (by decide)
  have n1' : g ≠ cc := fun h => n1 h.symm
  have n2 : bc ≠ g := blk_ne hbc hg (by decide)
  have n3 : bc ≠ cc := blk_ne hbc hcc (by decide)
  have n4 : bo ≠ g := blk_ne hbo hg (by decide)
  have n5 : bo ≠ cc := blk_ne hbo hcc (by decide)
  obtain ⟨cn, hcn⟩ := hcs
  have BG := Aside0.mk hg
  have BC := Aside0.mk hcc
  have fc : W.cell? ⟨cc, pc, none⟩ = some (.int .i64 cn) := (blk_cell hcc pc).trans hcn
  have zc := blk_frozen hcc pc
  have k0 := (blk_cell hbc (pc * 4)).trans hk0
  have k1 := (blk_cell hbc (pc * 4 + 1)).trans hk1
  have k2 := (blk_cell hbc (pc * 4 + 2)).trans hk2
  have k3 := (blk_cell hbc (pc * 4 + 3)).trans hk3
  have ko := (blk_cell hbo pc).trans hok
  clear hg hcc hcn hbc hbo hk0 hk1 hk2 hk3 hok
  have f0 : W.cell? ⟨g, 0, none⟩ = some (.int .i64 pc) := (blk_cell BG.out 0).trans rfl
  have f20 : W.cell? ⟨g, 20, none⟩ = some (.int .i64 st) := (blk_cell BG.out 20).trans rfl
  have f23 : W.cell? ⟨g, 23, none⟩ = some (.slice (some ⟨bc, 0, none⟩) 37 co1) := (blk_cell BG.out 23).trans rfl
  have f24 : W.cell? ⟨g, 24, none⟩ = some (.slice (some ⟨bo, 0, none⟩) 37 co2) := (blk_cell BG.out 24).trans rfl
  have f27 : W.cell? ⟨g, 27, none⟩ = some (.slice (some ⟨cc, 0, none⟩) 37 co3) := (blk_cell BG.out 27).trans rfl
  have f5 : W.cell? ⟨g, 5, none⟩ = some (.int .u32 r4) := (blk_cell BG.out 5).trans rfl
  have z0 := blk_frozen BG.out 0
  have z5 := blk_frozen BG.out 5
  have z20 := blk_frozen BG.out 20
  have z21 := blk_frozen BG.out 21
  have h1 : ¬ (pc : Int) < 0 := by omega
  have h1b : decide ((pc : Int) < 0) = false := by simp
  go_enter Tryd.func131, Tryd.ntmps131
  go_wp2_with fail
  go_quiet (fail)
  go_wp2_with fail
  go_region
  go_wp2_with fail
  go_region
  go_wp2_with fail
  go_region
  go_wp2_with fail
  go_region
  go_wp2
  go_end0
  go_wp2
  all_goals first | go_end0 | ((try simp only [Exit.inBlock, Exit.then]); refine bodyPost_ret (results_none rfl _ _ _) rfl ?_)
  refine ⟨rfl, ?h1_, ?h2_, ?h3_⟩
  case h1_ => exact blk_is (by (repeat (with_reducible first | exact BG.out | apply blk_drewN | apply blk_drew | apply blk_alloc | apply blk_set | apply blk_farc n1'))) (by rfl)
  case h2_ => exact ⟨_, by (repeat (with_reducible first | exact BC.out | apply blk_drewN | apply blk_drew | apply blk_alloc | apply blk_set | apply blk_farc n1))⟩
  case h3_ => (repeat (with_reducible first | exact Stp.refl _ _ _ _ | refine Stp.drewN ?_ _ | refine Stp.drew ?_ | refine Stp.alloc ?_ _ | refine Stp.setg ?_ _ _ | refine Stp.setc ?_ _ _))
end Go.Proofs.YtdhkmdgieflioaaDoor.F
namespace Go.Proofs.YtdhkmdgieflioaaDoor.F
open Go.RowKit Go.Proofs.YtdhkmdgieflioaaDoorW.PrintWords Go.Proofs.YtdhkmdgieflioaaDoorW.PrintLast Go.Proofs.YtdhkmdgieflioaaDoorW.PrintMore
set_option linter.unusedVariables false
set_option linter.unusedSimpArgs false
set_option maxRecDepth 100000 in
set_option maxHeartbeats 8000000 in
theorem step_6_3_6_10 (W : World) (g cc bc bo : Nat) (pc : Nat) (r0 r1 r2 r3 r4 r5 r6 r7 r8 r9 r10 r11 r12 r13 r14 r15 rd st : Int) (mem outv wordsv : Value) (o0 inp : ByteArray) (co1 co2 co3 : Nat) (cs CC OK : Array Value)
    (hpc : pc < 37) (hst : 0 ≤ st ∧ st < 1000000) (hg : W.heap[g]? = some (.cells #[.int .i64 pc, .int .u32 r0, .int .u32 r1, .int .u32 r2, .int .u32 r3, .int .u32 r4, .int .u32 r5, .int .u32 r6, .int .u32 r7, .int .u32 r8, .int .u32 r9, .int .u32 r10, .int .u32 r11, .int .u32 r12, .int .u32 r13, .int .u32 r14, .int .u32 r15, mem, .int .i64 rd, .string o0, .int .i64 st, .int .i64 0, outv, .slice (some ⟨bc, 0, none⟩) 37 co1, .slice (some ⟨bo, 0, none⟩) 37 co2, wordsv, .string inp, .slice (some ⟨cc, 0, none⟩) 37 co3] 145 (0, 0)))
    (hcc : W.heap[cc]? = some (.cells cs 3 (0, 0))) (hcs : ∃ n, cs[pc]? = some (.int .i64 n)) (hbc : W.heap[bc]? = some (.cells CC 46 (0, 0))) (hbo : W.heap[bo]? = some (.cells OK 4 (0, 0)))
    (hk0 : CC[pc * 4]? = some (.int .i64 6)) (hk1 : CC[pc * 4 + 1]? = some (.int .i64 3)) (hk2 : CC[pc * 4 + 2]? = some (.int .i64 6)) (hk3 : CC[pc * 4 + 3]? = some (.int .i64 10)) (hok : OK[pc]? = some (.bool true))
    (hx : 0 ≤ r6) (hx2 : r6 < 4294967296) (hy : 0 ≤ r10) (hy2 : r10 < 4294967296) :
    Calls Tryd.prog 131 #[.pointer (some ⟨g, 0, none⟩)] W (StepPost W g cc none cs pc #[.int .i64 (pc + 1), .int .u32 r0, .int .u32 r1, .int .u32 r2, .int .u32 (r6 * r10 % 4294967296), .int .u32 r4, .int .u32 r5, .int .u32 r6, .int .u32 r7, .int .u32 r8, .int .u32 r9, .int .u32 r10, .int .u32 r11, .int .u32 r12, .int .u32 r13, .int .u32 r14, .int .u32 r15, mem, .int .i64 rd, .string o0, .int .i64 (st + 1), .int .i64 0, outv, .slice (some ⟨bc, 0, none⟩) 37 co1, .slice (some ⟨bo, 0, none⟩) 37 co2, wordsv, .string inp, .slice (some ⟨cc, 0, none⟩) 37 co3]) := by
  have hu145 := Tryd.underlying145
  have hu109 := Tryd.underlying109
  have hu46 := Tryd.underlying46
  have hlg := blk_lt hg
  have hlc := blk_lt hcc
  have hlb := blk_lt hbc
  have hlo := blk_lt hbo
  have n1 : cc ≠ g := blk_ne hcc hg (by decide)
  have n1' : g ≠ cc := fun h => n1 h.symm
  have n2 : bc ≠ g := blk_ne hbc hg (by decide)
  have n3 : bc ≠ cc := blk_ne hbc hcc (by decide)
  have n4 : bo ≠ g := blk_ne hbo hg (by decide)
  have n5 : bo ≠ cc := blk_ne hbo hcc (by decide)
  obtain ⟨cn, hcn⟩ := hcs
  have BG := Aside0.mk hg
  have BC := Aside0.mk hcc
  have fc : W.cell? ⟨cc, pc, none⟩ = some (.int .i64 cn) := (blk_cell hcc pc).trans hcn
  have zc := blk_frozen hcc pc
  have k0 := (blk_cell hbc (pc * 4)).trans hk0
  have k1 := (blk_cell hbc (pc * 4 + 1)).trans hk1
  have k2 := (blk_cell hbc (pc * 4 + 2)).trans hk2
  have k3 := (blk_cell hbc (pc * 4 + 3)).trans hk3
  have ko := (blk_cell hbo pc).trans hok
  clear hg hcc hcn hbc hbo hk0 hk1 hk2 hk3 hok
  have f0 : W.cell? ⟨g, 0, none⟩ = some (.int .i64 pc) := (blk_cell BG.out 0).trans rfl
  have f20 : W.cell? ⟨g, 20, none⟩ = some (.int .i64 st) := (blk_cell BG.out 20).trans rfl
  have f23 : W.cell? ⟨g, 23, none⟩ = some (.slice (some ⟨bc, 0, none⟩) 37 co1) := (blk_cell BG.out 23).trans rfl
  have f24 : W.cell? ⟨g, 24, none⟩ = some (.slice (some ⟨bo, 0, none⟩) 37 co2) := (blk_cell BG.out 24).trans rfl
  have f27 : W.cell? ⟨g, 27, none⟩ = some (.slice (some ⟨cc, 0, none⟩) 37 co3) := (blk_cell BG.out 27).trans rfl
  have f4 : W.cell? ⟨g, 4, none⟩ = some (.int .u32 r3) := (blk_cell BG.out 4).trans rfl
  have f7 : W.cell? ⟨g, 7, none⟩ = some (.int .u32 r6) := (blk_cell BG.out 7).trans rfl
  have f11 : W.cell? ⟨g, 11, none⟩ = some (.int .u32 r10) := (blk_cell BG.out 11).trans rfl
  have z0 := blk_frozen BG.out 0
  have z4 := blk_frozen BG.out 4
  have z20 := blk_frozen BG.out 20
  have z21 := blk_frozen BG.out 21
  have h1 : ¬ (pc : Int) < 0 := by omega
  have h1b : decide ((pc : Int) < 0) = false := by simp
  obtain ⟨rv, hrv⟩ : ∃ rv : Int, rv = r6 * r10 % 4294967296 := ⟨_, rfl⟩
  have hap : ∀ W_, Calls Tryd.prog 47 #[.int .i64 6, .int .u32 r6, .int .u32 r10] W_ fun e w' => e = .returned (.tuple #[.int .u32 rv, .int .i64 0]) ∧ w' = W_ := fun W_ => (apply_6 r6 r10 hx hx2 hy hy2 W_).mono fun e w' h => ⟨by rw [hrv]; exact h.1, h.2.symm⟩
  have HAP := Aside0.mk hap
  clear hap
  rw [← hrv]
  clear hrv
  go_enter Tryd.func131, Tryd.ntmps131
  go_wp2_with fail
  go_quiet (fail)
  go_wp2_with fail
  go_region
  go_wp2_with fail
  go_region
  go_wp2_with fail
  go_region
  go_wp2_with fail
  go_region
  go_wp2_with fail
  go_quiet ((exact (HAP.out _).mono fun _ _ h => ⟨h.1, _, h.2⟩))
  go_wp2
  go_end0
  go_wp2
  all_goals first | go_end0 | ((try simp only [Exit.inBlock, Exit.then]); refine bodyPost_ret (results_none rfl _ _ _) rfl ?_)
  refine ⟨rfl, ?h1_, ?h2_, ?h3_⟩
  case h1_ => exact blk_is (by (repeat (with_reducible first | exact BG.out | apply blk_drewN | apply blk_drew | apply blk_alloc | apply blk_set | apply blk_farc n1'))) (by rfl)
  case h2_ => exact ⟨_, by (repeat (with_reducible first | exact BC.out | apply blk_drewN | apply blk_drew | apply blk_alloc | apply blk_set | apply blk_farc n1))⟩
  case h3_ => (repeat (with_reducible first | exact Stp.refl _ _ _ _ | refine Stp.drewN ?_ _ | refine Stp.drew ?_ | refine Stp.alloc ?_ _ | refine Stp.setg ?_ _ _ | refine Stp.setc ?_ _ _))
end Go.Proofs.YtdhkmdgieflioaaDoor.F
namespace Go.Proofs.YtdhkmdgieflioaaDoor.F
open Go.RowKit Go.Proofs.YtdhkmdgieflioaaDoorW.PrintWords Go.Proofs.YtdhkmdgieflioaaDoorW.PrintLast Go.Proofs.YtdhkmdgieflioaaDoorW.PrintMore
set_option linter.unusedVariables false
set_option linter.unusedSimpArgs false
set_option maxRecDepth 100000 in
set_option maxHeartbeats 8000000 in
theorem step_1_4_0_1 (W : World) (g cc bc bo : Nat) (pc : Nat) (r0 r1 r2 r3 r4 r5 r6 r7 r8 r9 r10 r11 r12 r13 r14 r15 rd st : Int) (mem outv wordsv : Value) (o0 inp : ByteArray) (co1 co2 co3 : Nat) (cs CC OK : Array Value)
    (hpc : pc < 37) (hst : 0 ≤ st ∧ st < 1000000) (hg : W.heap[g]? = some (.cells #[.int .i64 pc, .int .u32 r0, .int .u32 r1, .int .u32 r2, .int .u32 r3, .int .u32 r4, .int .u32 r5, .int .u32 r6, .int .u32 r7, .int .u32 r8, .int .u32 r9, .int .u32 r10, .int .u32 r11, .int .u32 r12, .int .u32 r13, .int .u32 r14, .int .u32 r15, mem, .int .i64 rd, .string o0, .int .i64 st, .int .i64 0, outv, .slice (some ⟨bc, 0, none⟩) 37 co1, .slice (some ⟨bo, 0, none⟩) 37 co2, wordsv, .string inp, .slice (some ⟨cc, 0, none⟩) 37 co3] 145 (0, 0)))
    (hcc : W.heap[cc]? = some (.cells cs 3 (0, 0))) (hcs : ∃ n, cs[pc]? = some (.int .i64 n)) (hbc : W.heap[bc]? = some (.cells CC 46 (0, 0))) (hbo : W.heap[bo]? = some (.cells OK 4 (0, 0)))
    (hk0 : CC[pc * 4]? = some (.int .i64 1)) (hk1 : CC[pc * 4 + 1]? = some (.int .i64 4)) (hk2 : CC[pc * 4 + 2]? = some (.int .i64 0)) (hk3 : CC[pc * 4 + 3]? = some (.int .i64 1)) (hok : OK[pc]? = some (.bool true)) :
    Calls Tryd.prog 131 #[.pointer (some ⟨g, 0, none⟩)] W (StepPost W g cc none cs pc #[.int .i64 (pc + 1), .int .u32 r0, .int .u32 r1, .int .u32 r2, .int .u32 r3, .int .u32 1, .int .u32 r5, .int .u32 r6, .int .u32 r7, .int .u32 r8, .int .u32 r9, .int .u32 r10, .int .u32 r11, .int .u32 r12, .int .u32 r13, .int .u32 r14, .int .u32 r15, mem, .int .i64 rd, .string o0, .int .i64 (st + 1), .int .i64 0, outv, .slice (some ⟨bc, 0, none⟩) 37 co1, .slice (some ⟨bo, 0, none⟩) 37 co2, wordsv, .string inp, .slice (some ⟨cc, 0, none⟩) 37 co3]) := by
  have hu145 := Tryd.underlying145
  have hu109 := Tryd.underlying109
  have hu46 := Tryd.underlying46
  have hlg := blk_lt hg
  have hlc := blk_lt hcc
  have hlb := blk_lt hbc
  have hlo := blk_lt hbo
  have n1 : cc ≠ g := blk_ne hcc hg (by decide)
  have n1' : g ≠ cc := fun h => n1 h.symm
  have n2 : bc ≠ g := blk_ne hbc hg (by decide)
  have n3 : bc ≠ cc := blk_ne hbc hcc (by decide)
  have n4 : bo ≠ g := blk_ne hbo hg (by decide)
  have n5 : bo ≠ cc := blk_ne hbo hcc (by decide)
  obtain ⟨cn, hcn⟩ := hcs
  have BG := Aside0.mk hg
  have BC := Aside0.mk hcc
  have fc : W.cell? ⟨cc, pc, none⟩ = some (.int .i64 cn) := (blk_cell hcc pc).trans hcn
  have zc := blk_frozen hcc pc
  have k0 := (blk_cell hbc (pc * 4)).trans hk0
  have k1 := (blk_cell hbc (pc * 4 + 1)).trans hk1
  have k2 := (blk_cell hbc (pc * 4 + 2)).trans hk2
  have k3 := (blk_cell hbc (pc * 4 + 3)).trans hk3
  have ko := (blk_cell hbo pc).trans hok
  clear hg hcc hcn hbc hbo hk0 hk1 hk2 hk3 hok
  have f0 : W.cell? ⟨g, 0, none⟩ = some (.int .i64 pc) := (blk_cell BG.out 0).trans rfl
  have f20 : W.cell? ⟨g, 20, none⟩ = some (.int .i64 st) := (blk_cell BG.out 20).trans rfl
  have f23 : W.cell? ⟨g, 23, none⟩ = some (.slice (some ⟨bc, 0, none⟩) 37 co1) := (blk_cell BG.out 23).trans rfl
  have f24 : W.cell? ⟨g, 24, none⟩ = some (.slice (some ⟨bo, 0, none⟩) 37 co2) := (blk_cell BG.out 24).trans rfl
  have f27 : W.cell? ⟨g, 27, none⟩ = some (.slice (some ⟨cc, 0, none⟩) 37 co3) := (blk_cell BG.out 27).trans rfl
  have f5 : W.cell? ⟨g, 5, none⟩ = some (.int .u32 r4) := (blk_cell BG.out 5).trans rfl
  have z0 := blk_frozen BG.out 0
  have z5 := blk_frozen BG.out 5
  have z20 := blk_frozen BG.out 20
  have z21 := blk_frozen BG.out 21
  have h1 : ¬ (pc : Int) < 0 := by omega
  have h1b : decide ((pc : Int) < 0) = false := by simp
  go_enter Tryd.func131, Tryd.ntmps131
  go_wp2_with fail
  go_quiet (fail)
  go_wp2_with fail
  go_region
  go_wp2_with fail
  go_region
  go_wp2_with fail
  go_region
  go_wp2_with fail
  go_region
  go_wp2
  go_end0
  go_wp2
  all_goals first | go_end0 | ((try simp only [Exit.inBlock, Exit.then]); refine bodyPost_ret (results_none rfl _ _ _) rfl ?_)
  refine ⟨rfl, ?h1_, ?h2_, ?h3_⟩
  case h1_ => exact blk_is (by (repeat (with_reducible first | exact BG.out | apply blk_drewN | apply blk_drew | apply blk_alloc | apply blk_set | apply blk_farc n1'))) (by rfl)
  case h2_ => exact ⟨_, by (repeat (with_reducible first | exact BC.out | apply blk_drewN | apply blk_drew | apply blk_alloc | apply blk_set | apply blk_farc n1))⟩
  case h3_ => (repeat (with_reducible first | exact Stp.refl _ _ _ _ | refine Stp.drewN ?_ _ | refine Stp.drew ?_ | refine Stp.alloc ?_ _ | refine Stp.setg ?_ _ _ | refine Stp.setc ?_ _ _))
end Go.Proofs.YtdhkmdgieflioaaDoor.F
namespace Go.Proofs.YtdhkmdgieflioaaDoor.F
open Go.RowKit Go.Proofs.YtdhkmdgieflioaaDoorW.PrintWords Go.Proofs.YtdhkmdgieflioaaDoorW.PrintLast Go.Proofs.YtdhkmdgieflioaaDoorW.PrintMore
set_option linter.unusedVariables false
set_option linter.unusedSimpArgs false
set_option maxRecDepth 100000 in
set_option maxHeartbeats 8000000 in
theorem step_18_0_0_2 (W : World) (g cc bc bo : Nat) (pc : Nat) (r0 r1 r2 r3 r4 r5 r6 r7 r8 r9 r10 r11 r12 r13 r14 r15 rd st : Int) (mem outv wordsv : Value) (o0 inp : ByteArray) (co1 co2 co3 : Nat) (cs CC OK : Array Value)
    (hpc : pc < 37) (hst : 0 ≤ st ∧ st < 1000000) (hg : W.heap[g]? = some (.cells #[.int .i64 pc, .int .u32 r0, .int .u32 r1, .int .u32 r2, .int .u32 r3, .int .u32 r4, .int .u32 r5, .int .u32 r6, .int .u32 r7, .int .u32 r8, .int .u32 r9, .int .u32 r10, .int .u32 r11, .int .u32 r12, .int .u32 r13, .int .u32 r14, .int .u32 r15, mem, .int .i64 rd, .string o0, .int .i64 st, .int .i64 0, outv, .slice (some ⟨bc, 0, none⟩) 37 co1, .slice (some ⟨bo, 0, none⟩) 37 co2, wordsv, .string inp, .slice (some ⟨cc, 0, none⟩) 37 co3] 145 (0, 0)))
    (hcc : W.heap[cc]? = some (.cells cs 3 (0, 0))) (hcs : ∃ n, cs[pc]? = some (.int .i64 n)) (hbc : W.heap[bc]? = some (.cells CC 46 (0, 0))) (hbo : W.heap[bo]? = some (.cells OK 4 (0, 0)))
    (hk0 : CC[pc * 4]? = some (.int .i64 18)) (hk1 : CC[pc * 4 + 1]? = some (.int .i64 0)) (hk2 : CC[pc * 4 + 2]? = some (.int .i64 0)) (hk3 : CC[pc * 4 + 3]? = some (.int .i64 2)) (hok : OK[pc]? = some (.bool true)) :
    Calls Tryd.prog 131 #[.pointer (some ⟨g, 0, none⟩)] W (StepPost W g cc none cs pc #[.int .i64 2, .int .u32 r0, .int .u32 r1, .int .u32 r2, .int .u32 r3, .int .u32 r4, .int .u32 r5, .int .u32 r6, .int .u32 r7, .int .u32 r8, .int .u32 r9, .int .u32 r10, .int .u32 r11, .int .u32 r12, .int .u32 r13, .int .u32 r14, .int .u32 r15, mem, .int .i64 rd, .string o0, .int .i64 (st + 1), .int .i64 0, outv, .slice (some ⟨bc, 0, none⟩) 37 co1, .slice (some ⟨bo, 0, none⟩) 37 co2, wordsv, .string inp, .slice (some ⟨cc, 0, none⟩) 37 co3]) := by
  have hu145 := Tryd.underlying145
  have hu109 := Tryd.underlying109
  have hu46 := Tryd.underlying46
  have hlg := blk_lt hg
  have hlc := blk_lt hcc
  have hlb := blk_lt hbc
  have hlo := blk_lt hbo
  have n1 : cc ≠ g := blk_ne hcc hg (by decide)
  have n1' : g ≠ cc := fun h => n1 h.symm
  have n2 : bc ≠ g := blk_ne hbc hg (by decide)
  have n3 : bc ≠ cc := blk_ne hbc hcc (by decide)
  have n4 : bo ≠ g := blk_ne hbo hg (by decide)
  have n5 : bo ≠ cc := blk_ne hbo hcc (by decide)
  obtain ⟨cn, hcn⟩ := hcs
  have BG := Aside0.mk hg
  have BC := Aside0.mk hcc
  have fc : W.cell? ⟨cc, pc, none⟩ = some (.int .i64 cn) := (blk_cell hcc pc).trans hcn
  have zc := blk_frozen hcc pc
  have k0 := (blk_cell hbc (pc * 4)).trans hk0
  have k1 := (blk_cell hbc (pc * 4 + 1)).trans hk1
  have k2 := (blk_cell hbc (pc * 4 + 2)).trans hk2
  have k3 := (blk_cell hbc (pc * 4 + 3)).trans hk3
  have ko := (blk_cell hbo pc).trans hok
  clear hg hcc hcn hbc hbo hk0 hk1 hk2 hk3 hok
  have f0 : W.cell? ⟨g, 0, none⟩ = some (.int .i64 pc) := (blk_cell BG.out 0).trans rfl
  have f20 : W.cell? ⟨g, 20, none⟩ = some (.int .i64 st) := (blk_cell BG.out 20).trans rfl
  have f23 : W.cell? ⟨g, 23, none⟩ = some (.slice (some ⟨bc, 0, none⟩) 37 co1) := (blk_cell BG.out 23).trans rfl
  have f24 : W.cell? ⟨g, 24, none⟩ = some (.slice (some ⟨bo, 0, none⟩) 37 co2) := (blk_cell BG.out 24).trans rfl
  have f27 : W.cell? ⟨g, 27, none⟩ = some (.slice (some ⟨cc, 0, none⟩) 37 co3) := (blk_cell BG.out 27).trans rfl
  have f1 : W.cell? ⟨g, 1, none⟩ = some (.int .u32 r0) := (blk_cell BG.out 1).trans rfl
  have z0 := blk_frozen BG.out 0
  have z1 := blk_frozen BG.out 1
  have z20 := blk_frozen BG.out 20
  have z21 := blk_frozen BG.out 21
  have h1 : ¬ (pc : Int) < 0 := by omega
  have h1b : decide ((pc : Int) < 0) = false := by simp
  go_enter Tryd.func131, Tryd.ntmps131
  go_wp2_with fail
  go_quiet (fail)
  go_wp2_with fail
  go_region
  go_wp2_with fail
  go_region
  go_wp2_with fail
  go_region
  go_wp2_with fail
  go_region
  go_wp2
  all_goals first | go_end0 | ((try simp only [Exit.inBlock, Exit.then]); refine bodyPost_ret (results_none rfl _ _ _) rfl ?_)
  refine ⟨rfl, ?h1_, ?h2_, ?h3_⟩
  case h1_ => exact blk_is (by (repeat (with_reducible first | exact BG.out | apply blk_drewN | apply blk_drew | apply blk_alloc | apply blk_set | apply blk_farc n1'))) (by rfl)
  case h2_ => exact ⟨_, by (repeat (with_reducible first | exact BC.out | apply blk_drewN | apply blk_drew | apply blk_alloc | apply blk_set | apply blk_farc n1))⟩
  case h3_ => (repeat (with_reducible first | exact Stp.refl _ _ _ _ | refine Stp.drewN ?_ _ | refine Stp.drew ?_ | refine Stp.alloc ?_ _ | refine Stp.setg ?_ _ _ | refine Stp.setc ?_ _ _))
end Go.Proofs.YtdhkmdgieflioaaDoor.F
namespace Go.Proofs.YtdhkmdgieflioaaDoor.F
open Go.RowKit Go.Proofs.YtdhkmdgieflioaaDoorW.PrintWords Go.Proofs.YtdhkmdgieflioaaDoorW.PrintLast Go.Proofs.YtdhkmdgieflioaaDoorW.PrintMore
set_option linter.unusedVariables false
set_option linter.unusedSimpArgs false
set_option maxRecDepth 100000 in
set_option maxHeartbeats 8000000 in
theorem step_4_3_3_6 (W : World) (g cc bc bo : Nat) (pc : Nat) (r0 r1 r2 r3 r4 r5 r6 r7 r8 r9 r10 r11 r12 r13 r14 r15 rd st : Int) (mem outv wordsv : Value) (o0 inp : ByteArray) (co1 co2 co3 : Nat) (cs CC OK : Array Value)
    (hpc : pc < 37) (hst : 0 ≤ st ∧ st < 1000000) (hg : W.heap[g]? = some (.cells #[.int .i64 pc, .int .u32 r0, .int .u32 r1, .int .u32 r2, .int .u32 r3, .int .u32 r4, .int .u32 r5, .int .u32 r6, .int .u32 r7, .int .u32 r8, .int .u32 r9, .int .u32 r10, .int .u32 r11, .int .u32 r12, .int .u32 r13, .int .u32 r14, .int .u32 r15, mem, .int .i64 rd, .string o0, .int .i64 st, .int .i64 0, outv, .slice (some ⟨bc, 0, none⟩) 37 co1, .slice (some ⟨bo, 0, none⟩) 37 co2, wordsv, .string inp, .slice (some ⟨cc, 0, none⟩) 37 co3] 145 (0, 0)))
    (hcc : W.heap[cc]? = some (.cells cs 3 (0, 0))) (hcs : ∃ n, cs[pc]? = some (.int .i64 n)) (hbc : W.heap[bc]? = some (.cells CC 46 (0, 0))) (hbo : W.heap[bo]? = some (.cells OK 4 (0, 0)))
    (hk0 : CC[pc * 4]? = some (.int .i64 4)) (hk1 : CC[pc * 4 + 1]? = some (.int .i64 3)) (hk2 : CC[pc * 4 + 2]? = some (.int .i64 3)) (hk3 : CC[pc * 4 + 3]? = some (.int .i64 6)) (hok : OK[pc]? = some (.bool true))
    (hx : 0 ≤ r3) (hx2 : r3 < 4294967296) (hy : 0 ≤ r6) (hy2 : r6 < 4294967296) :
    Calls Tryd.prog 131 #[.pointer (some ⟨g, 0, none⟩)] W (StepPost W g cc none cs pc #[.int .i64 (pc + 1), .int .u32 r0, .int .u32 r1, .int .u32 r2, .int .u32 ((r3 + r6) % 4294967296), .int .u32 r4, .int .u32 r5, .int .u32 r6, .int .u32 r7, .int .u32 r8, .int .u32 r9, .int .u32 r10, .int .u32 r11, .int .u32 r12, .int .u32 r13, .int .u32 r14, .int .u32 r15, mem, .int .i64 rd, .string o0, .int .i64 (st + 1), .int .i64 0, outv, .slice (some ⟨bc, 0, none⟩) 37 co1, .slice (some ⟨bo, 0, none⟩) 37 co2, wordsv, .string inp, .slice (some ⟨cc, 0, none⟩) 37 co3]) := by
  have hu145 := Tryd.underlying145
  have hu109 := Tryd.underlying109
  have hu46 := Tryd.underlying46
  have hlg := blk_lt hg
  have hlc := blk_lt hcc
  have hlb := blk_lt hbc
  have hlo := blk_lt hbo
  have n1 : cc ≠ g := blk_ne hcc hg (by decide)
  have n1' : g ≠ cc := fun h => n1 h.symm
  have n2 : bc ≠ g := blk_ne hbc hg (by decide)
  have n3 : bc ≠ cc := blk_ne hbc hcc (by decide)
  have n4 : bo ≠ g := blk_ne hbo hg (by decide)
  have n5 : bo ≠ cc := blk_ne hbo hcc (by decide)
  obtain ⟨cn, hcn⟩ := hcs
  have BG := Aside0.mk hg
  have BC := Aside0.mk hcc
  have fc : W.cell? ⟨cc, pc, none⟩ = some (.int .i64 cn) := (blk_cell hcc pc).trans hcn
  have zc := blk_frozen hcc pc
  have k0 := (blk_cell hbc (pc * 4)).trans hk0
  have k1 := (blk_cell hbc (pc * 4 + 1)).trans hk1
  have k2 := (blk_cell hbc (pc * 4 + 2)).trans hk2
  have k3 := (blk_cell hbc (pc * 4 + 3)).trans hk3
  have ko := (blk_cell hbo pc).trans hok
  clear hg hcc hcn hbc hbo hk0 hk1 hk2 hk3 hok
  have f0 : W.cell? ⟨g, 0, none⟩ = some (.int .i64 pc) := (blk_cell BG.out 0).trans rfl
  have f20 : W.cell? ⟨g, 20, none⟩ = some (.int .i64 st) := (blk_cell BG.out 20).trans rfl
  have f23 : W.cell? ⟨g, 23, none⟩ = some (.slice (some ⟨bc, 0, none⟩) 37 co1) := (blk_cell BG.out 23).trans rfl
  have f24 : W.cell? ⟨g, 24, none⟩ = some (.slice (some ⟨bo, 0, none⟩) 37 co2) := (blk_cell BG.out 24).trans rfl
  have f27 : W.cell? ⟨g, 27, none⟩ = some (.slice (some ⟨cc, 0, none⟩) 37 co3) := (blk_cell BG.out 27).trans rfl
  have f4 : W.cell? ⟨g, 4, none⟩ = some (.int .u32 r3) := (blk_cell BG.out 4).trans rfl
  have f7 : W.cell? ⟨g, 7, none⟩ = some (.int .u32 r6) := (blk_cell BG.out 7).trans rfl
  have z0 := blk_frozen BG.out 0
  have z4 := blk_frozen BG.out 4
  have z20 := blk_frozen BG.out 20
  have z21 := blk_frozen BG.out 21
  have h1 : ¬ (pc : Int) < 0 := by omega
  have h1b : decide ((pc : Int) < 0) = false := by simp
  obtain ⟨rv, hrv⟩ : ∃ rv : Int, rv = (r3 + r6) % 4294967296 := ⟨_, rfl⟩
  have hap : ∀ W_, Calls Tryd.prog 47 #[.int .i64 4, .int .u32 r3, .int .u32 r6] W_ fun e w' => e = .returned (.tuple #[.int .u32 rv, .int .i64 0]) ∧ w' = W_ := fun W_ => (apply_4 r3 r6 hx hx2 hy hy2 W_).mono fun e w' h => ⟨by rw [hrv]; exact h.1, h.2.symm⟩
  have HAP := Aside0.mk hap
  clear hap
  rw [← hrv]
  clear hrv
  go_enter Tryd.func131, Tryd.ntmps131
  go_wp2_with fail
  go_quiet (fail)
  go_wp2_with fail
  go_region
  go_wp2_with fail
  go_region
  go_wp2_with fail
  go_region
  go_wp2_with fail
  go_region
  go_wp2_with fail
  go_quiet ((exact (HAP.out _).mono fun _ _ h => ⟨h.1, _, h.2⟩))
  go_wp2
  go_end0
  go_wp2
  all_goals first | go_end0 | ((try simp only [Exit.inBlock, Exit.then]); refine bodyPost_ret (results_none rfl _ _ _) rfl ?_)
  refine ⟨rfl, ?h1_, ?h2_, ?h3_⟩
  case h1_ => exact blk_is (by (repeat (with_reducible first | exact BG.out | apply blk_drewN | apply blk_drew | apply blk_alloc | apply blk_set | apply blk_farc n1'))) (by rfl)
  case h2_ => exact ⟨_, by (repeat (with_reducible first | exact BC.out | apply blk_drewN | apply blk_drew | apply blk_alloc | apply blk_set | apply blk_farc n1))⟩
  case h3_ => (repeat (with_reducible first | exact Stp.refl _ _ _ _ | refine Stp.drewN ?_ _ | refine Stp.drew ?_ | refine Stp.alloc ?_ _ | refine Stp.setg ?_ _ _ | refine Stp.setc ?_ _ _))
end Go.Proofs.YtdhkmdgieflioaaDoor.F
namespace Go.Proofs.YtdhkmdgieflioaaDoor.F
open Go.RowKit Go.Proofs.YtdhkmdgieflioaaDoorW.PrintWords Go.Proofs.YtdhkmdgieflioaaDoorW.PrintLast Go.Proofs.YtdhkmdgieflioaaDoorW.PrintMore
set_option linter.unusedVariables false
set_option linter.unusedSimpArgs false
set_option maxRecDepth 100000 in
set_option maxHeartbeats 8000000 in
theorem step_24_3_0_0 (W : World) (g cc bc bo : Nat) (pc : Nat) (r0 r1 r2 r3 r4 r5 r6 r7 r8 r9 r10 r11 r12 r13 r14 r15 rd st : Int) (mem outv wordsv : Value) (o0 inp : ByteArray) (co1 co2 co3 : Nat) (cs CC OK : Array Value)
    (hpc : pc < 37) (hst : 0 ≤ st ∧ st < 1000000) (hg : W.heap[g]? = some (.cells #[.int .i64 pc, .int .u32 r0, .int .u32 r1, .int .u32 r2, .int .u32 r3, .int .u32 r4, .int .u32 r5, .int .u32 r6, .int .u32 r7, .int .u32 r8, .int .u32 r9, .int .u32 r10, .int .u32 r11, .int .u32 r12, .int .u32 r13, .int .u32 r14, .int .u32 r15, mem, .int .i64 rd, .string o0, .int .i64 st, .int .i64 0, outv, .slice (some ⟨bc, 0, none⟩) 37 co1, .slice (some ⟨bo, 0, none⟩) 37 co2, wordsv, .string inp, .slice (some ⟨cc, 0, none⟩) 37 co3] 145 (0, 0)))
    (hcc : W.heap[cc]? = some (.cells cs 3 (0, 0))) (hcs : ∃ n, cs[pc]? = some (.int .i64 n)) (hbc : W.heap[bc]? = some (.cells CC 46 (0, 0))) (hbo : W.heap[bo]? = some (.cells OK 4 (0, 0)))
    (hk0 : CC[pc * 4]? = some (.int .i64 24)) (hk1 : CC[pc * 4 + 1]? = some (.int .i64 3)) (hk2 : CC[pc * 4 + 2]? = some (.int .i64 0)) (hk3 : CC[pc * 4 + 3]? = some (.int .i64 0)) (hok : OK[pc]? = some (.bool true))
    (B : Nat) (outs : List Int) (Ao : Option Addr) (co : Nat) (eo : outv = .slice Ao outs.length co) (ho : OutOk W B outv outs) (hsm : outs.length < 65536) (hBs : B ≤ W.heap.size) (hx0 : 0 ≤ r3) :
    Calls Tryd.prog 131 #[.pointer (some ⟨g, 0, none⟩)] W (fun e w' => ∃ v', OutOk w' B v' (outs ++ [r3 % 256]) ∧ StepPost W g cc outv.ownBlock cs pc #[.int .i64 (pc + 1), .int .u32 r0, .int .u32 r1, .int .u32 r2, .int .u32 r3, .int .u32 r4, .int .u32 r5, .int .u32 r6, .int .u32 r7, .int .u32 r8, .int .u32 r9, .int .u32 r10, .int .u32 r11, .int .u32 r12, .int .u32 r13, .int .u32 r14, .int .u32 r15, mem, .int .i64 rd, .string o0, .int .i64 (st + 1), .int .i64 0, v', .slice (some ⟨bc, 0, none⟩) 37 co1, .slice (some ⟨bo, 0, none⟩) 37 co2, wordsv, .string inp, .slice (some ⟨cc, 0, none⟩) 37 co3] e w') := by
  subst eo
  have hu145 := Tryd.underlying145
  have hu109 := Tryd.underlying109
  have hu46 := Tryd.underlying46
  have hlg := blk_lt hg
  have hlc := blk_lt hcc
  have hlb := blk_lt hbc
  have hlo := blk_lt hbo
  have n1 : cc ≠ g := blk_ne hcc hg (by decide)
  have n1' : g ≠ cc := fun h => n1 h.symm
  have n2 : bc ≠ g := blk_ne hbc hg (by decide)
  have n3 : bc ≠ cc := blk_ne hbc hcc (by decide)
  have n4 : bo ≠ g := blk_ne hbo hg (by decide)
  have n5 : bo ≠ cc := blk_ne hbo hcc (by decide)
  obtain ⟨cn, hcn⟩ := hcs
  have BG := Aside0.mk hg
  have BC := Aside0.mk hcc
  have fc : W.cell? ⟨cc, pc, none⟩ = some (.int .i64 cn) := (blk_cell hcc pc).trans hcn
  have zc := blk_frozen hcc pc
  have k0 := (blk_cell hbc (pc * 4)).trans hk0
  have k1 := (blk_cell hbc (pc * 4 + 1)).trans hk1
  have k2 := (blk_cell hbc (pc * 4 + 2)).trans hk2
  have k3 := (blk_cell hbc (pc * 4 + 3)).trans hk3
  have ko := (blk_cell hbo pc).trans hok
  clear hg hcc hcn hbc hbo hk0 hk1 hk2 hk3 hok
  have f0 : W.cell? ⟨g, 0, none⟩ = some (.int .i64 pc) := (blk_cell BG.out 0).trans rfl
  have f20 : W.cell? ⟨g, 20, none⟩ = some (.int .i64 st) := (blk_cell BG.out 20).trans rfl
  have f23 : W.cell? ⟨g, 23, none⟩ = some (.slice (some ⟨bc, 0, none⟩) 37 co1) := (blk_cell BG.out 23).trans rfl
  have f24 : W.cell? ⟨g, 24, none⟩ = some (.slice (some ⟨bo, 0, none⟩) 37 co2) := (blk_cell BG.out 24).trans rfl
  have f27 : W.cell? ⟨g, 27, none⟩ = some (.slice (some ⟨cc, 0, none⟩) 37 co3) := (blk_cell BG.out 27).trans rfl
  have f4 : W.cell? ⟨g, 4, none⟩ = some (.int .u32 r3) := (blk_cell BG.out 4).trans rfl
  have f22 : W.cell? ⟨g, 22, none⟩ = some (.slice Ao outs.length co) := (blk_cell BG.out 22).trans rfl
  have z0 := blk_frozen BG.out 0
  have z4 := blk_frozen BG.out 4
  have z20 := blk_frozen BG.out 20
  have z21 := blk_frozen BG.out 21
  have z22 := blk_frozen BG.out 22
  have h1 : ¬ (pc : Int) < 0 := by omega
  have h1b : decide ((pc : Int) < 0) = false := by simp
  have HBS := Aside0.mk hBs
  have HSM := Aside0.mk hsm
  have HO := Aside0.mk ho
  clear ho hBs hsm
  have hl1 : decide (65536 ≤ (outs.length : Int)) = false := decide_eq_false (by have := HSM.out; omega)
  go_enter Tryd.func131, Tryd.ntmps131
  go_wp2_with fail
  go_quiet (fail)
  go_wp2_with fail
  go_region
  go_wp2_with fail
  go_region
  go_wp2_with fail
  go_region
  go_wp2_with fail
  go_region
  generalize hW2 : World.drew _ = W2
  have hG : W2.heap[g]? = some (.cells #[.int .i64 pc, .int .u32 r0, .int .u32 r1, .int .u32 r2, .int .u32 r3, .int .u32 r4, .int .u32 r5, .int .u32 r6, .int .u32 r7, .int .u32 r8, .int .u32 r9, .int .u32 r10, .int .u32 r11, .int .u32 r12, .int .u32 r13, .int .u32 r14, .int .u32 r15, mem, .int .i64 rd, .string o0, .int .i64 (st + 1), .int .i64 0, .slice Ao outs.length co, .slice (some ⟨bc, 0, none⟩) 37 co1, .slice (some ⟨bo, 0, none⟩) 37 co2, wordsv, .string inp, .slice (some ⟨cc, 0, none⟩) 37 co3] 145 (0, 0)) := blk_is (by rw [← hW2]; (repeat (with_reducible first | exact BG.out | apply blk_drewN | apply blk_drew | apply blk_alloc | apply blk_set | apply blk_farc n1'))) (by rfl)
  have hC : W2.heap[cc]? = some (.cells (cs.setIfInBounds pc (.int .i64 (wrap64 (cn + 1)))) 3 (0, 0)) := by rw [← hW2]; (repeat (with_reducible first | exact BC.out | apply blk_drewN | apply blk_drew | apply blk_alloc | apply blk_set | apply blk_farc n1))
  have hI : W2.heap[W.heap.size]? = some (.cells #[.int .i64 24, .int .i64 3, .int .i64 0, .int .i64 0] 46 (0, 0)) := by rw [← hW2]; (repeat (first | (with_reducible apply blk_drewN) | (with_reducible apply blk_drew) | exact blk_newat (by simp [World.setCell, World.drewN])))
  have hS : Stp W W2 g cc none := by rw [← hW2]; (repeat (with_reducible first | exact Stp.refl _ _ _ _ | refine Stp.drewN ?_ _ | refine Stp.drew ?_ | refine Stp.alloc ?_ _ | refine Stp.setg ?_ _ _ | refine Stp.setc ?_ _ _))
  have hR : OutOk W2 B (.slice Ao outs.length co) outs := OutOk.stp HO.out BG.out BC.out hS
  clear hW2 fc zc k0 k1 k2 k3 ko f0 f20 f23 f24 f27 f4 f22 z0 z4 z20 z21 z22
  have e0 : W2.cell? ⟨g, 0, none⟩ = some (.int .i64 pc) := (blk_cell hG 0).trans rfl; have e22 : W2.cell? ⟨g, 22, none⟩ = some (.slice Ao outs.length co) := (blk_cell hG 22).trans rfl; have e4 : W2.cell? ⟨g, 4, none⟩ = some (.int .u32 r3) := (blk_cell hG 4).trans rfl; have y0 := blk_frozen hG 0; have y4 := blk_frozen hG 4; have y22 := blk_frozen hG 22; have i0 : W2.cell? ⟨W.heap.size, 0, none⟩ = some (.int .i64 24) := (blk_cell hI 0).trans rfl; have i1 : W2.cell? ⟨W.heap.size, 1, none⟩ = some (.int .i64 3) := (blk_cell hI 1).trans rfl; have i2 : W2.cell? ⟨W.heap.size, 2, none⟩ = some (.int .i64 0) := (blk_cell hI 2).trans rfl; have i3 : W2.cell? ⟨W.heap.size, 3, none⟩ = some (.int .i64 0) := (blk_cell hI 3).trans rfl; skip
  have G := Aside0.mk hG
  have C := Aside0.mk hC
  have S := Aside0.mk hS
  have R := Aside0.mk hR
  clear hG hC hI hS hR
  go_wp2_with (first | ((with_reducible refine gate_builtin (b := .append) (xs := #[.tmp 368, .tmp 372]) rfl ?_); at_builtin; refine OutOk.event (OutOk.alloc R.out (.cells #[.int .u8 (r3 % 256)] 5)) rfl (.tmp 368) (.tmp 372) rfl rfl ⟨W2.heap.size, 0, none⟩ 1 [r3 % 256] rfl ?aN ?aL ?aS ?_; (case aN => exact new_byte W2 _); (case aS => exact size_le_alloc HBS.out S.out.size _); (case aL => (have := HSM.out; simp only [List.length_singleton]; omega)); intro v1 w4 ho hg; have n0_ := Aside0.mk (blk_grown (blk_alloc G.out _) hg (ne145 (OutOk.alloc R.out (.cells #[.int .u8 (r3 % 256)] 5)) (blk_alloc G.out _))); have n1_ := Aside0.mk (blk_grown (blk_alloc C.out _) hg (ne3 (OutOk.alloc R.out (.cells #[.int .u8 (r3 % 256)] 5)) (blk_alloc C.out _))); have n2_ := Aside0.mk (Stp.grown (Stp.alloc (Stp.weaken S.out _) _) hg); have n3_ := Aside0.mk ho; clear hg ho e0 e22 y0 y22; have d0 : w4.cell? ⟨g, 0, none⟩ = some (.int .i64 pc) := (blk_cell n0_.out 0).trans rfl; have x0 := blk_frozen n0_.out 0; have d22 := (blk_cell n0_.out 22).trans rfl; have x22 := blk_frozen n0_.out 22; obtain ⟨A1, c1, e1⟩ := OutOk.slice n3_.out; subst e1))
  all_goals first | go_end0 | ((try simp only [Exit.inBlock, Exit.then]); refine bodyPost_ret (results_none rfl _ _ _) rfl ?_)
  refine ⟨.slice A1 (outs.length + 1) c1, ?h0_, rfl, ?h1_, ?h2_, ?h3_⟩
  case h1_ => exact blk_is (by (repeat (with_reducible first | exact n0_.out | apply blk_drewN | apply blk_drew | apply blk_alloc | apply blk_set | apply blk_farc n1'))) (by rfl)
  case h2_ => exact ⟨_, by (repeat (with_reducible first | exact n1_.out | apply blk_drewN | apply blk_drew | apply blk_alloc | apply blk_set | apply blk_farc n1))⟩
  case h3_ => (repeat (with_reducible first | exact n2_.out | refine Stp.drewN ?_ _ | refine Stp.drew ?_ | refine Stp.alloc ?_ _ | refine Stp.setg ?_ _ _ | refine Stp.setc ?_ _ _))
  case h0_ =>
    have h1 := n3_.out
    rw [List.length_append] at h1
    exact OutOk.set (OutOk.set h1 n0_.out (by decide) 22 _) (blk_set n0_.out 22 _) (by decide) 0 _
end Go.Proofs.YtdhkmdgieflioaaDoor.F
namespace Go.Proofs.YtdhkmdgieflioaaDoor.F
open Go.RowKit Go.Proofs.YtdhkmdgieflioaaDoorW.PrintWords Go.Proofs.YtdhkmdgieflioaaDoorW.PrintLast Go.Proofs.YtdhkmdgieflioaaDoorW.PrintMore
set_option linter.unusedVariables false
set_option linter.unusedSimpArgs false
set_option maxRecDepth 100000 in
set_option maxHeartbeats 8000000 in
theorem step_1_4_0_0 (W : World) (g cc bc bo : Nat) (pc : Nat) (r0 r1 r2 r3 r4 r5 r6 r7 r8 r9 r10 r11 r12 r13 r14 r15 rd st : Int) (mem outv wordsv : Value) (o0 inp : ByteArray) (co1 co2 co3 : Nat) (cs CC OK : Array Value)
    (hpc : pc < 37) (hst : 0 ≤ st ∧ st < 1000000) (hg : W.heap[g]? = some (.cells #[.int .i64 pc, .int .u32 r0, .int .u32 r1, .int .u32 r2, .int .u32 r3, .int .u32 r4, .int .u32 r5, .int .u32 r6, .int .u32 r7, .int .u32 r8, .int .u32 r9, .int .u32 r10, .int .u32 r11, .int .u32 r12, .int .u32 r13, .int .u32 r14, .int .u32 r15, mem, .int .i64 rd, .string o0, .int .i64 st, .int .i64 0, outv, .slice (some ⟨bc, 0, none⟩) 37 co1, .slice (some ⟨bo, 0, none⟩) 37 co2, wordsv, .string inp, .slice (some ⟨cc, 0, none⟩) 37 co3] 145 (0, 0)))
    (hcc : W.heap[cc]? = some (.cells cs 3 (0, 0))) (hcs : ∃ n, cs[pc]? = some (.int .i64 n)) (hbc : W.heap[bc]? = some (.cells CC 46 (0, 0))) (hbo : W.heap[bo]? = some (.cells OK 4 (0, 0)))
    (hk0 : CC[pc * 4]? = some (.int .i64 1)) (hk1 : CC[pc * 4 + 1]? = some (.int .i64 4)) (hk2 : CC[pc * 4 + 2]? = some (.int .i64 0)) (hk3 : CC[pc * 4 + 3]? = some (.int .i64 0)) (hok : OK[pc]? = some (.bool true)) :
    Calls Tryd.prog 131 #[.pointer (some ⟨g, 0, none⟩)] W (StepPost W g cc none cs pc #[.int .i64 (pc + 1), .int .u32 r0, .int .u32 r1, .int .u32 r2, .int .u32 r3, .int .u32 0, .int .u32 r5, .int .u32 r6, .int .u32 r7, .int .u32 r8, .int .u32 r9, .int .u32 r10, .int .u32 r11, .int .u32 r12, .int .u32 r13, .int .u32 r14, .int .u32 r15, mem, .int .i64 rd, .string o0, .int .i64 (st + 1), .int .i64 0, outv, .slice (some ⟨bc, 0, none⟩) 37 co1, .slice (some ⟨bo, 0, none⟩) 37 co2, wordsv, .string inp, .slice (some ⟨cc, 0, none⟩) 37 co3]) := by
  have hu145 := Tryd.underlying145
  have hu109 := Tryd.underlying109
  have hu46 := Tryd.underlying46
  have hlg := blk_lt hg
  have hlc := blk_lt hcc
  have hlb := blk_lt hbc
  have hlo := blk_lt hbo
  have n1 : cc ≠ g := blk_ne hcc hg (by decide)
  have n1' : g ≠ cc := fun h => n1 h.symm
  have n2 : bc ≠ g := blk_ne hbc hg (by decide)
  have n3 : bc ≠ cc := blk_ne hbc hcc (by decide)
  have n4 : bo ≠ g := blk_ne hbo hg (by decide)
  have n5 : bo ≠ cc := blk_ne hbo hcc (by decide)
  obtain ⟨cn, hcn⟩ := hcs
  have BG := Aside0.mk hg
  have BC := Aside0.mk hcc
  have fc : W.cell? ⟨cc, pc, none⟩ = some (.int .i64 cn) := (blk_cell hcc pc).trans hcn
  have zc := blk_frozen hcc pc
  have k0 := (blk_cell hbc (pc * 4)).trans hk0
  have k1 := (blk_cell hbc (pc * 4 + 1)).trans hk1
  have k2 := (blk_cell hbc (pc * 4 + 2)).trans hk2
  have k3 := (blk_cell hbc (pc * 4 + 3)).trans hk3
  have ko := (blk_cell hbo pc).trans hok
  clear hg hcc hcn hbc hbo hk0 hk1 hk2 hk3 hok
  have f0 : W.cell? ⟨g, 0, none⟩ = some (.int .i64 pc) := (blk_cell BG.out 0).trans rfl
  have f20 : W.cell? ⟨g, 20, none⟩ = some (.int .i64 st) := (blk_cell BG.out 20).trans rfl
  have f23 : W.cell? ⟨g, 23, none⟩ = some (.slice (some ⟨bc, 0, none⟩) 37 co1) := (blk_cell BG.out 23).trans rfl
  have f24 : W.cell? ⟨g, 24, none⟩ = some (.slice (some ⟨bo, 0, none⟩) 37 co2) := (blk_cell BG.out 24).trans rfl
  have f27 : W.cell? ⟨g, 27, none⟩ = some (.slice (some ⟨cc, 0, none⟩) 37 co3) := (blk_cell BG.out 27).trans rfl
  have f5 : W.cell? ⟨g, 5, none⟩ = some (.int .u32 r4) := (blk_cell BG.out 5).trans rfl
  have z0 := blk_frozen BG.out 0
  have z5 := blk_frozen BG.out 5
  have z20 := blk_frozen BG.out 20
  have z21 := blk_frozen BG.out 21
  have h1 : ¬ (pc : Int) < 0 := by omega
  have h1b : decide ((pc : Int) < 0) = false := by simp
  go_enter Tryd.func131, Tryd.ntmps131
  go_wp2_with fail
  go_quiet (fail)
  go_wp2_with fail
  go_region
  go_wp2_with fail
  go_region
  go_wp2_with fail
  go_region
  go_wp2_with fail
  go_region
  go_wp2
  go_end0
  go_wp2
  all_goals first | go_end0 | ((try simp only [Exit.inBlock, Exit.then]); refine bodyPost_ret (results_none rfl _ _ _) rfl ?_)
  refine ⟨rfl, ?h1_, ?h2_, ?h3_⟩
  case h1_ => exact blk_is (by (repeat (with_reducible first | exact BG.out | apply blk_drewN | apply blk_drew | apply blk_alloc | apply blk_set | apply blk_farc n1'))) (by rfl)
  case h2_ => exact ⟨_, by (repeat (with_reducible first | exact BC.out | apply blk_drewN | apply blk_drew | apply blk_alloc | apply blk_set | apply blk_farc n1))⟩
  case h3_ => (repeat (with_reducible first | exact Stp.refl _ _ _ _ | refine Stp.drewN ?_ _ | refine Stp.drew ?_ | refine Stp.alloc ?_ _ | refine Stp.setg ?_ _ _ | refine Stp.setc ?_ _ _))
end Go.Proofs.YtdhkmdgieflioaaDoor.F
