/- Texts of this claim: contracts of functions that the law reaches, and plain lemmas. -/
import Derived.Lib.Hide
import Derived.Outline
import Derived.WalkLawsBesides
import Derived.WalkSpells
import Derived.RegionTactic
import Derived.ChangeAlike
import Derived.Deep.QuietTactic
import Derived.BigQuiet
import Derived.StillTailTactics
import Derived.Deep.RegionHeld3
import Derived.BigRegion
import Derived.Laws.Tables
import Derived.Laws.CopyOwn
import Derived.Laws.Rows
import Derived.Deep.MidRow
import Derived.Lib.ConvBytes
import Derived.Laws.MakeOwn
import Derived.Test.YtdhkmdgieflioaaDoorRows
import Derived.LaidLaws
import Derived.ChangeArms
import Derived.ChangeSame
import Derived.OpenShut
import Derived.Lib.LaidTab
import Derived.LaidMore
import Derived.MakeChecks
import Derived.Deep.Strs
import Derived.Stop.LaidErr
import Derived.JoinedOf
import Derived.KernelRfl
import Derived.SevenTiedAt
import Derived.Test.YtdhkmdgieflioaaDoorX1
import Derived.Test.YtdhkmdgieflioaaDoorX2
namespace Go.Proofs.YtdhkmdgieflioaaDoor.F
open Go.RowKit Go.Proofs.YtdhkmdgieflioaaDoorW.PrintWords Go.Proofs.YtdhkmdgieflioaaDoorW.PrintLast Go.Proofs.YtdhkmdgieflioaaDoorW.PrintMore
attribute [local go_sem] max2_int min2_int max_two min_two max_three min_three max_four min_four
set_option linter.unusedVariables false
set_option linter.unusedSimpArgs false
mutual
def seedcornref11_Targets.l0 : Nat → List Bool → Int → List Int → Int → Option (List Int)
  | 0, _, _, _, _ => none
  | k + 1, x3, x4, x590000, x590001 => if x4 < (x590000.length : Int) then (if 0 ≤ x4 then ((seedcornref11_Jump.f (rd x590000 x4)).bind fun bt594 => (if bt594.2 = true then (if bt594.1 < (x590000.length : Int) then (if 0 ≤ bt594.1 then (if bt594.1 < (x3.length : Int) then (seedcornref11_Targets.l0 k (x3.set (bt594.1 : Int).toNat true) (wrap64 (x4 + 1)) x590000 x590001) else (none)) else (none)) else (seedcornref11_Targets.l0 k x3 (wrap64 (x4 + 1)) x590000 x590001)) else (seedcornref11_Targets.l0 k x3 (wrap64 (x4 + 1)) x590000 x590001))) else (none)) else (seedcornref11_Targets.l1 k x3 ([] : List Int) 0)
def seedcornref11_Targets.l1 : Nat → List Bool → List Int → Int → Option (List Int)
  | 0, _, _, _ => none
  | k + 1, x3, x7, x8 => if x8 < (x3.length : Int) then (if 0 ≤ x8 then (if rdOf false x3 x8 = true then (if x7.length < 17592186044416 then (seedcornref11_Targets.l1 k x3 (x7 ++ [x8]) (wrap64 (x8 + 1))) else (none)) else (seedcornref11_Targets.l1 k x3 x7 (wrap64 (x8 + 1)))) else (none)) else (some x7)
end
def seedcornref11_Targets.f (k : Nat) (l0_0 : List Int) (a0_1 : Int) : Option (List Int) := if 0 ≤ (l0_0.length : Int) then (if ((l0_0.length : Int) : Int).toNat ≤ 281474976710656 then (seedcornref11_Targets.l0 k (List.replicate ((l0_0.length : Int) : Int).toNat false) 0 l0_0 a0_1) else (none)) else (none)
theorem seedcornref11_Targets.mono_l : ∀ k, (∀ y0 y1 y2 y3, LeO (seedcornref11_Targets.l0 k y0 y1 y2 y3) (seedcornref11_Targets.l0 (k + 1) y0 y1 y2 y3)) ∧ (∀ y0 y1 y2, LeO (seedcornref11_Targets.l1 k y0 y1 y2) (seedcornref11_Targets.l1 (k + 1) y0 y1 y2))
  | 0 => ⟨fun _ _ _ _ r h => by simp [seedcornref11_Targets.l0] at h, fun _ _ _ r h => by simp [seedcornref11_Targets.l1] at h⟩
  | k + 1 => by
    obtain ⟨ih0, ih1⟩ := seedcornref11_Targets.mono_l k
    refine ⟨?_, ?_⟩
    · intro y0 y1 y2 y3
      unfold seedcornref11_Targets.l0
      repeat' first
      | (with_reducible exact ih0 _ _ _ _)
      | (with_reducible exact ih1 _ _ _)
      | (with_reducible exact LeO.refl _)
      | (with_reducible exact LeO.none _)
      | (with_reducible refine LeO.ite ?_ ?_)
      | (with_reducible refine LeO.bind ?_ (fun _ => ?_))
      | exact ih0 _ _ _ _
      | exact ih1 _ _ _
      | exact LeO.none _
      | refine LeO.ite ?_ ?_
      | refine LeO.bind ?_ (fun _ => ?_)
    · intro y0 y1 y2
      unfold seedcornref11_Targets.l1
      repeat' first
      | (with_reducible exact ih0 _ _ _ _)
      | (with_reducible exact ih1 _ _ _)
      | (with_reducible exact LeO.refl _)
      | (with_reducible exact LeO.none _)
      | (with_reducible refine LeO.ite ?_ ?_)
      | (with_reducible refine LeO.bind ?_ (fun _ => ?_))
      | exact ih0 _ _ _ _
      | exact ih1 _ _ _
      | exact LeO.none _
      | refine LeO.ite ?_ ?_
      | refine LeO.bind ?_ (fun _ => ?_)
theorem seedcornref11_Targets.mono : ∀ a0 a1 k, LeO (seedcornref11_Targets.f k a0 a1) (seedcornref11_Targets.f (k + 1) a0 a1) := by
  intro a0 a1 k
  obtain ⟨ih0, ih1⟩ := seedcornref11_Targets.mono_l k
  unfold seedcornref11_Targets.f
  repeat' first
      | (with_reducible exact ih0 _ _ _ _)
      | (with_reducible exact ih1 _ _ _)
      | (with_reducible exact LeO.refl _)
      | (with_reducible exact LeO.none _)
      | (with_reducible refine LeO.ite ?_ ?_)
      | (with_reducible refine LeO.bind ?_ (fun _ => ?_))
      | exact ih0 _ _ _ _
      | exact ih1 _ _ _
      | exact LeO.none _
      | refine LeO.ite ?_ ?_
      | refine LeO.bind ?_ (fun _ => ?_)
set_option maxHeartbeats 8000000 in
set_option maxRecDepth 100000 in
theorem seedcornref11_Targets.calls (k : Nat) (A0_0 : Option Addr) (c0_0 : Nat) (l0_0 : List Int) (a0_1 : Int) (r : List Int) (w : World) (hr0_0 : Kd.C (Kd.int .u32) w A0_0 l0_0.length l0_0) (hc0_0 : l0_0.length ≤ c0_0) (h : seedcornref11_Targets.f k l0_0 a0_1 = some r) :
    Calls Tryd.prog 54 #[.agg #[.slice A0_0 l0_0.length c0_0, .int .i64 a0_1]] w fun e w' => ∃ v0_ : Value, e = .returned (v0_) ∧ Kd.R (Kd.int .i64) 3 w' w.heap.size (fun _ => True) v0_ r ∧ Below w.heap.size w w' := by
  have hu28 := Tryd.underlying28
  have HR0_0 := Aside0.mk hr0_0
  have HC0_0 := Aside0.mk hc0_0
  clear hr0_0 hc0_0
  have HB := Aside0.mk (Below.refl w.heap.size w)
  have H : (if 0 ≤ (l0_0.length : Int) then (if ((l0_0.length : Int) : Int).toNat ≤ 281474976710656 then (seedcornref11_Targets.l0 k (List.replicate ((l0_0.length : Int) : Int).toNat false) 0 l0_0 a0_1) else (none)) else (none)) = some r := h
  clear h
  by_cases c2 : 0 ≤ (l0_0.length : Int)
  · rw [if_pos c2] at H
    have c2b0 := eq_true c2
    have c2b1 : decide (0 ≤ (l0_0.length : Int)) = true := decide_eq_true c2
    clear c2
    by_cases c3 : ((l0_0.length : Int) : Int).toNat ≤ 281474976710656
    · rw [if_pos c3] at H
      have c3b0 := eq_true c3
      have c3b1 : decide (((l0_0.length : Int) : Int).toNat ≤ 281474976710656) = true := decide_eq_true c3
      clear c3
      obtain ⟨y590, hy590⟩ : ∃ y_ : List Bool, y_ = (List.replicate ((l0_0.length : Int) : Int).toNat false) := ⟨_, rfl⟩
      replace H : (seedcornref11_Targets.l0 k y590 0 l0_0 a0_1) = some r := by first | (rw [hy590]; with_reducible exact H) | (have H2_ := (Option.bind_some _ _).symm.trans H; rw [hy590]; with_reducible exact H2_) | (have H2_ := (Option.bind_some _ _).symm.trans H; with_reducible exact H2_) | with_reducible exact H | (rw [hy590]; exact H) | exact H
      have Ny590 := Aside0.mk hy590
      clear hy590
      have H' := Aside0.mk H
      clear H
      go_enter Tryd.func54, Tryd.ntmps54
      go_wp2_with (first | ((with_reducible refine gate_dst (N := 1) rfl ?_); (try (refine gate_guard (by rfl) ?_; dsimp only)); refine box_event ?hg (N := 1) ?hd (cs := #[.slice A0_0 l0_0.length c0_0, .int .i64 a0_1]) (t := 28) ?hr ?_; (case hd => rfl); (case hg => rfl); (case hr => first | (go_simp; done) | (go_simp; rfl)); intro gb589 hg w4 hbox hb; have n0_ := Aside0.mk (below_step (by repeat (first | (with_reducible first | exact HB.out | apply below_alloc | apply pw_below_drewN | apply below_drew1) | exact HB.out)) hb); have n1_ := Aside0.mk (hbox); have n2_ := Aside0.mk ((by rw [hg]; exact (below_size (by repeat (first | (with_reducible first | exact HB.out | apply below_alloc | apply pw_below_drewN | apply below_drew1) | exact HB.out))) : w.heap.size ≤ gb589)); have n3_ := Aside0.mk ((by rw [hg]; exact (below_size (by repeat (first | (with_reducible first | exact HB.out | apply below_alloc | apply pw_below_drewN | apply below_drew1) | exact HB.out))) : w.heap.size ≤ gb589)); clear HB; have HB := n0_; have BK589 := n1_; have GW589 := n2_; have GE589 := n3_; clear n0_ n1_ n2_ n3_; clear hb hbox hg; have hcz5_0 : w4.cell? ⟨gb589, 0, none⟩ = some (.slice A0_0 l0_0.length c0_0) := (blk_cell BK589.out 0).trans rfl; have hcz5_1 : w4.cell? ⟨gb589, 1, none⟩ = some (.int .i64 a0_1) := (blk_cell BK589.out 1).trans rfl; have hfz5_0 := blk_frozen BK589.out 0; have hfz5_1 := blk_frozen BK589.out 1) | ((with_reducible refine gate_dst (N := 12) rfl ?_); (try (refine gate_guard (by rfl) ?_; dsimp only)); refine Kd.R_make Kd.bool _ 4 rfl (N := 12) rfl 103 _ _ rfl (l0_0.length : Int) rfl rfl Tryd.underlying103 (.bool false) 1 info4 rfl (by decide) (by omega) false (ok := fun _ => True) (okp := fun _ => True) rfl (fun _ hk => hk) trivial (of_decide_eq_true (by first | (with_reducible assumption) | assumption)) (Nat.le_trans (Nat.mul_le_mul_right _ (of_decide_eq_true (by first | (with_reducible assumption) | assumption) : (l0_0.length : Int).toNat ≤ 281474976710656)) (by omega)) (Below.refl _ _) (Nat.le_refl _) ?_; intro v591 w6 ho7 hb hg_ hnew_; clear hg_ hnew_; (first | rw [← Ny590.out] at ho7 | (simp only [Int.reduceToNat] at ho7; rw [← Ny590.out] at ho7)); have n0_ := Aside0.mk (Kd.R_lower ho7 (below_size (by repeat (first | (with_reducible first | exact HB.out | apply below_alloc | apply pw_below_drewN | apply below_drew1 | refine below_set ?_ GE589.out) | exact HB.out)))); have n1_ := Aside0.mk (blk_below (g := gb589) (o := .cells #[.slice A0_0 l0_0.length c0_0, .int .i64 a0_1] 28 (0, 0)) (by (with_reducible repeat (first | refine blk_drewN ?_ _ | refine blk_drew ?_ | refine blk_alloc ?_ _)); exact BK589.out) hb); have n2_ := Aside0.mk (below_step (by repeat (first | (with_reducible first | exact HB.out | apply below_alloc | apply pw_below_drewN | apply below_drew1 | refine below_set ?_ GE589.out) | exact HB.out)) hb); clear BK589; clear HB; have HO592 := n0_; have BK589 := n1_; have HB := n2_; clear n0_ n1_ n2_; clear hb ho7))
      go_loopg [4] k (fun kq v4 w' => ∃ (x3_1 : List Bool) (x4_1 : Int), v4 = .int .i64 x4_1 ∧ Aside0 (seedcornref11_Targets.l0 kq x3_1 x4_1 l0_0 a0_1 = some r) ∧ Aside0 (kq ≤ k) ∧ Aside0 (Kd.R Kd.bool 4 w' w.heap.size (fun _ => True) v591 x3_1) ∧ Aside0 (w'.heap[gb589]? = some (.cells #[(.slice A0_0 l0_0.length c0_0), .int .i64 a0_1] 28 (0, 0))) ∧ Aside0 (Below w.heap.size w w'))
      case atStart => exact ⟨(y590), (0), (by first | rfl | (simp; done) | (simp [*]; done)), H', ⟨Nat.le_refl _⟩, ⟨by (with_reducible repeat (first | apply Kd.R_alloc | apply Kd.R_drewN | apply Kd.R_drew)); exact HO592.out⟩, ⟨by (with_reducible repeat (first | refine blk_drewN ?_ _ | refine blk_drew ?_ | refine blk_alloc ?_ _)); exact BK589.out⟩, ⟨by repeat (first | (with_reducible first | exact HB.out | apply below_alloc | apply pw_below_drewN | apply below_drew1 | refine below_set ?_ GE589.out) | exact HB.out)⟩⟩
      case round =>
        clear H'
        try clear c2
        try clear c2b0
        try clear c2b1
        try clear p2
        try clear c3
        try clear c3b0
        try clear c3b1
        try clear c5
        try clear hcz5_0
        try clear hcz5_1
        try clear hfz5_0
        try clear hfz5_1
        obtain ⟨x3_1, x4_1, rfl, HA, HK1, HO_3, BK589, HB⟩ := hrel
        cases gk with
        | zero => exact absurd HA.out (by simp [seedcornref11_Targets.l0])
        | succ k1 =>
          have H := HA.out
          clear HA
          simp only [seedcornref11_Targets.l0] at H
          by_cases c8 : x4_1 < (l0_0.length : Int)
          · rw [if_pos c8] at H
            have c8b0 : decide (x4_1 < (l0_0.length : Int)) = true := decide_eq_true c8
            clear c8
            by_cases c9 : 0 ≤ x4_1
            · rw [if_pos c9] at H
              have c9b0 : decide (0 ≤ x4_1) = true := decide_eq_true c9
              clear c9
              replace H := Option.bind_eq_some_iff.mp H
              obtain ⟨⟨t594, t595⟩, A100, H⟩ := H
              replace H : (if t595 = true then (if t594 < (l0_0.length : Int) then (if 0 ≤ t594 then (if t594 < (x3_1.length : Int) then (seedcornref11_Targets.l0 k1 (x3_1.set (t594 : Int).toNat true) (wrap64 (x4_1 + 1)) l0_0 a0_1) else (none)) else (none)) else (seedcornref11_Targets.l0 k1 x3_1 (wrap64 (x4_1 + 1)) l0_0 a0_1)) else (seedcornref11_Targets.l0 k1 x3_1 (wrap64 (x4_1 + 1)) l0_0 a0_1)) = some r := H
              have A10 := Aside0.mk A100
              clear A100
              by_cases c11 : t595 = true
              · subst c11
                have H1 : (if t594 < (l0_0.length : Int) then (if 0 ≤ t594 then (if t594 < (x3_1.length : Int) then (seedcornref11_Targets.l0 k1 (x3_1.set (t594 : Int).toNat true) (wrap64 (x4_1 + 1)) l0_0 a0_1) else (none)) else (none)) else (seedcornref11_Targets.l0 k1 x3_1 (wrap64 (x4_1 + 1)) l0_0 a0_1)) = some r := by rw [if_pos rfl] at H; exact H
                clear H
                have H := H1
                clear H1
                by_cases c12 : t594 < (l0_0.length : Int)
                · rw [if_pos c12] at H
                  have c12b0 : decide (t594 < (l0_0.length : Int)) = true := decide_eq_true c12
                  clear c12
                  by_cases c13 : 0 ≤ t594
                  · rw [if_pos c13] at H
                    have c13b0 : decide (0 ≤ t594) = true := decide_eq_true c13
                    clear c13
                    by_cases c14 : t594 < (x3_1.length : Int)
                    · rw [if_pos c14] at H
                      have c14b0 : decide (t594 < (x3_1.length : Int)) = true := decide_eq_true c14
                      clear c14
                      obtain ⟨y596, hy596⟩ : ∃ y_ : List Bool, y_ = (x3_1.set (t594 : Int).toNat true) := ⟨_, rfl⟩
                      replace H : (seedcornref11_Targets.l0 k1 y596 (wrap64 (x4_1 + 1)) l0_0 a0_1) = some r := by first | (rw [hy596]; with_reducible exact H) | (have H2_ := (Option.bind_some _ _).symm.trans H; rw [hy596]; with_reducible exact H2_) | (have H2_ := (Option.bind_some _ _).symm.trans H; with_reducible exact H2_) | with_reducible exact H | (rw [hy596]; exact H) | exact H
                      have Ny596 := Aside0.mk hy596
                      clear hy596
                      have H' := Aside0.mk H
                      clear H
                      have hcz16_0 : wr.cell? ⟨gb589, 0, none⟩ = some (.slice A0_0 l0_0.length c0_0) := (blk_cell BK589.out 0).trans rfl
                      have hcz16_1 : wr.cell? ⟨gb589, 1, none⟩ = some (.int .i64 a0_1) := (blk_cell BK589.out 1).trans rfl
                      have hfz16_0 := blk_frozen BK589.out 0
                      have hfz16_1 := blk_frozen BK589.out 1
                      have p593 : 0 ≤ (x4_1 : Int) := of_decide_eq_true (by first | (with_reducible assumption) | assumption)
                      have q593 : x4_1 < (l0_0.length : Int) := of_decide_eq_true (by first | (with_reducible assumption) | assumption)
                      obtain ⟨ad593, e593, hx593_0⟩ := Kd.at_int HR0_0.out x4_1 p593 q593
                      cases e593
                      replace hx593_0 := (HB.out.cell (World.block_lt_of_cell? w _ hx593_0)).trans hx593_0
                      replace p593 := eq_true p593
                      replace q593 := eq_true q593
                      go_wp2_with (first | ((with_reducible refine gate_callee (f := 88) rfl ?_); refine goesL_ (some 26) rfl rfl Tryd.func88 (by kernel_rfl) rfl #[.int .u32 (rd l0_0 x4_1)] rfl (by (try simp only [List.map_toArray, List.map_cons, List.map_nil]); first | done | rfl | (simp only [List.length_drop, List.length_take]; rfl)) ?_; (with_reducible refine (seedcornref11_Jump.calls (rd l0_0 x4_1) t594 true _ A10.out).mono ?_); rintro e w17 ⟨rfl, hb⟩; refine ⟨_, rfl, ?_⟩; have n0_ := Aside0.mk (Kd.R_below (by (with_reducible repeat (first | apply Kd.R_alloc | apply Kd.R_drewN | apply Kd.R_drew)); exact HO_3.out) hb); have n1_ := Aside0.mk (blk_below (g := gb589) (o := .cells #[.slice (some ad593) l0_0.length c0_0, .int .i64 a0_1] 28 (0, 0)) (by (with_reducible repeat (first | refine blk_drewN ?_ _ | refine blk_drew ?_ | refine blk_alloc ?_ _)); exact BK589.out) hb); have n2_ := Aside0.mk (below_step (by repeat (first | (with_reducible first | exact HB.out | apply below_alloc | apply pw_below_drewN | apply below_drew1 | refine below_set ?_ GE589.out) | exact HB.out)) hb); clear HO_3; clear BK589; clear HB; have HO_3 := n0_; have BK589 := n1_; have HB := n2_; clear n0_ n1_ n2_; (try clear hb); (try clear hb2); (try clear hk); (try clear hi); have hcz18_0 : w17.cell? ⟨gb589, 0, none⟩ = some (.slice (some ad593) l0_0.length c0_0) := (blk_cell BK589.out 0).trans rfl; have hcz18_1 : w17.cell? ⟨gb589, 1, none⟩ = some (.int .i64 a0_1) := (blk_cell BK589.out 1).trans rfl; have hfz18_0 := blk_frozen BK589.out 0; have hfz18_1 := blk_frozen BK589.out 1; have p15 : 0 ≤ (t594 : Int) := of_decide_eq_true (by first | (with_reducible assumption) | assumption); have q15 : (t594 : Int) < ((x3_1.length : Int) : Int) := of_decide_eq_true (by first | (with_reducible assumption) | assumption); obtain ⟨go15, co15, eo15, gb15, gl15, cl15, HG15⟩ := Kd.R_form HO_3.out (by omega); (first | cases eo15 | (injection eo15 with ea_ en_ ec_; (first | subst ea_ | (injection ea_ with ea_; subst ea_)); subst ec_; clear en_)); have GB15 := Aside0.mk gb15; have GG15 := Aside0.mk HG15; clear gb15 gl15 HG15; obtain ⟨hx15_0, hf15_0⟩ := Kd.R_celln false HO_3.out (t594 : Int) p15 q15; replace p15 := eq_true p15; replace q15 := eq_true q15; obtain ⟨hy19_, hz19_⟩ := Kd.R_celln false HO_3.out (t594 : Int) (of_decide_eq_true (by first | (with_reducible assumption) | assumption)) (of_decide_eq_true (by first | (with_reducible assumption) | assumption)); have HP19 := Kd.R_putg HO_3.out (t594 : Int) true) | ((with_reducible refine gate_store (t := 4) (p := 39) rfl ?_); refine store_event (t := 4) (p := 39) (v := ?vo_w20) (w1 := (w17.setCell ⟨go15, (t594 : Int).toNat, none⟩ (.bool true))) ?hg ?ho ?hn ?hr ?_; (case ho => rfl); (case hg => rfl); (case hn => rfl); (case hr => first | (go_simp; done) | (go_simp; rfl)); intro w20 hw; have hg : w17.grownBy w20 (some go15) := (by rw [hw]; exact HP19.2); have hp_ : Kd.R Kd.bool 4 w20 w.heap.size (fun _ => True) (.slice (some ⟨go15, 0, none⟩) x3_1.length co15) y596 := (by rw [hw, Ny596.out]; exact HP19.1); clear HP19; have n0_ := Aside0.mk (hp_); have n1_ := Aside0.mk (blk_grown (g := gb589) (o := .cells #[.slice (some ad593) l0_0.length c0_0, .int .i64 a0_1] 28 (0, 0)) (by (with_reducible repeat (first | refine blk_drewN ?_ _ | refine blk_drew ?_ | refine blk_alloc ?_ _)); exact BK589.out) hg (Kd.R_ne HO_3.out BK589.out (by decide))); have n2_ := Aside0.mk ((by rw [hw]; exact below_set (HB.out) GB15.out : Below w.heap.size w w20)); clear HO_3; clear BK589; clear HB; have HO_3 := n0_; have BK589 := n1_; have HB := n2_; clear n0_ n1_ n2_; clear hg hw hp_))
                      go_roundg k1
                      case measure => have := HK1.out; omega
                      case rel => exact ⟨(y596), (wrap64 (x4_1 + 1)), (by first | rfl | (simp; done) | (simp [*]; done)), H', ⟨by have := HK1.out; omega⟩, ⟨by (with_reducible repeat (first | apply Kd.R_alloc | apply Kd.R_drewN | apply Kd.R_drew)); exact HO_3.out⟩, ⟨by (with_reducible repeat (first | refine blk_drewN ?_ _ | refine blk_drew ?_ | refine blk_alloc ?_ _)); exact BK589.out⟩, ⟨by repeat (first | (with_reducible first | exact HB.out | apply below_alloc | apply pw_below_drewN | apply below_drew1 | refine below_set ?_ GE589.out) | exact HB.out)⟩⟩
                    · rw [if_neg c14] at H
                      exact absurd H (by simp)
                  · rw [if_neg c13] at H
                    exact absurd H (by simp)
                · rw [if_neg c12] at H
                  have c12b0 : decide (t594 < (l0_0.length : Int)) = false := decide_eq_false c12
                  clear c12
                  have H' := Aside0.mk H
                  clear H
                  have hcz21_0 : wr.cell? ⟨gb589, 0, none⟩ = some (.slice A0_0 l0_0.length c0_0) := (blk_cell BK589.out 0).trans rfl
                  have hcz21_1 : wr.cell? ⟨gb589, 1, none⟩ = some (.int .i64 a0_1) := (blk_cell BK589.out 1).trans rfl
                  have hfz21_0 := blk_frozen BK589.out 0
                  have hfz21_1 := blk_frozen BK589.out 1
                  have p593 : 0 ≤ (x4_1 : Int) := of_decide_eq_true (by first | (with_reducible assumption) | assumption)
                  have q593 : x4_1 < (l0_0.length : Int) := of_decide_eq_true (by first | (with_reducible assumption) | assumption)
                  obtain ⟨ad593, e593, hx593_0⟩ := Kd.at_int HR0_0.out x4_1 p593 q593
                  cases e593
                  replace hx593_0 := (HB.out.cell (World.block_lt_of_cell? w _ hx593_0)).trans hx593_0
                  replace p593 := eq_true p593
                  replace q593 := eq_true q593
                  go_wp2_with (first | ((with_reducible refine gate_callee (f := 88) rfl ?_); refine goesL_ (some 26) rfl rfl Tryd.func88 (by kernel_rfl) rfl #[.int .u32 (rd l0_0 x4_1)] rfl (by (try simp only [List.map_toArray, List.map_cons, List.map_nil]); first | done | rfl | (simp only [List.length_drop, List.length_take]; rfl)) ?_; (with_reducible refine (seedcornref11_Jump.calls (rd l0_0 x4_1) t594 true _ A10.out).mono ?_); rintro e w22 ⟨rfl, hb⟩; refine ⟨_, rfl, ?_⟩; have n0_ := Aside0.mk (Kd.R_below (by (with_reducible repeat (first | apply Kd.R_alloc | apply Kd.R_drewN | apply Kd.R_drew)); exact HO_3.out) hb); have n1_ := Aside0.mk (blk_below (g := gb589) (o := .cells #[.slice (some ad593) l0_0.length c0_0, .int .i64 a0_1] 28 (0, 0)) (by (with_reducible repeat (first | refine blk_drewN ?_ _ | refine blk_drew ?_ | refine blk_alloc ?_ _)); exact BK589.out) hb); have n2_ := Aside0.mk (below_step (by repeat (first | (with_reducible first | exact HB.out | apply below_alloc | apply pw_below_drewN | apply below_drew1 | refine below_set ?_ GE589.out) | exact HB.out)) hb); clear HO_3; clear BK589; clear HB; have HO_3 := n0_; have BK589 := n1_; have HB := n2_; clear n0_ n1_ n2_; (try clear hb); (try clear hb2); (try clear hk); (try clear hi); have hcz23_0 : w22.cell? ⟨gb589, 0, none⟩ = some (.slice (some ad593) l0_0.length c0_0) := (blk_cell BK589.out 0).trans rfl; have hcz23_1 : w22.cell? ⟨gb589, 1, none⟩ = some (.int .i64 a0_1) := (blk_cell BK589.out 1).trans rfl; have hfz23_0 := blk_frozen BK589.out 0; have hfz23_1 := blk_frozen BK589.out 1))
                  go_roundg k1
                  case measure => have := HK1.out; omega
                  case rel => exact ⟨(x3_1), (wrap64 (x4_1 + 1)), (by first | rfl | (simp; done) | (simp [*]; done)), H', ⟨by have := HK1.out; omega⟩, ⟨by (with_reducible repeat (first | apply Kd.R_alloc | apply Kd.R_drewN | apply Kd.R_drew)); exact HO_3.out⟩, ⟨by (with_reducible repeat (first | refine blk_drewN ?_ _ | refine blk_drew ?_ | refine blk_alloc ?_ _)); exact BK589.out⟩, ⟨by repeat (first | (with_reducible first | exact HB.out | apply below_alloc | apply pw_below_drewN | apply below_drew1 | refine below_set ?_ GE589.out) | exact HB.out)⟩⟩
              · replace c11 := Bool.eq_false_iff.mpr c11
                subst c11
                have H1 : (seedcornref11_Targets.l0 k1 x3_1 (wrap64 (x4_1 + 1)) l0_0 a0_1) = some r := by rw [if_neg (show ¬ (false = true) by decide)] at H; exact H
                clear H
                have H := H1
                clear H1
                have H' := Aside0.mk H
                clear H
                have hcz24_0 : wr.cell? ⟨gb589, 0, none⟩ = some (.slice A0_0 l0_0.length c0_0) := (blk_cell BK589.out 0).trans rfl
                have hcz24_1 : wr.cell? ⟨gb589, 1, none⟩ = some (.int .i64 a0_1) := (blk_cell BK589.out 1).trans rfl
                have hfz24_0 := blk_frozen BK589.out 0
                have hfz24_1 := blk_frozen BK589.out 1
                have p593 : 0 ≤ (x4_1 : Int) := of_decide_eq_true (by first | (with_reducible assumption) | assumption)
                have q593 : x4_1 < (l0_0.length : Int) := of_decide_eq_true (by first | (with_reducible assumption) | assumption)
                obtain ⟨ad593, e593, hx593_0⟩ := Kd.at_int HR0_0.out x4_1 p593 q593
                cases e593
                replace hx593_0 := (HB.out.cell (World.block_lt_of_cell? w _ hx593_0)).trans hx593_0
                replace p593 := eq_true p593
                replace q593 := eq_true q593
                go_wp2_with (first | ((with_reducible refine gate_callee (f := 88) rfl ?_); refine goesL_ (some 26) rfl rfl Tryd.func88 (by kernel_rfl) rfl #[.int .u32 (rd l0_0 x4_1)] rfl (by (try simp only [List.map_toArray, List.map_cons, List.map_nil]); first | done | rfl | (simp only [List.length_drop, List.length_take]; rfl)) ?_; (with_reducible refine (seedcornref11_Jump.calls (rd l0_0 x4_1) t594 false _ A10.out).mono ?_); rintro e w25 ⟨rfl, hb⟩; refine ⟨_, rfl, ?_⟩; have n0_ := Aside0.mk (Kd.R_below (by (with_reducible repeat (first | apply Kd.R_alloc | apply Kd.R_drewN | apply Kd.R_drew)); exact HO_3.out) hb); have n1_ := Aside0.mk (blk_below (g := gb589) (o := .cells #[.slice (some ad593) l0_0.length c0_0, .int .i64 a0_1] 28 (0, 0)) (by (with_reducible repeat (first | refine blk_drewN ?_ _ | refine blk_drew ?_ | refine blk_alloc ?_ _)); exact BK589.out) hb); have n2_ := Aside0.mk (below_step (by repeat (first | (with_reducible first | exact HB.out | apply below_alloc | apply pw_below_drewN | apply below_drew1 | refine below_set ?_ GE589.out) | exact HB.out)) hb); clear HO_3; clear BK589; clear HB; have HO_3 := n0_; have BK589 := n1_; have HB := n2_; clear n0_ n1_ n2_; (try clear hb); (try clear hb2); (try clear hk); (try clear hi)))
                go_roundg k1
                case measure => have := HK1.out; omega
                case rel => exact ⟨(x3_1), (wrap64 (x4_1 + 1)), (by first | rfl | (simp; done) | (simp [*]; done)), H', ⟨by have := HK1.out; omega⟩, ⟨by (with_reducible repeat (first | apply Kd.R_alloc | apply Kd.R_drewN | apply Kd.R_drew)); exact HO_3.out⟩, ⟨by (with_reducible repeat (first | refine blk_drewN ?_ _ | refine blk_drew ?_ | refine blk_alloc ?_ _)); exact BK589.out⟩, ⟨by repeat (first | (with_reducible first | exact HB.out | apply below_alloc | apply pw_below_drewN | apply below_drew1 | refine below_set ?_ GE589.out) | exact HB.out)⟩⟩
            · rw [if_neg c9] at H
              exact absurd H (by simp)
          · rw [if_neg c8] at H
            have c8b0 : decide (x4_1 < (l0_0.length : Int)) = false := decide_eq_false c8
            clear c8
            have H' := Aside0.mk H
            clear H
            have hcz26_0 : wr.cell? ⟨gb589, 0, none⟩ = some (.slice A0_0 l0_0.length c0_0) := (blk_cell BK589.out 0).trans rfl
            have hcz26_1 : wr.cell? ⟨gb589, 1, none⟩ = some (.int .i64 a0_1) := (blk_cell BK589.out 1).trans rfl
            have hfz26_0 := blk_frozen BK589.out 0
            have hfz26_1 := blk_frozen BK589.out 1
            go_wp2
            go_loopg [7, 8] k1 (fun kq v7 v8 w' => ∃ (x7_2 : List Int) (x8_2 : Int), v8 = .int .i64 x8_2 ∧ Aside0 (seedcornref11_Targets.l1 kq x3_1 x7_2 x8_2 = some r) ∧ Aside0 (kq ≤ k1) ∧ Aside0 (Kd.R Kd.bool 4 w' w.heap.size (fun _ => True) v591 x3_1) ∧ Aside0 (Kd.R (Kd.int .i64) 3 w' w.heap.size (fun _ => True) v7 x7_2) ∧ Aside0 (w'.heap[gb589]? = some (.cells #[(.slice A0_0 l0_0.length c0_0), .int .i64 a0_1] 28 (0, 0))) ∧ Aside0 (Below w.heap.size w w'))
            case atStart => exact ⟨(([] : List Int)), (0), (by first | rfl | (simp; done) | (simp [*]; done)), H', ⟨Nat.le_refl _⟩, ⟨by (with_reducible repeat (first | apply Kd.R_alloc | apply Kd.R_drewN | apply Kd.R_drew)); exact HO_3.out⟩, ⟨by first | exact Kd.R_nil _ _ _ _ _ | exact Kd.N_nil _ _ _ _ _ | exact Kd.V_nil _ _ _ _ _ | exact Kd.Q_nil _ _ _ _ _ | exact Kd.S_nil _ _ _ _ _⟩, ⟨by (with_reducible repeat (first | refine blk_drewN ?_ _ | refine blk_drew ?_ | refine blk_alloc ?_ _)); exact BK589.out⟩, ⟨by repeat (first | (with_reducible first | exact HB.out | apply below_alloc | apply pw_below_drewN | apply below_drew1 | refine below_set ?_ GE589.out) | exact HB.out)⟩⟩
            case round =>
              clear H'
              try clear c1
              try clear p1
              try clear q1
              try clear hx1
              try clear hf1
              try clear c2
              try clear c2b0
              try clear c2b1
              try clear p2
              try clear c3
              try clear c3b0
              try clear c3b1
              try clear c5
              try clear p5
              try clear q5
              try clear hx5
              try clear p6
              try clear c8
              try clear c8b0
              try clear c9
              try clear c9b0
              try clear c11
              try clear c12
              try clear c12b0
              try clear c13
              try clear c13b0
              try clear c14
              try clear c14b0
              try clear p15
              try clear q15
              try clear hx15
              try clear hf15
              try clear hcz16_0
              try clear hcz16_1
              try clear hcz18_0
              try clear hcz18_1
              try clear hcz21_0
              try clear hcz21_1
              try clear hcz23_0
              try clear hcz23_1
              try clear hcz24_0
              try clear hcz24_1
              try clear hcz26_0
              try clear hcz26_1
              try clear hcz5_0
              try clear hcz5_1
              try clear hfz16_0
              try clear hfz16_1
              try clear hfz18_0
              try clear hfz18_1
              try clear hfz21_0
              try clear hfz21_1
              try clear hfz23_0
              try clear hfz23_1
              try clear hfz24_0
              try clear hfz24_1
              try clear hfz26_0
              try clear hfz26_1
              try clear hfz5_0
              try clear hfz5_1
              try clear hx15_0
              try clear hx593_0
              try clear p15
              try clear p2
              try clear p593
              try clear q15
              try clear q593
              obtain ⟨x7_2, x8_2, rfl, HA, HK2, HO_3, HO_7, BK589, HB⟩ := hrel
              cases gk with
              | zero => exact absurd HA.out (by simp [seedcornref11_Targets.l1])
              | succ k2 =>
                have H := HA.out
                clear HA
                simp only [seedcornref11_Targets.l1] at H
                by_cases c27 : x8_2 < (x3_1.length : Int)
                · rw [if_pos c27] at H
                  have c27b0 : decide (x8_2 < (x3_1.length : Int)) = true := decide_eq_true c27
                  clear c27
                  by_cases c28 : 0 ≤ x8_2
                  · rw [if_pos c28] at H
                    have c28b0 : decide (0 ≤ x8_2) = true := decide_eq_true c28
                    clear c28
                    obtain ⟨bq29, hbq29⟩ : ∃ b_ : Bool, b_ = (rdOf false x3_1 x8_2) := ⟨_, rfl⟩
                    replace H : (if bq29 = true then (if x7_2.length < 17592186044416 then (seedcornref11_Targets.l1 k2 x3_1 (x7_2 ++ [x8_2]) (wrap64 (x8_2 + 1))) else (none)) else (seedcornref11_Targets.l1 k2 x3_1 x7_2 (wrap64 (x8_2 + 1)))) = some r := by rw [← hbq29] at H; exact H
                    have Nbq29 := Aside0.mk hbq29
                    clear hbq29
                    by_cases c30 : bq29 = true
                    · subst c30
                      have H1 : (if x7_2.length < 17592186044416 then (seedcornref11_Targets.l1 k2 x3_1 (x7_2 ++ [x8_2]) (wrap64 (x8_2 + 1))) else (none)) = some r := by rw [if_pos rfl] at H; exact H
                      clear H
                      have H := H1
                      clear H1
                      by_cases c31 : x7_2.length < 17592186044416
                      · rw [if_pos c31] at H
                        have LMc31 := Aside0.mk c31
                        clear c31
                        obtain ⟨y598, hy598⟩ : ∃ y_ : List Int, y_ = (x7_2 ++ [x8_2]) := ⟨_, rfl⟩
                        replace H : (seedcornref11_Targets.l1 k2 x3_1 y598 (wrap64 (x8_2 + 1))) = some r := by first | (rw [hy598]; with_reducible exact H) | (have H2_ := (Option.bind_some _ _).symm.trans H; rw [hy598]; with_reducible exact H2_) | (have H2_ := (Option.bind_some _ _).symm.trans H; with_reducible exact H2_) | with_reducible exact H | (rw [hy598]; exact H) | exact H
                        have Ny598 := Aside0.mk hy598
                        clear hy598
                        have H' := Aside0.mk H
                        clear H
                        obtain ⟨Ao32, co32, eo32⟩ := Kd.R_slice HO_3.out
                        subst eo32
                        have p597 : 0 ≤ (x8_2 : Int) := of_decide_eq_true (by first | (with_reducible assumption) | assumption)
                        have q597 : x8_2 < (x3_1.length : Int) := of_decide_eq_true (by first | (with_reducible assumption) | assumption)
                        obtain ⟨ad597, e597, hx597_0⟩ := Kd.at_bool (Kd.R_reads' HO_3.out).2.2 x8_2 p597 q597
                        (try rw [← Nbq29.out] at hx597_0)
                        cases e597
                        replace p597 := eq_true p597
                        replace q597 := eq_true q597
                        go_wp2_with (first | ((with_reducible refine gate_builtin (b := .append) (xs := #[.tmp 50, .tmp 52]) rfl ?_); (try (refine gate_guard (by rfl) ?_; dsimp only)); at_builtin; refine Kd.R_append (Kd.int .i64) (w0 := w) w.heap.size rfl (.tmp 50) (.tmp 52) 42 3 (.int .i64 0) 8 rfl Tryd.underlying42 info3 rfl (by decide) (by omega) u7 x7_2 x8_2 [.int .i64 x8_2] (fun _ => True) (fun _ => False) rfl rfl ?aP (fun _ hk => hk.elim) ?aF ?aO ?aB ?aS ?aL ?_; (case aP => exact rfl); (case aB => exact (by repeat (first | (with_reducible first | exact HB.out | apply below_alloc | apply pw_below_drewN | apply below_drew1 | refine below_set ?_ GE589.out) | exact HB.out))); (case aF => exact (fun _ _ => trivial)); (case aO => exact (by (with_reducible repeat (first | apply Kd.R_alloc | apply Kd.R_drewN | apply Kd.R_drew)); exact HO_7.out)); (case aS => exact (below_size (by repeat (first | (with_reducible first | exact HB.out | apply below_alloc | apply pw_below_drewN | apply below_drew1 | refine below_set ?_ GE589.out) | exact HB.out)))); (case aL => have := LMc31.out; omega); intro v599 w33 ho hb hg hat; rw [← Ny598.out] at ho; have n0_ := Aside0.mk (Kd.R_over' (by (with_reducible repeat (first | apply Kd.R_alloc | apply Kd.R_drewN | apply Kd.R_drew)); exact HO_3.out) (Kd.R_typed (by (with_reducible repeat (first | apply Kd.R_alloc | apply Kd.R_drewN | apply Kd.R_drew)); exact HO_7.out)) (by decide) hg); have n1_ := Aside0.mk (blk_grown (g := gb589) (o := .cells #[.slice A0_0 l0_0.length c0_0, .int .i64 a0_1] 28 (0, 0)) (by (with_reducible repeat (first | refine blk_drewN ?_ _ | refine blk_drew ?_ | refine blk_alloc ?_ _)); exact BK589.out) hg (Kd.R_ne HO_7.out BK589.out (by decide))); have n2_ := Aside0.mk (hb); have n3_ := Aside0.mk (ho); clear HO_3; clear BK589; clear HB; clear HO_7; have HO_3 := n0_; have BK589 := n1_; have HB := n2_; have HO600 := n3_; clear n0_ n1_ n2_ n3_; clear ho hb hg hat))
                        go_roundg k2
                        case measure => have := HK1.out; have := HK2.out; omega
                        case rel => exact ⟨(y598), (wrap64 (x8_2 + 1)), (by first | rfl | (simp; done) | (simp [*]; done)), H', ⟨by have := HK1.out; have := HK2.out; omega⟩, ⟨by (with_reducible repeat (first | apply Kd.R_alloc | apply Kd.R_drewN | apply Kd.R_drew)); exact HO_3.out⟩, ⟨by (with_reducible repeat (first | apply Kd.R_alloc | apply Kd.R_drewN | apply Kd.R_drew)); exact HO600.out⟩, ⟨by (with_reducible repeat (first | refine blk_drewN ?_ _ | refine blk_drew ?_ | refine blk_alloc ?_ _)); exact BK589.out⟩, ⟨by repeat (first | (with_reducible first | exact HB.out | apply below_alloc | apply pw_below_drewN | apply below_drew1 | refine below_set ?_ GE589.out) | exact HB.out)⟩⟩
                      · rw [if_neg c31] at H
                        exact absurd H (by simp)
                    · replace c30 := Bool.eq_false_iff.mpr c30
                      subst c30
                      have H1 : (seedcornref11_Targets.l1 k2 x3_1 x7_2 (wrap64 (x8_2 + 1))) = some r := by rw [if_neg (show ¬ (false = true) by decide)] at H; exact H
                      clear H
                      have H := H1
                      clear H1
                      have H' := Aside0.mk H
                      clear H
                      obtain ⟨Ao34, co34, eo34⟩ := Kd.R_slice HO_3.out
                      subst eo34
                      have p597 : 0 ≤ (x8_2 : Int) := of_decide_eq_true (by first | (with_reducible assumption) | assumption)
                      have q597 : x8_2 < (x3_1.length : Int) := of_decide_eq_true (by first | (with_reducible assumption) | assumption)
                      obtain ⟨ad597, e597, hx597_0⟩ := Kd.at_bool (Kd.R_reads' HO_3.out).2.2 x8_2 p597 q597
                      (try rw [← Nbq29.out] at hx597_0)
                      cases e597
                      replace p597 := eq_true p597
                      replace q597 := eq_true q597
                      go_wp2
                      go_roundg k2
                      case measure => have := HK1.out; have := HK2.out; omega
                      case rel => exact ⟨(x7_2), (wrap64 (x8_2 + 1)), (by first | rfl | (simp; done) | (simp [*]; done)), H', ⟨by have := HK1.out; have := HK2.out; omega⟩, ⟨by (with_reducible repeat (first | apply Kd.R_alloc | apply Kd.R_drewN | apply Kd.R_drew)); exact HO_3.out⟩, ⟨by (with_reducible repeat (first | apply Kd.R_alloc | apply Kd.R_drewN | apply Kd.R_drew)); exact HO_7.out⟩, ⟨by (with_reducible repeat (first | refine blk_drewN ?_ _ | refine blk_drew ?_ | refine blk_alloc ?_ _)); exact BK589.out⟩, ⟨by repeat (first | (with_reducible first | exact HB.out | apply below_alloc | apply pw_below_drewN | apply below_drew1 | refine below_set ?_ GE589.out) | exact HB.out)⟩⟩
                  · rw [if_neg c28] at H
                    exact absurd H (by simp)
                · rw [if_neg c27] at H
                  have c27b0 : decide (x8_2 < (x3_1.length : Int)) = false := decide_eq_false c27
                  clear c27
                  obtain rfl := Option.some.inj H
                  obtain ⟨Ao35, co35, eo35⟩ := Kd.R_slice HO_3.out
                  subst eo35
                  go_wp2
                  go_ret
                  exact ⟨_, by first | rfl | (simp [errW_none, errW_some] <;> rfl) | (simp [*, errW_none, errW_some] <;> rfl), by (with_reducible repeat (first | apply Kd.R_alloc | apply Kd.R_drewN | apply Kd.R_drew)); exact HO_7.out, by repeat (first | (with_reducible first | exact HB.out | apply below_alloc | apply pw_below_drewN | apply below_drew1 | refine below_set ?_ GE589.out) | exact HB.out)⟩
    · rw [if_neg c3] at H
      exact absurd H (by simp)
  · rw [if_neg c2] at H
    exact absurd H (by simp)
end Go.Proofs.YtdhkmdgieflioaaDoor.F
namespace Go.Proofs.YtdhkmdgieflioaaDoor.F
open Go.RowKit Go.Proofs.YtdhkmdgieflioaaDoorW.PrintWords Go.Proofs.YtdhkmdgieflioaaDoorW.PrintLast Go.Proofs.YtdhkmdgieflioaaDoorW.PrintMore
set_option linter.unusedVariables false
set_option linter.unusedSimpArgs false
theorem jump11_f (v : Int) (h0 : 0 ≤ v) (h1 : v < 4294967296) : seedcornref11_Jump.f v = some (if jumpB v = true then (rcB v, true) else (0, false)) := by
  have hd : seedcornref07_Decode.f v = some (if decB v = true then (opB v, raB v, rbB v, rcB v, 0) else (0, 0, 0, 0, 7)) := by
    unfold seedcornref07_Decode.f
    rw [if_pos ⟨h0, h1⟩, refRight_f]
    simp only [Option.bind_some]
    unfold decB opB raB rbB rcB
    split <;> rfl
  unfold seedcornref11_Jump.f
  rw [hd]
  simp only [Option.bind_some]
  cases hdd : decB v with
  | false =>
    have hj : jumpB v = false := by unfold jumpB; rw [hdd]; rfl
    rw [hj]
    rfl
  | true =>
    simp only [if_true]
    by_cases hr : 18 ≤ opB v ∧ opB v ≤ 21
    · have hj : jumpB v = true := by unfold jumpB; rw [hdd, decide_eq_true hr]; rfl
      rw [hj, if_pos rfl, if_neg (by omega), if_neg (by omega)]
    · have hj : jumpB v = false := by unfold jumpB; rw [hdd, decide_eq_false hr]; rfl
      rw [hj]
      simp only [Bool.false_eq_true, if_false]
      by_cases h18 : opB v < 18
      · rw [if_pos h18]
      · rw [if_neg h18, if_pos (by omega)]
def isK (l : List Int) (k : Nat) : List Bool := (List.range l.length).map (fun i : Nat => tgtK l k (i : Int))
theorem isK_len (l : List Int) (k : Nat) : (isK l k).length = l.length := by unfold isK; simp
theorem isK_get (l : List Int) (k i : Nat) (h : i < (isK l k).length) : (isK l k)[i] = tgtK l k (i : Int) := by simp [isK]
theorem isK_zero (l : List Int) : isK l 0 = List.replicate l.length false := by
  unfold isK
  rw [tgtK_zero, List.map_const']
  simp
theorem isK_set (l : List Int) (k : Nat) (c : Nat) (hc : c < l.length) (h : tgtK l (k + 1) = fun i => tgtK l k i || ((c : Int) == i)) : (isK l k).set c true = isK l (k + 1) := by
  refine List.ext_getElem (by simp [isK]) (fun i h1 h2 => ?_)
  rw [List.getElem_set, isK_get, isK_get, h]
  by_cases e : c = i
  · subst e; simp
  · rw [if_neg e]
    have : ((c : Int) == (i : Int)) = false := beq_eq_false_iff_ne.2 (by omega)
    show tgtK l k (i : Int) = (tgtK l k (i : Int) || ((c : Int) == (i : Int)))
    rw [this, Bool.or_false]
theorem tgts_l1 (l : List Int) (d : Nat) (hl : l.length ≤ 1000) : ∀ (i : Nat), i + d = l.length → Ev (fun k => seedcornref11_Targets.l1 k (isK l l.length) (((List.range i).map (fun n : Nat => (n : Int))).filter (tgtB l)) (i : Int)) (tgts l) := by
  induction d with
  | zero =>
    intro i hi
    have e : i = l.length := by omega
    subst e
    refine Ev.step (f := fun _ => some (tgts l)) (fun k => ?_) (Ev.now _)
    simp only [seedcornref11_Targets.l1]
    rw [if_neg (by rw [isK_len]; omega)]
    rfl
  | succ d ih =>
    intro i hi
    have hw : wrap64 ((i : Int) + 1) = ((i + 1 : Nat) : Int) := by rw [wrapI (by omega) (by omega)]; omega
    have hrd : rdOf false (isK l l.length) (i : Int) = tgtB l (i : Int) := by
      have h1 : i < (isK l l.length).length := by rw [isK_len]; omega
      have h2 : rdOf false (isK l l.length) (i : Int) = (isK l l.length)[i] := by simp [rdOf, List.getD_eq_getElem?_getD, h1]
      rw [h2, isK_get, tgtK_all]
    have hr : (List.range (i + 1)).map (fun n : Nat => (n : Int)) = (List.range i).map (fun n : Nat => (n : Int)) ++ [(i : Int)] := by rw [List.range_succ, List.map_append]; rfl
    have hlen : ((((List.range i).map (fun n : Nat => (n : Int))).filter (tgtB l))).length ≤ 1000 := by
      refine Nat.le_trans (List.length_filter_le _ _) ?_
      simp
      omega
    have := ih (i + 1) (by omega)
    rw [hr, List.filter_append] at this
    refine Ev.step (f := fun k => seedcornref11_Targets.l1 k (isK l l.length) (((List.range i).map (fun n : Nat => (n : Int))).filter (tgtB l) ++ [(i : Int)].filter (tgtB l)) ((i + 1 : Nat) : Int)) (fun k => ?_) this
    simp only [seedcornref11_Targets.l1]
    rw [if_pos (by rw [isK_len]; omega), if_pos (by omega), hrd, hw]
    cases ht : tgtB l (i : Int) with
    | true => rw [if_pos rfl, if_pos (by omega)]; simp [ht]
    | false => rw [if_neg (by decide)]; simp [ht]
theorem tgts_l0 (l : List Int) (a : Int) (hok : okL l = true) (d : Nat) : ∀ (k0 : Nat), k0 + d = l.length → Ev (fun k => seedcornref11_Targets.l0 k (isK l k0) (k0 : Int) l a) (tgts l) := by
  have hl := okL_len hok
  induction d with
  | zero =>
    intro k0 hk
    have e : k0 = l.length := by omega
    subst e
    have := tgts_l1 l l.length hl 0 (by omega)
    refine Ev.step (f := fun k => seedcornref11_Targets.l1 k (isK l l.length) (((List.range 0).map (fun n : Nat => (n : Int))).filter (tgtB l)) ((0 : Nat) : Int)) (fun k => ?_) this
    simp only [seedcornref11_Targets.l0]
    rw [if_neg (by omega)]
    rfl
  | succ d ih =>
    intro k0 hk
    have hlt : k0 < l.length := by omega
    have hw : wrap64 ((k0 : Int) + 1) = ((k0 + 1 : Nat) : Int) := by rw [wrapI (by omega) (by omega)]; omega
    have hm := okL_mem hok _ (List.mem_of_getElem? (rd_at l k0 hlt))
    have hno := tgtK_no l k0 hlt
    have hyes := tgtK_yes l k0 hlt
    have hc : 0 ≤ rcB (rd l (k0 : Int)) := by unfold rcB; omega
    refine Ev.step (f := fun k => seedcornref11_Targets.l0 k (isK l (k0 + 1)) ((k0 + 1 : Nat) : Int) l a) (fun k => ?_) (ih (k0 + 1) (by omega))
    simp only [seedcornref11_Targets.l0]
    rw [if_pos (by omega), if_pos (by omega), jump11_f _ hm.1 hm.2, hw]
    simp only [Option.bind_some]
    cases hj : jumpB (rd l (k0 : Int)) with
    | false =>
      simp only [Bool.false_eq_true, if_false]
      rw [show isK l k0 = isK l (k0 + 1) by unfold isK; rw [hno (Or.inl hj)]]
    | true =>
      rw [if_pos rfl, if_pos rfl]
      by_cases hn : rcB (rd l (k0 : Int)) < (l.length : Int)
      · rw [if_pos hn, if_pos hc, if_pos (by rw [isK_len]; exact hn)]
        congr 1
        refine isK_set l k0 _ (by omega) ?_
        rw [hyes hj hn]
        funext i
        rw [Int.toNat_of_nonneg hc]
      · rw [if_neg hn]
        rw [show isK l k0 = isK l (k0 + 1) by unfold isK; rw [hno (Or.inr hn)]]
theorem tgts_ev (l : List Int) (a : Int) (hok : okL l = true) : Ev (fun k => seedcornref11_Targets.f k l a) (tgts l) := by
  have hl := okL_len hok
  have := tgts_l0 l a hok l.length 0 (by omega)
  rw [isK_zero] at this
  refine Ev.congr (fun k => ?_) this
  unfold seedcornref11_Targets.f
  rw [if_pos (by omega), if_pos (by omega)]
  rfl
end Go.Proofs.YtdhkmdgieflioaaDoor.F
namespace Go.Proofs.YtdhkmdgieflioaaDoor.F
open Go.RowKit Go.Proofs.YtdhkmdgieflioaaDoorW.PrintWords Go.Proofs.YtdhkmdgieflioaaDoorW.PrintLast Go.Proofs.YtdhkmdgieflioaaDoorW.PrintMore
attribute [local go_sem] max2_int min2_int max_two min_two max_three min_three max_four min_four
set_option linter.unusedVariables false
set_option linter.unusedSimpArgs false
def seedcornref11_number.f (k : Nat) (a0 : Int) : Option (ByteArray) := (seedcornref01_Text.f k ((a0) % 4294967296)).bind fun t611 => (some t611)
theorem seedcornref11_number.mono : ∀ a0 k, LeO (seedcornref11_number.f k a0) (seedcornref11_number.f (k + 1) a0) := by
  intro a0 k
  unfold seedcornref11_number.f
  repeat' first
      | (with_reducible exact seedcornref01_Text.mono _ _)
      | (with_reducible exact LeO.refl _)
      | (with_reducible exact LeO.none _)
      | (with_reducible refine LeO.ite ?_ ?_)
      | (with_reducible refine LeO.bind ?_ (fun _ => ?_))
      | exact seedcornref01_Text.mono _ _
      | exact LeO.none _
      | refine LeO.ite ?_ ?_
      | refine LeO.bind ?_ (fun _ => ?_)
set_option maxHeartbeats 8000000 in
set_option maxRecDepth 100000 in
theorem seedcornref11_number.calls (k : Nat) (a0 : Int) (r : ByteArray) (w : World) (h : seedcornref11_number.f k a0 = some r) :
    Calls Tryd.prog 89 #[.int .i64 a0] w fun e w' => e = .returned (.string r) ∧ Below w.heap.size w w' := by
  have HB := Aside0.mk (Below.refl w.heap.size w)
  have H : ((seedcornref01_Text.f k ((a0) % 4294967296)).bind fun t611 => (some t611)) = some r := h
  clear h
  replace H := Option.bind_eq_some_iff.mp H
  obtain ⟨t611, A20, H⟩ := H
  replace H : (some t611) = some r := H
  have A2 := Aside0.mk A20
  clear A20
  obtain rfl := Option.some.inj H
  go_enter Tryd.func89, Tryd.ntmps89
  go_wp2_with (first | ((with_reducible refine gate_callee (f := 103) rfl ?_); refine goesL_ (some 5) rfl rfl Tryd.func103 (by kernel_rfl) rfl #[.int .u32 ((a0) % 4294967296)] rfl (by (try simp only [List.map_toArray, List.map_cons, List.map_nil]); first | done | rfl | (simp only [List.length_drop, List.length_take]; rfl)) ?_; (with_reducible refine (seedcornref01_Text.calls k ((a0) % 4294967296) t611 _ A2.out).mono ?_); rintro e w3 ⟨rfl, hb⟩; refine ⟨_, rfl, ?_⟩; have n0_ := Aside0.mk (below_step (by repeat (first | (with_reducible first | exact HB.out | apply below_alloc | apply pw_below_drewN | apply below_drew1) | exact HB.out)) hb); clear HB; have HB := n0_; clear n0_; (try clear hb); (try clear hb2); (try clear hk); (try clear hi)))
  go_ret
  exact ⟨by first | rfl | (simp [errW_none, errW_some] <;> rfl) | (simp [*, errW_none, errW_some] <;> rfl), by repeat (first | (with_reducible first | exact HB.out | apply below_alloc | apply pw_below_drewN | apply below_drew1) | exact HB.out)⟩
end Go.Proofs.YtdhkmdgieflioaaDoor.F
namespace Go.Proofs.YtdhkmdgieflioaaDoor.F
open Go.RowKit Go.Proofs.YtdhkmdgieflioaaDoorW.PrintWords Go.Proofs.YtdhkmdgieflioaaDoorW.PrintLast Go.Proofs.YtdhkmdgieflioaaDoorW.PrintMore
attribute [local go_sem] max2_int min2_int max_two min_two max_three min_three max_four min_four
set_option linter.unusedVariables false
set_option linter.unusedSimpArgs false
def seedcornref11_Line.j0 : Nat → Int → Bool → Int → Int → Int → Int → Option (ByteArray)
  | 0, _, _, _, _, _, _ => none
  | k + 1, x7, x31, x618000, x618001, x618002, x618003 => if x31 = true then ((seedcornref07_Text.f k x618000 x618001 x618002 x618003).bind fun t621 => (if 2 + t621.size ≤ 9223372036854775807 then (if ((⟨#[32, 32]⟩ : ByteArray) ++ t621).size + 1 ≤ 9223372036854775807 then (some (((⟨#[32, 32]⟩ : ByteArray) ++ t621) ++ (⟨#[10]⟩ : ByteArray))) else (none)) else (none))) else (if x618000 = 18 then ((seedcornref11_number.f k x7).bind fun t622 => (if 7 + t622.size ≤ 9223372036854775807 then (if ((⟨#[32, 32, 106, 109, 112, 32, 76]⟩ : ByteArray) ++ t622).size + 1 ≤ 9223372036854775807 then (some (((⟨#[32, 32, 106, 109, 112, 32, 76]⟩ : ByteArray) ++ t622) ++ (⟨#[10]⟩ : ByteArray))) else (none)) else (none))) else (if x618000 = 19 then ((seedcornref11_number.f k x618001).bind fun t623 => (if 6 + t623.size ≤ 9223372036854775807 then (if ((⟨#[32, 32, 106, 122, 32, 114]⟩ : ByteArray) ++ t623).size + 3 ≤ 9223372036854775807 then ((seedcornref11_number.f k x7).bind fun t624 => (if (((⟨#[32, 32, 106, 122, 32, 114]⟩ : ByteArray) ++ t623) ++ (⟨#[44, 32, 76]⟩ : ByteArray)).size + t624.size ≤ 9223372036854775807 then (if ((((⟨#[32, 32, 106, 122, 32, 114]⟩ : ByteArray) ++ t623) ++ (⟨#[44, 32, 76]⟩ : ByteArray)) ++ t624).size + 1 ≤ 9223372036854775807 then (some (((((⟨#[32, 32, 106, 122, 32, 114]⟩ : ByteArray) ++ t623) ++ (⟨#[44, 32, 76]⟩ : ByteArray)) ++ t624) ++ (⟨#[10]⟩ : ByteArray))) else (none)) else (none))) else (none)) else (none))) else (if x618000 = 20 then ((seedcornref11_number.f k x618001).bind fun t625 => (if 7 + t625.size ≤ 9223372036854775807 then (if ((⟨#[32, 32, 106, 110, 122, 32, 114]⟩ : ByteArray) ++ t625).size + 3 ≤ 9223372036854775807 then ((seedcornref11_number.f k x7).bind fun t626 => (if (((⟨#[32, 32, 106, 110, 122, 32, 114]⟩ : ByteArray) ++ t625) ++ (⟨#[44, 32, 76]⟩ : ByteArray)).size + t626.size ≤ 9223372036854775807 then (if ((((⟨#[32, 32, 106, 110, 122, 32, 114]⟩ : ByteArray) ++ t625) ++ (⟨#[44, 32, 76]⟩ : ByteArray)) ++ t626).size + 1 ≤ 9223372036854775807 then (some (((((⟨#[32, 32, 106, 110, 122, 32, 114]⟩ : ByteArray) ++ t625) ++ (⟨#[44, 32, 76]⟩ : ByteArray)) ++ t626) ++ (⟨#[10]⟩ : ByteArray))) else (none)) else (none))) else (none)) else (none))) else ((seedcornref11_number.f k x618001).bind fun t627 => (if 8 + t627.size ≤ 9223372036854775807 then (if ((⟨#[32, 32, 99, 97, 108, 108, 32, 114]⟩ : ByteArray) ++ t627).size + 3 ≤ 9223372036854775807 then ((seedcornref11_number.f k x7).bind fun t628 => (if (((⟨#[32, 32, 99, 97, 108, 108, 32, 114]⟩ : ByteArray) ++ t627) ++ (⟨#[44, 32, 76]⟩ : ByteArray)).size + t628.size ≤ 9223372036854775807 then (if ((((⟨#[32, 32, 99, 97, 108, 108, 32, 114]⟩ : ByteArray) ++ t627) ++ (⟨#[44, 32, 76]⟩ : ByteArray)) ++ t628).size + 1 ≤ 9223372036854775807 then (some (((((⟨#[32, 32, 99, 97, 108, 108, 32, 114]⟩ : ByteArray) ++ t627) ++ (⟨#[44, 32, 76]⟩ : ByteArray)) ++ t628) ++ (⟨#[10]⟩ : ByteArray))) else (none)) else (none))) else (none)) else (none))))))
def seedcornref11_Line.f (k : Nat) (a0 : Int) (a1 : Int) : Option (ByteArray) := (seedcornref07_Decode.f a0).bind fun bt612 => (if bt612.2.2.2.2 = 0 then ((seedcornref11_Jump.f a0).bind fun bt619 => (if bt619.2 = true then (seedcornref11_Line.j0 k bt619.1 (decide (bt619.1 ≥ a1)) bt612.1 bt612.2.1 bt612.2.2.1 bt612.2.2.2.1) else (seedcornref11_Line.j0 k bt619.1 true bt612.1 bt612.2.1 bt612.2.2.1 bt612.2.2.2.1))) else ((seedcornref01_Text.f k a0).bind fun t618 => (if 8 + t618.size ≤ 9223372036854775807 then (if ((⟨#[32, 32, 46, 119, 111, 114, 100, 32]⟩ : ByteArray) ++ t618).size + 1 ≤ 9223372036854775807 then (some (((⟨#[32, 32, 46, 119, 111, 114, 100, 32]⟩ : ByteArray) ++ t618) ++ (⟨#[10]⟩ : ByteArray))) else (none)) else (none))))
theorem seedcornref11_Line.mono_l : ∀ k, (∀ y0 y1 y2 y3 y4 y5, LeO (seedcornref11_Line.j0 k y0 y1 y2 y3 y4 y5) (seedcornref11_Line.j0 (k + 1) y0 y1 y2 y3 y4 y5))
  | 0 => fun _ _ _ _ _ _ r h => by simp [seedcornref11_Line.j0] at h
  | k + 1 => by
    have ih0 := seedcornref11_Line.mono_l k
    · intro y0 y1 y2 y3 y4 y5
      unfold seedcornref11_Line.j0
      repeat' first
      | (with_reducible exact ih0 _ _ _ _ _ _)
      | (with_reducible exact seedcornref01_Text.mono _ _)
      | (with_reducible exact seedcornref07_Text.mono _ _ _ _ _)
      | (with_reducible exact seedcornref11_number.mono _ _)
      | (with_reducible exact LeO.refl _)
      | (with_reducible exact LeO.none _)
      | (with_reducible refine LeO.ite ?_ ?_)
      | (with_reducible refine LeO.bind ?_ (fun _ => ?_))
      | exact ih0 _ _ _ _ _ _
      | exact seedcornref01_Text.mono _ _
      | exact seedcornref07_Text.mono _ _ _ _ _
      | exact seedcornref11_number.mono _ _
      | exact LeO.none _
      | refine LeO.ite ?_ ?_
      | refine LeO.bind ?_ (fun _ => ?_)
theorem seedcornref11_Line.mono : ∀ a0 a1 k, LeO (seedcornref11_Line.f k a0 a1) (seedcornref11_Line.f (k + 1) a0 a1) := by
  intro a0 a1 k
  have ih0 := seedcornref11_Line.mono_l k
  unfold seedcornref11_Line.f
  repeat' first
      | (with_reducible exact ih0 _ _ _ _ _ _)
      | (with_reducible exact seedcornref01_Text.mono _ _)
      | (with_reducible exact seedcornref07_Text.mono _ _ _ _ _)
      | (with_reducible exact seedcornref11_number.mono _ _)
      | (with_reducible exact LeO.refl _)
      | (with_reducible exact LeO.none _)
      | (with_reducible refine LeO.ite ?_ ?_)
      | (with_reducible refine LeO.bind ?_ (fun _ => ?_))
      | exact ih0 _ _ _ _ _ _
      | exact seedcornref01_Text.mono _ _
      | exact seedcornref07_Text.mono _ _ _ _ _
      | exact seedcornref11_number.mono _ _
      | exact LeO.none _
      | refine LeO.ite ?_ ?_
      | refine LeO.bind ?_ (fun _ => ?_)
set_option maxHeartbeats 8000000 in
set_option maxRecDepth 100000 in
theorem seedcornref11_Line.calls (k : Nat) (a0 : Int) (a1 : Int) (r : ByteArray) (w : World) (h : seedcornref11_Line.f k a0 a1 = some r) :
    Calls Tryd.prog 90 #[.int .u32 a0, .int .i64 a1] w fun e w' => e = .returned (.string r) ∧ Below w.heap.size w w' := by
  have hu46 := Tryd.underlying46
  have HB := Aside0.mk (Below.refl w.heap.size w)
  have H : ((seedcornref07_Decode.f a0).bind fun bt612 => (if bt612.2.2.2.2 = 0 then ((seedcornref11_Jump.f a0).bind fun bt619 => (if bt619.2 = true then (seedcornref11_Line.j0 k bt619.1 (decide (bt619.1 ≥ a1)) bt612.1 bt612.2.1 bt612.2.2.1 bt612.2.2.2.1) else (seedcornref11_Line.j0 k bt619.1 true bt612.1 bt612.2.1 bt612.2.2.1 bt612.2.2.2.1))) else ((seedcornref01_Text.f k a0).bind fun t618 => (if 8 + t618.size ≤ 9223372036854775807 then (if ((⟨#[32, 32, 46, 119, 111, 114, 100, 32]⟩ : ByteArray) ++ t618).size + 1 ≤ 9223372036854775807 then (some (((⟨#[32, 32, 46, 119, 111, 114, 100, 32]⟩ : ByteArray) ++ t618) ++ (⟨#[10]⟩ : ByteArray))) else (none)) else (none))))) = some r := h
  clear h
  replace H := Option.bind_eq_some_iff.mp H
  obtain ⟨⟨t612, t613, t614, t615, t616⟩, A30, H⟩ := H
  replace H : (if t616 = 0 then ((seedcornref11_Jump.f a0).bind fun bt619 => (if bt619.2 = true then (seedcornref11_Line.j0 k bt619.1 (decide (bt619.1 ≥ a1)) t612 t613 t614 t615) else (seedcornref11_Line.j0 k bt619.1 true t612 t613 t614 t615))) else ((seedcornref01_Text.f k a0).bind fun t618 => (if 8 + t618.size ≤ 9223372036854775807 then (if ((⟨#[32, 32, 46, 119, 111, 114, 100, 32]⟩ : ByteArray) ++ t618).size + 1 ≤ 9223372036854775807 then (some (((⟨#[32, 32, 46, 119, 111, 114, 100, 32]⟩ : ByteArray) ++ t618) ++ (⟨#[10]⟩ : ByteArray))) else (none)) else (none)))) = some r := H
  have A3 := Aside0.mk A30
  clear A30
  by_cases c4 : t616 = 0
  · rw [if_pos c4] at H
    have c4b0 : (t616 == 0) = true := beq_iff_eq.mpr c4
    have c4b1 : (t616 != 0) = false := bne_eq_false_iff_eq.mpr c4
    clear c4
    replace H := Option.bind_eq_some_iff.mp H
    obtain ⟨⟨t619, t620⟩, A50, H⟩ := H
    replace H : (if t620 = true then (seedcornref11_Line.j0 k t619 (decide (t619 ≥ a1)) t612 t613 t614 t615) else (seedcornref11_Line.j0 k t619 true t612 t613 t614 t615)) = some r := H
    have A5 := Aside0.mk A50
    clear A50
    have HC6 := Aside0.mk H
    clear H
    go_enter Tryd.func90, Tryd.ntmps90
    go_upto_region 5 with (first | ((with_reducible refine gate_callee (f := 46) rfl ?_); refine goesL_ (some 11) rfl rfl Tryd.func46 (by kernel_rfl) rfl #[.int .u32 a0] rfl (by (try simp only [List.map_toArray, List.map_cons, List.map_nil]); first | done | rfl | (simp only [List.length_drop, List.length_take]; rfl)) ?_; (with_reducible refine (seedcornref07_Decode.calls a0 t612 t613 t614 t615 t616 _ A3.out).mono ?_); rintro e w7 ⟨rfl, hb⟩; refine ⟨_, rfl, ?_⟩; have n0_ := Aside0.mk (below_step (by repeat (first | (with_reducible first | exact HB.out | apply below_alloc | apply pw_below_drewN | apply below_drew1) | exact HB.out)) hb); clear HB; have HB := n0_; clear n0_; (try clear hb); (try clear hb2); (try clear hk); (try clear hi)) | ((with_reducible refine gate_dst (N := 5) rfl ?_); refine box_event ?hg (N := 5) ?hd (cs := #[.int .i64 0, .int .i64 0, .int .i64 0, .int .i64 0]) (t := 46) ?hr ?_; (case hd => rfl); (case hg => rfl); (case hr => first | (go_simp; done) | (go_simp; rfl)); intro gb617 hg w8 hbox hb; have n0_ := Aside0.mk (below_step (by repeat (first | (with_reducible first | exact HB.out | apply below_alloc | apply pw_below_drewN | apply below_drew1) | exact HB.out)) hb); have n1_ := Aside0.mk (hbox); have n2_ := Aside0.mk ((by rw [hg]; exact (below_size (by repeat (first | (with_reducible first | exact HB.out | apply below_alloc | apply pw_below_drewN | apply below_drew1) | exact HB.out))) : w.heap.size ≤ gb617)); have n3_ := Aside0.mk ((by rw [hg]; exact (below_size (by repeat (first | (with_reducible first | exact HB.out | apply below_alloc | apply pw_below_drewN | apply below_drew1) | exact HB.out))) : w.heap.size ≤ gb617)); clear HB; have HB := n0_; have BK617 := n1_; have GW617 := n2_; have GE617 := n3_; clear n0_ n1_ n2_ n3_; clear hb hbox hg; have hcz9_0 : w8.cell? ⟨gb617, 0, none⟩ = some (.int .i64 0) := (blk_cell BK617.out 0).trans rfl; have hcz9_1 : w8.cell? ⟨gb617, 1, none⟩ = some (.int .i64 0) := (blk_cell BK617.out 1).trans rfl; have hcz9_2 : w8.cell? ⟨gb617, 2, none⟩ = some (.int .i64 0) := (blk_cell BK617.out 2).trans rfl; have hcz9_3 : w8.cell? ⟨gb617, 3, none⟩ = some (.int .i64 0) := (blk_cell BK617.out 3).trans rfl; have hfz9_0 := blk_frozen BK617.out 0; have hfz9_1 := blk_frozen BK617.out 1; have hfz9_2 := blk_frozen BK617.out 2; have hfz9_3 := blk_frozen BK617.out 3) | ((with_reducible refine gate_callee (f := 88) rfl ?_); refine goesL_ (some 22) rfl rfl Tryd.func88 (by kernel_rfl) rfl #[.int .u32 a0] rfl (by (try simp only [List.map_toArray, List.map_cons, List.map_nil]); first | done | rfl | (simp only [List.length_drop, List.length_take]; rfl)) ?_; (with_reducible refine (seedcornref11_Jump.calls a0 t619 t620 _ A5.out).mono ?_); rintro e w10 ⟨rfl, hb⟩; refine ⟨_, rfl, ?_⟩; have n0_ := Aside0.mk (blk_below (g := gb617) (o := .cells #[.int .i64 t612, .int .i64 t613, .int .i64 t614, .int .i64 t615] 46 (0, 0)) (by (with_reducible repeat (first | refine blk_drewN ?_ _ | refine blk_drew ?_ | refine blk_alloc ?_ _)); refine blk_put (cs := #[.int .i64 t612, .int .i64 t613, .int .i64 t614, .int .i64 0]) ?_ 3 _ rfl; (with_reducible repeat (first | refine blk_drewN ?_ _ | refine blk_drew ?_ | refine blk_alloc ?_ _)); refine blk_put (cs := #[.int .i64 t612, .int .i64 t613, .int .i64 0, .int .i64 0]) ?_ 2 _ rfl; (with_reducible repeat (first | refine blk_drewN ?_ _ | refine blk_drew ?_ | refine blk_alloc ?_ _)); refine blk_put (cs := #[.int .i64 t612, .int .i64 0, .int .i64 0, .int .i64 0]) ?_ 1 _ rfl; (with_reducible repeat (first | refine blk_drewN ?_ _ | refine blk_drew ?_ | refine blk_alloc ?_ _)); refine blk_put (cs := #[.int .i64 0, .int .i64 0, .int .i64 0, .int .i64 0]) ?_ 0 _ rfl; (with_reducible repeat (first | refine blk_drewN ?_ _ | refine blk_drew ?_ | refine blk_alloc ?_ _)); exact BK617.out) hb); have n1_ := Aside0.mk (below_step (by repeat (first | (with_reducible first | exact HB.out | apply below_alloc | apply pw_below_drewN | apply below_drew1 | refine below_set ?_ GE617.out) | exact HB.out)) hb); clear BK617; clear HB; have BK617 := n0_; have HB := n1_; clear n0_ n1_; (try clear hb); (try clear hb2); (try clear hk); (try clear hi)))
    (try simp only [Act.put, List.setIfInBounds_toArray, List.set_cons_zero, List.set_cons_succ])
    go_cut [31] (fun v31 wc => ∃ (kq : Nat) (x31_5 : Bool), v31 = .bool x31_5 ∧ Aside0 (seedcornref11_Line.j0 kq t619 x31_5 t612 t613 t614 t615 = some r) ∧ Aside0 (kq ≤ k) ∧ Aside0 (wc.heap[gb617]? = some (.cells #[.int .i64 t612, .int .i64 t613, .int .i64 t614, .int .i64 t615] 46 (0, 0))) ∧ Aside0 (Below w.heap.size w wc))
    case first =>
      have H := HC6.out
      clear HC6
      by_cases c11 : t620 = true
      · subst c11
        have H1 : (seedcornref11_Line.j0 k t619 (decide (t619 ≥ a1)) t612 t613 t614 t615) = some r := by rw [if_pos rfl] at H; exact H
        clear H
        have H := H1
        clear H1
        have H' := Aside0.mk H
        clear H
        go_wp2
        go_meet
        case rel => exact ⟨_, (decide (t619 ≥ a1)), (by first | rfl | (simp; done) | (simp [*]; done)), H', ⟨by first | omega | exact Nat.le_refl _⟩, ⟨by (with_reducible repeat (first | refine blk_drewN ?_ _ | refine blk_drew ?_ | refine blk_alloc ?_ _)); exact BK617.out⟩, ⟨by repeat (first | (with_reducible first | exact HB.out | apply below_alloc | apply pw_below_drewN | apply below_drew1 | refine below_set ?_ GE617.out) | exact HB.out)⟩⟩
      · replace c11 := Bool.eq_false_iff.mpr c11
        subst c11
        have H1 : (seedcornref11_Line.j0 k t619 true t612 t613 t614 t615) = some r := by rw [if_neg (show ¬ (false = true) by decide)] at H; exact H
        clear H
        have H := H1
        clear H1
        have H' := Aside0.mk H
        clear H
        go_wp2
        go_meet
        case rel => exact ⟨_, (true), (by first | rfl | (simp; done) | (simp [*]; done)), H', ⟨by first | omega | exact Nat.le_refl _⟩, ⟨by (with_reducible repeat (first | refine blk_drewN ?_ _ | refine blk_drew ?_ | refine blk_alloc ?_ _)); exact BK617.out⟩, ⟨by repeat (first | (with_reducible first | exact HB.out | apply below_alloc | apply pw_below_drewN | apply below_drew1 | refine below_set ?_ GE617.out) | exact HB.out)⟩⟩
    case rest =>
      clear HC6
      try clear c1
      try clear p2
      try clear c4
      try clear c4b0
      try clear c4b1
      try clear c8
      try clear c9
      try clear c11
      try clear hcz9_0
      try clear hcz9_1
      try clear hcz9_2
      try clear hcz9_3
      try clear hfz9_0
      try clear hfz9_1
      try clear hfz9_2
      try clear hfz9_3
      obtain ⟨kq, x31_5, rfl, HA, HJ5, BK617, HB⟩ := hcut
      cases kq with
      | zero => exact absurd HA.out (by simp [seedcornref11_Line.j0])
      | succ kj5 =>
        have H := HA.out
        clear HA
        simp only [seedcornref11_Line.j0] at H
        by_cases c12 : x31_5 = true
        · subst c12
          have H1 : ((seedcornref07_Text.f kj5 t612 t613 t614 t615).bind fun t621 => (if 2 + t621.size ≤ 9223372036854775807 then (if ((⟨#[32, 32]⟩ : ByteArray) ++ t621).size + 1 ≤ 9223372036854775807 then (some (((⟨#[32, 32]⟩ : ByteArray) ++ t621) ++ (⟨#[10]⟩ : ByteArray))) else (none)) else (none))) = some r := by rw [if_pos rfl] at H; exact H
          clear H
          have H := H1
          clear H1
          replace H := Option.bind_eq_some_iff.mp H
          obtain ⟨t621, A130, H⟩ := H
          replace H : (if 2 + t621.size ≤ 9223372036854775807 then (if ((⟨#[32, 32]⟩ : ByteArray) ++ t621).size + 1 ≤ 9223372036854775807 then (some (((⟨#[32, 32]⟩ : ByteArray) ++ t621) ++ (⟨#[10]⟩ : ByteArray))) else (none)) else (none)) = some r := H
          have A13 := Aside0.mk A130
          clear A130
          by_cases c14 : 2 + t621.size ≤ 9223372036854775807
          · rw [if_pos c14] at H
            have c14b0 := eq_true c14
            have c14b1 : decide (2 + t621.size ≤ 9223372036854775807) = true := decide_eq_true c14
            try have c14b2 : (9223372036854775807 < 2 + t621.size) = False := eq_false (Nat.not_lt.2 c14)
            by_cases c15 : ((⟨#[32, 32]⟩ : ByteArray) ++ t621).size + 1 ≤ 9223372036854775807
            · rw [if_pos c15] at H
              have c15b0 := eq_true c15
              have c15b1 : decide (((⟨#[32, 32]⟩ : ByteArray) ++ t621).size + 1 ≤ 9223372036854775807) = true := decide_eq_true c15
              try have c15b2 : (9223372036854775807 < ((⟨#[32, 32]⟩ : ByteArray) ++ t621).size + 1) = False := eq_false (Nat.not_lt.2 c15)
              try have c15b3 : (9223372036854775807 < 2 + t621.size + 1) = False := eq_false (by have c15z := c15; simp only [ByteArray.size_append] at c15z; (try rw [show (⟨#[32, 32]⟩ : ByteArray).size = 2 from rfl] at c15z); omega)
              obtain rfl := Option.some.inj H
              have hcz16_0 : wc.cell? ⟨gb617, 0, none⟩ = some (.int .i64 t612) := (blk_cell BK617.out 0).trans rfl
              have hcz16_1 : wc.cell? ⟨gb617, 1, none⟩ = some (.int .i64 t613) := (blk_cell BK617.out 1).trans rfl
              have hcz16_2 : wc.cell? ⟨gb617, 2, none⟩ = some (.int .i64 t614) := (blk_cell BK617.out 2).trans rfl
              have hcz16_3 : wc.cell? ⟨gb617, 3, none⟩ = some (.int .i64 t615) := (blk_cell BK617.out 3).trans rfl
              have hfz16_0 := blk_frozen BK617.out 0
              have hfz16_1 := blk_frozen BK617.out 1
              have hfz16_2 := blk_frozen BK617.out 2
              have hfz16_3 := blk_frozen BK617.out 3
              go_wp2_with (first | ((with_reducible refine gate_callee (f := 43) rfl ?_); refine goesL_ (some 33) rfl rfl Tryd.func43 (by kernel_rfl) rfl #[.agg #[.int .i64 t612, .int .i64 t613, .int .i64 t614, .int .i64 t615]] rfl (by (try simp only [List.map_toArray, List.map_cons, List.map_nil]); first | done | rfl | (simp only [List.length_drop, List.length_take]; rfl)) ?_; (with_reducible refine (seedcornref07_Text.calls kj5 t612 t613 t614 t615 t621 _ A13.out).mono ?_); rintro e w17 ⟨rfl, hb⟩; refine ⟨_, rfl, ?_⟩; have n0_ := Aside0.mk (blk_below (g := gb617) (o := .cells #[.int .i64 t612, .int .i64 t613, .int .i64 t614, .int .i64 t615] 46 (0, 0)) (by (with_reducible repeat (first | refine blk_drewN ?_ _ | refine blk_drew ?_ | refine blk_alloc ?_ _)); exact BK617.out) hb); have n1_ := Aside0.mk (below_step (by repeat (first | (with_reducible first | exact HB.out | apply below_alloc | apply pw_below_drewN | apply below_drew1 | refine below_set ?_ GE617.out) | exact HB.out)) hb); clear BK617; clear HB; have BK617 := n0_; have HB := n1_; clear n0_ n1_; (try clear hb); (try clear hb2); (try clear hk); (try clear hi)))
              go_ret
              exact ⟨by first | rfl | (simp [errW_none, errW_some] <;> rfl) | (simp [*, errW_none, errW_some] <;> rfl), by repeat (first | (with_reducible first | exact HB.out | apply below_alloc | apply pw_below_drewN | apply below_drew1 | refine below_set ?_ GE617.out) | exact HB.out)⟩
            · rw [if_neg c15] at H
              exact absurd H (by simp)
          · rw [if_neg c14] at H
            exact absurd H (by simp)
        · replace c12 := Bool.eq_false_iff.mpr c12
          subst c12
          have H1 : (if t612 = 18 then ((seedcornref11_number.f kj5 t619).bind fun t622 => (if 7 + t622.size ≤ 9223372036854775807 then (if ((⟨#[32, 32, 106, 109, 112, 32, 76]⟩ : ByteArray) ++ t622).size + 1 ≤ 9223372036854775807 then (some (((⟨#[32, 32, 106, 109, 112, 32, 76]⟩ : ByteArray) ++ t622) ++ (⟨#[10]⟩ : ByteArray))) else (none)) else (none))) else (if t612 = 19 then ((seedcornref11_number.f kj5 t613).bind fun t623 => (if 6 + t623.size ≤ 9223372036854775807 then (if ((⟨#[32, 32, 106, 122, 32, 114]⟩ : ByteArray) ++ t623).size + 3 ≤ 9223372036854775807 then ((seedcornref11_number.f kj5 t619).bind fun t624 => (if (((⟨#[32, 32, 106, 122, 32, 114]⟩ : ByteArray) ++ t623) ++ (⟨#[44, 32, 76]⟩ : ByteArray)).size + t624.size ≤ 9223372036854775807 then (if ((((⟨#[32, 32, 106, 122, 32, 114]⟩ : ByteArray) ++ t623) ++ (⟨#[44, 32, 76]⟩ : ByteArray)) ++ t624).size + 1 ≤ 9223372036854775807 then (some (((((⟨#[32, 32, 106, 122, 32, 114]⟩ : ByteArray) ++ t623) ++ (⟨#[44, 32, 76]⟩ : ByteArray)) ++ t624) ++ (⟨#[10]⟩ : ByteArray))) else (none)) else (none))) else (none)) else (none))) else (if t612 = 20 then ((seedcornref11_number.f kj5 t613).bind fun t625 => (if 7 + t625.size ≤ 9223372036854775807 then (if ((⟨#[32, 32, 106, 110, 122, 32, 114]⟩ : ByteArray) ++ t625).size + 3 ≤ 9223372036854775807 then ((seedcornref11_number.f kj5 t619).bind fun t626 => (if (((⟨#[32, 32, 106, 110, 122, 32, 114]⟩ : ByteArray) ++ t625) ++ (⟨#[44, 32, 76]⟩ : ByteArray)).size + t626.size ≤ 9223372036854775807 then (if ((((⟨#[32, 32, 106, 110, 122, 32, 114]⟩ : ByteArray) ++ t625) ++ (⟨#[44, 32, 76]⟩ : ByteArray)) ++ t626).size + 1 ≤ 9223372036854775807 then (some (((((⟨#[32, 32, 106, 110, 122, 32, 114]⟩ : ByteArray) ++ t625) ++ (⟨#[44, 32, 76]⟩ : ByteArray)) ++ t626) ++ (⟨#[10]⟩ : ByteArray))) else (none)) else (none))) else (none)) else (none))) else ((seedcornref11_number.f kj5 t613).bind fun t627 => (if 8 + t627.size ≤ 9223372036854775807 then (if ((⟨#[32, 32, 99, 97, 108, 108, 32, 114]⟩ : ByteArray) ++ t627).size + 3 ≤ 9223372036854775807 then ((seedcornref11_number.f kj5 t619).bind fun t628 => (if (((⟨#[32, 32, 99, 97, 108, 108, 32, 114]⟩ : ByteArray) ++ t627) ++ (⟨#[44, 32, 76]⟩ : ByteArray)).size + t628.size ≤ 9223372036854775807 then (if ((((⟨#[32, 32, 99, 97, 108, 108, 32, 114]⟩ : ByteArray) ++ t627) ++ (⟨#[44, 32, 76]⟩ : ByteArray)) ++ t628).size + 1 ≤ 9223372036854775807 then (some (((((⟨#[32, 32, 99, 97, 108, 108, 32, 114]⟩ : ByteArray) ++ t627) ++ (⟨#[44, 32, 76]⟩ : ByteArray)) ++ t628) ++ (⟨#[10]⟩ : ByteArray))) else (none)) else (none))) else (none)) else (none)))))) = some r := by rw [if_neg (show ¬ (false = true) by decide)] at H; exact H
          clear H
          have H := H1
          clear H1
          by_cases c18 : t612 = 18
          · rw [if_pos c18] at H
            have c18b0 : (t612 == 18) = true := beq_iff_eq.mpr c18
            have c18b1 : (t612 != 18) = false := bne_eq_false_iff_eq.mpr c18
            clear c18
            replace H := Option.bind_eq_some_iff.mp H
            obtain ⟨t622, A190, H⟩ := H
            replace H : (if 7 + t622.size ≤ 9223372036854775807 then (if ((⟨#[32, 32, 106, 109, 112, 32, 76]⟩ : ByteArray) ++ t622).size + 1 ≤ 9223372036854775807 then (some (((⟨#[32, 32, 106, 109, 112, 32, 76]⟩ : ByteArray) ++ t622) ++ (⟨#[10]⟩ : ByteArray))) else (none)) else (none)) = some r := H
            have A19 := Aside0.mk A190
            clear A190
            by_cases c20 : 7 + t622.size ≤ 9223372036854775807
            · rw [if_pos c20] at H
              have c20b0 := eq_true c20
              have c20b1 : decide (7 + t622.size ≤ 9223372036854775807) = true := decide_eq_true c20
              try have c20b2 : (9223372036854775807 < 7 + t622.size) = False := eq_false (Nat.not_lt.2 c20)
              by_cases c21 : ((⟨#[32, 32, 106, 109, 112, 32, 76]⟩ : ByteArray) ++ t622).size + 1 ≤ 9223372036854775807
              · rw [if_pos c21] at H
                have c21b0 := eq_true c21
                have c21b1 : decide (((⟨#[32, 32, 106, 109, 112, 32, 76]⟩ : ByteArray) ++ t622).size + 1 ≤ 9223372036854775807) = true := decide_eq_true c21
                try have c21b2 : (9223372036854775807 < ((⟨#[32, 32, 106, 109, 112, 32, 76]⟩ : ByteArray) ++ t622).size + 1) = False := eq_false (Nat.not_lt.2 c21)
                try have c21b3 : (9223372036854775807 < 7 + t622.size + 1) = False := eq_false (by have c21z := c21; simp only [ByteArray.size_append] at c21z; (try rw [show (⟨#[32, 32, 106, 109, 112, 32, 76]⟩ : ByteArray).size = 7 from rfl] at c21z); omega)
                obtain rfl := Option.some.inj H
                have hcz22_0 : wc.cell? ⟨gb617, 0, none⟩ = some (.int .i64 t612) := (blk_cell BK617.out 0).trans rfl
                have hcz22_1 : wc.cell? ⟨gb617, 1, none⟩ = some (.int .i64 t613) := (blk_cell BK617.out 1).trans rfl
                have hcz22_2 : wc.cell? ⟨gb617, 2, none⟩ = some (.int .i64 t614) := (blk_cell BK617.out 2).trans rfl
                have hcz22_3 : wc.cell? ⟨gb617, 3, none⟩ = some (.int .i64 t615) := (blk_cell BK617.out 3).trans rfl
                have hfz22_0 := blk_frozen BK617.out 0
                have hfz22_1 := blk_frozen BK617.out 1
                have hfz22_2 := blk_frozen BK617.out 2
                have hfz22_3 := blk_frozen BK617.out 3
                go_wp2_with (first | ((with_reducible refine gate_callee (f := 89) rfl ?_); refine goesL_ (some 41) rfl rfl Tryd.func89 (by kernel_rfl) rfl #[.int .i64 t619] rfl (by (try simp only [List.map_toArray, List.map_cons, List.map_nil]); first | done | rfl | (simp only [List.length_drop, List.length_take]; rfl)) ?_; (with_reducible refine (seedcornref11_number.calls kj5 t619 t622 _ A19.out).mono ?_); rintro e w23 ⟨rfl, hb⟩; refine ⟨_, rfl, ?_⟩; have n0_ := Aside0.mk (blk_below (g := gb617) (o := .cells #[.int .i64 t612, .int .i64 t613, .int .i64 t614, .int .i64 t615] 46 (0, 0)) (by (with_reducible repeat (first | refine blk_drewN ?_ _ | refine blk_drew ?_ | refine blk_alloc ?_ _)); exact BK617.out) hb); have n1_ := Aside0.mk (below_step (by repeat (first | (with_reducible first | exact HB.out | apply below_alloc | apply pw_below_drewN | apply below_drew1 | refine below_set ?_ GE617.out) | exact HB.out)) hb); clear BK617; clear HB; have BK617 := n0_; have HB := n1_; clear n0_ n1_; (try clear hb); (try clear hb2); (try clear hk); (try clear hi)))
                go_ret
                exact ⟨by first | rfl | (simp [errW_none, errW_some] <;> rfl) | (simp [*, errW_none, errW_some] <;> rfl), by repeat (first | (with_reducible first | exact HB.out | apply below_alloc | apply pw_below_drewN | apply below_drew1 | refine below_set ?_ GE617.out) | exact HB.out)⟩
              · rw [if_neg c21] at H
                exact absurd H (by simp)
            · rw [if_neg c20] at H
              exact absurd H (by simp)
          · rw [if_neg c18] at H
            have c18b0 : (t612 == 18) = false := beq_eq_false_iff_ne.mpr c18
            have c18b1 : (t612 != 18) = true := bne_iff_ne.mpr c18
            by_cases c24 : t612 = 19
            · rw [if_pos c24] at H
              have c24b0 : (t612 == 19) = true := beq_iff_eq.mpr c24
              have c24b1 : (t612 != 19) = false := bne_eq_false_iff_eq.mpr c24
              clear c24
              replace H := Option.bind_eq_some_iff.mp H
              obtain ⟨t623, A250, H⟩ := H
              replace H : (if 6 + t623.size ≤ 9223372036854775807 then (if ((⟨#[32, 32, 106, 122, 32, 114]⟩ : ByteArray) ++ t623).size + 3 ≤ 9223372036854775807 then ((seedcornref11_number.f kj5 t619).bind fun t624 => (if (((⟨#[32, 32, 106, 122, 32, 114]⟩ : ByteArray) ++ t623) ++ (⟨#[44, 32, 76]⟩ : ByteArray)).size + t624.size ≤ 9223372036854775807 then (if ((((⟨#[32, 32, 106, 122, 32, 114]⟩ : ByteArray) ++ t623) ++ (⟨#[44, 32, 76]⟩ : ByteArray)) ++ t624).size + 1 ≤ 9223372036854775807 then (some (((((⟨#[32, 32, 106, 122, 32, 114]⟩ : ByteArray) ++ t623) ++ (⟨#[44, 32, 76]⟩ : ByteArray)) ++ t624) ++ (⟨#[10]⟩ : ByteArray))) else (none)) else (none))) else (none)) else (none)) = some r := H
              have A25 := Aside0.mk A250
              clear A250
              by_cases c26 : 6 + t623.size ≤ 9223372036854775807
              · rw [if_pos c26] at H
                have c26b0 := eq_true c26
                have c26b1 : decide (6 + t623.size ≤ 9223372036854775807) = true := decide_eq_true c26
                try have c26b2 : (9223372036854775807 < 6 + t623.size) = False := eq_false (Nat.not_lt.2 c26)
                by_cases c27 : ((⟨#[32, 32, 106, 122, 32, 114]⟩ : ByteArray) ++ t623).size + 3 ≤ 9223372036854775807
                · rw [if_pos c27] at H
                  have c27b0 := eq_true c27
                  have c27b1 : decide (((⟨#[32, 32, 106, 122, 32, 114]⟩ : ByteArray) ++ t623).size + 3 ≤ 9223372036854775807) = true := decide_eq_true c27
                  try have c27b2 : (9223372036854775807 < ((⟨#[32, 32, 106, 122, 32, 114]⟩ : ByteArray) ++ t623).size + 3) = False := eq_false (Nat.not_lt.2 c27)
                  try have c27b3 : (9223372036854775807 < 6 + t623.size + 3) = False := eq_false (by have c27z := c27; simp only [ByteArray.size_append] at c27z; (try rw [show (⟨#[32, 32, 106, 122, 32, 114]⟩ : ByteArray).size = 6 from rfl] at c27z); omega)
                  replace H := Option.bind_eq_some_iff.mp H
                  obtain ⟨t624, A280, H⟩ := H
                  replace H : (if (((⟨#[32, 32, 106, 122, 32, 114]⟩ : ByteArray) ++ t623) ++ (⟨#[44, 32, 76]⟩ : ByteArray)).size + t624.size ≤ 9223372036854775807 then (if ((((⟨#[32, 32, 106, 122, 32, 114]⟩ : ByteArray) ++ t623) ++ (⟨#[44, 32, 76]⟩ : ByteArray)) ++ t624).size + 1 ≤ 9223372036854775807 then (some (((((⟨#[32, 32, 106, 122, 32, 114]⟩ : ByteArray) ++ t623) ++ (⟨#[44, 32, 76]⟩ : ByteArray)) ++ t624) ++ (⟨#[10]⟩ : ByteArray))) else (none)) else (none)) = some r := H
                  have A28 := Aside0.mk A280
                  clear A280
                  by_cases c29 : (((⟨#[32, 32, 106, 122, 32, 114]⟩ : ByteArray) ++ t623) ++ (⟨#[44, 32, 76]⟩ : ByteArray)).size + t624.size ≤ 9223372036854775807
                  · rw [if_pos c29] at H
                    have c29b0 := eq_true c29
                    have c29b1 : decide ((((⟨#[32, 32, 106, 122, 32, 114]⟩ : ByteArray) ++ t623) ++ (⟨#[44, 32, 76]⟩ : ByteArray)).size + t624.size ≤ 9223372036854775807) = true := decide_eq_true c29
                    try have c29b2 : (9223372036854775807 < (((⟨#[32, 32, 106, 122, 32, 114]⟩ : ByteArray) ++ t623) ++ (⟨#[44, 32, 76]⟩ : ByteArray)).size + t624.size) = False := eq_false (Nat.not_lt.2 c29)
                    try have c29b3 : (9223372036854775807 < 6 + t623.size + 3 + t624.size) = False := eq_false (by have c29z := c29; simp only [ByteArray.size_append] at c29z; (try rw [show (⟨#[32, 32, 106, 122, 32, 114]⟩ : ByteArray).size = 6 from rfl] at c29z); (try rw [show (⟨#[44, 32, 76]⟩ : ByteArray).size = 3 from rfl] at c29z); omega)
                    by_cases c30 : ((((⟨#[32, 32, 106, 122, 32, 114]⟩ : ByteArray) ++ t623) ++ (⟨#[44, 32, 76]⟩ : ByteArray)) ++ t624).size + 1 ≤ 9223372036854775807
                    · rw [if_pos c30] at H
                      have c30b0 := eq_true c30
                      have c30b1 : decide (((((⟨#[32, 32, 106, 122, 32, 114]⟩ : ByteArray) ++ t623) ++ (⟨#[44, 32, 76]⟩ : ByteArray)) ++ t624).size + 1 ≤ 9223372036854775807) = true := decide_eq_true c30
                      try have c30b2 : (9223372036854775807 < ((((⟨#[32, 32, 106, 122, 32, 114]⟩ : ByteArray) ++ t623) ++ (⟨#[44, 32, 76]⟩ : ByteArray)) ++ t624).size + 1) = False := eq_false (Nat.not_lt.2 c30)
                      try have c30b3 : (9223372036854775807 < 6 + t623.size + 3 + t624.size + 1) = False := eq_false (by have c30z := c30; simp only [ByteArray.size_append] at c30z; (try rw [show (⟨#[32, 32, 106, 122, 32, 114]⟩ : ByteArray).size = 6 from rfl] at c30z); (try rw [show (⟨#[44, 32, 76]⟩ : ByteArray).size = 3 from rfl] at c30z); omega)
                      obtain rfl := Option.some.inj H
                      have hcz31_0 : wc.cell? ⟨gb617, 0, none⟩ = some (.int .i64 t612) := (blk_cell BK617.out 0).trans rfl
                      have hcz31_1 : wc.cell? ⟨gb617, 1, none⟩ = some (.int .i64 t613) := (blk_cell BK617.out 1).trans rfl
                      have hcz31_2 : wc.cell? ⟨gb617, 2, none⟩ = some (.int .i64 t614) := (blk_cell BK617.out 2).trans rfl
                      have hcz31_3 : wc.cell? ⟨gb617, 3, none⟩ = some (.int .i64 t615) := (blk_cell BK617.out 3).trans rfl
                      have hfz31_0 := blk_frozen BK617.out 0
                      have hfz31_1 := blk_frozen BK617.out 1
                      have hfz31_2 := blk_frozen BK617.out 2
                      have hfz31_3 := blk_frozen BK617.out 3
                      go_wp2_with (first | ((with_reducible refine gate_callee (f := 89) rfl ?_); refine goesL_ (some 48) rfl rfl Tryd.func89 (by kernel_rfl) rfl #[.int .i64 t613] rfl (by (try simp only [List.map_toArray, List.map_cons, List.map_nil]); first | done | rfl | (simp only [List.length_drop, List.length_take]; rfl)) ?_; (with_reducible refine (seedcornref11_number.calls kj5 t613 t623 _ A25.out).mono ?_); rintro e w32 ⟨rfl, hb⟩; refine ⟨_, rfl, ?_⟩; have n0_ := Aside0.mk (blk_below (g := gb617) (o := .cells #[.int .i64 t612, .int .i64 t613, .int .i64 t614, .int .i64 t615] 46 (0, 0)) (by (with_reducible repeat (first | refine blk_drewN ?_ _ | refine blk_drew ?_ | refine blk_alloc ?_ _)); exact BK617.out) hb); have n1_ := Aside0.mk (below_step (by repeat (first | (with_reducible first | exact HB.out | apply below_alloc | apply pw_below_drewN | apply below_drew1 | refine below_set ?_ GE617.out) | exact HB.out)) hb); clear BK617; clear HB; have BK617 := n0_; have HB := n1_; clear n0_ n1_; (try clear hb); (try clear hb2); (try clear hk); (try clear hi)) | ((with_reducible refine gate_callee (f := 89) rfl ?_); refine goesL_ (some 52) rfl rfl Tryd.func89 (by kernel_rfl) rfl #[.int .i64 t619] rfl (by (try simp only [List.map_toArray, List.map_cons, List.map_nil]); first | done | rfl | (simp only [List.length_drop, List.length_take]; rfl)) ?_; (with_reducible refine (seedcornref11_number.calls kj5 t619 t624 _ A28.out).mono ?_); rintro e w33 ⟨rfl, hb⟩; refine ⟨_, rfl, ?_⟩; have n0_ := Aside0.mk (blk_below (g := gb617) (o := .cells #[.int .i64 t612, .int .i64 t613, .int .i64 t614, .int .i64 t615] 46 (0, 0)) (by (with_reducible repeat (first | refine blk_drewN ?_ _ | refine blk_drew ?_ | refine blk_alloc ?_ _)); exact BK617.out) hb); have n1_ := Aside0.mk (below_step (by repeat (first | (with_reducible first | exact HB.out | apply below_alloc | apply pw_below_drewN | apply below_drew1 | refine below_set ?_ GE617.out) | exact HB.out)) hb); clear BK617; clear HB; have BK617 := n0_; have HB := n1_; clear n0_ n1_; (try clear hb); (try clear hb2); (try clear hk); (try clear hi)))
                      go_ret
                      exact ⟨by first | rfl | (simp [errW_none, errW_some] <;> rfl) | (simp [*, errW_none, errW_some] <;> rfl), by repeat (first | (with_reducible first | exact HB.out | apply below_alloc | apply pw_below_drewN | apply below_drew1 | refine below_set ?_ GE617.out) | exact HB.out)⟩
                    · rw [if_neg c30] at H
                      exact absurd H (by simp)
                  · rw [if_neg c29] at H
                    exact absurd H (by simp)
                · rw [if_neg c27] at H
                  exact absurd H (by simp)
              · rw [if_neg c26] at H
                exact absurd H (by simp)
            · rw [if_neg c24] at H
              have c24b0 : (t612 == 19) = false := beq_eq_false_iff_ne.mpr c24
              have c24b1 : (t612 != 19) = true := bne_iff_ne.mpr c24
              by_cases c34 : t612 = 20
              · rw [if_pos c34] at H
                have c34b0 : (t612 == 20) = true := beq_iff_eq.mpr c34
                have c34b1 : (t612 != 20) = false := bne_eq_false_iff_eq.mpr c34
                clear c34
                replace H := Option.bind_eq_some_iff.mp H
                obtain ⟨t625, A350, H⟩ := H
                replace H : (if 7 + t625.size ≤ 9223372036854775807 then (if ((⟨#[32, 32, 106, 110, 122, 32, 114]⟩ : ByteArray) ++ t625).size + 3 ≤ 9223372036854775807 then ((seedcornref11_number.f kj5 t619).bind fun t626 => (if (((⟨#[32, 32, 106, 110, 122, 32, 114]⟩ : ByteArray) ++ t625) ++ (⟨#[44, 32, 76]⟩ : ByteArray)).size + t626.size ≤ 9223372036854775807 then (if ((((⟨#[32, 32, 106, 110, 122, 32, 114]⟩ : ByteArray) ++ t625) ++ (⟨#[44, 32, 76]⟩ : ByteArray)) ++ t626).size + 1 ≤ 9223372036854775807 then (some (((((⟨#[32, 32, 106, 110, 122, 32, 114]⟩ : ByteArray) ++ t625) ++ (⟨#[44, 32, 76]⟩ : ByteArray)) ++ t626) ++ (⟨#[10]⟩ : ByteArray))) else (none)) else (none))) else (none)) else (none)) = some r := H
                have A35 := Aside0.mk A350
                clear A350
                by_cases c36 : 7 + t625.size ≤ 9223372036854775807
                · rw [if_pos c36] at H
                  have c36b0 := eq_true c36
                  have c36b1 : decide (7 + t625.size ≤ 9223372036854775807) = true := decide_eq_true c36
                  try have c36b2 : (9223372036854775807 < 7 + t625.size) = False := eq_false (Nat.not_lt.2 c36)
                  by_cases c37 : ((⟨#[32, 32, 106, 110, 122, 32, 114]⟩ : ByteArray) ++ t625).size + 3 ≤ 9223372036854775807
                  · rw [if_pos c37] at H
                    have c37b0 := eq_true c37
                    have c37b1 : decide (((⟨#[32, 32, 106, 110, 122, 32, 114]⟩ : ByteArray) ++ t625).size + 3 ≤ 9223372036854775807) = true := decide_eq_true c37
                    try have c37b2 : (9223372036854775807 < ((⟨#[32, 32, 106, 110, 122, 32, 114]⟩ : ByteArray) ++ t625).size + 3) = False := eq_false (Nat.not_lt.2 c37)
                    try have c37b3 : (9223372036854775807 < 7 + t625.size + 3) = False := eq_false (by have c37z := c37; simp only [ByteArray.size_append] at c37z; (try rw [show (⟨#[32, 32, 106, 110, 122, 32, 114]⟩ : ByteArray).size = 7 from rfl] at c37z); omega)
                    replace H := Option.bind_eq_some_iff.mp H
                    obtain ⟨t626, A380, H⟩ := H
                    replace H : (if (((⟨#[32, 32, 106, 110, 122, 32, 114]⟩ : ByteArray) ++ t625) ++ (⟨#[44, 32, 76]⟩ : ByteArray)).size + t626.size ≤ 9223372036854775807 then (if ((((⟨#[32, 32, 106, 110, 122, 32, 114]⟩ : ByteArray) ++ t625) ++ (⟨#[44, 32, 76]⟩ : ByteArray)) ++ t626).size + 1 ≤ 9223372036854775807 then (some (((((⟨#[32, 32, 106, 110, 122, 32, 114]⟩ : ByteArray) ++ t625) ++ (⟨#[44, 32, 76]⟩ : ByteArray)) ++ t626) ++ (⟨#[10]⟩ : ByteArray))) else (none)) else (none)) = some r := H
                    have A38 := Aside0.mk A380
                    clear A380
                    by_cases c39 : (((⟨#[32, 32, 106, 110, 122, 32, 114]⟩ : ByteArray) ++ t625) ++ (⟨#[44, 32, 76]⟩ : ByteArray)).size + t626.size ≤ 9223372036854775807
                    · rw [if_pos c39] at H
                      have c39b0 := eq_true c39
                      have c39b1 : decide ((((⟨#[32, 32, 106, 110, 122, 32, 114]⟩ : ByteArray) ++ t625) ++ (⟨#[44, 32, 76]⟩ : ByteArray)).size + t626.size ≤ 9223372036854775807) = true := decide_eq_true c39
                      try have c39b2 : (9223372036854775807 < (((⟨#[32, 32, 106, 110, 122, 32, 114]⟩ : ByteArray) ++ t625) ++ (⟨#[44, 32, 76]⟩ : ByteArray)).size + t626.size) = False := eq_false (Nat.not_lt.2 c39)
                      try have c39b3 : (9223372036854775807 < 7 + t625.size + 3 + t626.size) = False := eq_false (by have c39z := c39; simp only [ByteArray.size_append] at c39z; (try rw [show (⟨#[32, 32, 106, 110, 122, 32, 114]⟩ : ByteArray).size = 7 from rfl] at c39z); (try rw [show (⟨#[44, 32, 76]⟩ : ByteArray).size = 3 from rfl] at c39z); omega)
                      by_cases c40 : ((((⟨#[32, 32, 106, 110, 122, 32, 114]⟩ : ByteArray) ++ t625) ++ (⟨#[44, 32, 76]⟩ : ByteArray)) ++ t626).size + 1 ≤ 9223372036854775807
                      · rw [if_pos c40] at H
                        have c40b0 := eq_true c40
                        have c40b1 : decide (((((⟨#[32, 32, 106, 110, 122, 32, 114]⟩ : ByteArray) ++ t625) ++ (⟨#[44, 32, 76]⟩ : ByteArray)) ++ t626).size + 1 ≤ 9223372036854775807) = true := decide_eq_true c40
                        try have c40b2 : (9223372036854775807 < ((((⟨#[32, 32, 106, 110, 122, 32, 114]⟩ : ByteArray) ++ t625) ++ (⟨#[44, 32, 76]⟩ : ByteArray)) ++ t626).size + 1) = False := eq_false (Nat.not_lt.2 c40)
                        try have c40b3 : (9223372036854775807 < 7 + t625.size + 3 + t626.size + 1) = False := eq_false (by have c40z := c40; simp only [ByteArray.size_append] at c40z; (try rw [show (⟨#[32, 32, 106, 110, 122, 32, 114]⟩ : ByteArray).size = 7 from rfl] at c40z); (try rw [show (⟨#[44, 32, 76]⟩ : ByteArray).size = 3 from rfl] at c40z); omega)
                        obtain rfl := Option.some.inj H
                        have hcz41_0 : wc.cell? ⟨gb617, 0, none⟩ = some (.int .i64 t612) := (blk_cell BK617.out 0).trans rfl
                        have hcz41_1 : wc.cell? ⟨gb617, 1, none⟩ = some (.int .i64 t613) := (blk_cell BK617.out 1).trans rfl
                        have hcz41_2 : wc.cell? ⟨gb617, 2, none⟩ = some (.int .i64 t614) := (blk_cell BK617.out 2).trans rfl
                        have hcz41_3 : wc.cell? ⟨gb617, 3, none⟩ = some (.int .i64 t615) := (blk_cell BK617.out 3).trans rfl
                        have hfz41_0 := blk_frozen BK617.out 0
                        have hfz41_1 := blk_frozen BK617.out 1
                        have hfz41_2 := blk_frozen BK617.out 2
                        have hfz41_3 := blk_frozen BK617.out 3
                        go_wp2_with (first | ((with_reducible refine gate_callee (f := 89) rfl ?_); refine goesL_ (some 59) rfl rfl Tryd.func89 (by kernel_rfl) rfl #[.int .i64 t613] rfl (by (try simp only [List.map_toArray, List.map_cons, List.map_nil]); first | done | rfl | (simp only [List.length_drop, List.length_take]; rfl)) ?_; (with_reducible refine (seedcornref11_number.calls kj5 t613 t625 _ A35.out).mono ?_); rintro e w42 ⟨rfl, hb⟩; refine ⟨_, rfl, ?_⟩; have n0_ := Aside0.mk (blk_below (g := gb617) (o := .cells #[.int .i64 t612, .int .i64 t613, .int .i64 t614, .int .i64 t615] 46 (0, 0)) (by (with_reducible repeat (first | refine blk_drewN ?_ _ | refine blk_drew ?_ | refine blk_alloc ?_ _)); exact BK617.out) hb); have n1_ := Aside0.mk (below_step (by repeat (first | (with_reducible first | exact HB.out | apply below_alloc | apply pw_below_drewN | apply below_drew1 | refine below_set ?_ GE617.out) | exact HB.out)) hb); clear BK617; clear HB; have BK617 := n0_; have HB := n1_; clear n0_ n1_; (try clear hb); (try clear hb2); (try clear hk); (try clear hi)) | ((with_reducible refine gate_callee (f := 89) rfl ?_); refine goesL_ (some 63) rfl rfl Tryd.func89 (by kernel_rfl) rfl #[.int .i64 t619] rfl (by (try simp only [List.map_toArray, List.map_cons, List.map_nil]); first | done | rfl | (simp only [List.length_drop, List.length_take]; rfl)) ?_; (with_reducible refine (seedcornref11_number.calls kj5 t619 t626 _ A38.out).mono ?_); rintro e w43 ⟨rfl, hb⟩; refine ⟨_, rfl, ?_⟩; have n0_ := Aside0.mk (blk_below (g := gb617) (o := .cells #[.int .i64 t612, .int .i64 t613, .int .i64 t614, .int .i64 t615] 46 (0, 0)) (by (with_reducible repeat (first | refine blk_drewN ?_ _ | refine blk_drew ?_ | refine blk_alloc ?_ _)); exact BK617.out) hb); have n1_ := Aside0.mk (below_step (by repeat (first | (with_reducible first | exact HB.out | apply below_alloc | apply pw_below_drewN | apply below_drew1 | refine below_set ?_ GE617.out) | exact HB.out)) hb); clear BK617; clear HB; have BK617 := n0_; have HB := n1_; clear n0_ n1_; (try clear hb); (try clear hb2); (try clear hk); (try clear hi)))
                        go_ret
                        exact ⟨by first | rfl | (simp [errW_none, errW_some] <;> rfl) | (simp [*, errW_none, errW_some] <;> rfl), by repeat (first | (with_reducible first | exact HB.out | apply below_alloc | apply pw_below_drewN | apply below_drew1 | refine below_set ?_ GE617.out) | exact HB.out)⟩
                      · rw [if_neg c40] at H
                        exact absurd H (by simp)
                    · rw [if_neg c39] at H
                      exact absurd H (by simp)
                  · rw [if_neg c37] at H
                    exact absurd H (by simp)
                · rw [if_neg c36] at H
                  exact absurd H (by simp)
              · rw [if_neg c34] at H
                have c34b0 : (t612 == 20) = false := beq_eq_false_iff_ne.mpr c34
                have c34b1 : (t612 != 20) = true := bne_iff_ne.mpr c34
                replace H := Option.bind_eq_some_iff.mp H
                obtain ⟨t627, A440, H⟩ := H
                replace H : (if 8 + t627.size ≤ 9223372036854775807 then (if ((⟨#[32, 32, 99, 97, 108, 108, 32, 114]⟩ : ByteArray) ++ t627).size + 3 ≤ 9223372036854775807 then ((seedcornref11_number.f kj5 t619).bind fun t628 => (if (((⟨#[32, 32, 99, 97, 108, 108, 32, 114]⟩ : ByteArray) ++ t627) ++ (⟨#[44, 32, 76]⟩ : ByteArray)).size + t628.size ≤ 9223372036854775807 then (if ((((⟨#[32, 32, 99, 97, 108, 108, 32, 114]⟩ : ByteArray) ++ t627) ++ (⟨#[44, 32, 76]⟩ : ByteArray)) ++ t628).size + 1 ≤ 9223372036854775807 then (some (((((⟨#[32, 32, 99, 97, 108, 108, 32, 114]⟩ : ByteArray) ++ t627) ++ (⟨#[44, 32, 76]⟩ : ByteArray)) ++ t628) ++ (⟨#[10]⟩ : ByteArray))) else (none)) else (none))) else (none)) else (none)) = some r := H
                have A44 := Aside0.mk A440
                clear A440
                by_cases c45 : 8 + t627.size ≤ 9223372036854775807
                · rw [if_pos c45] at H
                  have c45b0 := eq_true c45
                  have c45b1 : decide (8 + t627.size ≤ 9223372036854775807) = true := decide_eq_true c45
                  try have c45b2 : (9223372036854775807 < 8 + t627.size) = False := eq_false (Nat.not_lt.2 c45)
                  by_cases c46 : ((⟨#[32, 32, 99, 97, 108, 108, 32, 114]⟩ : ByteArray) ++ t627).size + 3 ≤ 9223372036854775807
                  · rw [if_pos c46] at H
                    have c46b0 := eq_true c46
                    have c46b1 : decide (((⟨#[32, 32, 99, 97, 108, 108, 32, 114]⟩ : ByteArray) ++ t627).size + 3 ≤ 9223372036854775807) = true := decide_eq_true c46
                    try have c46b2 : (9223372036854775807 < ((⟨#[32, 32, 99, 97, 108, 108, 32, 114]⟩ : ByteArray) ++ t627).size + 3) = False := eq_false (Nat.not_lt.2 c46)
                    try have c46b3 : (9223372036854775807 < 8 + t627.size + 3) = False := eq_false (by have c46z := c46; simp only [ByteArray.size_append] at c46z; (try rw [show (⟨#[32, 32, 99, 97, 108, 108, 32, 114]⟩ : ByteArray).size = 8 from rfl] at c46z); omega)
                    replace H := Option.bind_eq_some_iff.mp H
                    obtain ⟨t628, A470, H⟩ := H
                    replace H : (if (((⟨#[32, 32, 99, 97, 108, 108, 32, 114]⟩ : ByteArray) ++ t627) ++ (⟨#[44, 32, 76]⟩ : ByteArray)).size + t628.size ≤ 9223372036854775807 then (if ((((⟨#[32, 32, 99, 97, 108, 108, 32, 114]⟩ : ByteArray) ++ t627) ++ (⟨#[44, 32, 76]⟩ : ByteArray)) ++ t628).size + 1 ≤ 9223372036854775807 then (some (((((⟨#[32, 32, 99, 97, 108, 108, 32, 114]⟩ : ByteArray) ++ t627) ++ (⟨#[44, 32, 76]⟩ : ByteArray)) ++ t628) ++ (⟨#[10]⟩ : ByteArray))) else (none)) else (none)) = some r := H
                    have A47 := Aside0.mk A470
                    clear A470
                    by_cases c48 : (((⟨#[32, 32, 99, 97, 108, 108, 32, 114]⟩ : ByteArray) ++ t627) ++ (⟨#[44, 32, 76]⟩ : ByteArray)).size + t628.size ≤ 9223372036854775807
                    · rw [if_pos c48] at H
                      have c48b0 := eq_true c48
                      have c48b1 : decide ((((⟨#[32, 32, 99, 97, 108, 108, 32, 114]⟩ : ByteArray) ++ t627) ++ (⟨#[44, 32, 76]⟩ : ByteArray)).size + t628.size ≤ 9223372036854775807) = true := decide_eq_true c48
                      try have c48b2 : (9223372036854775807 < (((⟨#[32, 32, 99, 97, 108, 108, 32, 114]⟩ : ByteArray) ++ t627) ++ (⟨#[44, 32, 76]⟩ : ByteArray)).size + t628.size) = False := eq_false (Nat.not_lt.2 c48)
                      try have c48b3 : (9223372036854775807 < 8 + t627.size + 3 + t628.size) = False := eq_false (by have c48z := c48; simp only [ByteArray.size_append] at c48z; (try rw [show (⟨#[32, 32, 99, 97, 108, 108, 32, 114]⟩ : ByteArray).size = 8 from rfl] at c48z); (try rw [show (⟨#[44, 32, 76]⟩ : ByteArray).size = 3 from rfl] at c48z); omega)
                      by_cases c49 : ((((⟨#[32, 32, 99, 97, 108, 108, 32, 114]⟩ : ByteArray) ++ t627) ++ (⟨#[44, 32, 76]⟩ : ByteArray)) ++ t628).size + 1 ≤ 9223372036854775807
                      · rw [if_pos c49] at H
                        have c49b0 := eq_true c49
                        have c49b1 : decide (((((⟨#[32, 32, 99, 97, 108, 108, 32, 114]⟩ : ByteArray) ++ t627) ++ (⟨#[44, 32, 76]⟩ : ByteArray)) ++ t628).size + 1 ≤ 9223372036854775807) = true := decide_eq_true c49
                        try have c49b2 : (9223372036854775807 < ((((⟨#[32, 32, 99, 97, 108, 108, 32, 114]⟩ : ByteArray) ++ t627) ++ (⟨#[44, 32, 76]⟩ : ByteArray)) ++ t628).size + 1) = False := eq_false (Nat.not_lt.2 c49)
                        try have c49b3 : (9223372036854775807 < 8 + t627.size + 3 + t628.size + 1) = False := eq_false (by have c49z := c49; simp only [ByteArray.size_append] at c49z; (try rw [show (⟨#[32, 32, 99, 97, 108, 108, 32, 114]⟩ : ByteArray).size = 8 from rfl] at c49z); (try rw [show (⟨#[44, 32, 76]⟩ : ByteArray).size = 3 from rfl] at c49z); omega)
                        obtain rfl := Option.some.inj H
                        have hcz50_0 : wc.cell? ⟨gb617, 0, none⟩ = some (.int .i64 t612) := (blk_cell BK617.out 0).trans rfl
                        have hcz50_1 : wc.cell? ⟨gb617, 1, none⟩ = some (.int .i64 t613) := (blk_cell BK617.out 1).trans rfl
                        have hcz50_2 : wc.cell? ⟨gb617, 2, none⟩ = some (.int .i64 t614) := (blk_cell BK617.out 2).trans rfl
                        have hcz50_3 : wc.cell? ⟨gb617, 3, none⟩ = some (.int .i64 t615) := (blk_cell BK617.out 3).trans rfl
                        have hfz50_0 := blk_frozen BK617.out 0
                        have hfz50_1 := blk_frozen BK617.out 1
                        have hfz50_2 := blk_frozen BK617.out 2
                        have hfz50_3 := blk_frozen BK617.out 3
                        go_wp2_with (first | ((with_reducible refine gate_callee (f := 89) rfl ?_); refine goesL_ (some 68) rfl rfl Tryd.func89 (by kernel_rfl) rfl #[.int .i64 t613] rfl (by (try simp only [List.map_toArray, List.map_cons, List.map_nil]); first | done | rfl | (simp only [List.length_drop, List.length_take]; rfl)) ?_; (with_reducible refine (seedcornref11_number.calls kj5 t613 t627 _ A44.out).mono ?_); rintro e w51 ⟨rfl, hb⟩; refine ⟨_, rfl, ?_⟩; have n0_ := Aside0.mk (blk_below (g := gb617) (o := .cells #[.int .i64 t612, .int .i64 t613, .int .i64 t614, .int .i64 t615] 46 (0, 0)) (by (with_reducible repeat (first | refine blk_drewN ?_ _ | refine blk_drew ?_ | refine blk_alloc ?_ _)); exact BK617.out) hb); have n1_ := Aside0.mk (below_step (by repeat (first | (with_reducible first | exact HB.out | apply below_alloc | apply pw_below_drewN | apply below_drew1 | refine below_set ?_ GE617.out) | exact HB.out)) hb); clear BK617; clear HB; have BK617 := n0_; have HB := n1_; clear n0_ n1_; (try clear hb); (try clear hb2); (try clear hk); (try clear hi)) | ((with_reducible refine gate_callee (f := 89) rfl ?_); refine goesL_ (some 72) rfl rfl Tryd.func89 (by kernel_rfl) rfl #[.int .i64 t619] rfl (by (try simp only [List.map_toArray, List.map_cons, List.map_nil]); first | done | rfl | (simp only [List.length_drop, List.length_take]; rfl)) ?_; (with_reducible refine (seedcornref11_number.calls kj5 t619 t628 _ A47.out).mono ?_); rintro e w52 ⟨rfl, hb⟩; refine ⟨_, rfl, ?_⟩; have n0_ := Aside0.mk (blk_below (g := gb617) (o := .cells #[.int .i64 t612, .int .i64 t613, .int .i64 t614, .int .i64 t615] 46 (0, 0)) (by (with_reducible repeat (first | refine blk_drewN ?_ _ | refine blk_drew ?_ | refine blk_alloc ?_ _)); exact BK617.out) hb); have n1_ := Aside0.mk (below_step (by repeat (first | (with_reducible first | exact HB.out | apply below_alloc | apply pw_below_drewN | apply below_drew1 | refine below_set ?_ GE617.out) | exact HB.out)) hb); clear BK617; clear HB; have BK617 := n0_; have HB := n1_; clear n0_ n1_; (try clear hb); (try clear hb2); (try clear hk); (try clear hi)))
                        go_ret
                        exact ⟨by first | rfl | (simp [errW_none, errW_some] <;> rfl) | (simp [*, errW_none, errW_some] <;> rfl), by repeat (first | (with_reducible first | exact HB.out | apply below_alloc | apply pw_below_drewN | apply below_drew1 | refine below_set ?_ GE617.out) | exact HB.out)⟩
                      · rw [if_neg c49] at H
                        exact absurd H (by simp)
                    · rw [if_neg c48] at H
                      exact absurd H (by simp)
                  · rw [if_neg c46] at H
                    exact absurd H (by simp)
                · rw [if_neg c45] at H
                  exact absurd H (by simp)
  · rw [if_neg c4] at H
    have c4b0 : (t616 == 0) = false := beq_eq_false_iff_ne.mpr c4
    have c4b1 : (t616 != 0) = true := bne_iff_ne.mpr c4
    replace H := Option.bind_eq_some_iff.mp H
    obtain ⟨t618, A530, H⟩ := H
    replace H : (if 8 + t618.size ≤ 9223372036854775807 then (if ((⟨#[32, 32, 46, 119, 111, 114, 100, 32]⟩ : ByteArray) ++ t618).size + 1 ≤ 9223372036854775807 then (some (((⟨#[32, 32, 46, 119, 111, 114, 100, 32]⟩ : ByteArray) ++ t618) ++ (⟨#[10]⟩ : ByteArray))) else (none)) else (none)) = some r := H
    have A53 := Aside0.mk A530
    clear A530
    by_cases c54 : 8 + t618.size ≤ 9223372036854775807
    · rw [if_pos c54] at H
      have c54b0 := eq_true c54
      have c54b1 : decide (8 + t618.size ≤ 9223372036854775807) = true := decide_eq_true c54
      try have c54b2 : (9223372036854775807 < 8 + t618.size) = False := eq_false (Nat.not_lt.2 c54)
      by_cases c55 : ((⟨#[32, 32, 46, 119, 111, 114, 100, 32]⟩ : ByteArray) ++ t618).size + 1 ≤ 9223372036854775807
      · rw [if_pos c55] at H
        have c55b0 := eq_true c55
        have c55b1 : decide (((⟨#[32, 32, 46, 119, 111, 114, 100, 32]⟩ : ByteArray) ++ t618).size + 1 ≤ 9223372036854775807) = true := decide_eq_true c55
        try have c55b2 : (9223372036854775807 < ((⟨#[32, 32, 46, 119, 111, 114, 100, 32]⟩ : ByteArray) ++ t618).size + 1) = False := eq_false (Nat.not_lt.2 c55)
        try have c55b3 : (9223372036854775807 < 8 + t618.size + 1) = False := eq_false (by have c55z := c55; simp only [ByteArray.size_append] at c55z; (try rw [show (⟨#[32, 32, 46, 119, 111, 114, 100, 32]⟩ : ByteArray).size = 8 from rfl] at c55z); omega)
        obtain rfl := Option.some.inj H
        go_enter Tryd.func90, Tryd.ntmps90
        go_wp2_with (first | ((with_reducible refine gate_callee (f := 46) rfl ?_); refine goesL_ (some 11) rfl rfl Tryd.func46 (by kernel_rfl) rfl #[.int .u32 a0] rfl (by (try simp only [List.map_toArray, List.map_cons, List.map_nil]); first | done | rfl | (simp only [List.length_drop, List.length_take]; rfl)) ?_; (with_reducible refine (seedcornref07_Decode.calls a0 t612 t613 t614 t615 t616 _ A3.out).mono ?_); rintro e w56 ⟨rfl, hb⟩; refine ⟨_, rfl, ?_⟩; have n0_ := Aside0.mk (below_step (by repeat (first | (with_reducible first | exact HB.out | apply below_alloc | apply pw_below_drewN | apply below_drew1) | exact HB.out)) hb); clear HB; have HB := n0_; clear n0_; (try clear hb); (try clear hb2); (try clear hk); (try clear hi)) | ((with_reducible refine gate_dst (N := 5) rfl ?_); refine box_event ?hg (N := 5) ?hd (cs := #[.int .i64 0, .int .i64 0, .int .i64 0, .int .i64 0]) (t := 46) ?hr ?_; (case hd => rfl); (case hg => rfl); (case hr => first | (go_simp; done) | (go_simp; rfl)); intro gb617 hg w57 hbox hb; have n0_ := Aside0.mk (below_step (by repeat (first | (with_reducible first | exact HB.out | apply below_alloc | apply pw_below_drewN | apply below_drew1) | exact HB.out)) hb); have n1_ := Aside0.mk (hbox); have n2_ := Aside0.mk ((by rw [hg]; exact (below_size (by repeat (first | (with_reducible first | exact HB.out | apply below_alloc | apply pw_below_drewN | apply below_drew1) | exact HB.out))) : w.heap.size ≤ gb617)); have n3_ := Aside0.mk ((by rw [hg]; exact (below_size (by repeat (first | (with_reducible first | exact HB.out | apply below_alloc | apply pw_below_drewN | apply below_drew1) | exact HB.out))) : w.heap.size ≤ gb617)); clear HB; have HB := n0_; have BK617 := n1_; have GW617 := n2_; have GE617 := n3_; clear n0_ n1_ n2_ n3_; clear hb hbox hg; have hcz58_0 : w57.cell? ⟨gb617, 0, none⟩ = some (.int .i64 0) := (blk_cell BK617.out 0).trans rfl; have hcz58_1 : w57.cell? ⟨gb617, 1, none⟩ = some (.int .i64 0) := (blk_cell BK617.out 1).trans rfl; have hcz58_2 : w57.cell? ⟨gb617, 2, none⟩ = some (.int .i64 0) := (blk_cell BK617.out 2).trans rfl; have hcz58_3 : w57.cell? ⟨gb617, 3, none⟩ = some (.int .i64 0) := (blk_cell BK617.out 3).trans rfl; have hfz58_0 := blk_frozen BK617.out 0; have hfz58_1 := blk_frozen BK617.out 1; have hfz58_2 := blk_frozen BK617.out 2; have hfz58_3 := blk_frozen BK617.out 3) | ((with_reducible refine gate_callee (f := 103) rfl ?_); refine goesL_ (some 17) rfl rfl Tryd.func103 (by kernel_rfl) rfl #[.int .u32 a0] rfl (by (try simp only [List.map_toArray, List.map_cons, List.map_nil]); first | done | rfl | (simp only [List.length_drop, List.length_take]; rfl)) ?_; (with_reducible refine (seedcornref01_Text.calls k a0 t618 _ A53.out).mono ?_); rintro e w59 ⟨rfl, hb⟩; refine ⟨_, rfl, ?_⟩; have n0_ := Aside0.mk (blk_below (g := gb617) (o := .cells #[.int .i64 t612, .int .i64 t613, .int .i64 t614, .int .i64 t615] 46 (0, 0)) (by (with_reducible repeat (first | refine blk_drewN ?_ _ | refine blk_drew ?_ | refine blk_alloc ?_ _)); refine blk_put (cs := #[.int .i64 t612, .int .i64 t613, .int .i64 t614, .int .i64 0]) ?_ 3 _ rfl; (with_reducible repeat (first | refine blk_drewN ?_ _ | refine blk_drew ?_ | refine blk_alloc ?_ _)); refine blk_put (cs := #[.int .i64 t612, .int .i64 t613, .int .i64 0, .int .i64 0]) ?_ 2 _ rfl; (with_reducible repeat (first | refine blk_drewN ?_ _ | refine blk_drew ?_ | refine blk_alloc ?_ _)); refine blk_put (cs := #[.int .i64 t612, .int .i64 0, .int .i64 0, .int .i64 0]) ?_ 1 _ rfl; (with_reducible repeat (first | refine blk_drewN ?_ _ | refine blk_drew ?_ | refine blk_alloc ?_ _)); refine blk_put (cs := #[.int .i64 0, .int .i64 0, .int .i64 0, .int .i64 0]) ?_ 0 _ rfl; (with_reducible repeat (first | refine blk_drewN ?_ _ | refine blk_drew ?_ | refine blk_alloc ?_ _)); exact BK617.out) hb); have n1_ := Aside0.mk (below_step (by repeat (first | (with_reducible first | exact HB.out | apply below_alloc | apply pw_below_drewN | apply below_drew1 | refine below_set ?_ GE617.out) | exact HB.out)) hb); clear BK617; clear HB; have BK617 := n0_; have HB := n1_; clear n0_ n1_; (try clear hb); (try clear hb2); (try clear hk); (try clear hi)))
        go_ret
        exact ⟨by first | rfl | (simp [errW_none, errW_some] <;> rfl) | (simp [*, errW_none, errW_some] <;> rfl), by repeat (first | (with_reducible first | exact HB.out | apply below_alloc | apply pw_below_drewN | apply below_drew1 | refine below_set ?_ GE617.out) | exact HB.out)⟩
      · rw [if_neg c55] at H
        exact absurd H (by simp)
    · rw [if_neg c54] at H
      exact absurd H (by simp)
end Go.Proofs.YtdhkmdgieflioaaDoor.F
namespace Go.Proofs.YtdhkmdgieflioaaDoor.F
open Go.RowKit Go.Proofs.YtdhkmdgieflioaaDoorW.PrintWords Go.Proofs.YtdhkmdgieflioaaDoorW.PrintLast Go.Proofs.YtdhkmdgieflioaaDoorW.PrintMore
set_option linter.unusedVariables false
set_option linter.unusedSimpArgs false
theorem num32_l0 (n : Nat) : ∀ (acc : ByteArray), n ≤ 4294967295 → acc.size + (Lib.decDigits n).length ≤ 100000 → Ev (fun k => seedcornref01_Text.l0 k (n : Int) acc) ((⟨(Lib.decDigits n).toArray⟩ : ByteArray) ++ acc) := by
  induction n using Nat.strongRecOn with
  | ind n ih =>
    intro acc hn ha
    have hs : ∀ d : Int, (strOfNums [d]).size = 1 := fun d => rfl
    by_cases h : n < 10
    · refine Ev.step (f := fun _ => some ((⟨(Lib.decDigits n).toArray⟩ : ByteArray) ++ acc)) (fun k => ?_) (Ev.now _)
      simp only [seedcornref01_Text.l0, Option.bind_some]
      rw [if_neg (by omega), if_pos (by rw [hs]; omega)]
      congr 1
      refine ba_ext ?_
      rw [ba_app, ba_app, str_one, Lib.decDigits, dif_pos h]
      congr 3
      omega
    · have e1 : (((48 + (Int.tmod (n : Int) 10)) % 4294967296) % 256).toNat = 48 + n % 10 := by rw [Int.tmod_eq_emod_of_nonneg (by omega)]; omega
      have e2 : (Int.tdiv (n : Int) 10) % 4294967296 = ((n / 10 : Nat) : Int) := by rw [Int.tdiv_eq_ediv_of_nonneg (by omega)]; omega
      have hdd : (Lib.decDigits n).length = (Lib.decDigits (n / 10)).length + 1 := by rw [Lib.decDigits.eq_1 n, dif_neg h]; simp
      have := ih (n / 10) (by omega) (strOfNums [((48 + (Int.tmod (n : Int) 10)) % 4294967296) % 256] ++ acc) (by omega) (by rw [ByteArray.size_append, hs]; omega)
      have e3 : ((⟨(Lib.decDigits (n / 10)).toArray⟩ : ByteArray) ++ (strOfNums [((48 + (Int.tmod (n : Int) 10)) % 4294967296) % 256] ++ acc)) = (⟨(Lib.decDigits n).toArray⟩ : ByteArray) ++ acc := by
        refine ba_ext ?_
        rw [ba_app, ba_app, ba_app, str_one, e1, Lib.decDigits.eq_1 n, dif_neg h]
        simp
      rw [e3] at this
      refine Ev.step (f := fun k => seedcornref01_Text.l0 k ((n / 10 : Nat) : Int) (strOfNums [((48 + (Int.tmod (n : Int) 10)) % 4294967296) % 256] ++ acc)) (fun k => ?_) this
      simp only [seedcornref01_Text.l0, Option.bind_some]
      rw [if_pos (by omega), if_pos (by rw [hs]; omega), e2]
theorem text01_ev (n : Int) (h0 : 0 ≤ n) (h1 : n < 4294967296) : Ev (fun k => seedcornref01_Text.f k n) ⟨(num n).toArray⟩ := by
  obtain ⟨m, rfl⟩ : ∃ m : Nat, n = m := ⟨n.toNat, by omega⟩
  have hz : (⟨#[]⟩ : ByteArray).size = 0 := rfl
  have hn : num (m : Int) = Lib.decDigits m := by unfold num Lib.itoa; rw [if_neg (by omega)]; simp
  have hsz := num_size (m : Int) h0 h1
  rw [ba_size, hn] at hsz
  have := num32_l0 m ⟨#[]⟩ (by omega) (by omega)
  have e : ((⟨(Lib.decDigits m).toArray⟩ : ByteArray) ++ (⟨#[]⟩ : ByteArray)) = ⟨(num (m : Int)).toArray⟩ := by
    refine ba_ext ?_
    rw [ba_app, hn]
    simp
  rw [e] at this
  exact this
theorem number11_ev (n : Int) (h0 : 0 ≤ n) (h1 : n < 4294967296) : Ev (fun k => seedcornref11_number.f k n) ⟨(num n).toArray⟩ := by
  unfold seedcornref11_number.f
  rw [show n % 4294967296 = n by omega]
  exact Ev.bind (text01_ev n h0 h1) (Ev.now _)
theorem dec7_f (v : Int) (h0 : 0 ≤ v) (h1 : v < 4294967296) : seedcornref07_Decode.f v = some (if decB v = true then (opB v, raB v, rbB v, rcB v, 0) else (0, 0, 0, 0, 7)) := by
  unfold seedcornref07_Decode.f
  rw [if_pos ⟨h0, h1⟩, refRight_f]
  simp only [Option.bind_some]
  unfold decB opB raB rbB rcB
  split <;> rfl
theorem text_18 (a b c : Int) (h : rightB 18 a b c = true) : (textOf 18 a b c).data.toList = [106, 109, 112, 32] ++ num c := by
  unfold textOf
  rw [h, if_neg (by decide), if_neg (by intro e; cases e)]
  have e1 : itemsOf 18 a b c = [⟨(num c).toArray⟩] := rfl
  have e2 : nameOf 18 = ⟨#[106, 109, 112]⟩ := rfl
  rw [e1, e2]
  simp [Lib.join, ba_app]
theorem text_19 (a b c : Int) (h : rightB 19 a b c = true) : (textOf 19 a b c).data.toList = [106, 122, 32, 114] ++ num a ++ [44, 32] ++ num c := by
  unfold textOf
  rw [h, if_neg (by decide), if_neg (by intro e; cases e)]
  have e1 : itemsOf 19 a b c = [(⟨#[114]⟩ : ByteArray) ++ ⟨(num a).toArray⟩, ⟨(num c).toArray⟩] := rfl
  have e2 : nameOf 19 = ⟨#[106, 122]⟩ := rfl
  rw [e1, e2]
  simp [Lib.join, ba_app]
theorem text_20 (a b c : Int) (h : rightB 20 a b c = true) : (textOf 20 a b c).data.toList = [106, 110, 122, 32, 114] ++ num a ++ [44, 32] ++ num c := by
  unfold textOf
  rw [h, if_neg (by decide), if_neg (by intro e; cases e)]
  have e1 : itemsOf 20 a b c = [(⟨#[114]⟩ : ByteArray) ++ ⟨(num a).toArray⟩, ⟨(num c).toArray⟩] := rfl
  have e2 : nameOf 20 = ⟨#[106, 110, 122]⟩ := rfl
  rw [e1, e2]
  simp [Lib.join, ba_app]
theorem text_21 (a b c : Int) (h : rightB 21 a b c = true) : (textOf 21 a b c).data.toList = [99, 97, 108, 108, 32, 114] ++ num a ++ [44, 32] ++ num c := by
  unfold textOf
  rw [h, if_neg (by decide), if_neg (by intro e; cases e)]
  have e1 : itemsOf 21 a b c = [(⟨#[114]⟩ : ByteArray) ++ ⟨(num a).toArray⟩, ⟨(num c).toArray⟩] := rfl
  have e2 : nameOf 21 = ⟨#[99, 97, 108, 108]⟩ := rfl
  rw [e1, e2]
  simp [Lib.join, ba_app]
theorem Ev_eq {α : Type} {f : Nat → Option α} {a b : α} (h : a = b) (hf : Ev f a) : Ev f b := h ▸ hf
def lineR (t : Int → Bool) (v : Int) : List UInt8 := [32, 32] ++ instrB t v ++ [10]
theorem tgt_self (l : List Int) (v : Int) (hv : v ∈ l) (hj : jumpB v = true) : tgtB l (rcB v) = decide (rcB v < l.length) := by
  unfold tgtB
  have : l.any (fun u => jumpB u && (rcB u == rcB v)) = true := List.any_eq_true.2 ⟨v, hv, by rw [hj]; simp⟩
  rw [this, Bool.and_true]
theorem line_ev (l : List Int) (v : Int) (hok : okL l = true) (hv : v ∈ l) : Ev (fun k => seedcornref11_Line.f k v (l.length : Int)) ⟨(lineR (tgtB l) v).toArray⟩ := by
  obtain ⟨h0, h1⟩ := okL_mem hok v hv
  have hc0 : 0 ≤ rcB v ∧ rcB v < 65536 := by unfold rcB; omega
  have ha0 : 0 ≤ raB v ∧ raB v < 16 := by unfold raB; omega
  have hnv := num_size v h0 h1
  have hnc := num_size (rcB v) hc0.1 (by omega)
  have hna := num_size (raB v) ha0.1 (by omega)
  unfold seedcornref11_Line.f
  rw [dec7_f v h0 h1, jump11_f v h0 h1]
  cases hd : decB v with
  | false =>
    have e : (((⟨#[32, 32, 46, 119, 111, 114, 100, 32]⟩ : ByteArray) ++ ⟨(num v).toArray⟩) ++ (⟨#[10]⟩ : ByteArray)) = ⟨(lineR (tgtB l) v).toArray⟩ := by
      refine ba_ext ?_
      unfold lineR instrB
      rw [ba_app, ba_app, if_pos hd]
      simp
    rw [← e]
    refine Ev.congr (fun k => ?_) (Ev.bind (text01_ev v h0 h1) (f := fun _ t618 => (if 8 + t618.size ≤ 9223372036854775807 then (if ((⟨#[32, 32, 46, 119, 111, 114, 100, 32]⟩ : ByteArray) ++ t618).size + 1 ≤ 9223372036854775807 then (some (((⟨#[32, 32, 46, 119, 111, 114, 100, 32]⟩ : ByteArray) ++ t618) ++ (⟨#[10]⟩ : ByteArray))) else (none)) else (none))) ?_)
    · simp only [Option.bind_some, Bool.false_eq_true, if_false]
      rw [if_neg (by decide)]
    · have h8 : (⟨#[32, 32, 46, 119, 111, 114, 100, 32]⟩ : ByteArray).size = 8 := rfl
      exact Ev.congr (fun k => by rw [if_pos (by omega), if_pos (by rw [ByteArray.size_append, h8]; omega)]) (Ev.now _)
  | true =>
    have hr : rightB (opB v) (raB v) (rbB v) (rcB v) = true := hd
    have hts := text_size _ _ _ _ hr
    have h2 : (⟨#[32, 32]⟩ : ByteArray).size = 2 := rfl
    have plain : ∀ x7, (instrB (tgtB l) v = (textOf (opB v) (raB v) (rbB v) (rcB v)).data.toList) → Ev (fun k => seedcornref11_Line.j0 k x7 true (opB v) (raB v) (rbB v) (rcB v)) ⟨(lineR (tgtB l) v).toArray⟩ := by
      intro x7 hi
      have e : (((⟨#[32, 32]⟩ : ByteArray) ++ textOf (opB v) (raB v) (rbB v) (rcB v)) ++ (⟨#[10]⟩ : ByteArray)) = ⟨(lineR (tgtB l) v).toArray⟩ := by
        refine ba_ext ?_
        unfold lineR
        rw [ba_app, ba_app, hi]
      rw [← e]
      refine Ev.step (f := fun k => (seedcornref07_Text.f k (opB v) (raB v) (rbB v) (rcB v)).bind fun t621 => (if 2 + t621.size ≤ 9223372036854775807 then (if ((⟨#[32, 32]⟩ : ByteArray) ++ t621).size + 1 ≤ 9223372036854775807 then (some (((⟨#[32, 32]⟩ : ByteArray) ++ t621) ++ (⟨#[10]⟩ : ByteArray))) else (none)) else (none))) (fun k => ?_) (Ev.bind (refText_ev _ _ _ _) ?_)
      · simp only [seedcornref11_Line.j0, if_true]
      · exact Ev.congr (fun k => by rw [if_pos (by omega), if_pos (by rw [ByteArray.size_append, h2]; omega)]) (Ev.now _)
    have start : ∀ f : Nat → Option ByteArray, (∀ k, f k = (if jumpB v = true then seedcornref11_Line.j0 k (rcB v) (decide (rcB v ≥ (l.length : Int))) (opB v) (raB v) (rbB v) (rcB v) else seedcornref11_Line.j0 k 0 true (opB v) (raB v) (rbB v) (rcB v))) → Ev f ⟨(lineR (tgtB l) v).toArray⟩ := by
      intro f hf
      cases hj : jumpB v with
      | false =>
        refine Ev.congr (fun k => by rw [hf k, hj, if_neg (by decide)]) (plain 0 ?_)
        unfold instrB
        rw [hd, hj, if_neg (by decide), Bool.false_and, if_neg (by decide)]
      | true =>
        have hts1 := tgt_self l v hv hj
        by_cases hn : rcB v < l.length
        · have hi : instrB (tgtB l) v = Lib.trimSuffix (textOf (opB v) (raB v) (rbB v) (rcB v)).data.toList (num (rcB v)) ++ [76] ++ num (rcB v) := by
            unfold instrB
            rw [hd, hj, if_neg (by decide), hts1, decide_eq_true hn, if_pos (by decide)]
          have hop : opB v = 18 ∨ opB v = 19 ∨ opB v = 20 ∨ opB v = 21 := by
            unfold jumpB at hj
            rw [hd, Bool.true_and, decide_eq_true_eq] at hj
            omega
          have hdf : decide (rcB v ≥ (l.length : Int)) = false := decide_eq_false (by omega)
          refine Ev.congr (f := fun k => seedcornref11_Line.j0 k (rcB v) false (opB v) (raB v) (rbB v) (rcB v)) (fun k => by rw [hf k, hj, if_pos rfl, hdf]) ?_
          clear plain hf hts hd
          unfold lineR
          rw [hi]
          generalize opB v = op at hr hop
          generalize raB v = a at hr hna ha0
          generalize rbB v = b at hr
          generalize rcB v = c at hr hnc hc0
          rcases hop with rfl | rfl | rfl | rfl
          · rw [text_18 _ _ _ hr, trim_app]
            refine Ev.step (f := fun k => (seedcornref11_number.f k c).bind fun t622 => (if 7 + t622.size ≤ 9223372036854775807 then (if ((⟨#[32, 32, 106, 109, 112, 32, 76]⟩ : ByteArray) ++ t622).size + 1 ≤ 9223372036854775807 then (some (((⟨#[32, 32, 106, 109, 112, 32, 76]⟩ : ByteArray) ++ t622) ++ (⟨#[10]⟩ : ByteArray))) else (none)) else (none))) (fun k => ?_) (Ev.bind (number11_ev c hc0.1 (by omega)) ?_)
            · simp only [seedcornref11_Line.j0, Bool.false_eq_true, if_false, if_true]
            · have h7 : (⟨#[32, 32, 106, 109, 112, 32, 76]⟩ : ByteArray).size = 7 := rfl
              refine Ev.congr (fun k => by rw [if_pos (by omega), if_pos (by rw [ByteArray.size_append, h7]; omega)]) (Ev_eq ?_ (Ev.now _))
              refine ba_ext ?_
              rw [ba_app, ba_app]
              simp
          · rw [text_19 _ _ _ hr, trim_app]
            refine Ev.step (f := fun k => (seedcornref11_number.f k a).bind fun t623 => (if 6 + t623.size ≤ 9223372036854775807 then (if ((⟨#[32, 32, 106, 122, 32, 114]⟩ : ByteArray) ++ t623).size + 3 ≤ 9223372036854775807 then ((seedcornref11_number.f k c).bind fun t624 => (if (((⟨#[32, 32, 106, 122, 32, 114]⟩ : ByteArray) ++ t623) ++ (⟨#[44, 32, 76]⟩ : ByteArray)).size + t624.size ≤ 9223372036854775807 then (if ((((⟨#[32, 32, 106, 122, 32, 114]⟩ : ByteArray) ++ t623) ++ (⟨#[44, 32, 76]⟩ : ByteArray)) ++ t624).size + 1 ≤ 9223372036854775807 then (some (((((⟨#[32, 32, 106, 122, 32, 114]⟩ : ByteArray) ++ t623) ++ (⟨#[44, 32, 76]⟩ : ByteArray)) ++ t624) ++ (⟨#[10]⟩ : ByteArray))) else (none)) else (none))) else (none)) else (none))) (fun k => ?_) (Ev.bind (number11_ev a ha0.1 (by omega)) ?_)
            · simp only [seedcornref11_Line.j0, Bool.false_eq_true, if_false, if_true]
              rfl
            · have hp : (⟨#[32, 32, 106, 122, 32, 114]⟩ : ByteArray).size = 6 := rfl
              have h3 : (⟨#[44, 32, 76]⟩ : ByteArray).size = 3 := rfl
              refine Ev.congr (f := fun k => (seedcornref11_number.f k c).bind fun t624 => (if (((⟨#[32, 32, 106, 122, 32, 114]⟩ : ByteArray) ++ ⟨(num a).toArray⟩) ++ (⟨#[44, 32, 76]⟩ : ByteArray)).size + t624.size ≤ 9223372036854775807 then (if ((((⟨#[32, 32, 106, 122, 32, 114]⟩ : ByteArray) ++ ⟨(num a).toArray⟩) ++ (⟨#[44, 32, 76]⟩ : ByteArray)) ++ t624).size + 1 ≤ 9223372036854775807 then (some (((((⟨#[32, 32, 106, 122, 32, 114]⟩ : ByteArray) ++ ⟨(num a).toArray⟩) ++ (⟨#[44, 32, 76]⟩ : ByteArray)) ++ t624) ++ (⟨#[10]⟩ : ByteArray))) else (none)) else (none))) (fun k => by rw [if_pos (by omega), if_pos (by rw [ByteArray.size_append, hp]; omega)]) (Ev.bind (number11_ev c hc0.1 (by omega)) ?_)
              refine Ev.congr (fun k => by rw [if_pos (by rw [ByteArray.size_append, ByteArray.size_append, hp, h3]; omega), if_pos (by rw [ByteArray.size_append, ByteArray.size_append, ByteArray.size_append, hp, h3]; omega)]) (Ev_eq ?_ (Ev.now _))
              refine ba_ext ?_
              rw [ba_app, ba_app, ba_app, ba_app]
              simp
          · rw [text_20 _ _ _ hr, trim_app]
            refine Ev.step (f := fun k => (seedcornref11_number.f k a).bind fun t623 => (if 7 + t623.size ≤ 9223372036854775807 then (if ((⟨#[32, 32, 106, 110, 122, 32, 114]⟩ : ByteArray) ++ t623).size + 3 ≤ 9223372036854775807 then ((seedcornref11_number.f k c).bind fun t624 => (if (((⟨#[32, 32, 106, 110, 122, 32, 114]⟩ : ByteArray) ++ t623) ++ (⟨#[44, 32, 76]⟩ : ByteArray)).size + t624.size ≤ 9223372036854775807 then (if ((((⟨#[32, 32, 106, 110, 122, 32, 114]⟩ : ByteArray) ++ t623) ++ (⟨#[44, 32, 76]⟩ : ByteArray)) ++ t624).size + 1 ≤ 9223372036854775807 then (some (((((⟨#[32, 32, 106, 110, 122, 32, 114]⟩ : ByteArray) ++ t623) ++ (⟨#[44, 32, 76]⟩ : ByteArray)) ++ t624) ++ (⟨#[10]⟩ : ByteArray))) else (none)) else (none))) else (none)) else (none))) (fun k => ?_) (Ev.bind (number11_ev a ha0.1 (by omega)) ?_)
            · simp only [seedcornref11_Line.j0, Bool.false_eq_true, if_false, if_true]
              rfl
            · have hp : (⟨#[32, 32, 106, 110, 122, 32, 114]⟩ : ByteArray).size = 7 := rfl
              have h3 : (⟨#[44, 32, 76]⟩ : ByteArray).size = 3 := rfl
              refine Ev.congr (f := fun k => (seedcornref11_number.f k c).bind fun t624 => (if (((⟨#[32, 32, 106, 110, 122, 32, 114]⟩ : ByteArray) ++ ⟨(num a).toArray⟩) ++ (⟨#[44, 32, 76]⟩ : ByteArray)).size + t624.size ≤ 9223372036854775807 then (if ((((⟨#[32, 32, 106, 110, 122, 32, 114]⟩ : ByteArray) ++ ⟨(num a).toArray⟩) ++ (⟨#[44, 32, 76]⟩ : ByteArray)) ++ t624).size + 1 ≤ 9223372036854775807 then (some (((((⟨#[32, 32, 106, 110, 122, 32, 114]⟩ : ByteArray) ++ ⟨(num a).toArray⟩) ++ (⟨#[44, 32, 76]⟩ : ByteArray)) ++ t624) ++ (⟨#[10]⟩ : ByteArray))) else (none)) else (none))) (fun k => by rw [if_pos (by omega), if_pos (by rw [ByteArray.size_append, hp]; omega)]) (Ev.bind (number11_ev c hc0.1 (by omega)) ?_)
              refine Ev.congr (fun k => by rw [if_pos (by rw [ByteArray.size_append, ByteArray.size_append, hp, h3]; omega), if_pos (by rw [ByteArray.size_append, ByteArray.size_append, ByteArray.size_append, hp, h3]; omega)]) (Ev_eq ?_ (Ev.now _))
              refine ba_ext ?_
              rw [ba_app, ba_app, ba_app, ba_app]
              simp
          · rw [text_21 _ _ _ hr, trim_app]
            refine Ev.step (f := fun k => (seedcornref11_number.f k a).bind fun t623 => (if 8 + t623.size ≤ 9223372036854775807 then (if ((⟨#[32, 32, 99, 97, 108, 108, 32, 114]⟩ : ByteArray) ++ t623).size + 3 ≤ 9223372036854775807 then ((seedcornref11_number.f k c).bind fun t624 => (if (((⟨#[32, 32, 99, 97, 108, 108, 32, 114]⟩ : ByteArray) ++ t623) ++ (⟨#[44, 32, 76]⟩ : ByteArray)).size + t624.size ≤ 9223372036854775807 then (if ((((⟨#[32, 32, 99, 97, 108, 108, 32, 114]⟩ : ByteArray) ++ t623) ++ (⟨#[44, 32, 76]⟩ : ByteArray)) ++ t624).size + 1 ≤ 9223372036854775807 then (some (((((⟨#[32, 32, 99, 97, 108, 108, 32, 114]⟩ : ByteArray) ++ t623) ++ (⟨#[44, 32, 76]⟩ : ByteArray)) ++ t624) ++ (⟨#[10]⟩ : ByteArray))) else (none)) else (none))) else (none)) else (none))) (fun k => ?_) (Ev.bind (number11_ev a ha0.1 (by omega)) ?_)
            · simp only [seedcornref11_Line.j0, Bool.false_eq_true, if_false, if_true]
              rfl
            · have hp : (⟨#[32, 32, 99, 97, 108, 108, 32, 114]⟩ : ByteArray).size = 8 := rfl
              have h3 : (⟨#[44, 32, 76]⟩ : ByteArray).size = 3 := rfl
              refine Ev.congr (f := fun k => (seedcornref11_number.f k c).bind fun t624 => (if (((⟨#[32, 32, 99, 97, 108, 108, 32, 114]⟩ : ByteArray) ++ ⟨(num a).toArray⟩) ++ (⟨#[44, 32, 76]⟩ : ByteArray)).size + t624.size ≤ 9223372036854775807 then (if ((((⟨#[32, 32, 99, 97, 108, 108, 32, 114]⟩ : ByteArray) ++ ⟨(num a).toArray⟩) ++ (⟨#[44, 32, 76]⟩ : ByteArray)) ++ t624).size + 1 ≤ 9223372036854775807 then (some (((((⟨#[32, 32, 99, 97, 108, 108, 32, 114]⟩ : ByteArray) ++ ⟨(num a).toArray⟩) ++ (⟨#[44, 32, 76]⟩ : ByteArray)) ++ t624) ++ (⟨#[10]⟩ : ByteArray))) else (none)) else (none))) (fun k => by rw [if_pos (by omega), if_pos (by rw [ByteArray.size_append, hp]; omega)]) (Ev.bind (number11_ev c hc0.1 (by omega)) ?_)
              refine Ev.congr (fun k => by rw [if_pos (by rw [ByteArray.size_append, ByteArray.size_append, hp, h3]; omega), if_pos (by rw [ByteArray.size_append, ByteArray.size_append, ByteArray.size_append, hp, h3]; omega)]) (Ev_eq ?_ (Ev.now _))
              refine ba_ext ?_
              rw [ba_app, ba_app, ba_app, ba_app]
              simp
        · refine Ev.congr (fun k => by rw [hf k, hj, if_pos rfl, decide_eq_true (by omega : rcB v ≥ (l.length : Int))]) (plain _ ?_)
          unfold instrB
          rw [hd, hj, if_neg (by decide), hts1, decide_eq_false hn, if_neg (by decide)]
    refine start _ (fun k => ?_)
    simp only [Option.bind_some, if_true]
    cases hj : jumpB v with
    | false => simp
    | true => simp
end Go.Proofs.YtdhkmdgieflioaaDoor.F
namespace Go.Proofs.YtdhkmdgieflioaaDoor.SeedSim
abbrev I4 := Int × Int × Int × Int
def code : List I4 := [
 (1,10,0,16),(1,11,0,10),
 (23,1,0,0),(1,2,0,256),(15,5,1,2),(20,5,0,36),(1,2,0,35),(15,5,1,2),(20,5,0,29),
 (1,2,0,48),(5,6,1,2),(14,5,6,11),(20,5,0,21),(1,2,0,32),(10,6,1,2),(1,2,0,97),(5,6,6,2),(1,2,0,6),(14,5,6,2),(19,5,0,2),(4,6,6,11),
 (20,4,0,25),(6,3,6,10),(1,4,0,1),(18,0,0,2),
 (4,3,3,6),(24,3,0,0),(1,4,0,0),(18,0,0,2),
 (23,1,0,0),(1,2,0,256),(15,5,1,2),(20,5,0,36),(15,5,1,11),(19,5,0,29),(18,0,0,2),
 (26,0,0,0)]
structure MS where
  pc : Nat
  regs : List Int
  read : Nat
  out : List Int
  steps : Nat
  fin : Int
def g (l : List Int) (i : Int) : Int := l.getD i.toNat 0
def alu (op x y : Int) : Int :=
  if op = 4 then (x+y) % 4294967296
  else if op = 5 then (x + 4294967296 - y) % 4294967296
  else if op = 6 then x*y % 4294967296
  else if op = 10 then ((x.toNat ||| y.toNat : Nat) : Int)
  else if op = 14 then (if x < y then 1 else 0)
  else if op = 15 then (if x = y then 1 else 0)
  else 0
def exec (inp : List Int) (s : MS) (i : I4) : MS :=
  let op := i.1; let a := i.2.1; let b := i.2.2.1; let c := i.2.2.2
  if op = 1 then { s with steps := s.steps + 1, regs := s.regs.set a.toNat c, pc := s.pc + 1 }
  else if op = 18 then { s with steps := s.steps + 1, pc := c.toNat }
  else if op = 19 then { s with steps := s.steps + 1, pc := if g s.regs a = 0 then c.toNat else s.pc + 1 }
  else if op = 20 then { s with steps := s.steps + 1, pc := if g s.regs a = 0 then s.pc + 1 else c.toNat }
  else if op = 23 then
    (if h : s.read < inp.length then { s with steps := s.steps + 1, regs := s.regs.set a.toNat inp[s.read], pc := s.pc + 1, read := s.read + 1 }
     else { s with steps := s.steps + 1, regs := s.regs.set a.toNat 256, pc := s.pc + 1 })
  else if op = 24 then { s with steps := s.steps + 1, out := s.out ++ [g s.regs a % 256], pc := s.pc + 1 }
  else if op = 26 then { s with steps := s.steps + 1, fin := 1 }
  else { s with steps := s.steps + 1, regs := s.regs.set a.toNat (alu op (g s.regs b) (g s.regs c)), pc := s.pc + 1 }
def step (inp : List Int) (s : MS) : MS :=
  match code[s.pc]? with
  | none => s
  | some i => exec inp s i
def run (inp : List Int) : Nat → MS → MS
  | 0, s => s
  | k+1, s => if s.fin = 0 then run inp k (step inp s) else s
def init : MS := ⟨0, [0,0,0,0,0,0,0,0,0,0,0,0,0,0,0,0], 0, [], 0, 0⟩
structure LS where
  note : Bool
  high : Int
  out : List Int
structure Inv (inp : List Int) (s : MS) : Prop where
  pc : s.pc < 37
  len : s.regs.length = 16
  rng : ∀ i : Nat, i < 16 → 0 ≤ s.regs.getD i 0 ∧ s.regs.getD i 0 < 4294967296
  read : s.read ≤ inp.length
  outs : ∀ x ∈ s.out, 0 ≤ x ∧ x ≤ 255
theorem code_all : ∀ n : Nat, n < 37 → ∃ i, code[n]? = some i ∧ (0 ≤ i.2.1 ∧ i.2.1 < 16) ∧ (0 ≤ i.2.2.1 ∧ i.2.2.1 < 16) ∧ (0 ≤ i.2.2.2 ∧ i.2.2.2 < 4294967296) ∧ (i.1 = 18 ∨ i.1 = 19 ∨ i.1 = 20 → i.2.2.2 < 37) ∧
    (4 ≤ i.1 ∧ i.1 ≤ 15 → i.2.2.2 < 16) ∧ (n = 36 → i.1 = 26) ∧ (n = 35 → i.1 = 18) := by
  intro n hn
  have h : n = 0 ∨ n = 1 ∨ n = 2 ∨ n = 3 ∨ n = 4 ∨ n = 5 ∨ n = 6 ∨ n = 7 ∨ n = 8 ∨ n = 9 ∨ n = 10 ∨ n = 11 ∨ n = 12 ∨ n = 13 ∨ n = 14 ∨ n = 15 ∨ n = 16 ∨ n = 17 ∨ n = 18 ∨ n = 19 ∨ n = 20 ∨ n = 21 ∨ n = 22 ∨ n = 23 ∨ n = 24 ∨ n = 25 ∨ n = 26 ∨ n = 27 ∨ n = 28 ∨ n = 29 ∨ n = 30 ∨ n = 31 ∨ n = 32 ∨ n = 33 ∨ n = 34 ∨ n = 35 ∨ n = 36 := by omega
  rcases h with rfl | rfl | rfl | rfl | rfl | rfl | rfl | rfl | rfl | rfl | rfl | rfl | rfl | rfl | rfl | rfl | rfl | rfl | rfl | rfl | rfl | rfl | rfl | rfl | rfl | rfl | rfl | rfl | rfl | rfl | rfl | rfl | rfl | rfl | rfl | rfl | rfl <;> exact ⟨_, rfl, by decide⟩
theorem getD_set (l : List Int) (k : Nat) (v : Int) (hl : l.length = 16) (P : Int → Prop) (h : ∀ i : Nat, i < 16 → P (l.getD i 0)) (hv : P v) : ∀ i : Nat, i < 16 → P ((l.set k v).getD i 0) := by
  intro i hi
  have h1 := h i hi
  simp only [List.getD_eq_getElem?_getD, List.getElem?_set] at h1 ⊢
  by_cases hk : k = i
  · subst hk
    simp only [if_true, hl, hi]
    simpa using hv
  · simp only [hk, if_false]
    exact h1
theorem alu_range (op x y : Int) (hx : 0 ≤ x ∧ x < 4294967296) (hy : 0 ≤ y ∧ y < 4294967296) : 0 ≤ alu op x y ∧ alu op x y < 4294967296 := by
  unfold alu
  have h1 := Nat.or_lt_two_pow (x := x.toNat) (y := y.toNat) (n := 32) (by omega) (by omega)
  repeat' split
  all_goals first | omega | (refine ⟨by omega, ?_⟩; have : (2 : Nat) ^ 32 = 4294967296 := by decide; omega)
theorem Inv.step {inp : List Int} {s : MS} (h : Inv inp s) (hb : ∀ x ∈ inp, 0 ≤ x ∧ x ≤ 255) : Inv inp (step inp s) := by
  obtain ⟨i, hi, ha, hb1, hc, hj, hal, h36, h35⟩ := code_all s.pc h.pc
  unfold SeedSim.step
  rw [hi]
  simp only
  have hpc := h.pc
  have g0 : ∀ k : Int, 0 ≤ k → k < 16 → 0 ≤ g s.regs k ∧ g s.regs k < 4294967296 := fun k h0 h1 => h.rng k.toNat (by omega)
  have hset : ∀ (k : Nat) (v : Int), 0 ≤ v ∧ v < 4294967296 → ∀ i : Nat, i < 16 → 0 ≤ (s.regs.set k v).getD i 0 ∧ (s.regs.set k v).getD i 0 < 4294967296 := fun k v hv => getD_set s.regs k v h.len (fun x => 0 ≤ x ∧ x < 4294967296) h.rng hv
  by_cases h1 : i.1 = 26
  · simp only [exec, h1]
    exact ⟨h.pc, h.len, h.rng, h.read, h.outs⟩
  have hn36 : s.pc ≠ 36 := fun e => h1 (h36 e)
  by_cases h18 : i.1 = 18
  · simp only [exec, h18]
    exact ⟨by have := hj (Or.inl h18); show i.2.2.2.toNat < 37; omega, h.len, h.rng, h.read, h.outs⟩
  have hn35 : s.pc ≠ 35 := fun e => h18 (h35 e)
  unfold exec
  simp only [h1, h18, if_false]
  by_cases e1 : i.1 = 1
  · simp only [e1, if_true]
    exact ⟨by show s.pc + 1 < 37; omega, by simpa using h.len, hset _ _ hc, h.read, h.outs⟩
  simp only [e1, if_false]
  by_cases e2 : i.1 = 19
  · simp only [e2, if_true]
    have hj1 := hj (Or.inr (Or.inl e2))
    have hj2 : i.2.2.2.toNat < 37 := by omega
    have hj3 : s.pc + 1 < 37 := by omega
    exact ⟨by dsimp only; split <;> assumption, h.len, h.rng, h.read, h.outs⟩
  simp only [e2, if_false]
  by_cases e3 : i.1 = 20
  · simp only [e3, if_true]
    have hj1 := hj (Or.inr (Or.inr e3))
    have hj2 : i.2.2.2.toNat < 37 := by omega
    have hj3 : s.pc + 1 < 37 := by omega
    exact ⟨by dsimp only; split <;> assumption, h.len, h.rng, h.read, h.outs⟩
  simp only [e3, if_false]
  by_cases e4 : i.1 = 23
  · simp only [e4, if_true]
    split
    · rename_i hr
      have := hb _ (List.getElem_mem hr)
      exact ⟨by show s.pc + 1 < 37; omega, by simpa using h.len, hset _ _ (by omega), by show s.read + 1 ≤ inp.length; omega, h.outs⟩
    · exact ⟨by show s.pc + 1 < 37; omega, by simpa using h.len, hset _ _ (by omega), h.read, h.outs⟩
  simp only [e4, if_false]
  by_cases e5 : i.1 = 24
  · simp only [e5, if_true]
    refine ⟨by show s.pc + 1 < 37; omega, h.len, h.rng, h.read, ?_⟩
    intro x hx
    rcases List.mem_append.1 hx with hx | hx
    · exact h.outs x hx
    · rw [List.mem_singleton] at hx
      subst hx
      have := g0 i.2.1 ha.1 ha.2
      omega
  simp only [e5, if_false]
  refine ⟨by show s.pc + 1 < 37; omega, by simpa using h.len, hset _ _ ?_, h.read, h.outs⟩
  by_cases hop : 4 ≤ i.1 ∧ i.1 ≤ 15
  · exact alu_range _ _ _ (g0 _ hb1.1 hb1.2) (g0 _ hc.1 (hal hop))
  · unfold alu
    repeat' split
    all_goals omega
theorem Inv.init (inp : List Int) : Inv inp init := ⟨by decide, rfl, by decide, Nat.zero_le _, by intro x hx; cases hx⟩
end Go.Proofs.YtdhkmdgieflioaaDoor.SeedSim
namespace Go.Proofs.YtdhkmdgieflioaaDoor.F
open Go.RowKit Go.Proofs.YtdhkmdgieflioaaDoorW.PrintWords Go.Proofs.YtdhkmdgieflioaaDoorW.PrintLast Go.Proofs.YtdhkmdgieflioaaDoorW.PrintMore
set_option linter.unusedVariables false
set_option linter.unusedSimpArgs false
open SeedSim
def WC (bc bo cc co1 co2 co3 : Nat) (mem wordsv : Value) (o0 inp : ByteArray) (s : MS) (outv : Value) : Array Value :=
  #[.int .i64 s.pc, .int .u32 (s.regs.getD 0 0), .int .u32 (s.regs.getD 1 0), .int .u32 (s.regs.getD 2 0), .int .u32 (s.regs.getD 3 0), .int .u32 (s.regs.getD 4 0), .int .u32 (s.regs.getD 5 0), .int .u32 (s.regs.getD 6 0), .int .u32 (s.regs.getD 7 0), .int .u32 (s.regs.getD 8 0), .int .u32 (s.regs.getD 9 0), .int .u32 (s.regs.getD 10 0), .int .u32 (s.regs.getD 11 0), .int .u32 (s.regs.getD 12 0), .int .u32 (s.regs.getD 13 0), .int .u32 (s.regs.getD 14 0), .int .u32 (s.regs.getD 15 0), mem, .int .i64 s.read, .string o0, .int .i64 s.steps, .int .i64 s.fin, outv, .slice (some ⟨bc, 0, none⟩) 37 co1, .slice (some ⟨bo, 0, none⟩) 37 co2, wordsv, .string inp, .slice (some ⟨cc, 0, none⟩) 37 co3]
structure Rows (CC OK : Array Value) : Prop where
  c0 : ∀ p i, code[p]? = some i → CC[p * 4]? = some (.int .i64 i.1)
  c1 : ∀ p i, code[p]? = some i → CC[p * 4 + 1]? = some (.int .i64 i.2.1)
  c2 : ∀ p i, code[p]? = some i → CC[p * 4 + 2]? = some (.int .i64 i.2.2.1)
  c3 : ∀ p i, code[p]? = some i → CC[p * 4 + 3]? = some (.int .i64 i.2.2.2)
  ok : ∀ p, p < 37 → OK[p]? = some (.bool true)
end Go.Proofs.YtdhkmdgieflioaaDoor.F
namespace Go.Proofs.YtdhkmdgieflioaaDoor.F
open Go.RowKit Go.Proofs.YtdhkmdgieflioaaDoorW.PrintWords Go.Proofs.YtdhkmdgieflioaaDoorW.PrintLast Go.Proofs.YtdhkmdgieflioaaDoorW.PrintMore
set_option linter.unusedVariables false
set_option linter.unusedSimpArgs false
theorem wrap_id (x : Int) (h0 : -9223372036854775808 ≤ x) (h1 : x < 9223372036854775808) : wrap64 x = x := by
  unfold wrap64; omega
theorem wr0 : wrap64 0 = 0 := wrap_id 0 (by omega) (by omega)
end Go.Proofs.YtdhkmdgieflioaaDoor.F
namespace Go.Proofs.YtdhkmdgieflioaaDoor.F
open Go.RowKit Go.Proofs.YtdhkmdgieflioaaDoorW.PrintWords Go.Proofs.YtdhkmdgieflioaaDoorW.PrintLast Go.Proofs.YtdhkmdgieflioaaDoorW.PrintMore
set_option linter.unusedVariables false
set_option linter.unusedSimpArgs false
open SeedSim
section
variable {P : Program}
end
theorem OutOk.lower {W : World} {base base' : Nat} {v : Value} {xs : List Int} (h : OutOk W base v xs) (hb : base' ≤ base) : OutOk W base' v xs := by
  rcases h with h | ⟨g, cap, cur, fz, h1, h2, h3⟩
  · exact .inl h
  · exact .inr ⟨g, cap, cur, fz, h1, Nat.le_trans hb h2, h3⟩
theorem Stp.belowW {W0 W W' : World} {g cc : Nat} {o : Option Nat} (hb : Below W0.heap.size W0 W) (hs : Stp W W' g cc o) (hg : W0.heap.size ≤ g) (hc : W0.heap.size ≤ cc) (ho : ∀ k, o = some k → W0.heap.size ≤ k) : Below W0.heap.size W0 W' :=
  ⟨hs.os.trans hb.os, hs.tape.trans hb.tape, hs.output.trans hb.output, Nat.le_trans hb.size hs.size, fun i hi => (hs.keep i (Nat.lt_of_lt_of_le hi hb.size) (by omega) (by omega) (fun e => by have := ho i e.symm; omega)).trans (hb.block i hi)⟩
end Go.Proofs.YtdhkmdgieflioaaDoor.F
namespace Go.Proofs.YtdhkmdgieflioaaDoor.F
open Go.RowKit Go.Proofs.YtdhkmdgieflioaaDoorW.PrintWords Go.Proofs.YtdhkmdgieflioaaDoorW.PrintLast Go.Proofs.YtdhkmdgieflioaaDoorW.PrintMore
set_option linter.unusedVariables false
set_option linter.unusedSimpArgs false
def nb (L : List UInt8) : List Int := L.map (fun b => (b.toNat : Int))
theorem nb_len (L : List UInt8) : (nb L).length = L.length := by unfold nb; simp
theorem nb_app (a b : List UInt8) : nb (a ++ b) = nb a ++ nb b := by unfold nb; simp
theorem bytesOf_nb (s : ByteArray) : bytesOf s = nb s.data.toList := by unfold bytesOf nb; simp
theorem str_nb (L : List UInt8) : strOfNums (nb L) = ⟨L.toArray⟩ := by
  refine ba_ext ?_
  unfold strOfNums nb
  simp
  rw [List.map_congr_left (g := id) (fun b _ => by simp), List.map_id]
theorem exec_conv {o : Oper} {a : Act} {W : World} (x : Operand) (s : ByteArray) (ho : o.op = .convert 9 72 x) (hx : a.eval x = .string s) :
    (execOp a.eval o).run Tryd.prog W = .ok (.value (.slice (some ⟨W.heap.size, 0, none⟩) s.size (grownCap W s.size 0 5))) (Lib.bytesWorld W 5 s) := by
  have h := Lib.run_convert_string_bytes (P := Tryd.prog) W 9 72 5 s Tryd.underlying9 Tryd.underlying72 Tryd.underlying5
  unfold execOp
  simp only [ho, hx, Sem.run_bind, Result.andThen_ok, h]
  rfl
theorem exec_append {o : Oper} {a : Act} {W w' : World} {v u v' : Value} (s x : Operand) (ho : o.op = .call { callee := .builtin .append, args := #[s, x], argTypes := #[72, 72] }) (hty : o.type = 72) (hs : a.eval s = v) (hx : a.eval x = u)
    (hr : (Builtin.append_ #[72, 72] 72 #[v, u]).run Tryd.prog W = .ok v' w') : (execOp a.eval o).run Tryd.prog W = .ok (.value v') w' := by
  unfold execOp
  simp only [ho, hty, resolve, invoke, builtin, Sem.run_bind, Sem.run_pure, Result.andThen_ok, List.map_toArray, List.map_cons, List.map_nil, hs, hx, hr]
theorem new_bytes (W : World) (s : ByteArray) : ∀ j u, ((nb s.data.toList).map (Value.int .u8))[j]? = some u → (Lib.bytesWorld W 5 s).cell? ((⟨W.heap.size, 0, none⟩ : Addr).add j) = some u := by
  intro j u hu
  have hadd : (⟨W.heap.size, 0, none⟩ : Addr).add j = ⟨W.heap.size, j, none⟩ := by unfold Addr.add; split <;> simp_all
  rw [hadd]
  have hb := Lib.bytesWorld_at_new W 5 s
  have hc : (Lib.bytesWorld W 5 s).cell? ⟨W.heap.size, j, none⟩ = (Lib.bytesCells W 5 s)[j]? := by simp [World.cell?, hb]
  rw [hc, ← hu]
  have hj : j < s.data.size := by
    have := (List.getElem?_eq_some_iff.1 hu).1
    simpa [nb] using this
  unfold Lib.bytesCells nb
  rw [Array.getElem?_append_left (by simpa using hj)]
  simp
  rfl
theorem out_app {W : World} {B : Nat} {v : Value} {xs : List Int} (h : OutOk W B v xs) (w3 : World) (xl : ByteArray) (hW : W = Lib.bytesWorld w3 5 xl) (hl : xs.length + xl.size ≤ 140737488355328) (hb : B ≤ W.heap.size) :
    ∃ v' w', (Builtin.append_ #[72, 72] 72 #[v, .slice (some ⟨w3.heap.size, 0, none⟩) xl.size (grownCap w3 xl.size 0 5)]).run Tryd.prog W = .ok v' w' ∧ OutOk w' B v' (xs ++ nb xl.data.toList) ∧ W.grownBy w' v.ownBlock := by
  subst hW
  have hlen : (nb xl.data.toList).length = xl.size := by rw [nb_len]; rfl
  have := OutOk.append h 72 ⟨w3.heap.size, 0, none⟩ (grownCap w3 xl.size 0 5) (nb xl.data.toList) (new_bytes w3 xl) (by rw [hlen]; exact hl) hb
  rw [hlen] at this
  exact this
theorem below_le {B : Nat} {w w' : World} (h : Below w.heap.size w w') (hB : B ≤ w.heap.size) : Below B w w' := ⟨h.os, h.tape, h.output, h.size, fun i hi => h.block i (Nat.lt_of_lt_of_le hi hB)⟩
def TS (A : Option Addr) (n : Nat) (xs : List Int) (gT : Nat) (CT : Array Value) : Prop := xs.length = n ∧ (0 < n → ∃ o, A = some ⟨gT, o, none⟩ ∧ ∀ (j : Nat) x, xs[j]? = some x → CT[o + j]? = some (.int .i64 x))
theorem ts_drop {A : Option Addr} {n c gT : Nat} {x : Int} {ys : List Int} {CT : Array Value} (h : TS A n (x :: ys) gT CT) (hc : n ≤ c) : TS (if c = (1 : Int).toNat then A else A.map (·.add ((1 : Int).toNat * 1))) (n - (1 : Int).toNat) ys gT CT := by
  obtain ⟨h1, h2⟩ := h
  rw [List.length_cons] at h1
  have e1 : (1 : Int).toNat = 1 := rfl
  rw [e1]
  refine ⟨by omega, fun hp => ?_⟩
  obtain ⟨o, rfl, hcell⟩ := h2 (by omega)
  rw [if_neg (by omega)]
  refine ⟨o + 1, ?_, fun j y hj => ?_⟩
  · show some ((⟨gT, o, none⟩ : Addr).add 1) = _
    rfl
  · have := hcell (j + 1) y hj
    rw [show o + 1 + j = o + (j + 1) by omega]
    exact this
theorem ts_start {W : World} {B bg : Nat} {v : Value} {xs : List Int} {bc : Array Value} (h : Kd.R (Kd.int .i64) 3 W B (fun _ => True) v xs) (hbox : W.heap[bg]? = some (.cells bc 28 (0, 0))) :
    ∃ A c gT CT tT, v = .slice A xs.length c ∧ xs.length ≤ c ∧ TS A xs.length xs gT CT ∧ tT ≠ 5 ∧ W.heap[gT]? = some (.cells CT tT (0, 0)) := by
  by_cases hp : 0 < xs.length
  · obtain ⟨g, cap, rfl, hb, hg, cells, hc⟩ := Kd.R_form h hp
    obtain ⟨A, c, e, hle, _⟩ := Kd.R_reads h
    obtain ⟨rfl, _, rfl⟩ := Value.slice.inj e
    refine ⟨_, cap, g, cells, 3, rfl, hle, ⟨rfl, fun _ => ⟨0, rfl, fun j x hj => ?_⟩⟩, by decide, hc⟩
    have hj' : j < xs.length := (List.getElem?_eq_some_iff.1 hj).1
    have h1 := (Kd.R_cell (enc := Value.int .i64) (h1 := fun _ => rfl) (0 : Int) h (j : Int) (by omega) (by omega)).1
    have h2 : W.cell? ⟨g, j, none⟩ = cells[j]? := blk_cell hc j
    rw [Int.toNat_natCast, h2] at h1
    rw [Nat.zero_add, h1]
    have : rdOf (0 : Int) xs (j : Int) = x := by simp [rdOf, List.getD_eq_getElem?_getD, hj]
    rw [this]
  · obtain ⟨A, c, rfl, hle, _⟩ := Kd.R_reads h
    exact ⟨A, c, bg, bc, 28, rfl, hle, ⟨rfl, fun h0 => absurd h0 hp⟩, by decide, hbox⟩
def rkF (l : List Int) (k : Nat) : List Int := (((List.range l.length).map (fun n : Nat => (n : Int))).drop k).filter (tgtB l)
theorem rk_zero (l : List Int) : rkF l 0 = tgts l := rfl
theorem rk_cons (l : List Int) (k : Nat) (h : k < l.length) : rkF l k = if tgtB l (k : Int) = true then (k : Int) :: rkF l (k + 1) else rkF l (k + 1) := by
  unfold rkF
  rw [List.drop_eq_getElem_cons (by simpa using h), List.filter_cons]
  simp
theorem rk_gt (l : List Int) (k : Nat) : ∀ x ∈ rkF l k, (k : Int) ≤ x := by
  intro x hx
  have h1 := (List.mem_filter.1 hx).1
  obtain ⟨j, hj, rfl⟩ := List.getElem_of_mem h1
  simp
  omega
def seedcornref11_Text.f (l0_0 : List Int) (a0_1 : Int) : Option (ByteArray × Int) := listing_Text.f l0_0 a0_1
set_option maxHeartbeats 8000000 in
set_option maxRecDepth 100000 in
theorem ref_refused (A0 : Option Addr) (c0 : Nat) (l : List Int) (d : Int) (w : World) (hr : Kd.C (Kd.int .u32) w A0 l.length l) (hc : l.length ≤ c0) (hl : l.length ≤ 1000) (hd : ¬ (0 ≤ d ∧ d ≤ 32768)) :
    Calls Tryd.prog 55 #[.agg #[.slice A0 l.length c0, .int .i64 d]] w fun e w' => e = .returned (.tuple #[.string ⟨#[]⟩, .int .i64 1]) ∧ Below w.heap.size w w' := by
  have hu28 := Tryd.underlying28
  have hf := right8_f l d
  rw [decide_eq_false (fun x => hd ⟨x.2.1, x.2.2⟩)] at hf
  have HB0 := Aside0.mk (((Below.refl w.heap.size w).alloc (Nat.le_refl _) (.cells #[.slice A0 l.length c0, .int .i64 d] 28)))
  have HR := Aside0.mk (Kd.C_below hr HB0.out)
  have HF := Aside0.mk hf
  have HC := Aside0.mk hc
  clear hr hf hc hd
  go_enter Tryd.func55, Tryd.ntmps55
  go_wp2_with (go_at_call 34; refine (seedcornref08_Right.calls A0 c0 l d _ _ HR.out HC.out HF.out).mono ?_; rintro e w2 ⟨rfl, hb2⟩; have HB2 := Aside0.mk (below_step HB0.out hb2); clear hb2)
  go_ret2
  exact ⟨rfl, HB2.out⟩
set_option maxHeartbeats 16000000 in
set_option maxRecDepth 100000 in
theorem ref_made (A0 : Option Addr) (c0 : Nat) (l : List Int) (d : Int) (w : World) (hr : Kd.C (Kd.int .u32) w A0 l.length l) (hc : l.length ≤ c0) (hl : okL l = true) (hd : 0 ≤ d ∧ d ≤ 32768) :
    Calls Tryd.prog 55 #[.agg #[.slice A0 l.length c0, .int .i64 d]] w fun e w' => e = .returned (.tuple #[.string ⟨(listB l d).toArray⟩, .int .i64 0]) ∧ Below w.heap.size w w' := by
  have hu28 := Tryd.underlying28
  have hf := right8_f l d
  have hlen := okL_len hl
  rw [decide_eq_true ⟨by omega, hd.1, hd.2⟩] at hf
  obtain ⟨kd, hkd⟩ := (number11_ev d hd.1 (by omega)).rounds
  have hns := num_size d hd.1 (by omega)
  obtain ⟨kt, hkt⟩ := (tgts_ev l d hl).rounds
  obtain ⟨xd, hxd⟩ : ∃ x : ByteArray, x = ⟨(num d).toArray⟩ := ⟨_, rfl⟩
  rw [← hxd] at hkd hns
  have h6 : (⟨#[46, 100, 97, 116, 97, 32]⟩ : ByteArray).size = 6 := rfl
  have h7 : ((⟨#[46, 100, 97, 116, 97, 32]⟩ : ByteArray) ++ xd).size ≤ 100 := by rw [ByteArray.size_append, h6]; omega
  have HEAD := Aside0.mk (show (((⟨#[46, 100, 97, 116, 97, 32]⟩ : ByteArray) ++ xd) ++ (⟨#[10]⟩ : ByteArray)).data.toList = headB d by rw [ba_app, ba_app, hxd]; rfl)
  have HEADS := Aside0.mk (show (((⟨#[46, 100, 97, 116, 97, 32]⟩ : ByteArray) ++ xd) ++ (⟨#[10]⟩ : ByteArray)).size ≤ 1000 by rw [ByteArray.size_append]; have : (⟨#[10]⟩ : ByteArray).size = 1 := rfl; omega)
  have HKD := Aside0.mk hkd
  have HKT := Aside0.mk hkt
  have HB0 := Aside0.mk (((Below.refl w.heap.size w).alloc (Nat.le_refl _) (.cells #[.slice A0 l.length c0, .int .i64 d] 28)))
  have HR := Aside0.mk hr
  have HF := Aside0.mk hf
  have HC := Aside0.mk hc
  have HL := Aside0.mk hl
  have HLN := Aside0.mk hlen
  have HLM := Aside0.mk (okL_mem hl)
  have HDB := Aside0.mk hd
  clear hr hf hc hd hl hlen hkd hkt hxd
  go_enter Tryd.func55, Tryd.ntmps55
  go_wp2_with (first
    | (go_at_call 54; refine (seedcornref11_Targets.calls kt A0 c0 l d (tgts l) _ (Kd.C_below HR.out HB5.out) HC.out HKT.out).mono ?_; rintro e w6 ⟨v0, rfl, hv0, hb6⟩; have HB6 := Aside0.mk (below_step HB5.out hb6); have BX6 := Aside0.mk (blk_below BX5.out hb6); have HO6 := Aside0.mk (OutOk.below HO5.out hb6); obtain ⟨A5, c5, gT, CT, tT, rfl, hc5, hts, ht5, hbt⟩ := ts_start hv0 BX6.out; have HC5 := Aside0.mk hc5; have HTS := Aside0.mk hts; have HT5 := Aside0.mk ht5; have BT6 := Aside0.mk hbt; clear hb6 hv0 hc5 hts ht5 hbt hcz0 hcz1)
    | ((with_reducible refine gate_ (.convert 9 72 (.tmp 14)) rfl ?_); refine Kd.event_run rfl (exec_conv (.tmp 14) _ rfl rfl) ?_; have HO5 := Aside0.mk (OutOk.made w3 w.heap.size _ HB3.out.size (grownCap_le_maxLen w3 _ 0 5 (Nat.le_trans HEADS.out (by decide)))); have HB5 := Aside0.mk (bytes_below HB3.out HB3.out.size 5 (((⟨#[46, 100, 97, 116, 97, 32]⟩ : ByteArray) ++ xd) ++ (⟨#[10]⟩ : ByteArray))); have BX5 := Aside0.mk ((Lib.bytesWorld_at_old w3 5 (((⟨#[46, 100, 97, 116, 97, 32]⟩ : ByteArray) ++ xd) ++ (⟨#[10]⟩ : ByteArray)) w.heap.size (blk_lt BX3.out)).trans BX3.out); clear hcz0 hcz1; generalize Lib.bytesWorld w3 5 (((⟨#[46, 100, 97, 116, 97, 32]⟩ : ByteArray) ++ xd) ++ (⟨#[10]⟩ : ByteArray)) = w5 at HO5 HB5 BX5 ⊢; rw [bytesOf_nb, HEAD.out] at HO5; generalize Value.slice (some ⟨w3.heap.size, 0, none⟩) (((⟨#[46, 100, 97, 116, 97, 32]⟩ : ByteArray) ++ xd) ++ (⟨#[10]⟩ : ByteArray)).size (grownCap w3 (((⟨#[46, 100, 97, 116, 97, 32]⟩ : ByteArray) ++ xd) ++ (⟨#[10]⟩ : ByteArray)).size 0 5) = v15 at HO5 ⊢; have hcz0 : w5.cell? ⟨w.heap.size, 0, none⟩ = some (.slice A0 l.length c0) := (blk_cell BX5.out 0).trans rfl; have hcz1 : w5.cell? ⟨w.heap.size, 1, none⟩ = some (.int .i64 d) := (blk_cell BX5.out 1).trans rfl)
    | (go_at_call 89; refine (seedcornref11_number.calls kd d xd _ HKD.out).mono ?_; rintro e w3 ⟨rfl, hb3⟩; have HB3 := Aside0.mk (below_step HB2.out hb3); have BX3 := Aside0.mk (blk_below BX2.out hb3); clear hb3 hcz0 hcz1; have hcz0 : w3.cell? ⟨w.heap.size, 0, none⟩ = some (.slice A0 l.length c0) := (blk_cell BX3.out 0).trans rfl; have hcz1 : w3.cell? ⟨w.heap.size, 1, none⟩ = some (.int .i64 d) := (blk_cell BX3.out 1).trans rfl)
    | (go_at_call 34; refine (seedcornref08_Right.calls A0 c0 l d _ _ (Kd.C_below HR.out HB0.out) HC.out HF.out).mono ?_; rintro e w2 ⟨rfl, hb2⟩; have HB2 := Aside0.mk (below_step HB0.out hb2); have BX2 := Aside0.mk (blk_below (blk_new w (.cells #[.slice A0 l.length c0, .int .i64 d] 28)) hb2); clear hb2; have hcz0 : w2.cell? ⟨w.heap.size, 0, none⟩ = some (.slice A0 l.length c0) := (blk_cell BX2.out 0).trans rfl; have hcz1 : w2.cell? ⟨w.heap.size, 1, none⟩ = some (.int .i64 d) := (blk_cell BX2.out 1).trans rfl))
  go_loopw [4, 5, 6] (fun v4 v5 v6 wr => ∃ (k : Nat) (A : Option Addr) (n c : Nat), v6 = .int .i64 k ∧ v5 = .slice A n c ∧ Aside0 (k ≤ l.length) ∧ Aside0 (TS A n (rkF l k) gT CT) ∧ Aside0 (n ≤ c) ∧ Aside0 (OutOk wr w.heap.size v4 (nb (headB d ++ bodyB (tgtB l) 0 (l.take k)))) ∧ Aside0 (wr.heap[w.heap.size]? = some (.cells #[.slice A0 l.length c0, .int .i64 d] 28 (0, 0))) ∧ Aside0 (wr.heap[gT]? = some (.cells CT tT (0, 0))) ∧ Aside0 (Below w.heap.size w wr))
    (fun _ _ v6 _ => l.length - (intOf v6).toNat)
  case atStart => exact ⟨0, A5, _, c5, rfl, rfl, ⟨Nat.zero_le _⟩, ⟨by rw [rk_zero]; exact HTS.out⟩, HC5, ⟨by simpa [bodyB] using HO6.out⟩, BX6, BT6, HB6⟩
  case round =>
    clear HTS HC5 HO6 BX6 BT6 HB6 HO5 BX5 HB5
    obtain ⟨k, A, n, c, rfl, rfl, HK, HTS, HCN, HOX, BXX, BTX, HBX⟩ := hrel
    have hln := HLN.out
    have HPL := Aside0.mk (show (nb (headB d ++ bodyB (tgtB l) 0 (l.take k))).length ≤ 22001000 by
      have h1 := head_len d HDB.out.1 HDB.out.2
      have h2 := body_len (tgtB l) (l.take k) 0 (by rw [List.length_take]; omega) (fun x hx => HLM.out x (List.mem_of_mem_take hx))
      rw [nb_len, List.length_append]
      rw [List.length_take] at h2
      omega)
    have hcz0 : wr.cell? ⟨w.heap.size, 0, none⟩ = some (.slice A0 l.length c0) := (blk_cell BXX.out 0).trans rfl
    by_cases hlt : k < l.length
    · obtain ⟨ad, he, hcell⟩ := Kd.at_int (Kd.C_below HR.out HBX.out) (k : Int) (by omega) (by omega)
      subst he
      clear hcell
      have q7 := eq_true (show (k : Int) < (l.length : Int) by omega)
      have Q7 := Aside0.mk q7
      have P8 := Aside0.mk (eq_true (show 0 ≤ (k : Int) by omega))
      have HST := Aside0.mk (body_step (tgtB l) l k hlt)
      have hmem := List.mem_of_getElem? (rd_at l k hlt)
      have HVM := Aside0.mk (HLM.out _ hmem)
      obtain ⟨kl, hkl⟩ := (line_ev l _ HL.out hmem).rounds
      have HIL := instr_len (tgtB l) _ HVM.out.1 HVM.out.2
      obtain ⟨v, hv⟩ : ∃ v, v = rd l (k : Int) := ⟨_, rfl⟩
      rw [← hv] at HST HIL hkl
      have HVK := Aside0.mk hv.symm
      obtain ⟨xl, hxl⟩ : ∃ x : ByteArray, x = ⟨(lineR (tgtB l) v).toArray⟩ := ⟨_, rfl⟩
      rw [← hxl] at hkl
      have HXD := Aside0.mk (show xl.data.toList = lineR (tgtB l) v by rw [hxl])
      have HXS := Aside0.mk (show xl.size ≤ 22000 by rw [hxl, ba_size]; unfold lineR; simp; omega)
      have HKL := Aside0.mk hkl
      have hrk := rk_cons l k hlt
      clear hmem hv hxl hkl HIL
      cases htk : tgtB l (k : Int) with
      | true =>
        rw [htk, if_pos rfl] at hrk
        rw [hrk] at HTS
        have HEND := Aside0.mk (show nb (headB d ++ bodyB (tgtB l) 0 (l.take (k + 1))) = (nb (headB d ++ bodyB (tgtB l) 0 (l.take k)) ++ nb ([76] ++ num k ++ [58, 10])) ++ nb (lineR (tgtB l) v) by
          rw [HST.out]
          unfold lineB lineR
          rw [htk, if_pos rfl]
          simp only [nb_app, List.append_assoc])
        obtain ⟨kn, hkn⟩ := (number11_ev (k : Int) (by omega) (by omega)).rounds
        have hnk := num_size (k : Int) (by omega) (by omega)
        obtain ⟨xk, hxk⟩ : ∃ x : ByteArray, x = ⟨(num (k : Int)).toArray⟩ := ⟨_, rfl⟩
        rw [← hxk] at hkn hnk
        have HKN := Aside0.mk hkn
        have HNL := Aside0.mk (show (num (k : Int)).length ≤ 21 by rw [hxk, ba_size] at hnk; exact hnk)
        have h1 : (⟨#[76]⟩ : ByteArray).size = 1 := rfl
        have h2 : (⟨#[58, 10]⟩ : ByteArray).size = 2 := rfl
        have h3 : ((⟨#[76]⟩ : ByteArray) ++ xk).size ≤ 22 := by rw [ByteArray.size_append, h1]; omega
        have HSL := Aside0.mk (show (((⟨#[76]⟩ : ByteArray) ++ xk) ++ (⟨#[58, 10]⟩ : ByteArray)).data.toList = [76] ++ num k ++ [58, 10] by rw [ba_app, ba_app, hxk])
        have HSS := Aside0.mk (show (((⟨#[76]⟩ : ByteArray) ++ xk) ++ (⟨#[58, 10]⟩ : ByteArray)).size ≤ 24 by rw [ByteArray.size_append, h2]; omega)
        have hn : n = (rkF l (k + 1)).length + 1 := HTS.out.1.symm
        obtain ⟨o, rfl, hcx⟩ := HTS.out.2 (by omega)
        have hcell : wr.cell? ⟨gT, o, none⟩ = some (.int .i64 (k : Int)) := (blk_cell BTX.out o).trans (hcx 0 _ rfl)
        have hcell2 : wr.cell? ((⟨gT, o, none⟩ : Addr).add 0) = some (.int .i64 (k : Int)) := hcell
        have e1 : decide (0 < (n : Int)) = true := decide_eq_true (by omega)
        have e2 : decide (0 < n) = true := decide_eq_true (by omega)
        have e3 := eq_true (show 0 < n by omega)
        have e4 := eq_true (show 0 < (n : Int) by omega)
        have e5 : ((k : Int) == (k : Int)) = true := beq_self_eq_true _
        have q5 : (1 : Int) ≤ (n : Int) := by omega
        obtain ⟨i0, hi0, _, hsz0, _⟩ := info_parts info3
        have hcut := cut_from (P := Tryd.prog) 42 3 .i64 Tryd.underlying42 hi0 1 hsz0 (some ⟨gT, o, none⟩) n c 1 (by omega) q5
        have hd6 := ts_drop HTS.out HCN.out
        obtain ⟨A6, hA6⟩ : ∃ A6, A6 = (if c = (1 : Int).toNat then (some ⟨gT, o, none⟩) else (some (⟨gT, o, none⟩ : Addr)).map (·.add ((1 : Int).toNat * 1))) := ⟨_, rfl⟩
        obtain ⟨n6, hn6⟩ : ∃ n6, n6 = n - (1 : Int).toNat := ⟨_, rfl⟩
        obtain ⟨c6, hc6⟩ : ∃ c6, c6 = c - (1 : Int).toNat := ⟨_, rfl⟩
        rw [← hA6, ← hn6, ← hc6] at hcut
        rw [← hA6, ← hn6] at hd6
        have HTS6 := Aside0.mk hd6
        have HC6 := Aside0.mk (show n6 ≤ c6 by have := HCN.out; omega)
        replace q5 := eq_true q5
        clear hrk htk hn hcx hkn hxk hA6 hn6 hc6 hi0 hsz0 hd6 HTS
        go_wp2_with (first
          | ((with_reducible refine gate_ (.call { callee := .builtin .append, args := #[.tmp 35, .tmp 40], argTypes := #[72, 72] }) rfl ?_); obtain ⟨v8, w8, hr8, ho8, hg8⟩ := out_app (OutOk.below HOX.out (bytes_below HB3.out HB3.out.size 5 (((⟨#[76]⟩ : ByteArray) ++ xk) ++ (⟨#[58, 10]⟩ : ByteArray)))) w3 (((⟨#[76]⟩ : ByteArray) ++ xk) ++ (⟨#[58, 10]⟩ : ByteArray)) rfl (by have := HSS.out; have := HPL.out; omega) (Nat.le_trans HBX.out.size (bytes_below HB3.out HB3.out.size 5 (((⟨#[76]⟩ : ByteArray) ++ xk) ++ (⟨#[58, 10]⟩ : ByteArray))).size); have hHeld := bytes_below HB3.out HB3.out.size 5 (((⟨#[76]⟩ : ByteArray) ++ xk) ++ (⟨#[58, 10]⟩ : ByteArray)); rw [HSL.out] at ho8; have HO8 := Aside0.mk ho8; have HB8 := Aside0.mk (Below.grown (HBX.out.trans (below_le hHeld HBX.out.size)) hg8 (Nat.le_trans HBX.out.size hHeld.size) (fun b hb => (OutOk.lt HOX.out b hb).1)); have BX8 := Aside0.mk (blk_grown (blk_below BXX.out hHeld) hg8 (OutOk.ne HOX.out BXX.out (by decide))); have BT8 := Aside0.mk (blk_grown (blk_below BTX.out hHeld) hg8 (OutOk.ne HOX.out BTX.out HT5.out)); refine Kd.event_run rfl (exec_append (.tmp 35) (.tmp 40) rfl rfl rfl rfl hr8) ?_; clear hr8 ho8 hg8 hHeld hcell hcell2)
          | ((with_reducible refine gate_ (.convert 9 72 (.tmp 39)) rfl ?_); refine Kd.event_run rfl (exec_conv (.tmp 39) _ rfl rfl) ?_)
          | (go_at_call 89; refine (seedcornref11_number.calls kn (k : Int) xk _ HKN.out).mono ?_; rintro e w3 ⟨rfl, hb3⟩; have HB3 := Aside0.mk hb3; clear hb3))
        have HPL2 := Aside0.mk (show (nb (headB d ++ bodyB (tgtB l) 0 (l.take k)) ++ nb ([76] ++ num k ++ [58, 10])).length ≤ 22002000 by
          have h5 := HPL.out
          have h6 := HNL.out
          rw [List.length_append, nb_len ([76] ++ num k ++ [58, 10])]
          simp only [List.length_append, List.length_cons, List.length_nil]
          omega)
        clear HOX BXX BTX HBX HPL hcz0
        have HOX := HO8
        have BXX := BX8
        have BTX := BT8
        have HBX := HB8
        have HPL := HPL2
        clear HO8 BX8 BT8 HB8 HPL2
        refine start_ (n := 13) (S := fun w' => Below w8.heap.size w8 w') (ds := [11]) #[false, false, false, false, false, false, false, false, false, false, false, false, false] (by kernel_rfl) rfl rfl ((by repeat (first | (with_reducible exact Below.refl _ _) | (with_reducible apply below_drew1) | (with_reducible apply pw_below_drewN)))) (fun hHeld => ?_)
        refine pure_ (i := 0) (N := some 44) (v := ?_) (a' := ?_) #[true, false, false, false, false, false, false, false, false, false, false, false, false] rfl rfl (by kernel_rfl) (fun _ _ _ h => h) (Or.inl ⟨by rfl, ?_⟩) ?_ ?_
        rotate_left
        · intro w'
          go_simp
          with_reducible rfl
        rotate_left
        · simp only [Act.put, List.setIfInBounds_toArray, List.set_cons_zero, List.set_cons_succ, i64_w, i32_w]
          rfl
        refine pure_ (i := 1) (N := some 45) (v := ?_) (a' := ?_) #[true, true, false, false, false, false, false, false, false, false, false, false, false] rfl rfl (by kernel_rfl) (fun _ _ _ h => h) (Or.inl ⟨by rfl, ?_⟩) ?_ ?_
        rotate_left
        · intro w'
          go_simp
          with_reducible rfl
        rotate_left
        · simp only [Act.put, List.setIfInBounds_toArray, List.set_cons_zero, List.set_cons_succ, i64_w, i32_w]
          rfl
        refine pure_ (i := 3) (N := some 47) (v := ?_) (a' := ?_) #[true, true, false, true, false, false, false, false, false, false, false, false, false] rfl rfl (by kernel_rfl) (fun _ _ _ h => h) (Or.inl ⟨by rfl, ?_⟩) ?_ ?_
        rotate_left
        · intro w'
          go_simp
          with_reducible rfl
        rotate_left
        · simp only [Act.put, List.setIfInBounds_toArray, List.set_cons_zero, List.set_cons_succ, i64_w, i32_w]
          rfl
        refine pure_ (i := 6) (N := some 50) (v := ?_) (a' := ?_) #[true, true, false, true, false, false, true, false, false, false, false, false, false] rfl rfl (by kernel_rfl) (fun _ _ _ h => h) (Or.inl ⟨by rfl, ?_⟩) ?_ ?_
        rotate_left
        · intro w'
          go_simp
          with_reducible rfl
        rotate_left
        · simp only [Act.put, List.setIfInBounds_toArray, List.set_cons_zero, List.set_cons_succ, i64_w, i32_w]
          rfl
        refine take_ (i := 2) (N := some 46) (v := ?_) (a' := ?_) #[true, true, true, true, false, false, true, false, false, false, false, false, false] rfl rfl (by kernel_rfl) (fun _ _ _ h => h) (Or.inl ⟨by rfl, ?_⟩) hHeld ?_ ?_
        rotate_left
        · intro w' s0
          have hcz0 : w'.cell? ⟨w.heap.size, 0, none⟩ = some (.slice (some ad) l.length c0) := (blk_cell (blk_below BXX.out s0) 0).trans rfl
          go_simp
          with_reducible rfl
        rotate_left
        · simp only [Act.put, List.setIfInBounds_toArray, List.set_cons_zero, List.set_cons_succ, i64_w, i32_w]
          rfl
        refine pure_ (i := 4) (N := some 48) (v := ?_) (a' := ?_) #[true, true, true, true, true, false, true, false, false, false, false, false, false] rfl rfl (by kernel_rfl) (fun _ _ _ h => h) (Or.inl ⟨by rfl, ?_⟩) ?_ ?_
        rotate_left
        · intro w'
          have q7 := Q7.out
          have p8 := P8.out
          go_simp
          with_reducible rfl
        rotate_left
        · simp only [Act.put, List.setIfInBounds_toArray, List.set_cons_zero, List.set_cons_succ, i64_w, i32_w]
          rfl
        refine take_ (i := 5) (N := some 49) (v := ?_) (a' := ?_) #[true, true, true, true, true, true, true, false, false, false, false, false, false] rfl rfl (by kernel_rfl) (fun _ _ _ h => h) (Or.inl ⟨by rfl, ?_⟩) hHeld ?_ ?_
        rotate_left
        · intro w' s0
          obtain ⟨ad', he', hcell⟩ := Kd.at_int (Kd.C_below HR.out (HBX.out.trans (below_le s0 HBX.out.size))) (k : Int) (by omega) (by omega)
          cases he'
          simp only [Int.toNat_natCast] at hcell
          rw [HVK.out] at hcell
          go_simp
          with_reducible rfl
        rotate_left
        · simp only [Act.put, List.setIfInBounds_toArray, List.set_cons_zero, List.set_cons_succ, i64_w, i32_w]
          rfl
        refine take_ (i := 7) (N := some 51) (v := ?_) (a' := ?_) #[true, true, true, true, true, true, true, true, false, false, false, false, false] rfl rfl (by kernel_rfl) (fun _ _ _ h => h) (Or.inl ⟨by rfl, ?_⟩) hHeld ?_ ?_
        rotate_left
        · intro w' s0
          have hcz0 : w'.cell? ⟨w.heap.size, 0, none⟩ = some (.slice (some ad) l.length c0) := (blk_cell (blk_below BXX.out s0) 0).trans rfl
          go_simp
          with_reducible rfl
        rotate_left
        · simp only [Act.put, List.setIfInBounds_toArray, List.set_cons_zero, List.set_cons_succ, i64_w, i32_w]
          rfl
        refine pure_ (i := 8) (N := some 52) (v := ?_) (a' := ?_) #[true, true, true, true, true, true, true, true, true, false, false, false, false] rfl rfl (by kernel_rfl) (fun _ _ _ h => h) (Or.inl ⟨by rfl, ?_⟩) ?_ ?_
        rotate_left
        · intro w'
          go_simp
          with_reducible rfl
        rotate_left
        · simp only [Act.put, List.setIfInBounds_toArray, List.set_cons_zero, List.set_cons_succ, i64_w, i32_w]
          rfl
        refine one_ (i := 9) (N := some 53) #[true, true, true, true, true, true, true, true, true, true, false, false, false] rfl rfl (by kernel_rfl) (by decide) (fun K hK => ?_)
        refine goes_ Tryd.func90 (by kernel_rfl) rfl #[.int .u32 v, .int .i64 (l.length : Nat)] (by rfl) rfl rfl (by simp only [List.map_toArray, List.map_cons, List.map_nil]; rfl) ?_
        with_reducible refine (seedcornref11_Line.calls kl v (l.length : Nat) xl _ HKL.out).mono ?_
        rintro e w3 ⟨rfl, hb3⟩
        refine ⟨_, rfl, ?_⟩
        refine hK.out _ _ ((below_step hHeld hb3)) (fun hHeld => ?_)
        clear hK K
        refine norm_ (a' := ?_) ?_ ?_
        rotate_left
        · show Act.put _ (some 53) _ = _
          simp only [Act.put, List.setIfInBounds_toArray, List.set_cons_zero, List.set_cons_succ, i64_w, i32_w]
          rfl
        refine one_ (i := 10) (N := some 54) #[true, true, true, true, true, true, true, true, true, true, true, false, false] rfl rfl (by kernel_rfl) (by decide) (fun K hK => ?_)
        refine value_ (by rfl) rfl (exec_conv (.tmp 53) xl ?_ ?_) ?_
        · rfl
        · rfl
        refine hK.out _ _ ((bytes_below hHeld hHeld.size _ _)) (fun hHeld => ?_)
        clear hK K
        refine norm_ (a' := ?_) ?_ ?_
        rotate_left
        · show Act.put _ (some 54) _ = _
          simp only [Act.put, List.setIfInBounds_toArray, List.set_cons_zero, List.set_cons_succ, i64_w, i32_w]
          rfl
        refine last_ (i := 11) (N := some 55) #[true, true, true, true, true, true, true, true, true, true, true, true, false] rfl rfl (by kernel_rfl) (by decide) (fun K hK => ?_)
        obtain ⟨v9, w9, hr9, ho9, hg9⟩ := out_app (OutOk.below HOX.out hHeld) w3 xl rfl (by have := HXS.out; have := HPL.out; omega) (Nat.le_trans HBX.out.size hHeld.size)
        have HO9 := Aside0.mk ho9
        have HB9 := Aside0.mk (Below.grown (HBX.out.trans (below_le hHeld HBX.out.size)) hg9 (Nat.le_trans HBX.out.size hHeld.size) (fun b hb => (OutOk.lt HOX.out b hb).1))
        have BX9 := Aside0.mk (blk_grown (blk_below BXX.out hHeld) hg9 (OutOk.ne HOX.out BXX.out (by decide)))
        have BT9 := Aside0.mk (blk_grown (blk_below BTX.out hHeld) hg9 (OutOk.ne HOX.out BTX.out HT5.out))
        refine value_ (by rfl) rfl (exec_append (.tmp 44) (.tmp 54) ?_ ?_ ?_ ?_ hr9) ?_
        · rfl
        · rfl
        · rfl
        · rfl
        clear hr9 ho9 hg9
        refine hK.out _ _ ?_
        clear hK K
        refine norm_ (a' := ?_) ?_ ?_
        rotate_left
        · show Act.put _ (some 55) _ = _
          simp only [Act.put, List.setIfInBounds_toArray, List.set_cons_zero, List.set_cons_succ, i64_w, i32_w]
          rfl
        refine pure_ (i := 12) (N := some 4) (v := ?_) (a' := ?_) #[true, true, true, true, true, true, true, true, true, true, true, true, true] rfl rfl (by kernel_rfl) (fun _ _ _ h => h) (Or.inl ⟨by rfl, ?_⟩) ?_ ?_
        rotate_left
        · intro w'
          go_simp
          with_reducible rfl
        rotate_left
        · simp only [Act.put, List.setIfInBounds_toArray, List.set_cons_zero, List.set_cons_succ, i64_w, i32_w]
          rfl
        refine done_ (by kernel_rfl) ?_
        go_wp2_with fail
        go_roundw
        case rel => exact ⟨k + 1, A6, n6, c6, by go_num, rfl, ⟨by omega⟩, HTS6, HC6, ⟨by have h1 := HO9.out; have h2 := HEND.out; rw [HXD.out] at h1; rw [h2]; exact h1⟩, BX9, BT9, HB9⟩
        case measure => simp [intOf]; omega
      | false =>
        rw [htk, if_neg (by decide)] at hrk
        have HEND := Aside0.mk (show nb (headB d ++ bodyB (tgtB l) 0 (l.take (k + 1))) = nb (headB d ++ bodyB (tgtB l) 0 (l.take k)) ++ nb (lineR (tgtB l) v) by
          rw [HST.out]
          unfold lineB lineR
          rw [htk, if_neg (by decide)]
          simp only [nb_app, List.append_assoc, List.nil_append])
        have hgt := rk_gt l (k + 1)
        rw [← hrk] at hgt
        have HTS6 : Aside0 (TS A n (rkF l (k + 1)) gT CT) := ⟨by rw [← hrk]; exact HTS.out⟩
        cases hrl : rkF l k with
        | nil =>
          rw [hrl] at HTS
          have hn : n = 0 := HTS.out.1.symm
          subst hn
          clear hrk hgt hrl HTS htk
          go_wp2_with fail
          refine start_ (n := 13) (S := fun w' => Below wr.heap.size wr w') (ds := [11]) #[false, false, false, false, false, false, false, false, false, false, false, false, false] (by kernel_rfl) rfl rfl ((by repeat (first | (with_reducible exact Below.refl _ _) | (with_reducible apply below_drew1) | (with_reducible apply pw_below_drewN)))) (fun hHeld => ?_)
          refine pure_ (i := 0) (N := some 44) (v := ?_) (a' := ?_) #[true, false, false, false, false, false, false, false, false, false, false, false, false] rfl rfl (by kernel_rfl) (fun _ _ _ h => h) (Or.inl ⟨by rfl, ?_⟩) ?_ ?_
          rotate_left
          · intro w'
            go_simp
            with_reducible rfl
          rotate_left
          · simp only [Act.put, List.setIfInBounds_toArray, List.set_cons_zero, List.set_cons_succ, i64_w, i32_w]
            rfl
          refine pure_ (i := 1) (N := some 45) (v := ?_) (a' := ?_) #[true, true, false, false, false, false, false, false, false, false, false, false, false] rfl rfl (by kernel_rfl) (fun _ _ _ h => h) (Or.inl ⟨by rfl, ?_⟩) ?_ ?_
          rotate_left
          · intro w'
            go_simp
            with_reducible rfl
          rotate_left
          · simp only [Act.put, List.setIfInBounds_toArray, List.set_cons_zero, List.set_cons_succ, i64_w, i32_w]
            rfl
          refine pure_ (i := 3) (N := some 47) (v := ?_) (a' := ?_) #[true, true, false, true, false, false, false, false, false, false, false, false, false] rfl rfl (by kernel_rfl) (fun _ _ _ h => h) (Or.inl ⟨by rfl, ?_⟩) ?_ ?_
          rotate_left
          · intro w'
            go_simp
            with_reducible rfl
          rotate_left
          · simp only [Act.put, List.setIfInBounds_toArray, List.set_cons_zero, List.set_cons_succ, i64_w, i32_w]
            rfl
          refine pure_ (i := 6) (N := some 50) (v := ?_) (a' := ?_) #[true, true, false, true, false, false, true, false, false, false, false, false, false] rfl rfl (by kernel_rfl) (fun _ _ _ h => h) (Or.inl ⟨by rfl, ?_⟩) ?_ ?_
          rotate_left
          · intro w'
            go_simp
            with_reducible rfl
          rotate_left
          · simp only [Act.put, List.setIfInBounds_toArray, List.set_cons_zero, List.set_cons_succ, i64_w, i32_w]
            rfl
          refine take_ (i := 2) (N := some 46) (v := ?_) (a' := ?_) #[true, true, true, true, false, false, true, false, false, false, false, false, false] rfl rfl (by kernel_rfl) (fun _ _ _ h => h) (Or.inl ⟨by rfl, ?_⟩) hHeld ?_ ?_
          rotate_left
          · intro w' s0
            have hcz0 : w'.cell? ⟨w.heap.size, 0, none⟩ = some (.slice (some ad) l.length c0) := (blk_cell (blk_below BXX.out s0) 0).trans rfl
            go_simp
            with_reducible rfl
          rotate_left
          · simp only [Act.put, List.setIfInBounds_toArray, List.set_cons_zero, List.set_cons_succ, i64_w, i32_w]
            rfl
          refine pure_ (i := 4) (N := some 48) (v := ?_) (a' := ?_) #[true, true, true, true, true, false, true, false, false, false, false, false, false] rfl rfl (by kernel_rfl) (fun _ _ _ h => h) (Or.inl ⟨by rfl, ?_⟩) ?_ ?_
          rotate_left
          · intro w'
            have q7 := Q7.out
            have p8 := P8.out
            go_simp
            with_reducible rfl
          rotate_left
          · simp only [Act.put, List.setIfInBounds_toArray, List.set_cons_zero, List.set_cons_succ, i64_w, i32_w]
            rfl
          refine take_ (i := 5) (N := some 49) (v := ?_) (a' := ?_) #[true, true, true, true, true, true, true, false, false, false, false, false, false] rfl rfl (by kernel_rfl) (fun _ _ _ h => h) (Or.inl ⟨by rfl, ?_⟩) hHeld ?_ ?_
          rotate_left
          · intro w' s0
            obtain ⟨ad', he', hcell⟩ := Kd.at_int (Kd.C_below HR.out (HBX.out.trans (below_le s0 HBX.out.size))) (k : Int) (by omega) (by omega)
            cases he'
            simp only [Int.toNat_natCast] at hcell
            rw [HVK.out] at hcell
            go_simp
            with_reducible rfl
          rotate_left
          · simp only [Act.put, List.setIfInBounds_toArray, List.set_cons_zero, List.set_cons_succ, i64_w, i32_w]
            rfl
          refine take_ (i := 7) (N := some 51) (v := ?_) (a' := ?_) #[true, true, true, true, true, true, true, true, false, false, false, false, false] rfl rfl (by kernel_rfl) (fun _ _ _ h => h) (Or.inl ⟨by rfl, ?_⟩) hHeld ?_ ?_
          rotate_left
          · intro w' s0
            have hcz0 : w'.cell? ⟨w.heap.size, 0, none⟩ = some (.slice (some ad) l.length c0) := (blk_cell (blk_below BXX.out s0) 0).trans rfl
            go_simp
            with_reducible rfl
          rotate_left
          · simp only [Act.put, List.setIfInBounds_toArray, List.set_cons_zero, List.set_cons_succ, i64_w, i32_w]
            rfl
          refine pure_ (i := 8) (N := some 52) (v := ?_) (a' := ?_) #[true, true, true, true, true, true, true, true, true, false, false, false, false] rfl rfl (by kernel_rfl) (fun _ _ _ h => h) (Or.inl ⟨by rfl, ?_⟩) ?_ ?_
          rotate_left
          · intro w'
            go_simp
            with_reducible rfl
          rotate_left
          · simp only [Act.put, List.setIfInBounds_toArray, List.set_cons_zero, List.set_cons_succ, i64_w, i32_w]
            rfl
          refine one_ (i := 9) (N := some 53) #[true, true, true, true, true, true, true, true, true, true, false, false, false] rfl rfl (by kernel_rfl) (by decide) (fun K hK => ?_)
          refine goes_ Tryd.func90 (by kernel_rfl) rfl #[.int .u32 v, .int .i64 (l.length : Nat)] (by rfl) rfl rfl (by simp only [List.map_toArray, List.map_cons, List.map_nil]; rfl) ?_
          with_reducible refine (seedcornref11_Line.calls kl v (l.length : Nat) xl _ HKL.out).mono ?_
          rintro e w3 ⟨rfl, hb3⟩
          refine ⟨_, rfl, ?_⟩
          refine hK.out _ _ ((below_step hHeld hb3)) (fun hHeld => ?_)
          clear hK K
          refine norm_ (a' := ?_) ?_ ?_
          rotate_left
          · show Act.put _ (some 53) _ = _
            simp only [Act.put, List.setIfInBounds_toArray, List.set_cons_zero, List.set_cons_succ, i64_w, i32_w]
            rfl
          refine one_ (i := 10) (N := some 54) #[true, true, true, true, true, true, true, true, true, true, true, false, false] rfl rfl (by kernel_rfl) (by decide) (fun K hK => ?_)
          refine value_ (by rfl) rfl (exec_conv (.tmp 53) xl ?_ ?_) ?_
          · rfl
          · rfl
          refine hK.out _ _ ((bytes_below hHeld hHeld.size _ _)) (fun hHeld => ?_)
          clear hK K
          refine norm_ (a' := ?_) ?_ ?_
          rotate_left
          · show Act.put _ (some 54) _ = _
            simp only [Act.put, List.setIfInBounds_toArray, List.set_cons_zero, List.set_cons_succ, i64_w, i32_w]
            rfl
          refine last_ (i := 11) (N := some 55) #[true, true, true, true, true, true, true, true, true, true, true, true, false] rfl rfl (by kernel_rfl) (by decide) (fun K hK => ?_)
          obtain ⟨v9, w9, hr9, ho9, hg9⟩ := out_app (OutOk.below HOX.out hHeld) w3 xl rfl (by have := HXS.out; have := HPL.out; omega) (Nat.le_trans HBX.out.size hHeld.size)
          have HO9 := Aside0.mk ho9
          have HB9 := Aside0.mk (Below.grown (HBX.out.trans (below_le hHeld HBX.out.size)) hg9 (Nat.le_trans HBX.out.size hHeld.size) (fun b hb => (OutOk.lt HOX.out b hb).1))
          have BX9 := Aside0.mk (blk_grown (blk_below BXX.out hHeld) hg9 (OutOk.ne HOX.out BXX.out (by decide)))
          have BT9 := Aside0.mk (blk_grown (blk_below BTX.out hHeld) hg9 (OutOk.ne HOX.out BTX.out HT5.out))
          refine value_ (by rfl) rfl (exec_append (.tmp 44) (.tmp 54) ?_ ?_ ?_ ?_ hr9) ?_
          · rfl
          · rfl
          · rfl
          · rfl
          clear hr9 ho9 hg9
          refine hK.out _ _ ?_
          clear hK K
          refine norm_ (a' := ?_) ?_ ?_
          rotate_left
          · show Act.put _ (some 55) _ = _
            simp only [Act.put, List.setIfInBounds_toArray, List.set_cons_zero, List.set_cons_succ, i64_w, i32_w]
            rfl
          refine pure_ (i := 12) (N := some 4) (v := ?_) (a' := ?_) #[true, true, true, true, true, true, true, true, true, true, true, true, true] rfl rfl (by kernel_rfl) (fun _ _ _ h => h) (Or.inl ⟨by rfl, ?_⟩) ?_ ?_
          rotate_left
          · intro w'
            go_simp
            with_reducible rfl
          rotate_left
          · simp only [Act.put, List.setIfInBounds_toArray, List.set_cons_zero, List.set_cons_succ, i64_w, i32_w]
            rfl
          refine done_ (by kernel_rfl) ?_
          go_wp2_with fail
          go_roundw
          case rel => exact ⟨k + 1, A, _, c, by go_num, rfl, ⟨by omega⟩, HTS6, HCN, ⟨by have h1 := HO9.out; have h2 := HEND.out; rw [HXD.out] at h1; rw [h2]; exact h1⟩, BX9, BT9, HB9⟩
          case measure => simp [intOf]; omega
        | cons x ys =>
          rw [hrl] at HTS hgt
          have hne : x ≠ (k : Int) := by have := hgt x (List.mem_cons_self ..); omega
          have hn : n = ys.length + 1 := HTS.out.1.symm
          obtain ⟨o, rfl, hcx⟩ := HTS.out.2 (by omega)
          have hcell : wr.cell? ⟨gT, o, none⟩ = some (.int .i64 x) := (blk_cell BTX.out o).trans (hcx 0 x rfl)
          have hcell2 : wr.cell? ((⟨gT, o, none⟩ : Addr).add 0) = some (.int .i64 x) := hcell
          have e1 : decide (0 < (n : Int)) = true := decide_eq_true (by omega)
          have e2 : decide (0 < n) = true := decide_eq_true (by omega)
          have e3 := eq_true (show 0 < n by omega)
          have e4 := eq_true (show 0 < (n : Int) by omega)
          have e5 : (x == (k : Int)) = false := beq_eq_false_iff_ne.2 hne
          clear hrk hgt hrl HTS htk hn hcx hne
          go_wp2_with fail
          refine start_ (n := 13) (S := fun w' => Below wr.heap.size wr w') (ds := [11]) #[false, false, false, false, false, false, false, false, false, false, false, false, false] (by kernel_rfl) rfl rfl ((by repeat (first | (with_reducible exact Below.refl _ _) | (with_reducible apply below_drew1) | (with_reducible apply pw_below_drewN)))) (fun hHeld => ?_)
          refine pure_ (i := 0) (N := some 44) (v := ?_) (a' := ?_) #[true, false, false, false, false, false, false, false, false, false, false, false, false] rfl rfl (by kernel_rfl) (fun _ _ _ h => h) (Or.inl ⟨by rfl, ?_⟩) ?_ ?_
          rotate_left
          · intro w'
            go_simp
            with_reducible rfl
          rotate_left
          · simp only [Act.put, List.setIfInBounds_toArray, List.set_cons_zero, List.set_cons_succ, i64_w, i32_w]
            rfl
          refine pure_ (i := 1) (N := some 45) (v := ?_) (a' := ?_) #[true, true, false, false, false, false, false, false, false, false, false, false, false] rfl rfl (by kernel_rfl) (fun _ _ _ h => h) (Or.inl ⟨by rfl, ?_⟩) ?_ ?_
          rotate_left
          · intro w'
            go_simp
            with_reducible rfl
          rotate_left
          · simp only [Act.put, List.setIfInBounds_toArray, List.set_cons_zero, List.set_cons_succ, i64_w, i32_w]
            rfl
          refine pure_ (i := 3) (N := some 47) (v := ?_) (a' := ?_) #[true, true, false, true, false, false, false, false, false, false, false, false, false] rfl rfl (by kernel_rfl) (fun _ _ _ h => h) (Or.inl ⟨by rfl, ?_⟩) ?_ ?_
          rotate_left
          · intro w'
            go_simp
            with_reducible rfl
          rotate_left
          · simp only [Act.put, List.setIfInBounds_toArray, List.set_cons_zero, List.set_cons_succ, i64_w, i32_w]
            rfl
          refine pure_ (i := 6) (N := some 50) (v := ?_) (a' := ?_) #[true, true, false, true, false, false, true, false, false, false, false, false, false] rfl rfl (by kernel_rfl) (fun _ _ _ h => h) (Or.inl ⟨by rfl, ?_⟩) ?_ ?_
          rotate_left
          · intro w'
            go_simp
            with_reducible rfl
          rotate_left
          · simp only [Act.put, List.setIfInBounds_toArray, List.set_cons_zero, List.set_cons_succ, i64_w, i32_w]
            rfl
          refine take_ (i := 2) (N := some 46) (v := ?_) (a' := ?_) #[true, true, true, true, false, false, true, false, false, false, false, false, false] rfl rfl (by kernel_rfl) (fun _ _ _ h => h) (Or.inl ⟨by rfl, ?_⟩) hHeld ?_ ?_
          rotate_left
          · intro w' s0
            have hcz0 : w'.cell? ⟨w.heap.size, 0, none⟩ = some (.slice (some ad) l.length c0) := (blk_cell (blk_below BXX.out s0) 0).trans rfl
            go_simp
            with_reducible rfl
          rotate_left
          · simp only [Act.put, List.setIfInBounds_toArray, List.set_cons_zero, List.set_cons_succ, i64_w, i32_w]
            rfl
          refine pure_ (i := 4) (N := some 48) (v := ?_) (a' := ?_) #[true, true, true, true, true, false, true, false, false, false, false, false, false] rfl rfl (by kernel_rfl) (fun _ _ _ h => h) (Or.inl ⟨by rfl, ?_⟩) ?_ ?_
          rotate_left
          · intro w'
            have q7 := Q7.out
            have p8 := P8.out
            go_simp
            with_reducible rfl
          rotate_left
          · simp only [Act.put, List.setIfInBounds_toArray, List.set_cons_zero, List.set_cons_succ, i64_w, i32_w]
            rfl
          refine take_ (i := 5) (N := some 49) (v := ?_) (a' := ?_) #[true, true, true, true, true, true, true, false, false, false, false, false, false] rfl rfl (by kernel_rfl) (fun _ _ _ h => h) (Or.inl ⟨by rfl, ?_⟩) hHeld ?_ ?_
          rotate_left
          · intro w' s0
            obtain ⟨ad', he', hcell⟩ := Kd.at_int (Kd.C_below HR.out (HBX.out.trans (below_le s0 HBX.out.size))) (k : Int) (by omega) (by omega)
            cases he'
            simp only [Int.toNat_natCast] at hcell
            rw [HVK.out] at hcell
            go_simp
            with_reducible rfl
          rotate_left
          · simp only [Act.put, List.setIfInBounds_toArray, List.set_cons_zero, List.set_cons_succ, i64_w, i32_w]
            rfl
          refine take_ (i := 7) (N := some 51) (v := ?_) (a' := ?_) #[true, true, true, true, true, true, true, true, false, false, false, false, false] rfl rfl (by kernel_rfl) (fun _ _ _ h => h) (Or.inl ⟨by rfl, ?_⟩) hHeld ?_ ?_
          rotate_left
          · intro w' s0
            have hcz0 : w'.cell? ⟨w.heap.size, 0, none⟩ = some (.slice (some ad) l.length c0) := (blk_cell (blk_below BXX.out s0) 0).trans rfl
            go_simp
            with_reducible rfl
          rotate_left
          · simp only [Act.put, List.setIfInBounds_toArray, List.set_cons_zero, List.set_cons_succ, i64_w, i32_w]
            rfl
          refine pure_ (i := 8) (N := some 52) (v := ?_) (a' := ?_) #[true, true, true, true, true, true, true, true, true, false, false, false, false] rfl rfl (by kernel_rfl) (fun _ _ _ h => h) (Or.inl ⟨by rfl, ?_⟩) ?_ ?_
          rotate_left
          · intro w'
            go_simp
            with_reducible rfl
          rotate_left
          · simp only [Act.put, List.setIfInBounds_toArray, List.set_cons_zero, List.set_cons_succ, i64_w, i32_w]
            rfl
          refine one_ (i := 9) (N := some 53) #[true, true, true, true, true, true, true, true, true, true, false, false, false] rfl rfl (by kernel_rfl) (by decide) (fun K hK => ?_)
          refine goes_ Tryd.func90 (by kernel_rfl) rfl #[.int .u32 v, .int .i64 (l.length : Nat)] (by rfl) rfl rfl (by simp only [List.map_toArray, List.map_cons, List.map_nil]; rfl) ?_
          with_reducible refine (seedcornref11_Line.calls kl v (l.length : Nat) xl _ HKL.out).mono ?_
          rintro e w3 ⟨rfl, hb3⟩
          refine ⟨_, rfl, ?_⟩
          refine hK.out _ _ ((below_step hHeld hb3)) (fun hHeld => ?_)
          clear hK K
          refine norm_ (a' := ?_) ?_ ?_
          rotate_left
          · show Act.put _ (some 53) _ = _
            simp only [Act.put, List.setIfInBounds_toArray, List.set_cons_zero, List.set_cons_succ, i64_w, i32_w]
            rfl
          refine one_ (i := 10) (N := some 54) #[true, true, true, true, true, true, true, true, true, true, true, false, false] rfl rfl (by kernel_rfl) (by decide) (fun K hK => ?_)
          refine value_ (by rfl) rfl (exec_conv (.tmp 53) xl ?_ ?_) ?_
          · rfl
          · rfl
          refine hK.out _ _ ((bytes_below hHeld hHeld.size _ _)) (fun hHeld => ?_)
          clear hK K
          refine norm_ (a' := ?_) ?_ ?_
          rotate_left
          · show Act.put _ (some 54) _ = _
            simp only [Act.put, List.setIfInBounds_toArray, List.set_cons_zero, List.set_cons_succ, i64_w, i32_w]
            rfl
          refine last_ (i := 11) (N := some 55) #[true, true, true, true, true, true, true, true, true, true, true, true, false] rfl rfl (by kernel_rfl) (by decide) (fun K hK => ?_)
          obtain ⟨v9, w9, hr9, ho9, hg9⟩ := out_app (OutOk.below HOX.out hHeld) w3 xl rfl (by have := HXS.out; have := HPL.out; omega) (Nat.le_trans HBX.out.size hHeld.size)
          have HO9 := Aside0.mk ho9
          have HB9 := Aside0.mk (Below.grown (HBX.out.trans (below_le hHeld HBX.out.size)) hg9 (Nat.le_trans HBX.out.size hHeld.size) (fun b hb => (OutOk.lt HOX.out b hb).1))
          have BX9 := Aside0.mk (blk_grown (blk_below BXX.out hHeld) hg9 (OutOk.ne HOX.out BXX.out (by decide)))
          have BT9 := Aside0.mk (blk_grown (blk_below BTX.out hHeld) hg9 (OutOk.ne HOX.out BTX.out HT5.out))
          refine value_ (by rfl) rfl (exec_append (.tmp 44) (.tmp 54) ?_ ?_ ?_ ?_ hr9) ?_
          · rfl
          · rfl
          · rfl
          · rfl
          clear hr9 ho9 hg9
          refine hK.out _ _ ?_
          clear hK K
          refine norm_ (a' := ?_) ?_ ?_
          rotate_left
          · show Act.put _ (some 55) _ = _
            simp only [Act.put, List.setIfInBounds_toArray, List.set_cons_zero, List.set_cons_succ, i64_w, i32_w]
            rfl
          refine pure_ (i := 12) (N := some 4) (v := ?_) (a' := ?_) #[true, true, true, true, true, true, true, true, true, true, true, true, true] rfl rfl (by kernel_rfl) (fun _ _ _ h => h) (Or.inl ⟨by rfl, ?_⟩) ?_ ?_
          rotate_left
          · intro w'
            go_simp
            with_reducible rfl
          rotate_left
          · simp only [Act.put, List.setIfInBounds_toArray, List.set_cons_zero, List.set_cons_succ, i64_w, i32_w]
            rfl
          refine done_ (by kernel_rfl) ?_
          go_wp2_with fail
          go_roundw
          case rel => exact ⟨k + 1, _, n, c, by go_num, rfl, ⟨by omega⟩, HTS6, HCN, ⟨by have h1 := HO9.out; have h2 := HEND.out; rw [HXD.out] at h1; rw [h2]; exact h1⟩, BX9, BT9, HB9⟩
          case measure => simp [intOf]; omega
    · have hk : k = l.length := by have := HK.out; omega
      subst hk
      rw [List.take_length] at HOX
      have q7 := eq_false (show ¬ (l.length : Int) < (l.length : Int) by omega)
      obtain ⟨Ao, co, eo⟩ := HOX.out.slice
      subst eo
      have hcv := OutOk.string HOX.out
      rw [str_nb] at hcv
      go_wp2_with fail
      go_ret2
      exact ⟨rfl, HBX.out⟩
theorem seedcornref11_Text.calls (A0_0 : Option Addr) (c0_0 : Nat) (l0_0 : List Int) (a0_1 : Int) (r1 : ByteArray) (r2 : Int) (w : World) (hr0_0 : Kd.C (Kd.int .u32) w A0_0 l0_0.length l0_0) (hc0_0 : l0_0.length ≤ c0_0) (h : seedcornref11_Text.f l0_0 a0_1 = some (r1, r2)) :
    Calls Tryd.prog 55 #[.agg #[.slice A0_0 l0_0.length c0_0, .int .i64 a0_1]] w fun e w' => e = .returned (.tuple #[.string r1, .int .i64 r2]) ∧ Below w.heap.size w w' := by
  unfold seedcornref11_Text.f listing_Text.f at h
  split at h
  · rename_i hl
    split at h
    · rename_i hd
      obtain ⟨rfl, rfl⟩ := Prod.mk.inj (Option.some.inj h)
      exact ref_made A0_0 c0_0 l0_0 a0_1 w hr0_0 hc0_0 hl hd
    · rename_i hd
      obtain ⟨rfl, rfl⟩ := Prod.mk.inj (Option.some.inj h)
      exact ref_refused A0_0 c0_0 l0_0 a0_1 w hr0_0 hc0_0 (okL_len hl) hd
  · cases h
end Go.Proofs.YtdhkmdgieflioaaDoor.F
namespace Go.Proofs.YtdhkmdgieflioaaDoor.F
open Go.RowKit Go.Proofs.YtdhkmdgieflioaaDoorW.PrintWords Go.Proofs.YtdhkmdgieflioaaDoorW.PrintLast Go.Proofs.YtdhkmdgieflioaaDoorW.PrintMore
attribute [local go_sem] max2_int min2_int max_two min_two max_three min_three max_four min_four
set_option linter.unusedVariables false
set_option linter.unusedSimpArgs false
def seedcornlaw11_ListingText.f (l0_0 : List Int) (a0_1 : Int) : Option (Bool) := (seedcornlaw11_awake.f).bind fun t630 => (if t630 = true then (if (l0_0.length : Int) > 400 then (some true) else ((listing_Text.f l0_0 a0_1).bind fun bt631 => ((seedcornref11_Text.f l0_0 a0_1).bind fun bt633 => (if bt631.1.toList = bt633.1.toList then (some (bt631.2 == bt633.2)) else (some false))))) else (some false))
set_option maxHeartbeats 8000000 in
set_option maxRecDepth 100000 in
theorem seedcornlaw11_ListingText.calls (A0_0 : Option Addr) (c0_0 : Nat) (l0_0 : List Int) (a0_1 : Int) (r : Bool) (w : World) (hGK : GK w) (hGT : GT w) (hr0_0 : Kd.C (Kd.int .u32) w A0_0 l0_0.length l0_0) (hc0_0 : l0_0.length ≤ c0_0) (h : seedcornlaw11_ListingText.f l0_0 a0_1 = some r) :
    Calls Tryd.prog 18 #[.agg #[.slice A0_0 l0_0.length c0_0, .int .i64 a0_1]] w fun e w' => e = .returned (.bool r) ∧ Below w.heap.size w w' := by
  have hu28 := Tryd.underlying28
  have HR0_0 := Aside0.mk hr0_0
  have HC0_0 := Aside0.mk hc0_0
  clear hr0_0 hc0_0
  have HGK := Aside0.mk hGK
  clear hGK
  have HGT := Aside0.mk hGT
  clear hGT
  have HB := Aside0.mk (Below.refl w.heap.size w)
  have H : ((seedcornlaw11_awake.f).bind fun t630 => (if t630 = true then (if (l0_0.length : Int) > 400 then (some true) else ((listing_Text.f l0_0 a0_1).bind fun bt631 => ((seedcornref11_Text.f l0_0 a0_1).bind fun bt633 => (if bt631.1.toList = bt633.1.toList then (some (bt631.2 == bt633.2)) else (some false))))) else (some false))) = some r := h
  clear h
  replace H := Option.bind_eq_some_iff.mp H
  obtain ⟨t630, A20, H⟩ := H
  replace H : (if t630 = true then (if (l0_0.length : Int) > 400 then (some true) else ((listing_Text.f l0_0 a0_1).bind fun bt631 => ((seedcornref11_Text.f l0_0 a0_1).bind fun bt633 => (if bt631.1.toList = bt633.1.toList then (some (bt631.2 == bt633.2)) else (some false))))) else (some false)) = some r := H
  have A2 := Aside0.mk A20
  clear A20
  by_cases c3 : t630 = true
  · subst c3
    have H1 : (if (l0_0.length : Int) > 400 then (some true) else ((listing_Text.f l0_0 a0_1).bind fun bt631 => ((seedcornref11_Text.f l0_0 a0_1).bind fun bt633 => (if bt631.1.toList = bt633.1.toList then (some (bt631.2 == bt633.2)) else (some false))))) = some r := by rw [if_pos rfl] at H; exact H
    clear H
    have H := H1
    clear H1
    by_cases c4 : (l0_0.length : Int) > 400
    · rw [if_pos c4] at H
      have c4b0 : decide (400 < (l0_0.length : Int)) = true := decide_eq_true c4
      have c4b1 : decide (400 < l0_0.length) = true := decide_eq_true (by omega)
      clear c4
      obtain rfl := Option.some.inj H
      go_enter Tryd.func18, Tryd.ntmps18
      go_wp2_with (first | ((with_reducible refine gate_dst (N := 1) rfl ?_); refine box_event ?hg (N := 1) ?hd (cs := #[.slice A0_0 l0_0.length c0_0, .int .i64 a0_1]) (t := 28) ?hr ?_; (case hd => rfl); (case hg => rfl); (case hr => first | (go_simp; done) | (go_simp; rfl)); intro gb629 hg w5 hbox hb; have n0_ := Aside0.mk (below_step (by repeat (first | (with_reducible first | exact HB.out | apply below_alloc | apply pw_below_drewN | apply below_drew1) | exact HB.out)) hb); have n1_ := Aside0.mk (hbox); have n2_ := Aside0.mk ((by rw [hg]; exact (below_size (by repeat (first | (with_reducible first | exact HB.out | apply below_alloc | apply pw_below_drewN | apply below_drew1) | exact HB.out))) : w.heap.size ≤ gb629)); have n3_ := Aside0.mk ((by rw [hg]; exact (below_size (by repeat (first | (with_reducible first | exact HB.out | apply below_alloc | apply pw_below_drewN | apply below_drew1) | exact HB.out))) : w.heap.size ≤ gb629)); clear HB; have HB := n0_; have BK629 := n1_; have GW629 := n2_; have GE629 := n3_; clear n0_ n1_ n2_ n3_; clear hb hbox hg) | ((with_reducible refine gate_callee (f := 33) rfl ?_); refine goesL_ (some 7) rfl rfl Tryd.func33 (by kernel_rfl) rfl #[] rfl (by (try simp only [List.map_toArray, List.map_cons, List.map_nil]); first | done | rfl | (simp only [List.length_drop, List.length_take]; rfl)) ?_; (with_reducible refine (seedcornlaw11_awake.calls  true _ ?side1 ?side2 A2.out).mono ?_); (case side1 => exact GK.below HGK.out (by repeat (first | (with_reducible first | exact HB.out | apply below_alloc | apply pw_below_drewN | apply below_drew1 | refine below_set ?_ GE629.out) | exact HB.out))); (case side2 => exact GT.below HGT.out (by repeat (first | (with_reducible first | exact HB.out | apply below_alloc | apply pw_below_drewN | apply below_drew1 | refine below_set ?_ GE629.out) | exact HB.out))); rintro e w6 ⟨rfl, hb⟩; refine ⟨_, rfl, ?_⟩; have n0_ := Aside0.mk (blk_below (g := gb629) (o := .cells #[.slice A0_0 l0_0.length c0_0, .int .i64 a0_1] 28 (0, 0)) (by (with_reducible repeat (first | refine blk_drewN ?_ _ | refine blk_drew ?_ | refine blk_alloc ?_ _)); exact BK629.out) hb); have n1_ := Aside0.mk (below_step (by repeat (first | (with_reducible first | exact HB.out | apply below_alloc | apply pw_below_drewN | apply below_drew1 | refine below_set ?_ GE629.out) | exact HB.out)) hb); clear BK629; clear HB; have BK629 := n0_; have HB := n1_; clear n0_ n1_; (try clear hb); (try clear hb2); (try clear hk); (try clear hi); have hcz7_0 : w6.cell? ⟨gb629, 0, none⟩ = some (.slice A0_0 l0_0.length c0_0) := (blk_cell BK629.out 0).trans rfl; have hcz7_1 : w6.cell? ⟨gb629, 1, none⟩ = some (.int .i64 a0_1) := (blk_cell BK629.out 1).trans rfl; have hfz7_0 := blk_frozen BK629.out 0; have hfz7_1 := blk_frozen BK629.out 1))
      go_ret
      exact ⟨by first | rfl | (simp [errW_none, errW_some] <;> rfl) | (simp [*, errW_none, errW_some] <;> rfl), by repeat (first | (with_reducible first | exact HB.out | apply below_alloc | apply pw_below_drewN | apply below_drew1 | refine below_set ?_ GE629.out) | exact HB.out)⟩
    · rw [if_neg c4] at H
      have c4b0 : decide (400 < (l0_0.length : Int)) = false := decide_eq_false c4
      have c4b1 : decide (400 < l0_0.length) = false := decide_eq_false (by omega)
      clear c4
      replace H := Option.bind_eq_some_iff.mp H
      obtain ⟨⟨t631, t632⟩, A80, H⟩ := H
      replace H : ((seedcornref11_Text.f l0_0 a0_1).bind fun bt633 => (if t631.toList = bt633.1.toList then (some (t632 == bt633.2)) else (some false))) = some r := H
      have A8 := Aside0.mk A80
      clear A80
      replace H := Option.bind_eq_some_iff.mp H
      obtain ⟨⟨t633, t634⟩, A90, H⟩ := H
      replace H : (if t631.toList = t633.toList then (some (t632 == t634)) else (some false)) = some r := H
      have A9 := Aside0.mk A90
      clear A90
      by_cases c10 : t631.toList = t633.toList
      · rw [if_pos c10] at H
        have c10b0 : (t631.toList == t633.toList) = true := beq_iff_eq.mpr c10
        have c10b1 : (t631.toList != t633.toList) = false := bne_eq_false_iff_eq.mpr c10
        clear c10
        obtain rfl := Option.some.inj H
        go_enter Tryd.func18, Tryd.ntmps18
        go_wp2_with (first | ((with_reducible refine gate_dst (N := 1) rfl ?_); refine box_event ?hg (N := 1) ?hd (cs := #[.slice A0_0 l0_0.length c0_0, .int .i64 a0_1]) (t := 28) ?hr ?_; (case hd => rfl); (case hg => rfl); (case hr => first | (go_simp; done) | (go_simp; rfl)); intro gb629 hg w11 hbox hb; have n0_ := Aside0.mk (below_step (by repeat (first | (with_reducible first | exact HB.out | apply below_alloc | apply pw_below_drewN | apply below_drew1) | exact HB.out)) hb); have n1_ := Aside0.mk (hbox); have n2_ := Aside0.mk ((by rw [hg]; exact (below_size (by repeat (first | (with_reducible first | exact HB.out | apply below_alloc | apply pw_below_drewN | apply below_drew1) | exact HB.out))) : w.heap.size ≤ gb629)); have n3_ := Aside0.mk ((by rw [hg]; exact (below_size (by repeat (first | (with_reducible first | exact HB.out | apply below_alloc | apply pw_below_drewN | apply below_drew1) | exact HB.out))) : w.heap.size ≤ gb629)); clear HB; have HB := n0_; have BK629 := n1_; have GW629 := n2_; have GE629 := n3_; clear n0_ n1_ n2_ n3_; clear hb hbox hg) | ((with_reducible refine gate_callee (f := 33) rfl ?_); refine goesL_ (some 7) rfl rfl Tryd.func33 (by kernel_rfl) rfl #[] rfl (by (try simp only [List.map_toArray, List.map_cons, List.map_nil]); first | done | rfl | (simp only [List.length_drop, List.length_take]; rfl)) ?_; (with_reducible refine (seedcornlaw11_awake.calls  true _ ?side1 ?side2 A2.out).mono ?_); (case side1 => exact GK.below HGK.out (by repeat (first | (with_reducible first | exact HB.out | apply below_alloc | apply pw_below_drewN | apply below_drew1 | refine below_set ?_ GE629.out) | exact HB.out))); (case side2 => exact GT.below HGT.out (by repeat (first | (with_reducible first | exact HB.out | apply below_alloc | apply pw_below_drewN | apply below_drew1 | refine below_set ?_ GE629.out) | exact HB.out))); rintro e w12 ⟨rfl, hb⟩; refine ⟨_, rfl, ?_⟩; have n0_ := Aside0.mk (blk_below (g := gb629) (o := .cells #[.slice A0_0 l0_0.length c0_0, .int .i64 a0_1] 28 (0, 0)) (by (with_reducible repeat (first | refine blk_drewN ?_ _ | refine blk_drew ?_ | refine blk_alloc ?_ _)); exact BK629.out) hb); have n1_ := Aside0.mk (below_step (by repeat (first | (with_reducible first | exact HB.out | apply below_alloc | apply pw_below_drewN | apply below_drew1 | refine below_set ?_ GE629.out) | exact HB.out)) hb); clear BK629; clear HB; have BK629 := n0_; have HB := n1_; clear n0_ n1_; (try clear hb); (try clear hb2); (try clear hk); (try clear hi); have hcz13_0 : w12.cell? ⟨gb629, 0, none⟩ = some (.slice A0_0 l0_0.length c0_0) := (blk_cell BK629.out 0).trans rfl; have hcz13_1 : w12.cell? ⟨gb629, 1, none⟩ = some (.int .i64 a0_1) := (blk_cell BK629.out 1).trans rfl; have hfz13_0 := blk_frozen BK629.out 0; have hfz13_1 := blk_frozen BK629.out 1) | ((with_reducible refine gate_callee (f := 36) rfl ?_); refine goesL_ (some 15) rfl rfl Tryd.func36 (by kernel_rfl) rfl #[.agg #[.slice A0_0 l0_0.length c0_0, .int .i64 a0_1]] rfl (by (try simp only [List.map_toArray, List.map_cons, List.map_nil]); first | done | rfl | (simp only [List.length_drop, List.length_take]; rfl)) ?_; (with_reducible refine (listing_Text.calls _ _ l0_0 a0_1 t631 t632 _ ?side1 ?side2 ?side3 ?side4 A8.out).mono ?_); (case side1 => exact GK.below HGK.out (by repeat (first | (with_reducible first | exact HB.out | apply below_alloc | apply pw_below_drewN | apply below_drew1 | refine below_set ?_ GE629.out) | exact HB.out))); (case side2 => exact GT.below HGT.out (by repeat (first | (with_reducible first | exact HB.out | apply below_alloc | apply pw_below_drewN | apply below_drew1 | refine below_set ?_ GE629.out) | exact HB.out))); (case side3 => repeat (first | exact (Kd.C_below HR0_0.out HB.out) | (with_reducible refine Kd.C_alloc ?_ _) | (with_reducible refine Kd.C_drewN ?_ _) | (with_reducible refine Kd.C_drew ?_))); (case side4 => exact HC0_0.out); rintro e w14 ⟨rfl, hb⟩; refine ⟨_, rfl, ?_⟩; have n0_ := Aside0.mk (blk_below (g := gb629) (o := .cells #[.slice A0_0 l0_0.length c0_0, .int .i64 a0_1] 28 (0, 0)) (by (with_reducible repeat (first | refine blk_drewN ?_ _ | refine blk_drew ?_ | refine blk_alloc ?_ _)); exact BK629.out) hb); have n1_ := Aside0.mk (below_step (by repeat (first | (with_reducible first | exact HB.out | apply below_alloc | apply pw_below_drewN | apply below_drew1 | refine below_set ?_ GE629.out) | exact HB.out)) hb); clear BK629; clear HB; have BK629 := n0_; have HB := n1_; clear n0_ n1_; (try clear hb); (try clear hb2); (try clear hk); (try clear hi); have hcz15_0 : w14.cell? ⟨gb629, 0, none⟩ = some (.slice A0_0 l0_0.length c0_0) := (blk_cell BK629.out 0).trans rfl; have hcz15_1 : w14.cell? ⟨gb629, 1, none⟩ = some (.int .i64 a0_1) := (blk_cell BK629.out 1).trans rfl; have hfz15_0 := blk_frozen BK629.out 0; have hfz15_1 := blk_frozen BK629.out 1) | ((with_reducible refine gate_callee (f := 55) rfl ?_); refine goesL_ (some 20) rfl rfl Tryd.func55 (by kernel_rfl) rfl #[.agg #[.slice A0_0 l0_0.length c0_0, .int .i64 a0_1]] rfl (by (try simp only [List.map_toArray, List.map_cons, List.map_nil]); first | done | rfl | (simp only [List.length_drop, List.length_take]; rfl)) ?_; (with_reducible refine (seedcornref11_Text.calls _ _ l0_0 a0_1 t633 t634 _ ?side1 ?side2 A9.out).mono ?_); (case side1 => repeat (first | exact (Kd.C_below HR0_0.out HB.out) | (with_reducible refine Kd.C_alloc ?_ _) | (with_reducible refine Kd.C_drewN ?_ _) | (with_reducible refine Kd.C_drew ?_))); (case side2 => exact HC0_0.out); rintro e w16 ⟨rfl, hb⟩; refine ⟨_, rfl, ?_⟩; have n0_ := Aside0.mk (blk_below (g := gb629) (o := .cells #[.slice A0_0 l0_0.length c0_0, .int .i64 a0_1] 28 (0, 0)) (by (with_reducible repeat (first | refine blk_drewN ?_ _ | refine blk_drew ?_ | refine blk_alloc ?_ _)); exact BK629.out) hb); have n1_ := Aside0.mk (below_step (by repeat (first | (with_reducible first | exact HB.out | apply below_alloc | apply pw_below_drewN | apply below_drew1 | refine below_set ?_ GE629.out) | exact HB.out)) hb); clear BK629; clear HB; have BK629 := n0_; have HB := n1_; clear n0_ n1_; (try clear hb); (try clear hb2); (try clear hk); (try clear hi)))
        go_ret
        exact ⟨by first | rfl | (simp [errW_none, errW_some] <;> rfl) | (simp [*, errW_none, errW_some] <;> rfl), by repeat (first | (with_reducible first | exact HB.out | apply below_alloc | apply pw_below_drewN | apply below_drew1 | refine below_set ?_ GE629.out) | exact HB.out)⟩
      · rw [if_neg c10] at H
        have c10b0 : (t631.toList == t633.toList) = false := beq_eq_false_iff_ne.mpr c10
        have c10b1 : (t631.toList != t633.toList) = true := bne_iff_ne.mpr c10
        obtain rfl := Option.some.inj H
        go_enter Tryd.func18, Tryd.ntmps18
        go_wp2_with (first | ((with_reducible refine gate_dst (N := 1) rfl ?_); refine box_event ?hg (N := 1) ?hd (cs := #[.slice A0_0 l0_0.length c0_0, .int .i64 a0_1]) (t := 28) ?hr ?_; (case hd => rfl); (case hg => rfl); (case hr => first | (go_simp; done) | (go_simp; rfl)); intro gb629 hg w17 hbox hb; have n0_ := Aside0.mk (below_step (by repeat (first | (with_reducible first | exact HB.out | apply below_alloc | apply pw_below_drewN | apply below_drew1) | exact HB.out)) hb); have n1_ := Aside0.mk (hbox); have n2_ := Aside0.mk ((by rw [hg]; exact (below_size (by repeat (first | (with_reducible first | exact HB.out | apply below_alloc | apply pw_below_drewN | apply below_drew1) | exact HB.out))) : w.heap.size ≤ gb629)); have n3_ := Aside0.mk ((by rw [hg]; exact (below_size (by repeat (first | (with_reducible first | exact HB.out | apply below_alloc | apply pw_below_drewN | apply below_drew1) | exact HB.out))) : w.heap.size ≤ gb629)); clear HB; have HB := n0_; have BK629 := n1_; have GW629 := n2_; have GE629 := n3_; clear n0_ n1_ n2_ n3_; clear hb hbox hg) | ((with_reducible refine gate_callee (f := 33) rfl ?_); refine goesL_ (some 7) rfl rfl Tryd.func33 (by kernel_rfl) rfl #[] rfl (by (try simp only [List.map_toArray, List.map_cons, List.map_nil]); first | done | rfl | (simp only [List.length_drop, List.length_take]; rfl)) ?_; (with_reducible refine (seedcornlaw11_awake.calls  true _ ?side1 ?side2 A2.out).mono ?_); (case side1 => exact GK.below HGK.out (by repeat (first | (with_reducible first | exact HB.out | apply below_alloc | apply pw_below_drewN | apply below_drew1 | refine below_set ?_ GE629.out) | exact HB.out))); (case side2 => exact GT.below HGT.out (by repeat (first | (with_reducible first | exact HB.out | apply below_alloc | apply pw_below_drewN | apply below_drew1 | refine below_set ?_ GE629.out) | exact HB.out))); rintro e w18 ⟨rfl, hb⟩; refine ⟨_, rfl, ?_⟩; have n0_ := Aside0.mk (blk_below (g := gb629) (o := .cells #[.slice A0_0 l0_0.length c0_0, .int .i64 a0_1] 28 (0, 0)) (by (with_reducible repeat (first | refine blk_drewN ?_ _ | refine blk_drew ?_ | refine blk_alloc ?_ _)); exact BK629.out) hb); have n1_ := Aside0.mk (below_step (by repeat (first | (with_reducible first | exact HB.out | apply below_alloc | apply pw_below_drewN | apply below_drew1 | refine below_set ?_ GE629.out) | exact HB.out)) hb); clear BK629; clear HB; have BK629 := n0_; have HB := n1_; clear n0_ n1_; (try clear hb); (try clear hb2); (try clear hk); (try clear hi); have hcz19_0 : w18.cell? ⟨gb629, 0, none⟩ = some (.slice A0_0 l0_0.length c0_0) := (blk_cell BK629.out 0).trans rfl; have hcz19_1 : w18.cell? ⟨gb629, 1, none⟩ = some (.int .i64 a0_1) := (blk_cell BK629.out 1).trans rfl; have hfz19_0 := blk_frozen BK629.out 0; have hfz19_1 := blk_frozen BK629.out 1) | ((with_reducible refine gate_callee (f := 36) rfl ?_); refine goesL_ (some 15) rfl rfl Tryd.func36 (by kernel_rfl) rfl #[.agg #[.slice A0_0 l0_0.length c0_0, .int .i64 a0_1]] rfl (by (try simp only [List.map_toArray, List.map_cons, List.map_nil]); first | done | rfl | (simp only [List.length_drop, List.length_take]; rfl)) ?_; (with_reducible refine (listing_Text.calls _ _ l0_0 a0_1 t631 t632 _ ?side1 ?side2 ?side3 ?side4 A8.out).mono ?_); (case side1 => exact GK.below HGK.out (by repeat (first | (with_reducible first | exact HB.out | apply below_alloc | apply pw_below_drewN | apply below_drew1 | refine below_set ?_ GE629.out) | exact HB.out))); (case side2 => exact GT.below HGT.out (by repeat (first | (with_reducible first | exact HB.out | apply below_alloc | apply pw_below_drewN | apply below_drew1 | refine below_set ?_ GE629.out) | exact HB.out))); (case side3 => repeat (first | exact (Kd.C_below HR0_0.out HB.out) | (with_reducible refine Kd.C_alloc ?_ _) | (with_reducible refine Kd.C_drewN ?_ _) | (with_reducible refine Kd.C_drew ?_))); (case side4 => exact HC0_0.out); rintro e w20 ⟨rfl, hb⟩; refine ⟨_, rfl, ?_⟩; have n0_ := Aside0.mk (blk_below (g := gb629) (o := .cells #[.slice A0_0 l0_0.length c0_0, .int .i64 a0_1] 28 (0, 0)) (by (with_reducible repeat (first | refine blk_drewN ?_ _ | refine blk_drew ?_ | refine blk_alloc ?_ _)); exact BK629.out) hb); have n1_ := Aside0.mk (below_step (by repeat (first | (with_reducible first | exact HB.out | apply below_alloc | apply pw_below_drewN | apply below_drew1 | refine below_set ?_ GE629.out) | exact HB.out)) hb); clear BK629; clear HB; have BK629 := n0_; have HB := n1_; clear n0_ n1_; (try clear hb); (try clear hb2); (try clear hk); (try clear hi); have hcz21_0 : w20.cell? ⟨gb629, 0, none⟩ = some (.slice A0_0 l0_0.length c0_0) := (blk_cell BK629.out 0).trans rfl; have hcz21_1 : w20.cell? ⟨gb629, 1, none⟩ = some (.int .i64 a0_1) := (blk_cell BK629.out 1).trans rfl; have hfz21_0 := blk_frozen BK629.out 0; have hfz21_1 := blk_frozen BK629.out 1) | ((with_reducible refine gate_callee (f := 55) rfl ?_); refine goesL_ (some 20) rfl rfl Tryd.func55 (by kernel_rfl) rfl #[.agg #[.slice A0_0 l0_0.length c0_0, .int .i64 a0_1]] rfl (by (try simp only [List.map_toArray, List.map_cons, List.map_nil]); first | done | rfl | (simp only [List.length_drop, List.length_take]; rfl)) ?_; (with_reducible refine (seedcornref11_Text.calls _ _ l0_0 a0_1 t633 t634 _ ?side1 ?side2 A9.out).mono ?_); (case side1 => repeat (first | exact (Kd.C_below HR0_0.out HB.out) | (with_reducible refine Kd.C_alloc ?_ _) | (with_reducible refine Kd.C_drewN ?_ _) | (with_reducible refine Kd.C_drew ?_))); (case side2 => exact HC0_0.out); rintro e w22 ⟨rfl, hb⟩; refine ⟨_, rfl, ?_⟩; have n0_ := Aside0.mk (blk_below (g := gb629) (o := .cells #[.slice A0_0 l0_0.length c0_0, .int .i64 a0_1] 28 (0, 0)) (by (with_reducible repeat (first | refine blk_drewN ?_ _ | refine blk_drew ?_ | refine blk_alloc ?_ _)); exact BK629.out) hb); have n1_ := Aside0.mk (below_step (by repeat (first | (with_reducible first | exact HB.out | apply below_alloc | apply pw_below_drewN | apply below_drew1 | refine below_set ?_ GE629.out) | exact HB.out)) hb); clear BK629; clear HB; have BK629 := n0_; have HB := n1_; clear n0_ n1_; (try clear hb); (try clear hb2); (try clear hk); (try clear hi)))
        go_ret
        exact ⟨by first | rfl | (simp [errW_none, errW_some] <;> rfl) | (simp [*, errW_none, errW_some] <;> rfl), by repeat (first | (with_reducible first | exact HB.out | apply below_alloc | apply pw_below_drewN | apply below_drew1 | refine below_set ?_ GE629.out) | exact HB.out)⟩
  · replace c3 := Bool.eq_false_iff.mpr c3
    subst c3
    have H1 : (some false) = some r := by rw [if_neg (show ¬ (false = true) by decide)] at H; exact H
    clear H
    have H := H1
    clear H1
    obtain rfl := Option.some.inj H
    go_enter Tryd.func18, Tryd.ntmps18
    go_wp2_with (first | ((with_reducible refine gate_dst (N := 1) rfl ?_); refine box_event ?hg (N := 1) ?hd (cs := #[.slice A0_0 l0_0.length c0_0, .int .i64 a0_1]) (t := 28) ?hr ?_; (case hd => rfl); (case hg => rfl); (case hr => first | (go_simp; done) | (go_simp; rfl)); intro gb629 hg w23 hbox hb; have n0_ := Aside0.mk (below_step (by repeat (first | (with_reducible first | exact HB.out | apply below_alloc | apply pw_below_drewN | apply below_drew1) | exact HB.out)) hb); have n1_ := Aside0.mk (hbox); have n2_ := Aside0.mk ((by rw [hg]; exact (below_size (by repeat (first | (with_reducible first | exact HB.out | apply below_alloc | apply pw_below_drewN | apply below_drew1) | exact HB.out))) : w.heap.size ≤ gb629)); have n3_ := Aside0.mk ((by rw [hg]; exact (below_size (by repeat (first | (with_reducible first | exact HB.out | apply below_alloc | apply pw_below_drewN | apply below_drew1) | exact HB.out))) : w.heap.size ≤ gb629)); clear HB; have HB := n0_; have BK629 := n1_; have GW629 := n2_; have GE629 := n3_; clear n0_ n1_ n2_ n3_; clear hb hbox hg) | ((with_reducible refine gate_callee (f := 33) rfl ?_); refine goesL_ (some 7) rfl rfl Tryd.func33 (by kernel_rfl) rfl #[] rfl (by (try simp only [List.map_toArray, List.map_cons, List.map_nil]); first | done | rfl | (simp only [List.length_drop, List.length_take]; rfl)) ?_; (with_reducible refine (seedcornlaw11_awake.calls  false _ ?side1 ?side2 A2.out).mono ?_); (case side1 => exact GK.below HGK.out (by repeat (first | (with_reducible first | exact HB.out | apply below_alloc | apply pw_below_drewN | apply below_drew1 | refine below_set ?_ GE629.out) | exact HB.out))); (case side2 => exact GT.below HGT.out (by repeat (first | (with_reducible first | exact HB.out | apply below_alloc | apply pw_below_drewN | apply below_drew1 | refine below_set ?_ GE629.out) | exact HB.out))); rintro e w24 ⟨rfl, hb⟩; refine ⟨_, rfl, ?_⟩; have n0_ := Aside0.mk (blk_below (g := gb629) (o := .cells #[.slice A0_0 l0_0.length c0_0, .int .i64 a0_1] 28 (0, 0)) (by (with_reducible repeat (first | refine blk_drewN ?_ _ | refine blk_drew ?_ | refine blk_alloc ?_ _)); exact BK629.out) hb); have n1_ := Aside0.mk (below_step (by repeat (first | (with_reducible first | exact HB.out | apply below_alloc | apply pw_below_drewN | apply below_drew1 | refine below_set ?_ GE629.out) | exact HB.out)) hb); clear BK629; clear HB; have BK629 := n0_; have HB := n1_; clear n0_ n1_; (try clear hb); (try clear hb2); (try clear hk); (try clear hi)))
    go_ret
    exact ⟨by first | rfl | (simp [errW_none, errW_some] <;> rfl) | (simp [*, errW_none, errW_some] <;> rfl), by repeat (first | (with_reducible first | exact HB.out | apply below_alloc | apply pw_below_drewN | apply below_drew1 | refine below_set ?_ GE629.out) | exact HB.out)⟩
end Go.Proofs.YtdhkmdgieflioaaDoor.F
namespace Go.Proofs.YtdhkmdgieflioaaDoor.F
open Go.RowKit Go.Proofs.YtdhkmdgieflioaaDoorW.PrintWords Go.Proofs.YtdhkmdgieflioaaDoorW.PrintLast Go.Proofs.YtdhkmdgieflioaaDoorW.PrintMore
set_option linter.unusedVariables false
set_option linter.unusedSimpArgs false
open Go.ChangeShapes
section
variable {H : Type} {enc : TypeId × Value → H} {P : Program} {w : World} {base : Nat} {spare : Nat → Bool} {held : Bool} {fuel : Nat} {t : TypeId} {cs : List Value}
theorem list_ext_parts (m : Nat) (hm : 0 < m) : ∀ (n : Nat) (cs : List Value) (gs : List (List Value)), cs.length = n * m → gs.length = n → (∀ i, i < n → (cs.drop (i * m)).take m = gs.getD i []) → cs = gs.flatMap id
  | 0, cs, gs, hl, hg, _ => by
    have h1 : cs = [] := List.eq_nil_of_length_eq_zero (by omega)
    have h2 : gs = [] := List.eq_nil_of_length_eq_zero hg
    subst h1 h2
    rfl
  | n + 1, cs, gs, hl, hg, h => by
    match gs, hg with
    | g :: gs, hg =>
      have h0 : cs.take m = g := by have := h 0 (by omega); simpa using this
      have hr := list_ext_parts m hm n (cs.drop m) gs (by rw [List.length_drop, hl, Nat.add_mul]; omega) (by simpa using hg) (fun i hi => by
        have := h (i + 1) (by omega)
        rw [List.drop_drop, show m + i * m = (i + 1) * m by rw [Nat.add_mul]; omega, this]
        rfl)
      rw [List.flatMap_cons, ← hr]
      show cs = g ++ cs.drop m
      rw [← h0, List.take_append_drop]
theorem cells_of_rows {n e m : Nat} (fl : DataW H → List Value) (ht : P.underlying t = some (.array n e)) (hm : 0 < m) (hce : P.cellsOf e = m) (hct : P.cellsOf t = n * m)
    (hel : ∀ (f : Nat) (c : List Value) (x : DataW H × List MemPlace), DataW.trod enc P w base spare held f e c = some x → c = fl x.1)
    {Ds : List (DataW H)} {p : List MemPlace} (h : DataW.trod enc P w base spare held fuel t cs = some (.agg Ds, p)) : cs = (Ds.map fl).flatMap id := by
  obtain ⟨xs, f, _, hx, hl, hn, hi⟩ := DataW.trod_array ht h
  have hD : Ds = xs.map (·.1) := by have := congrArg Prod.fst hx; simpa using this
  refine list_ext_parts m hm n cs _ (by rw [hl, hct]) (by rw [List.length_map, hD, List.length_map, hn]) (fun i hlt => ?_)
  have h1 := hi i hlt
  rw [hce] at h1
  have h2 : i < xs.length := by omega
  rw [List.getElem?_eq_getElem h2] at h1
  have h3 := hel _ _ _ h1
  rw [h3, hD]
  simp [List.getD_eq_getElem?_getD, h2]
end
def flKind {H : Type} : DataW H → List Value
  | .agg [.lit (.string a), .lit (.string b)] => [.string ⟨a.toArray⟩, .string ⟨b.toArray⟩]
  | _ => []
theorem split2 {α : Type} (l : List α) (k : Nat) : l = l.take k ++ l.drop k := (List.take_append_drop k l).symm
theorem fl_kind {H : Type} {enc : TypeId × Value → H} {w : World} {base : Nat} {spare : Nat → Bool} {held : Bool} (f : Nat) (c : List Value) (x : DataW H × List MemPlace) (h : DataW.trod enc Tryd.prog w base spare held f 89 c = some x) : c = flKind x.1 := by
  obtain ⟨y0, y1, n, rfl, hl, h0, h1⟩ := trod_struct2 Tryd.underlying89 h
  have c9 : Tryd.prog.cellsOf 9 = 1 := by kernel_rfl
  have c89 : Tryd.prog.cellsOf 89 = 2 := by kernel_rfl
  rw [c89] at hl
  obtain ⟨s0, e0, rfl, _⟩ := DataW.trod_string Tryd.underlying9 h0
  obtain ⟨s1, e1, rfl, _⟩ := DataW.trod_string Tryd.underlying9 h1
  have e0' : c.take 1 = [.string s0] := by have h := e0; rw [c9] at h; exact h
  have e1' : (c.drop 1).take 1 = [.string s1] := by have h := e1; rw [c9] at h; exact h
  have hd : (c.drop 1).take 1 = c.drop 1 := List.take_of_length_le (by rw [List.length_drop, hl]; decide)
  rw [split2 c 1, e0', ← hd, e1']
  rfl
theorem tyKinds : (Tryd.prog.globals[0]?).map (·.type) = some 90 := by kernel_rfl
theorem tyPow : (Tryd.prog.globals[2]?).map (·.type) = some 154 := by kernel_rfl
theorem gk_of {W : World} {rest : List (String × DataW Unit)} (h : laidMet Tryd.prog (("seedcorn/inst.kinds", Rows.laid_seedcorn_inst_kinds) :: rest) W) : GK W := by
  obtain ⟨ps, ⟨g', t', cs, fuel, p, q, hg', ht', hvar, hd, _, _⟩, _⟩ := h
  obtain rfl := Option.some.inj (g_kinds.symm.trans hg')
  obtain rfl := Option.some.inj (tyKinds.symm.trans ht')
  have hc := cells_of_rows (n := 28) (e := 89) (m := 2) flKind Tryd.underlying90 (by omega) (by kernel_rfl) (by kernel_rfl) fl_kind hd
  refine ⟨?_⟩
  rw [hvar]
  cases cs with
  | mk l =>
    simp only at hc
    subst hc
    rfl
theorem cp154 : Tryd.prog.cellsOf 154 = 20 := by kernel_rfl
theorem cp96 : Tryd.prog.cellsOf 96 = 1 := by kernel_rfl
theorem gt_of {W : World} {rest : List (String × DataW Unit)} (h : laidMet Tryd.prog (("internal/strconv.uint64pow10", Rows.laid_internal_strconv_uint64pow10) :: rest) W) : GT W :=
  ⟨Lib.tabIs_of_head (zs := Lib.pow10Tab) g_pow tyPow Tryd.underlying154 Tryd.underlying96 cp96 cp154 h⟩
theorem laid_inst {W : World} (h : laidMet Tryd.prog [("math/bits.deBruijn32tab", Rows.laid_math_bits_deBruijn32tab), ("math/bits.deBruijn64tab", Rows.laid_math_bits_deBruijn64tab), ("internal/strconv.uint64pow10", Rows.laid_internal_strconv_uint64pow10), ("seedcorn/inst.kinds", Rows.laid_seedcorn_inst_kinds)] W) : GT W ∧ GK W := ⟨gt_of h.tail.tail, gk_of h.tail.tail.tail⟩
end Go.Proofs.YtdhkmdgieflioaaDoor.F
namespace Go.Proofs.YtdhkmdgieflioaaDoor.F
open Go.RowKit Go.Proofs.YtdhkmdgieflioaaDoorW.PrintWords Go.Proofs.YtdhkmdgieflioaaDoorW.PrintLast Go.Proofs.YtdhkmdgieflioaaDoorW.PrintMore
set_option linter.unusedVariables false
set_option linter.unusedSimpArgs false
theorem listingText_pure (l : List Int) (d : Int) (h : inR l) {q : Prop} (_ : q) : seedcornlaw11_ListingText.f l d = some true := by
  unfold seedcornlaw11_ListingText.f
  rw [awake11]
  simp only [Option.bind_some, if_true]
  by_cases hl : (l.length : Int) > 400
  · rw [if_pos hl]
  · rw [if_neg hl]
    have hok := inR_okL h (by omega)
    by_cases hd : 0 ≤ d ∧ d ≤ 32768
    · have e := text_f l d hok hd
      have e2 : seedcornref11_Text.f l d = some (⟨(listB l d).toArray⟩, 0) := e
      rw [e, e2]
      simp
    · have e := text_no l d hok hd
      have e2 : seedcornref11_Text.f l d = some (⟨#[]⟩, 1) := e
      rw [e, e2]
      simp
end Go.Proofs.YtdhkmdgieflioaaDoor.F
namespace Go.Proofs.YtdhkmdgieflioaaDoor.F
open Go.RowKit Go.Proofs.YtdhkmdgieflioaaDoorW.PrintWords Go.Proofs.YtdhkmdgieflioaaDoorW.PrintLast Go.Proofs.YtdhkmdgieflioaaDoorW.PrintMore
set_option linter.unusedVariables false
set_option linter.unusedSimpArgs false
def headW1 : List Nat := [104, 97, 114, 110, 101, 115, 115]
def headW2 : List Nat := [51, 50, 102, 55, 102, 55, 97, 101, 99, 55, 52, 52, 56, 51, 55, 56, 98, 52, 55, 102, 57, 52, 99, 49, 52, 97, 48, 50, 49, 98, 55, 100, 99, 53, 55, 49, 51, 48, 101, 52, 51, 98, 52, 52, 53, 48, 56, 49, 57, 98, 55, 57, 53, 56, 54, 51, 100, 98, 99, 98, 102, 102, 56, 55]
def headW3 : List Nat := [99, 117, 116]
def headRest : List Nat := [97, 116, 32, 115, 101, 101, 100, 99, 111, 114, 110, 47, 115, 101, 101, 100, 99, 111, 114, 110, 108, 97, 119, 53, 48, 46, 83, 101, 101, 100, 76, 111, 97, 100, 115, 32, 115, 101, 101, 100, 99, 111, 114, 110, 47, 115, 101, 101, 100, 99, 111, 114, 110, 108, 97, 119, 53, 48, 46, 83, 101, 101, 100, 83, 109, 97, 108, 108, 32, 115, 101, 101, 100, 99, 111, 114, 110, 47, 115, 101, 101, 100, 99, 111, 114, 110, 108, 97, 119, 53, 48, 46, 83, 101, 101, 100, 73, 109, 97, 103, 101, 115, 32, 115, 101, 101, 100, 99, 111, 114, 110, 47, 115, 101, 101, 100, 99, 111, 114, 110, 108, 97, 119, 53, 48, 46, 83, 101, 101, 100, 78, 111, 116, 101, 115, 32, 115, 101, 101, 100, 99, 111, 114, 110, 47, 115, 101, 101, 100, 99, 111, 114, 110, 108, 97, 119, 53, 48, 46, 83, 101, 101, 100, 84, 119, 111, 32, 115, 101, 101, 100, 99, 111, 114, 110, 47, 115, 101, 101, 100, 99, 111, 114, 110, 108, 97, 119, 49, 49, 46, 76, 105, 115, 116, 105, 110, 103, 71, 111, 101, 115, 79, 110, 32, 115, 101, 101, 100, 99, 111, 114, 110, 47, 115, 101, 101, 100, 99, 111, 114, 110, 108, 97, 119, 48, 55, 46, 73, 110, 115, 116, 67, 111, 100, 101, 115, 32, 115, 101, 101, 100, 99, 111, 114, 110, 47, 115, 101, 101, 100, 99, 111, 114, 110, 108, 97, 119, 49, 49, 46, 76, 105, 115, 116, 105, 110, 103, 68, 97, 116, 97, 32, 115, 101, 101, 100, 99, 111, 114, 110, 47, 115, 101, 101, 100, 99, 111, 114, 110, 108, 97, 119, 48, 55, 46, 73, 110, 115, 116, 82, 101, 97, 100, 115, 32, 115, 101, 101, 100, 99, 111, 114, 110, 47, 115, 101, 101, 100, 99, 111, 114, 110, 108, 97, 119, 48, 55, 46, 73, 110, 115, 116, 65, 112, 97, 114, 116, 32, 115, 101, 101, 100, 99, 111, 114, 110, 47, 115, 101, 101, 100, 99, 111, 114, 110, 108, 97, 119, 48, 55, 46, 73, 110, 115, 116, 70, 105, 101, 108, 100, 115, 32, 115, 101, 101, 100, 99, 111, 114, 110, 47, 115, 101, 101, 100, 99, 111, 114, 110, 108, 97, 119, 48, 55, 46, 73, 110, 115, 116, 67, 111, 117, 110, 116, 115, 32, 115, 101, 101, 100, 99, 111, 114, 110, 47, 115, 101, 101, 100, 99, 111, 114, 110, 108, 97, 119, 48, 55, 46, 73, 110, 115, 116, 78, 97, 109, 101, 115, 32, 115, 101, 101, 100, 99, 111, 114, 110, 47, 115, 101, 101, 100, 99, 111, 114, 110, 108, 97, 119, 53, 48, 46, 83, 101, 101, 100, 73, 116, 115, 101, 108, 102, 32, 115, 101, 101, 100, 99, 111, 114, 110, 47, 115, 101, 101, 100, 99, 111, 114, 110, 108, 97, 119, 49, 49, 46, 76, 105, 115, 116, 105, 110, 103, 84, 97, 114, 103, 101, 116, 115, 32, 115, 101, 101, 100, 99, 111, 114, 110, 47, 115, 101, 101, 100, 99, 111, 114, 110, 108, 97, 119, 49, 49, 46, 76, 105, 115, 116, 105, 110, 103, 84, 101, 120, 116, 32, 115, 101, 101, 100, 99, 111, 114, 110, 47, 115, 101, 101, 100, 99, 111, 114, 110, 108, 97, 119, 49, 49, 46, 76, 105, 115, 116, 105, 110, 103, 76, 105, 110, 101, 115, 32, 115, 101, 101, 100, 99, 111, 114, 110, 47, 115, 101, 101, 100, 99, 111, 114, 110, 108, 97, 119, 49, 49, 46, 76, 105, 115, 116, 105, 110, 103, 80, 108, 97, 99, 101, 115, 32, 115, 101, 101, 100, 99, 111, 114, 110, 47, 115, 101, 101, 100, 99, 111, 114, 110, 108, 97, 119, 49, 49, 46, 76, 105, 115, 116, 105, 110, 103, 65, 112, 97, 114, 116]
def chars (l : List Nat) : List Char := l.map Char.ofNat
theorem head_is : Tryd.prog.initOrder = String.ofList (chars headW1 ++ Char.ofNat 32 :: (chars headW2 ++ Char.ofNat 32 :: (chars headW3 ++ Char.ofNat 32 :: chars headRest))) := by kernel_rfl
theorem words_step : ∀ (w r : List Char), (∀ c ∈ w, c ≠ Char.ofNat 32) → wordsSigns (w ++ Char.ofNat 32 :: r) = w :: wordsSigns r
  | [], r, _ => rfl
  | c :: w, r, h => by
    have ih := words_step w r (fun d hd => h d (List.mem_cons_of_mem _ hd))
    have hc := h c (List.mem_cons_self ..)
    show wordsSigns (c :: (w ++ Char.ofNat 32 :: r)) = _
    rw [wordsSigns.eq_def]
    split
    · rename_i e; cases e
    · rename_i e; injection e with e1 e2; exact absurd e1 hc
    · rename_i c' r' hne e
      injection e with e1 e2
      subst e1 e2
      rw [ih]
theorem words_head : wordsSigns Tryd.prog.initOrder.toList = chars headW1 :: chars headW2 :: chars headW3 :: wordsSigns (chars headRest) := by
  rw [head_is, String.toList_ofList]
  rw [words_step _ _ (by decide +kernel), words_step _ _ (by decide +kernel), words_step _ _ (by decide +kernel)]
theorem head0 : behindMainWord (wordsSigns Tryd.prog.initOrder.toList) = chars headW3 :: wordsSigns (chars headRest) := by
  rw [words_head]
  unfold behindMainWord
  simp only
  rw [if_pos (by decide +kernel)]
section
variable {P : Program}
theorem mainIs_of {s : List Char} {R : List (List Char)} (h : wordsSigns P.initOrder.toList = chars headW1 :: s :: R) (hs : isSumSigns s = true) : P.mainIs = some (true, s) := by
  unfold Program.mainIs
  rw [h]
  simp only [hs, Bool.not_true]
  rw [if_neg (by decide), if_pos (by decide +kernel)]
theorem headLifts_of {R : List (List Char)} (h : behindMainWord (wordsSigns P.initOrder.toList) = chars headW3 :: R) : P.headLifts = [] := by
  unfold Program.headLifts
  rw [h]
  kernel_rfl
theorem liftsFinal_of {R : List (List Char)} (h : behindMainWord (wordsSigns P.initOrder.toList) = chars headW3 :: R) : P.liftsFinal = false := by
  unfold Program.liftsFinal
  rw [h, headLifts_of h]
  kernel_rfl
theorem make_of {R : List (List Char)} (h : behindMainWord (wordsSigns P.initOrder.toList) = chars headW3 :: R) : P.make = some .cut := by
  unfold Program.make
  rw [h, headLifts_of h]
  kernel_rfl
theorem strip_of {R : List (List Char)} : stripLifts liftWords (chars headW3 :: R) = ([], chars headW3 :: R) := by kernel_rfl
theorem mayEnter_of {R : List (List Char)} (h : behindMainWord (wordsSigns P.initOrder.toList) = chars headW3 :: R) (h1 : P.laysLater = false) (h2 : P.bearsReflect = false) (h3 : P.doorFits [] = true) : P.mayEnter = true := by
  unfold Program.mayEnter
  rw [h]
  simp only [strip_of, h1, h2, h3]
  kernel_rfl
end
theorem main_is : Tryd.prog.mainIs = some (true, chars headW2) := mainIs_of words_head (by kernel_rfl)
theorem lifts_final : Tryd.prog.liftsFinal = false := liftsFinal_of head0
theorem make_cut : Tryd.prog.make = some .cut := make_of head0
theorem lays_later : Tryd.prog.laysLater = false := by kernel_rfl
theorem bears_reflect : Tryd.prog.bearsReflect = false := by kernel_rfl
theorem door_fits : Tryd.prog.doorFits [] = true := by kernel_rfl
theorem may_enter : Tryd.prog.mayEnter = true := mayEnter_of head0 lays_later bears_reflect door_fits
def kindsOf (P : Program) (fn : Func) (c : OpenClaim) : List (Option IntKind) := if c.domain.isEmpty then [] else fn.params.toList.map fun t => match P.underlying t with | some (.int k) => some k | _ => none
theorem joined_of {P : Program} {f : FuncId} {fn : Func} {s : ChangeSpec} {c : OpenClaim}
    (k1 : c.wf (OpenSpec.ofChange s) = true) (k2 : laidOutB P = true) (k3 : mapsRowed P = true)
    (k4 : fn.params.all (P.readableRec ·) = true) (k5 : namedTie P c.named s.vars = true)
    (k6 : (c.stops == []) = true) (k7 : (P.stops == []) = true) (k8 : (c.knobs == []) = true) (k9 : (P.stopKnobs == []) = true)
    (k10 : (c.inPlace == P.inPlace f) = true) (k11 : (c.unfollowed == P.unfollowed f) = true) (k12 : (c.recurses == P.recurses f) = true) (k13 : (c.named == P.varsNamed f) = true)
    (k14 : (c.maps == (fn.params.toList ++ s.plain.varTypes P).any (P.mapsRec ·)) = true) (k15 : (c.ifaces == (fn.params.toList ++ s.plain.varTypes P).any (P.ifacesRec ·)) = true) (k16 : (c.mapsOut == P.mapsAmong fn.resultTypes.toList) = true)
    (k17 : (c.loops == (fn.params.toList ++ s.plain.varTypes P).any (P.loopsFrom ·)) = true) (k18 : (c.wideKeys == (fn.params.toList ++ s.plain.varTypes P ++ fn.resultTypes.toList).any (P.wideKeysFrom ·)) = true)
    (k19 : s.vars.all (P.varReadable ·) = true) (k20 : fn.resultTypes.all (fun t => P.readableRec t && decide (t < P.types.size)) = true) (k21 : (c.ifacesOut == fn.resultTypes.toList.any (P.ifacesRec ·)) = true) (k22 : (c.loopsOut == fn.resultTypes.toList.any (P.loopsFrom ·)) = true) (k23 : (c.plainKeys == P.plainKeys) = true)
    (k24 : c.shortTexts.isNone = true) (k25 : P.stopsHeard = true) (k26 : P.mayEnter = true) (k27 : (c.lifted == P.liftsFinal) = true) (k28 : (P.make == some c.make) = true)
    (k29 : (c.kinds == kindsOf P fn c) = true) (k30 : (c.pinned == c.pinnedBy) = true)
    (k31 : (c.veiled == (fn.params.toList ++ s.plain.varTypes P ++ fn.resultTypes.toList).any (P.veiledRec ·)) = true) (k32 : c.veiledFits P fn.params.toList (fn.params.toList ++ s.plain.varTypes P ++ fn.resultTypes.toList) = true) :
    joinedFacts P f fn s c = true := by
  have h2 : ∀ a b : Bool, a = true → b = true → (a && b) = true := fun a b ha hb => by rw [ha, hb]; rfl
  unfold joinedFacts
  exact h2 _ _ (h2 _ _ (h2 _ _ (h2 _ _ (h2 _ _ (h2 _ _ (h2 _ _ (h2 _ _ (h2 _ _ (h2 _ _ (h2 _ _ (h2 _ _ (h2 _ _ (h2 _ _ (h2 _ _ (h2 _ _ (h2 _ _ (h2 _ _ (h2 _ _ (h2 _ _ (h2 _ _ (h2 _ _ (h2 _ _ (h2 _ _ (h2 _ _ (h2 _ _ (h2 _ _ (h2 _ _ (h2 _ _ (h2 _ _ (h2 _ _ (k1) k2) k3) k4) k5) k6) k7) k8) k9) k10) k11) k12) k13) k14) k15) k16) k17) k18) k19) k20) k21) k22) k23) k24) k25) k26) k27) k28) k29) k30) k31) k32
theorem p_laid : laidOutB Tryd.prog = true := by kernel_rfl
theorem p_rowed : mapsRowed Tryd.prog = true := by kernel_rfl
theorem p_stops : (Tryd.prog.stops == []) = true := by kernel_rfl
theorem p_knobs : (Tryd.prog.stopKnobs == []) = true := by kernel_rfl
theorem p_heard : Tryd.prog.stopsHeard = true := by kernel_rfl
theorem p_looks : Tryd.prog.looks [] = false := by kernel_rfl
theorem head_sum : chars headW2 = "32f7f7aec7448378b47f94c14a021b7dc57130e43b4450819b795863dbcbff87".toList := by kernel_rfl
theorem main_sum : Tryd.prog.mainIs = some (true, "32f7f7aec7448378b47f94c14a021b7dc57130e43b4450819b795863dbcbff87".toList) := head_sum ▸ main_is
end Go.Proofs.YtdhkmdgieflioaaDoor.F
