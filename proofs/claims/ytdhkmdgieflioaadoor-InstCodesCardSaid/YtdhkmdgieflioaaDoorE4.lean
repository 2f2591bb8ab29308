/- Texts of this claim: contracts of functions that the law reaches, and plain lemmas. -/
import Derived.DataShut
import Derived.Test.YtdhkmdgieflioaaDoorRows
import Derived.JoinedOf
import Derived.KernelRfl
import Derived.SevenTiedAt
import Derived.Test.YtdhkmdgieflioaaDoorE2
import Derived.Test.YtdhkmdgieflioaaDoorE3
import Derived.Test.YtdhkmdgieflioaaDoorE1
namespace Go.Proofs.YtdhkmdgieflioaaDoor.F
open Go.RowKit Go.Proofs.YtdhkmdgieflioaaDoorW.PrintWords Go.Proofs.YtdhkmdgieflioaaDoorW.PrintLast Go.Proofs.YtdhkmdgieflioaaDoorW.PrintMore
set_option linter.unusedVariables false
set_option linter.unusedSimpArgs false
theorem wrapI {x : Int} (h0 : -9223372036854775808 ≤ x) (h1 : x ≤ 9223372036854775807) : wrap64 x = x := by unfold wrap64; omega
theorem alive_f : seedcornlaw07_alive.f = some true := by kernel_rfl
def apartOk (i j : Nat) : Bool := decide (i ≤ j) || decide (j = 0) || decide (28 ≤ i) || !((nameOf (i : Int)).data.toList == (nameOf (j : Int)).data.toList)
theorem apart_all : ((List.range 28).all fun i => (List.range 28).all fun j => apartOk i j) = true := by kernel_rfl
theorem names_apart (i j : Nat) (hj : 0 < j) (hij : j < i) (hi : i < 28) : (nameOf (i : Int)).toList ≠ (nameOf (j : Int)).toList := by
  have h1 := List.all_eq_true.1 apart_all i (List.mem_range.2 hi)
  have h2 := List.all_eq_true.1 h1 j (List.mem_range.2 (by omega))
  rw [ByteArray.toList_eq, ByteArray.toList_eq]
  intro h
  unfold apartOk at h2
  rw [h, decide_eq_false (show ¬ i ≤ j by omega), decide_eq_false (show ¬ j = 0 by omega), decide_eq_false (show ¬ 28 ≤ i by omega)] at h2
  simp at h2
theorem filled_all : ((List.range 28).all fun i => decide (i = 0) || !((nameOf (i : Int)).data.toList == [])) = true := by kernel_rfl
theorem name_filled (i : Int) (h1 : 1 ≤ i) (h2 : i < 28) : (nameOf i).toList ≠ [] := by
  obtain ⟨n, rfl⟩ : ∃ n : Nat, i = n := ⟨i.toNat, by omega⟩
  have h3 := List.all_eq_true.1 filled_all n (List.mem_range.2 (by omega))
  rw [ByteArray.toList_eq]
  intro h
  rw [h, decide_eq_false (show ¬ n = 0 by omega)] at h3
  simp at h3
theorem name_empty (i : Int) (h : ¬ (1 ≤ i ∧ i < 28)) : (nameOf i).toList = [] := by
  rw [ByteArray.toList_eq]
  by_cases h0 : i = 0
  · subst h0; rfl
  · unfold nameOf
    rw [if_neg (by omega)]
theorem counts_l1 (x0 : Int) (i : Nat) (hi : i < 28) (hi1 : 1 ≤ i) (x3 : Int) (h3 : x3 = (i : Int) - 1) (G : Ev (fun k => seedcornlaw07_InstCounts.l0 k x0 (i : Int) ((i + 1 : Nat) : Int)) true) (d : Nat) : ∀ (j : Nat), j + d = i → 0 < j →
    Ev (fun k => seedcornlaw07_InstCounts.l1 k x0 x3 (i : Int) (j : Int)) true := by
  induction d with
  | zero =>
    intro j hj hj0
    have hn := name_filled (i : Int) (by omega) (by omega)
    refine Ev.step (f := fun k => seedcornlaw07_InstCounts.l0 k x0 (i : Int) ((i + 1 : Nat) : Int)) (fun k => ?_) G
    simp only [seedcornlaw07_InstCounts.l1, inst_Name.f, Option.bind_some]
    rw [if_neg (by omega), if_neg hn, wrapI (by omega) (by omega), wrapI (by omega) (by omega)]
    congr 1
    omega
  | succ d ih =>
    intro j hj hj0
    have hn := names_apart i j hj0 (by omega) hi
    refine Ev.step (f := fun k => seedcornlaw07_InstCounts.l1 k x0 x3 (i : Int) ((j + 1 : Nat) : Int)) (fun k => ?_) (ih (j + 1) (by omega) (by omega))
    simp only [seedcornlaw07_InstCounts.l1, inst_Name.f, Option.bind_some]
    rw [if_pos (by omega), if_neg hn, wrapI (by omega) (by omega)]
    rfl
theorem counts_l0 (x0 : Int) (d : Nat) : ∀ (i : Nat), i + d = 28 → 1 ≤ i → Ev (fun k => seedcornlaw07_InstCounts.l0 k x0 ((i : Int) - 1) (i : Int)) true := by
  induction d with
  | zero =>
    intro i hi h1
    obtain rfl : i = 28 := by omega
    refine Ev.step (f := fun _ => some true) (fun k => ?_) (Ev.now _)
    simp only [seedcornlaw07_InstCounts.l0, inst_Name.f, Option.bind_some]
    rw [if_neg (by decide), if_pos (by decide)]
    by_cases h : x0 ≥ 1
    · rw [if_pos h]
      by_cases h2 : x0 ≤ 27
      · have := name_filled x0 (by omega) (by omega)
        rw [decide_eq_true h2, bne_iff_ne.2 this]
        rfl
      · have := name_empty x0 (by omega)
        rw [decide_eq_false h2, this]
        rfl
    · rw [if_neg h, name_empty x0 (by omega)]
      rfl
  | succ d ih =>
    intro i hi h1
    have hn := ih (i + 1) (by omega) (by omega)
    refine Ev.step (f := fun k => seedcornlaw07_InstCounts.l1 k x0 ((i : Int) - 1) (i : Int) ((1 : Nat) : Int)) (fun k => ?_) (counts_l1 x0 i (by omega) h1 _ rfl ?_ (i - 1) 1 (by omega) (by omega))
    · simp only [seedcornlaw07_InstCounts.l0]
      rw [if_pos (by omega)]
      rfl
    · have e : ((i + 1 : Nat) : Int) - 1 = (i : Int) := by omega
      rw [e] at hn
      exact hn
theorem instCounts_pure (op : Int) {q : Prop} (_ : q) : ∃ k, seedcornlaw07_InstCounts.f k op = some true := by
  refine Ev.rounds (g := fun k => seedcornlaw07_InstCounts.f k op) ?_
  unfold seedcornlaw07_InstCounts.f
  rw [alive_f]
  exact counts_l0 op 27 1 (by omega) (by omega)
end Go.Proofs.YtdhkmdgieflioaaDoor.F
namespace Go.Proofs.YtdhkmdgieflioaaDoor.F
open Go.RowKit Go.Proofs.YtdhkmdgieflioaaDoorW.PrintWords Go.Proofs.YtdhkmdgieflioaaDoorW.PrintLast Go.Proofs.YtdhkmdgieflioaaDoorW.PrintMore
set_option linter.unusedVariables false
set_option linter.unusedSimpArgs false
def seedcornref07_Decode.f (a0 : Int) : Option (Int × Int × Int × Int × Int) := if 0 ≤ a0 ∧ a0 < 4294967296 then ((seedcornref07_Right.f (a0 / 16777216) (a0 / 1048576 % 16) (a0 / 65536 % 16) (a0 % 65536)).bind fun t115 => (if t115 = true then (some (a0 / 16777216, a0 / 1048576 % 16, a0 / 65536 % 16, a0 % 65536, 0)) else (some (0, 0, 0, 0, 7)))) else none
set_option maxHeartbeats 8000000 in
set_option maxRecDepth 100000 in
theorem seedcornref07_Decode.calls (a0 : Int) (r1 : Int) (r2 : Int) (r3 : Int) (r4 : Int) (r5 : Int) (w : World) (h : seedcornref07_Decode.f a0 = some (r1, r2, r3, r4, r5)) :
    Calls Tryd.prog 46 #[.int .u32 a0] w fun e w' => e = .returned (.tuple #[.agg #[.int .i64 r1, .int .i64 r2, .int .i64 r3, .int .i64 r4], .int .i64 r5]) ∧ Below w.heap.size w w' := by
  have hu46 := Tryd.underlying46
  have HB := Aside0.mk (Below.refl w.heap.size w)
  unfold seedcornref07_Decode.f at h
  by_cases hg : 0 ≤ a0 ∧ a0 < 4294967296
  rotate_left
  · rw [if_neg hg] at h; cases h
  rw [if_pos hg] at h
  obtain ⟨hg0, hg1⟩ := hg
  have H : ((seedcornref07_Right.f (a0 / 16777216) (a0 / 1048576 % 16) (a0 / 65536 % 16) (a0 % 65536)).bind fun t115 => (if t115 = true then (some (a0 / 16777216, a0 / 1048576 % 16, a0 / 65536 % 16, a0 % 65536, 0)) else (some (0, 0, 0, 0, 7)))) = some (r1, r2, r3, r4, r5) := h
  clear h
  replace H := Option.bind_eq_some_iff.mp H
  obtain ⟨t115, A20, H⟩ := H
  replace H : (if t115 = true then (some (a0 / 16777216, a0 / 1048576 % 16, a0 / 65536 % 16, a0 % 65536, 0)) else (some (0, 0, 0, 0, 7))) = some (r1, r2, r3, r4, r5) := H
  have A2 := Aside0.mk A20
  clear A20
  by_cases c3 : t115 = true
  · subst c3
    have H1 : (some (a0 / 16777216, a0 / 1048576 % 16, a0 / 65536 % 16, a0 % 65536, 0)) = some (r1, r2, r3, r4, r5) := by rw [if_pos rfl] at H; exact H
    clear H
    have H := H1
    clear H1
    simp only [Option.some.injEq, Prod.mk.injEq] at H
    obtain ⟨rfl, rfl, rfl, rfl, rfl⟩ := H
    go_enter Tryd.func46, Tryd.ntmps46
    go_wp2_with (first | ((with_reducible refine gate_dst (N := 2) rfl ?_); refine box_event ?hg (N := 2) ?hd (cs := #[.int .i64 0, .int .i64 0, .int .i64 0, .int .i64 0]) (t := 46) ?hr ?_; (case hd => rfl); (case hg => rfl); (case hr => first | (go_simp; done) | (go_simp; rfl)); intro gb113 hg w4 hbox hb; have n0_ := Aside0.mk (below_step (by repeat (first | (with_reducible first | exact HB.out | apply below_alloc | apply pw_below_drewN | apply below_drew1) | exact HB.out)) hb); have n1_ := Aside0.mk (hbox); have n2_ := Aside0.mk ((by rw [hg]; exact (below_size (by repeat (first | (with_reducible first | exact HB.out | apply below_alloc | apply pw_below_drewN | apply below_drew1) | exact HB.out))) : w.heap.size ≤ gb113)); have n3_ := Aside0.mk ((by rw [hg]; exact (below_size (by repeat (first | (with_reducible first | exact HB.out | apply below_alloc | apply pw_below_drewN | apply below_drew1) | exact HB.out))) : w.heap.size ≤ gb113)); clear HB; have HB := n0_; have BK113 := n1_; have GW113 := n2_; have GE113 := n3_; clear n0_ n1_ n2_ n3_; clear hb hbox hg) | ((with_reducible refine gate_dst (N := 4) rfl ?_); refine box_event ?hg (N := 4) ?hd (cs := #[.int .i64 0, .int .i64 0, .int .i64 0, .int .i64 0]) (t := 46) ?hr ?_; (case hd => rfl); (case hg => rfl); (case hr => first | (go_simp; done) | (go_simp; rfl)); intro gb114 hg w5 hbox hb; have n0_ := Aside0.mk (blk_below (g := gb113) (o := .cells #[.int .i64 0, .int .i64 0, .int .i64 0, .int .i64 0] 46 (0, 0)) (by (with_reducible repeat (first | refine blk_drewN ?_ _ | refine blk_drew ?_ | refine blk_alloc ?_ _)); exact BK113.out) hb); have n1_ := Aside0.mk (below_step (by repeat (first | (with_reducible first | exact HB.out | apply below_alloc | apply pw_below_drewN | apply below_drew1 | refine below_set ?_ GE113.out) | exact HB.out)) hb); have n2_ := Aside0.mk (hbox); have n3_ := Aside0.mk ((by rw [hg]; exact (below_size (by repeat (first | (with_reducible first | exact HB.out | apply below_alloc | apply pw_below_drewN | apply below_drew1 | refine below_set ?_ GE113.out) | exact HB.out))) : w.heap.size ≤ gb114)); have n4_ := Aside0.mk ((by rw [hg]; exact (below_size (by repeat (first | (with_reducible first | exact HB.out | apply below_alloc | apply pw_below_drewN | apply below_drew1 | refine below_set ?_ GE113.out) | exact HB.out))) : w.heap.size ≤ gb114)); have n5_ := Aside0.mk ((by rw [hg]; exact Nat.ne_of_lt (blk_lt (g := gb113) (o := .cells #[.int .i64 0, .int .i64 0, .int .i64 0, .int .i64 0] 46 (0, 0)) (by (with_reducible repeat (first | refine blk_drewN ?_ _ | refine blk_drew ?_ | refine blk_alloc ?_ _)); exact BK113.out)) : gb113 ≠ gb114)); have n6_ := Aside0.mk ((by rw [hg]; exact Nat.ne_of_gt (blk_lt (g := gb113) (o := .cells #[.int .i64 0, .int .i64 0, .int .i64 0, .int .i64 0] 46 (0, 0)) (by (with_reducible repeat (first | refine blk_drewN ?_ _ | refine blk_drew ?_ | refine blk_alloc ?_ _)); exact BK113.out)) : gb114 ≠ gb113)); clear BK113; clear HB; have BK113 := n0_; have HB := n1_; have BK114 := n2_; have GW114 := n3_; have GE114 := n4_; have NB113_114 := n5_; have NB114_113 := n6_; clear n0_ n1_ n2_ n3_ n4_ n5_ n6_; clear hb hbox hg; have hnb6 := NB114_113.out; have hnc6 := NB113_114.out; have hcz7_0 : w5.cell? ⟨gb114, 0, none⟩ = some (.int .i64 0) := (blk_cell BK114.out 0).trans rfl; have hcz7_1 : w5.cell? ⟨gb114, 1, none⟩ = some (.int .i64 0) := (blk_cell BK114.out 1).trans rfl; have hcz7_2 : w5.cell? ⟨gb114, 2, none⟩ = some (.int .i64 0) := (blk_cell BK114.out 2).trans rfl; have hcz7_3 : w5.cell? ⟨gb114, 3, none⟩ = some (.int .i64 0) := (blk_cell BK114.out 3).trans rfl; have hfz7_0 := blk_frozen BK114.out 0; have hfz7_1 := blk_frozen BK114.out 1; have hfz7_2 := blk_frozen BK114.out 2; have hfz7_3 := blk_frozen BK114.out 3) | ((with_reducible refine gate_callee (f := 41) rfl ?_); refine goesL_ (some 21) rfl rfl Tryd.func41 (by kernel_rfl) rfl #[.agg #[.int .i64 (a0 / 16777216), .int .i64 (a0 / 1048576 % 16), .int .i64 (a0 / 65536 % 16), .int .i64 (a0 % 65536)]] rfl (by (try simp only [List.map_toArray, List.map_cons, List.map_nil]); first | done | rfl | (simp only [List.length_drop, List.length_take]; rfl)) ?_; (with_reducible refine (seedcornref07_Right.calls (a0 / 16777216) (a0 / 1048576 % 16) (a0 / 65536 % 16) (a0 % 65536) true _ A2.out).mono ?_); rintro e w8 ⟨rfl, hb⟩; refine ⟨_, rfl, ?_⟩; have n0_ := Aside0.mk (blk_below (g := gb113) (o := .cells #[.int .i64 0, .int .i64 0, .int .i64 0, .int .i64 0] 46 (0, 0)) (by (with_reducible repeat (first | refine blk_drewN ?_ _ | refine blk_drew ?_ | refine blk_alloc ?_ _)); refine blk_far ?_ NB113_114.out _; (with_reducible repeat (first | refine blk_drewN ?_ _ | refine blk_drew ?_ | refine blk_alloc ?_ _)); refine blk_far ?_ NB113_114.out _; (with_reducible repeat (first | refine blk_drewN ?_ _ | refine blk_drew ?_ | refine blk_alloc ?_ _)); refine blk_far ?_ NB113_114.out _; (with_reducible repeat (first | refine blk_drewN ?_ _ | refine blk_drew ?_ | refine blk_alloc ?_ _)); refine blk_far ?_ NB113_114.out _; (with_reducible repeat (first | refine blk_drewN ?_ _ | refine blk_drew ?_ | refine blk_alloc ?_ _)); exact BK113.out) hb); have n1_ := Aside0.mk (blk_below (g := gb114) (o := .cells #[.int .i64 (a0 / 16777216), .int .i64 (a0 / 1048576 % 16), .int .i64 (a0 / 65536 % 16), .int .i64 (a0 % 65536)] 46 (0, 0)) (by (with_reducible repeat (first | refine blk_drewN ?_ _ | refine blk_drew ?_ | refine blk_alloc ?_ _)); refine blk_put (cs := #[.int .i64 (a0 / 16777216), .int .i64 (a0 / 1048576 % 16), .int .i64 (a0 / 65536 % 16), .int .i64 0]) ?_ 3 _ rfl; (with_reducible repeat (first | refine blk_drewN ?_ _ | refine blk_drew ?_ | refine blk_alloc ?_ _)); refine blk_put (cs := #[.int .i64 (a0 / 16777216), .int .i64 (a0 / 1048576 % 16), .int .i64 0, .int .i64 0]) ?_ 2 _ rfl; (with_reducible repeat (first | refine blk_drewN ?_ _ | refine blk_drew ?_ | refine blk_alloc ?_ _)); refine blk_put (cs := #[.int .i64 (a0 / 16777216), .int .i64 0, .int .i64 0, .int .i64 0]) ?_ 1 _ rfl; (with_reducible repeat (first | refine blk_drewN ?_ _ | refine blk_drew ?_ | refine blk_alloc ?_ _)); refine blk_put (cs := #[.int .i64 0, .int .i64 0, .int .i64 0, .int .i64 0]) ?_ 0 _ rfl; (with_reducible repeat (first | refine blk_drewN ?_ _ | refine blk_drew ?_ | refine blk_alloc ?_ _)); exact BK114.out) hb); have n2_ := Aside0.mk (below_step (by repeat (first | (with_reducible first | exact HB.out | apply below_alloc | apply pw_below_drewN | apply below_drew1 | refine below_set ?_ GE113.out | refine below_set ?_ GE114.out) | exact HB.out)) hb); clear BK113; clear BK114; clear HB; have BK113 := n0_; have BK114 := n1_; have HB := n2_; clear n0_ n1_ n2_; (try clear hb); (try clear hb2); (try clear hk); (try clear hi); have hcz9_0 : w8.cell? ⟨gb114, 0, none⟩ = some (.int .i64 (a0 / 16777216)) := (blk_cell BK114.out 0).trans rfl; have hcz9_1 : w8.cell? ⟨gb114, 1, none⟩ = some (.int .i64 (a0 / 1048576 % 16)) := (blk_cell BK114.out 1).trans rfl; have hcz9_2 : w8.cell? ⟨gb114, 2, none⟩ = some (.int .i64 (a0 / 65536 % 16)) := (blk_cell BK114.out 2).trans rfl; have hcz9_3 : w8.cell? ⟨gb114, 3, none⟩ = some (.int .i64 (a0 % 65536)) := (blk_cell BK114.out 3).trans rfl; have hfz9_0 := blk_frozen BK114.out 0; have hfz9_1 := blk_frozen BK114.out 1; have hfz9_2 := blk_frozen BK114.out 2; have hfz9_3 := blk_frozen BK114.out 3; have hcz10_0 : w8.cell? ⟨gb113, 0, none⟩ = some (.int .i64 0) := (blk_cell BK113.out 0).trans rfl; have hcz10_1 : w8.cell? ⟨gb113, 1, none⟩ = some (.int .i64 0) := (blk_cell BK113.out 1).trans rfl; have hcz10_2 : w8.cell? ⟨gb113, 2, none⟩ = some (.int .i64 0) := (blk_cell BK113.out 2).trans rfl; have hcz10_3 : w8.cell? ⟨gb113, 3, none⟩ = some (.int .i64 0) := (blk_cell BK113.out 3).trans rfl; have hfz10_0 := blk_frozen BK113.out 0; have hfz10_1 := blk_frozen BK113.out 1; have hfz10_2 := blk_frozen BK113.out 2; have hfz10_3 := blk_frozen BK113.out 3))
    refine bodyPost_ret (results_ct rfl _ _ gb113 46 #[.int .i64 (a0 / 16777216), .int .i64 (a0 / 1048576 % 16), .int .i64 (a0 / 65536 % 16), .int .i64 (a0 % 65536)] (0, 0) _ rfl (by (with_reducible repeat (first | refine blk_drewN ?_ _ | refine blk_drew ?_ | refine blk_alloc ?_ _)); refine blk_put (cs := #[.int .i64 (a0 / 16777216), .int .i64 (a0 / 1048576 % 16), .int .i64 (a0 / 65536 % 16), .int .i64 0]) ?_ 3 _ rfl; (with_reducible repeat (first | refine blk_drewN ?_ _ | refine blk_drew ?_ | refine blk_alloc ?_ _)); refine blk_put (cs := #[.int .i64 (a0 / 16777216), .int .i64 (a0 / 1048576 % 16), .int .i64 0, .int .i64 0]) ?_ 2 _ rfl; (with_reducible repeat (first | refine blk_drewN ?_ _ | refine blk_drew ?_ | refine blk_alloc ?_ _)); refine blk_put (cs := #[.int .i64 (a0 / 16777216), .int .i64 0, .int .i64 0, .int .i64 0]) ?_ 1 _ rfl; (with_reducible repeat (first | refine blk_drewN ?_ _ | refine blk_drew ?_ | refine blk_alloc ?_ _)); refine blk_put (cs := #[.int .i64 0, .int .i64 0, .int .i64 0, .int .i64 0]) ?_ 0 _ rfl; (with_reducible repeat (first | refine blk_drewN ?_ _ | refine blk_drew ?_ | refine blk_alloc ?_ _)); exact BK113.out) Tryd.underlying46 rfl (by kernel_rfl)) rfl ?_
    exact ⟨by first | rfl | (simp [errW_none, errW_some] <;> rfl) | (simp [*, errW_none, errW_some] <;> rfl), by repeat (first | (with_reducible first | exact HB.out | apply below_alloc | apply pw_below_drewN | apply below_drew1 | refine below_set ?_ GE113.out | refine below_set ?_ GE114.out) | exact HB.out)⟩
  · replace c3 := Bool.eq_false_iff.mpr c3
    subst c3
    have H1 : (some (0, 0, 0, 0, 7)) = some (r1, r2, r3, r4, r5) := by rw [if_neg (show ¬ (false = true) by decide)] at H; exact H
    clear H
    have H := H1
    clear H1
    simp only [Option.some.injEq, Prod.mk.injEq] at H
    obtain ⟨rfl, rfl, rfl, rfl, rfl⟩ := H
    go_enter Tryd.func46, Tryd.ntmps46
    go_wp2_with (first | ((with_reducible refine gate_dst (N := 2) rfl ?_); refine box_event ?hg (N := 2) ?hd (cs := #[.int .i64 0, .int .i64 0, .int .i64 0, .int .i64 0]) (t := 46) ?hr ?_; (case hd => rfl); (case hg => rfl); (case hr => first | (go_simp; done) | (go_simp; rfl)); intro gb113 hg w11 hbox hb; have n0_ := Aside0.mk (below_step (by repeat (first | (with_reducible first | exact HB.out | apply below_alloc | apply pw_below_drewN | apply below_drew1) | exact HB.out)) hb); have n1_ := Aside0.mk (hbox); have n2_ := Aside0.mk ((by rw [hg]; exact (below_size (by repeat (first | (with_reducible first | exact HB.out | apply below_alloc | apply pw_below_drewN | apply below_drew1) | exact HB.out))) : w.heap.size ≤ gb113)); have n3_ := Aside0.mk ((by rw [hg]; exact (below_size (by repeat (first | (with_reducible first | exact HB.out | apply below_alloc | apply pw_below_drewN | apply below_drew1) | exact HB.out))) : w.heap.size ≤ gb113)); clear HB; have HB := n0_; have BK113 := n1_; have GW113 := n2_; have GE113 := n3_; clear n0_ n1_ n2_ n3_; clear hb hbox hg) | ((with_reducible refine gate_dst (N := 4) rfl ?_); refine box_event ?hg (N := 4) ?hd (cs := #[.int .i64 0, .int .i64 0, .int .i64 0, .int .i64 0]) (t := 46) ?hr ?_; (case hd => rfl); (case hg => rfl); (case hr => first | (go_simp; done) | (go_simp; rfl)); intro gb114 hg w12 hbox hb; have n0_ := Aside0.mk (blk_below (g := gb113) (o := .cells #[.int .i64 0, .int .i64 0, .int .i64 0, .int .i64 0] 46 (0, 0)) (by (with_reducible repeat (first | refine blk_drewN ?_ _ | refine blk_drew ?_ | refine blk_alloc ?_ _)); exact BK113.out) hb); have n1_ := Aside0.mk (below_step (by repeat (first | (with_reducible first | exact HB.out | apply below_alloc | apply pw_below_drewN | apply below_drew1 | refine below_set ?_ GE113.out) | exact HB.out)) hb); have n2_ := Aside0.mk (hbox); have n3_ := Aside0.mk ((by rw [hg]; exact (below_size (by repeat (first | (with_reducible first | exact HB.out | apply below_alloc | apply pw_below_drewN | apply below_drew1 | refine below_set ?_ GE113.out) | exact HB.out))) : w.heap.size ≤ gb114)); have n4_ := Aside0.mk ((by rw [hg]; exact (below_size (by repeat (first | (with_reducible first | exact HB.out | apply below_alloc | apply pw_below_drewN | apply below_drew1 | refine below_set ?_ GE113.out) | exact HB.out))) : w.heap.size ≤ gb114)); have n5_ := Aside0.mk ((by rw [hg]; exact Nat.ne_of_lt (blk_lt (g := gb113) (o := .cells #[.int .i64 0, .int .i64 0, .int .i64 0, .int .i64 0] 46 (0, 0)) (by (with_reducible repeat (first | refine blk_drewN ?_ _ | refine blk_drew ?_ | refine blk_alloc ?_ _)); exact BK113.out)) : gb113 ≠ gb114)); have n6_ := Aside0.mk ((by rw [hg]; exact Nat.ne_of_gt (blk_lt (g := gb113) (o := .cells #[.int .i64 0, .int .i64 0, .int .i64 0, .int .i64 0] 46 (0, 0)) (by (with_reducible repeat (first | refine blk_drewN ?_ _ | refine blk_drew ?_ | refine blk_alloc ?_ _)); exact BK113.out)) : gb114 ≠ gb113)); clear BK113; clear HB; have BK113 := n0_; have HB := n1_; have BK114 := n2_; have GW114 := n3_; have GE114 := n4_; have NB113_114 := n5_; have NB114_113 := n6_; clear n0_ n1_ n2_ n3_ n4_ n5_ n6_; clear hb hbox hg; have hnb13 := NB114_113.out; have hnc13 := NB113_114.out; have hcz14_0 : w12.cell? ⟨gb114, 0, none⟩ = some (.int .i64 0) := (blk_cell BK114.out 0).trans rfl; have hcz14_1 : w12.cell? ⟨gb114, 1, none⟩ = some (.int .i64 0) := (blk_cell BK114.out 1).trans rfl; have hcz14_2 : w12.cell? ⟨gb114, 2, none⟩ = some (.int .i64 0) := (blk_cell BK114.out 2).trans rfl; have hcz14_3 : w12.cell? ⟨gb114, 3, none⟩ = some (.int .i64 0) := (blk_cell BK114.out 3).trans rfl; have hfz14_0 := blk_frozen BK114.out 0; have hfz14_1 := blk_frozen BK114.out 1; have hfz14_2 := blk_frozen BK114.out 2; have hfz14_3 := blk_frozen BK114.out 3) | ((with_reducible refine gate_callee (f := 41) rfl ?_); refine goesL_ (some 21) rfl rfl Tryd.func41 (by kernel_rfl) rfl #[.agg #[.int .i64 (a0 / 16777216), .int .i64 (a0 / 1048576 % 16), .int .i64 (a0 / 65536 % 16), .int .i64 (a0 % 65536)]] rfl (by (try simp only [List.map_toArray, List.map_cons, List.map_nil]); first | done | rfl | (simp only [List.length_drop, List.length_take]; rfl)) ?_; (with_reducible refine (seedcornref07_Right.calls (a0 / 16777216) (a0 / 1048576 % 16) (a0 / 65536 % 16) (a0 % 65536) false _ A2.out).mono ?_); rintro e w15 ⟨rfl, hb⟩; refine ⟨_, rfl, ?_⟩; have n0_ := Aside0.mk (blk_below (g := gb113) (o := .cells #[.int .i64 0, .int .i64 0, .int .i64 0, .int .i64 0] 46 (0, 0)) (by (with_reducible repeat (first | refine blk_drewN ?_ _ | refine blk_drew ?_ | refine blk_alloc ?_ _)); refine blk_far ?_ NB113_114.out _; (with_reducible repeat (first | refine blk_drewN ?_ _ | refine blk_drew ?_ | refine blk_alloc ?_ _)); refine blk_far ?_ NB113_114.out _; (with_reducible repeat (first | refine blk_drewN ?_ _ | refine blk_drew ?_ | refine blk_alloc ?_ _)); refine blk_far ?_ NB113_114.out _; (with_reducible repeat (first | refine blk_drewN ?_ _ | refine blk_drew ?_ | refine blk_alloc ?_ _)); refine blk_far ?_ NB113_114.out _; (with_reducible repeat (first | refine blk_drewN ?_ _ | refine blk_drew ?_ | refine blk_alloc ?_ _)); exact BK113.out) hb); have n1_ := Aside0.mk (blk_below (g := gb114) (o := .cells #[.int .i64 (a0 / 16777216), .int .i64 (a0 / 1048576 % 16), .int .i64 (a0 / 65536 % 16), .int .i64 (a0 % 65536)] 46 (0, 0)) (by (with_reducible repeat (first | refine blk_drewN ?_ _ | refine blk_drew ?_ | refine blk_alloc ?_ _)); refine blk_put (cs := #[.int .i64 (a0 / 16777216), .int .i64 (a0 / 1048576 % 16), .int .i64 (a0 / 65536 % 16), .int .i64 0]) ?_ 3 _ rfl; (with_reducible repeat (first | refine blk_drewN ?_ _ | refine blk_drew ?_ | refine blk_alloc ?_ _)); refine blk_put (cs := #[.int .i64 (a0 / 16777216), .int .i64 (a0 / 1048576 % 16), .int .i64 0, .int .i64 0]) ?_ 2 _ rfl; (with_reducible repeat (first | refine blk_drewN ?_ _ | refine blk_drew ?_ | refine blk_alloc ?_ _)); refine blk_put (cs := #[.int .i64 (a0 / 16777216), .int .i64 0, .int .i64 0, .int .i64 0]) ?_ 1 _ rfl; (with_reducible repeat (first | refine blk_drewN ?_ _ | refine blk_drew ?_ | refine blk_alloc ?_ _)); refine blk_put (cs := #[.int .i64 0, .int .i64 0, .int .i64 0, .int .i64 0]) ?_ 0 _ rfl; (with_reducible repeat (first | refine blk_drewN ?_ _ | refine blk_drew ?_ | refine blk_alloc ?_ _)); exact BK114.out) hb); have n2_ := Aside0.mk (below_step (by repeat (first | (with_reducible first | exact HB.out | apply below_alloc | apply pw_below_drewN | apply below_drew1 | refine below_set ?_ GE113.out | refine below_set ?_ GE114.out) | exact HB.out)) hb); clear BK113; clear BK114; clear HB; have BK113 := n0_; have BK114 := n1_; have HB := n2_; clear n0_ n1_ n2_; (try clear hb); (try clear hb2); (try clear hk); (try clear hi); have hcz16_0 : w15.cell? ⟨gb113, 0, none⟩ = some (.int .i64 0) := (blk_cell BK113.out 0).trans rfl; have hcz16_1 : w15.cell? ⟨gb113, 1, none⟩ = some (.int .i64 0) := (blk_cell BK113.out 1).trans rfl; have hcz16_2 : w15.cell? ⟨gb113, 2, none⟩ = some (.int .i64 0) := (blk_cell BK113.out 2).trans rfl; have hcz16_3 : w15.cell? ⟨gb113, 3, none⟩ = some (.int .i64 0) := (blk_cell BK113.out 3).trans rfl; have hfz16_0 := blk_frozen BK113.out 0; have hfz16_1 := blk_frozen BK113.out 1; have hfz16_2 := blk_frozen BK113.out 2; have hfz16_3 := blk_frozen BK113.out 3))
    refine bodyPost_ret (results_ct rfl _ _ gb113 46 #[.int .i64 0, .int .i64 0, .int .i64 0, .int .i64 0] (0, 0) _ rfl (by (with_reducible repeat (first | refine blk_drewN ?_ _ | refine blk_drew ?_ | refine blk_alloc ?_ _)); refine blk_put (cs := #[.int .i64 0, .int .i64 0, .int .i64 0, .int .i64 0]) ?_ 3 _ rfl; (with_reducible repeat (first | refine blk_drewN ?_ _ | refine blk_drew ?_ | refine blk_alloc ?_ _)); refine blk_put (cs := #[.int .i64 0, .int .i64 0, .int .i64 0, .int .i64 0]) ?_ 2 _ rfl; (with_reducible repeat (first | refine blk_drewN ?_ _ | refine blk_drew ?_ | refine blk_alloc ?_ _)); refine blk_put (cs := #[.int .i64 0, .int .i64 0, .int .i64 0, .int .i64 0]) ?_ 1 _ rfl; (with_reducible repeat (first | refine blk_drewN ?_ _ | refine blk_drew ?_ | refine blk_alloc ?_ _)); refine blk_put (cs := #[.int .i64 0, .int .i64 0, .int .i64 0, .int .i64 0]) ?_ 0 _ rfl; (with_reducible repeat (first | refine blk_drewN ?_ _ | refine blk_drew ?_ | refine blk_alloc ?_ _)); exact BK113.out) Tryd.underlying46 rfl (by kernel_rfl)) rfl ?_
    exact ⟨by first | rfl | (simp [errW_none, errW_some] <;> rfl) | (simp [*, errW_none, errW_some] <;> rfl), by repeat (first | (with_reducible first | exact HB.out | apply below_alloc | apply pw_below_drewN | apply below_drew1 | refine below_set ?_ GE113.out | refine below_set ?_ GE114.out) | exact HB.out)⟩
end Go.Proofs.YtdhkmdgieflioaaDoor.F
namespace Go.Proofs.YtdhkmdgieflioaaDoor.F
open Go.RowKit Go.Proofs.YtdhkmdgieflioaaDoorW.PrintWords Go.Proofs.YtdhkmdgieflioaaDoorW.PrintLast Go.Proofs.YtdhkmdgieflioaaDoorW.PrintMore
attribute [local go_sem] max2_int min2_int max_two min_two max_three min_three max_four min_four
set_option linter.unusedVariables false
set_option linter.unusedSimpArgs false
attribute [local go_sem high] eqA46
def seedcornlaw07_InstReads.j0 : Nat → Int → Int → Bool → Int → Int → Int → Int → Option (Bool)
  | 0, _, _, _, _, _, _, _ => none
  | k + 1, x0, x4, x28, x354000, x354001, x354002, x354003 => if x28 = true then (some false) else ((inst_Encode.f x354000 x354001 x354002 x354003).bind fun bt360 => (if x4 = 0 then (if bt360.2 = 0 then (if bt360.1 = x0 then ((inst_Right.f x354000 x354001 x354002 x354003).bind fun t362 => (some t362)) else (some false)) else (some false)) else (some true)))
def seedcornlaw07_InstReads.f (k : Nat) (a0 : Int) : Option (Bool) := (seedcornlaw07_alive.f).bind fun t347 => (if t347 = true then ((inst_Decode.f a0).bind fun bt348 => ((seedcornref07_Decode.f a0).bind fun bt354 => (if (!(bt348.1 == bt354.1) || (!(bt348.2.1 == bt354.2.1) || (!(bt348.2.2.1 == bt354.2.2.1) || (!(bt348.2.2.2.1 == bt354.2.2.2.1))))) = true then (seedcornlaw07_InstReads.j0 k a0 bt348.2.2.2.2 true bt348.1 bt348.2.1 bt348.2.2.1 bt348.2.2.2.1) else (seedcornlaw07_InstReads.j0 k a0 bt348.2.2.2.2 (bt348.2.2.2.2 != bt354.2.2.2.2) bt348.1 bt348.2.1 bt348.2.2.1 bt348.2.2.2.1)))) else (some false))
theorem seedcornlaw07_InstReads.mono_l : ∀ k, (∀ y0 y1 y2 y3 y4 y5 y6, LeO (seedcornlaw07_InstReads.j0 k y0 y1 y2 y3 y4 y5 y6) (seedcornlaw07_InstReads.j0 (k + 1) y0 y1 y2 y3 y4 y5 y6))
  | 0 => fun _ _ _ _ _ _ _ r h => by simp [seedcornlaw07_InstReads.j0] at h
  | k + 1 => by
    have ih0 := seedcornlaw07_InstReads.mono_l k
    · intro y0 y1 y2 y3 y4 y5 y6
      unfold seedcornlaw07_InstReads.j0
      repeat' first
      | (with_reducible exact ih0 _ _ _ _ _ _ _)
      | (with_reducible exact LeO.refl _)
      | (with_reducible exact LeO.none _)
      | (with_reducible refine LeO.ite ?_ ?_)
      | (with_reducible refine LeO.bind ?_ (fun _ => ?_))
      | exact ih0 _ _ _ _ _ _ _
      | exact LeO.none _
      | refine LeO.ite ?_ ?_
      | refine LeO.bind ?_ (fun _ => ?_)
theorem seedcornlaw07_InstReads.mono : ∀ a0 k, LeO (seedcornlaw07_InstReads.f k a0) (seedcornlaw07_InstReads.f (k + 1) a0) := by
  intro a0 k
  have ih0 := seedcornlaw07_InstReads.mono_l k
  unfold seedcornlaw07_InstReads.f
  repeat' first
      | (with_reducible exact ih0 _ _ _ _ _ _ _)
      | (with_reducible exact LeO.refl _)
      | (with_reducible exact LeO.none _)
      | (with_reducible refine LeO.ite ?_ ?_)
      | (with_reducible refine LeO.bind ?_ (fun _ => ?_))
      | exact ih0 _ _ _ _ _ _ _
      | exact LeO.none _
      | refine LeO.ite ?_ ?_
      | refine LeO.bind ?_ (fun _ => ?_)
set_option maxHeartbeats 8000000 in
set_option maxRecDepth 100000 in
theorem seedcornlaw07_InstReads.calls (k : Nat) (a0 : Int) (r : Bool) (w : World) (hGK : GK w) (hGT : GT w) (h : seedcornlaw07_InstReads.f k a0 = some r) :
    Calls Tryd.prog 11 #[.int .u32 a0] w fun e w' => e = .returned (.bool r) ∧ Below w.heap.size w w' := by
  have hu46 := Tryd.underlying46
  have HGK := Aside0.mk hGK
  clear hGK
  have HGT := Aside0.mk hGT
  clear hGT
  have HB := Aside0.mk (Below.refl w.heap.size w)
  have H : ((seedcornlaw07_alive.f).bind fun t347 => (if t347 = true then ((inst_Decode.f a0).bind fun bt348 => ((seedcornref07_Decode.f a0).bind fun bt354 => (if (!(bt348.1 == bt354.1) || (!(bt348.2.1 == bt354.2.1) || (!(bt348.2.2.1 == bt354.2.2.1) || (!(bt348.2.2.2.1 == bt354.2.2.2.1))))) = true then (seedcornlaw07_InstReads.j0 k a0 bt348.2.2.2.2 true bt348.1 bt348.2.1 bt348.2.2.1 bt348.2.2.2.1) else (seedcornlaw07_InstReads.j0 k a0 bt348.2.2.2.2 (bt348.2.2.2.2 != bt354.2.2.2.2) bt348.1 bt348.2.1 bt348.2.2.1 bt348.2.2.2.1)))) else (some false))) = some r := h
  clear h
  replace H := Option.bind_eq_some_iff.mp H
  obtain ⟨t347, A20, H⟩ := H
  replace H : (if t347 = true then ((inst_Decode.f a0).bind fun bt348 => ((seedcornref07_Decode.f a0).bind fun bt354 => (if (!(bt348.1 == bt354.1) || (!(bt348.2.1 == bt354.2.1) || (!(bt348.2.2.1 == bt354.2.2.1) || (!(bt348.2.2.2.1 == bt354.2.2.2.1))))) = true then (seedcornlaw07_InstReads.j0 k a0 bt348.2.2.2.2 true bt348.1 bt348.2.1 bt348.2.2.1 bt348.2.2.2.1) else (seedcornlaw07_InstReads.j0 k a0 bt348.2.2.2.2 (bt348.2.2.2.2 != bt354.2.2.2.2) bt348.1 bt348.2.1 bt348.2.2.1 bt348.2.2.2.1)))) else (some false)) = some r := H
  have A2 := Aside0.mk A20
  clear A20
  by_cases c3 : t347 = true
  · subst c3
    have H1 : ((inst_Decode.f a0).bind fun bt348 => ((seedcornref07_Decode.f a0).bind fun bt354 => (if (!(bt348.1 == bt354.1) || (!(bt348.2.1 == bt354.2.1) || (!(bt348.2.2.1 == bt354.2.2.1) || (!(bt348.2.2.2.1 == bt354.2.2.2.1))))) = true then (seedcornlaw07_InstReads.j0 k a0 bt348.2.2.2.2 true bt348.1 bt348.2.1 bt348.2.2.1 bt348.2.2.2.1) else (seedcornlaw07_InstReads.j0 k a0 bt348.2.2.2.2 (bt348.2.2.2.2 != bt354.2.2.2.2) bt348.1 bt348.2.1 bt348.2.2.1 bt348.2.2.2.1)))) = some r := by rw [if_pos rfl] at H; exact H
    clear H
    have H := H1
    clear H1
    replace H := Option.bind_eq_some_iff.mp H
    obtain ⟨⟨t348, t349, t350, t351, t352⟩, A40, H⟩ := H
    replace H : ((seedcornref07_Decode.f a0).bind fun bt354 => (if (!(t348 == bt354.1) || (!(t349 == bt354.2.1) || (!(t350 == bt354.2.2.1) || (!(t351 == bt354.2.2.2.1))))) = true then (seedcornlaw07_InstReads.j0 k a0 t352 true t348 t349 t350 t351) else (seedcornlaw07_InstReads.j0 k a0 t352 (t352 != bt354.2.2.2.2) t348 t349 t350 t351))) = some r := H
    have A4 := Aside0.mk A40
    clear A40
    replace H := Option.bind_eq_some_iff.mp H
    obtain ⟨⟨t354, t355, t356, t357, t358⟩, A50, H⟩ := H
    replace H : (if (!(t348 == t354) || (!(t349 == t355) || (!(t350 == t356) || (!(t351 == t357))))) = true then (seedcornlaw07_InstReads.j0 k a0 t352 true t348 t349 t350 t351) else (seedcornlaw07_InstReads.j0 k a0 t352 (t352 != t358) t348 t349 t350 t351)) = some r := H
    have A5 := Aside0.mk A50
    clear A50
    have HC6 := Aside0.mk H
    clear H
    go_enter Tryd.func11, Tryd.ntmps11
    go_upto_region 5 with (first | ((with_reducible refine gate_callee (f := 37) rfl ?_); refine goesL_ (some 9) rfl rfl Tryd.func37 (by kernel_rfl) rfl #[] rfl (by (try simp only [List.map_toArray, List.map_cons, List.map_nil]); first | done | rfl | (simp only [List.length_drop, List.length_take]; rfl)) ?_; (with_reducible refine (seedcornlaw07_alive.calls  true _ ?side1 ?side2 A2.out).mono ?_); (case side1 => exact GK.below HGK.out (by repeat (first | (with_reducible first | exact HB.out | apply below_alloc | apply pw_below_drewN | apply below_drew1) | exact HB.out))); (case side2 => exact GT.below HGT.out (by repeat (first | (with_reducible first | exact HB.out | apply below_alloc | apply pw_below_drewN | apply below_drew1) | exact HB.out))); rintro e w7 ⟨rfl, hb⟩; refine ⟨_, rfl, ?_⟩; have n0_ := Aside0.mk (below_step (by repeat (first | (with_reducible first | exact HB.out | apply below_alloc | apply pw_below_drewN | apply below_drew1) | exact HB.out)) hb); clear HB; have HB := n0_; clear n0_; (try clear hb); (try clear hb2); (try clear hk); (try clear hi)) | ((with_reducible refine gate_callee (f := 44) rfl ?_); refine goesL_ (some 13) rfl rfl Tryd.func44 (by kernel_rfl) rfl #[.int .u32 a0] rfl (by (try simp only [List.map_toArray, List.map_cons, List.map_nil]); first | done | rfl | (simp only [List.length_drop, List.length_take]; rfl)) ?_; (with_reducible refine (inst_Decode.calls a0 t348 t349 t350 t351 t352 _ ?side1 A4.out).mono ?_); (case side1 => exact GK.below HGK.out (by repeat (first | (with_reducible first | exact HB.out | apply below_alloc | apply pw_below_drewN | apply below_drew1) | exact HB.out))); rintro e w8 ⟨rfl, hb⟩; refine ⟨_, rfl, ?_⟩; have n0_ := Aside0.mk (below_step (by repeat (first | (with_reducible first | exact HB.out | apply below_alloc | apply pw_below_drewN | apply below_drew1) | exact HB.out)) hb); clear HB; have HB := n0_; clear n0_; (try clear hb); (try clear hb2); (try clear hk); (try clear hi)) | ((with_reducible refine gate_dst (N := 3) rfl ?_); refine box_event ?hg (N := 3) ?hd (cs := #[.int .i64 0, .int .i64 0, .int .i64 0, .int .i64 0]) (t := 46) ?hr ?_; (case hd => rfl); (case hg => rfl); (case hr => first | (go_simp; done) | (go_simp; rfl)); intro gb353 hg w9 hbox hb; have n0_ := Aside0.mk (below_step (by repeat (first | (with_reducible first | exact HB.out | apply below_alloc | apply pw_below_drewN | apply below_drew1) | exact HB.out)) hb); have n1_ := Aside0.mk (hbox); have n2_ := Aside0.mk ((by rw [hg]; exact (below_size (by repeat (first | (with_reducible first | exact HB.out | apply below_alloc | apply pw_below_drewN | apply below_drew1) | exact HB.out))) : w.heap.size ≤ gb353)); have n3_ := Aside0.mk ((by rw [hg]; exact (below_size (by repeat (first | (with_reducible first | exact HB.out | apply below_alloc | apply pw_below_drewN | apply below_drew1) | exact HB.out))) : w.heap.size ≤ gb353)); clear HB; have HB := n0_; have BK353 := n1_; have GW353 := n2_; have GE353 := n3_; clear n0_ n1_ n2_ n3_; clear hb hbox hg; have hcz10_0 : w9.cell? ⟨gb353, 0, none⟩ = some (.int .i64 0) := (blk_cell BK353.out 0).trans rfl; have hcz10_1 : w9.cell? ⟨gb353, 1, none⟩ = some (.int .i64 0) := (blk_cell BK353.out 1).trans rfl; have hcz10_2 : w9.cell? ⟨gb353, 2, none⟩ = some (.int .i64 0) := (blk_cell BK353.out 2).trans rfl; have hcz10_3 : w9.cell? ⟨gb353, 3, none⟩ = some (.int .i64 0) := (blk_cell BK353.out 3).trans rfl; have hfz10_0 := blk_frozen BK353.out 0; have hfz10_1 := blk_frozen BK353.out 1; have hfz10_2 := blk_frozen BK353.out 2; have hfz10_3 := blk_frozen BK353.out 3) | ((with_reducible refine gate_callee (f := 46) rfl ?_); refine goesL_ (some 18) rfl rfl Tryd.func46 (by kernel_rfl) rfl #[.int .u32 a0] rfl (by (try simp only [List.map_toArray, List.map_cons, List.map_nil]); first | done | rfl | (simp only [List.length_drop, List.length_take]; rfl)) ?_; (with_reducible refine (seedcornref07_Decode.calls a0 t354 t355 t356 t357 t358 _ A5.out).mono ?_); rintro e w11 ⟨rfl, hb⟩; refine ⟨_, rfl, ?_⟩; have n0_ := Aside0.mk (blk_below (g := gb353) (o := .cells #[.int .i64 t348, .int .i64 t349, .int .i64 t350, .int .i64 t351] 46 (0, 0)) (by (with_reducible repeat (first | refine blk_drewN ?_ _ | refine blk_drew ?_ | refine blk_alloc ?_ _)); refine blk_put (cs := #[.int .i64 t348, .int .i64 t349, .int .i64 t350, .int .i64 0]) ?_ 3 _ rfl; (with_reducible repeat (first | refine blk_drewN ?_ _ | refine blk_drew ?_ | refine blk_alloc ?_ _)); refine blk_put (cs := #[.int .i64 t348, .int .i64 t349, .int .i64 0, .int .i64 0]) ?_ 2 _ rfl; (with_reducible repeat (first | refine blk_drewN ?_ _ | refine blk_drew ?_ | refine blk_alloc ?_ _)); refine blk_put (cs := #[.int .i64 t348, .int .i64 0, .int .i64 0, .int .i64 0]) ?_ 1 _ rfl; (with_reducible repeat (first | refine blk_drewN ?_ _ | refine blk_drew ?_ | refine blk_alloc ?_ _)); refine blk_put (cs := #[.int .i64 0, .int .i64 0, .int .i64 0, .int .i64 0]) ?_ 0 _ rfl; (with_reducible repeat (first | refine blk_drewN ?_ _ | refine blk_drew ?_ | refine blk_alloc ?_ _)); exact BK353.out) hb); have n1_ := Aside0.mk (below_step (by repeat (first | (with_reducible first | exact HB.out | apply below_alloc | apply pw_below_drewN | apply below_drew1 | refine below_set ?_ GE353.out) | exact HB.out)) hb); clear BK353; clear HB; have BK353 := n0_; have HB := n1_; clear n0_ n1_; (try clear hb); (try clear hb2); (try clear hk); (try clear hi)) | ((with_reducible refine gate_dst (N := 5) rfl ?_); refine box_event ?hg (N := 5) ?hd (cs := #[.int .i64 0, .int .i64 0, .int .i64 0, .int .i64 0]) (t := 46) ?hr ?_; (case hd => rfl); (case hg => rfl); (case hr => first | (go_simp; done) | (go_simp; rfl)); intro gb359 hg w12 hbox hb; have n0_ := Aside0.mk (blk_below (g := gb353) (o := .cells #[.int .i64 t348, .int .i64 t349, .int .i64 t350, .int .i64 t351] 46 (0, 0)) (by (with_reducible repeat (first | refine blk_drewN ?_ _ | refine blk_drew ?_ | refine blk_alloc ?_ _)); exact BK353.out) hb); have n1_ := Aside0.mk (below_step (by repeat (first | (with_reducible first | exact HB.out | apply below_alloc | apply pw_below_drewN | apply below_drew1 | refine below_set ?_ GE353.out) | exact HB.out)) hb); have n2_ := Aside0.mk (hbox); have n3_ := Aside0.mk ((by rw [hg]; exact (below_size (by repeat (first | (with_reducible first | exact HB.out | apply below_alloc | apply pw_below_drewN | apply below_drew1 | refine below_set ?_ GE353.out) | exact HB.out))) : w.heap.size ≤ gb359)); have n4_ := Aside0.mk ((by rw [hg]; exact (below_size (by repeat (first | (with_reducible first | exact HB.out | apply below_alloc | apply pw_below_drewN | apply below_drew1 | refine below_set ?_ GE353.out) | exact HB.out))) : w.heap.size ≤ gb359)); have n5_ := Aside0.mk ((by rw [hg]; exact Nat.ne_of_lt (blk_lt (g := gb353) (o := .cells #[.int .i64 t348, .int .i64 t349, .int .i64 t350, .int .i64 t351] 46 (0, 0)) (by (with_reducible repeat (first | refine blk_drewN ?_ _ | refine blk_drew ?_ | refine blk_alloc ?_ _)); exact BK353.out)) : gb353 ≠ gb359)); have n6_ := Aside0.mk ((by rw [hg]; exact Nat.ne_of_gt (blk_lt (g := gb353) (o := .cells #[.int .i64 t348, .int .i64 t349, .int .i64 t350, .int .i64 t351] 46 (0, 0)) (by (with_reducible repeat (first | refine blk_drewN ?_ _ | refine blk_drew ?_ | refine blk_alloc ?_ _)); exact BK353.out)) : gb359 ≠ gb353)); clear BK353; clear HB; have BK353 := n0_; have HB := n1_; have BK359 := n2_; have GW359 := n3_; have GE359 := n4_; have NB353_359 := n5_; have NB359_353 := n6_; clear n0_ n1_ n2_ n3_ n4_ n5_ n6_; clear hb hbox hg; have hnb13 := NB359_353.out; have hnc13 := NB353_359.out; have hcz14_0 : w12.cell? ⟨gb359, 0, none⟩ = some (.int .i64 0) := (blk_cell BK359.out 0).trans rfl; have hcz14_1 : w12.cell? ⟨gb359, 1, none⟩ = some (.int .i64 0) := (blk_cell BK359.out 1).trans rfl; have hcz14_2 : w12.cell? ⟨gb359, 2, none⟩ = some (.int .i64 0) := (blk_cell BK359.out 2).trans rfl; have hcz14_3 : w12.cell? ⟨gb359, 3, none⟩ = some (.int .i64 0) := (blk_cell BK359.out 3).trans rfl; have hfz14_0 := blk_frozen BK359.out 0; have hfz14_1 := blk_frozen BK359.out 1; have hfz14_2 := blk_frozen BK359.out 2; have hfz14_3 := blk_frozen BK359.out 3))
    (try simp only [Act.put, List.setIfInBounds_toArray, List.set_cons_zero, List.set_cons_succ])
    go_cut [28] (fun v28 wc => ∃ (kq : Nat) (x28_5 : Bool), v28 = .bool x28_5 ∧ Aside0 (seedcornlaw07_InstReads.j0 kq a0 t352 x28_5 t348 t349 t350 t351 = some r) ∧ Aside0 (kq ≤ k) ∧ Aside0 (wc.heap[gb353]? = some (.cells #[.int .i64 t348, .int .i64 t349, .int .i64 t350, .int .i64 t351] 46 (0, 0))) ∧ Aside0 (wc.heap[gb359]? = some (.cells #[.int .i64 t354, .int .i64 t355, .int .i64 t356, .int .i64 t357] 46 (0, 0))) ∧ Aside0 (Below w.heap.size w wc))
    case first =>
      have H := HC6.out
      clear HC6
      by_cases c15 : (!(t348 == t354) || (!(t349 == t355) || (!(t350 == t356) || (!(t351 == t357))))) = true
      · rw [if_pos c15] at H
        have c15b0 : (!(t348 == t354) || (!(t349 == t355) || (!(t350 == t356) || (!(t351 == t357))))) = true := c15
        clear c15
        (first | rw [c15b0] | (simp only [i64_w, i32_w]; rw [c15b0]) | skip)
        have H' := Aside0.mk H
        clear H
        have hnb16 := NB353_359.out
        have hnc16 := NB359_353.out
        have hcz17_0 : w12.cell? ⟨gb353, 0, none⟩ = some (.int .i64 t348) := (blk_cell BK353.out 0).trans rfl
        have hcz17_1 : w12.cell? ⟨gb353, 1, none⟩ = some (.int .i64 t349) := (blk_cell BK353.out 1).trans rfl
        have hcz17_2 : w12.cell? ⟨gb353, 2, none⟩ = some (.int .i64 t350) := (blk_cell BK353.out 2).trans rfl
        have hcz17_3 : w12.cell? ⟨gb353, 3, none⟩ = some (.int .i64 t351) := (blk_cell BK353.out 3).trans rfl
        have hfz17_0 := blk_frozen BK353.out 0
        have hfz17_1 := blk_frozen BK353.out 1
        have hfz17_2 := blk_frozen BK353.out 2
        have hfz17_3 := blk_frozen BK353.out 3
        have hcz18_0 : w12.cell? ⟨gb359, 0, none⟩ = some (.int .i64 0) := (blk_cell BK359.out 0).trans rfl
        have hcz18_1 : w12.cell? ⟨gb359, 1, none⟩ = some (.int .i64 0) := (blk_cell BK359.out 1).trans rfl
        have hcz18_2 : w12.cell? ⟨gb359, 2, none⟩ = some (.int .i64 0) := (blk_cell BK359.out 2).trans rfl
        have hcz18_3 : w12.cell? ⟨gb359, 3, none⟩ = some (.int .i64 0) := (blk_cell BK359.out 3).trans rfl
        have hfz18_0 := blk_frozen BK359.out 0
        have hfz18_1 := blk_frozen BK359.out 1
        have hfz18_2 := blk_frozen BK359.out 2
        have hfz18_3 := blk_frozen BK359.out 3
        go_wp2
        go_meet
        case rel => exact ⟨_, (true), (by first | rfl | (simp; done) | (simp [*]; done)), H', ⟨by first | omega | exact Nat.le_refl _⟩, ⟨by (with_reducible repeat (first | refine blk_drewN ?_ _ | refine blk_drew ?_ | refine blk_alloc ?_ _)); refine blk_far ?_ NB353_359.out _; (with_reducible repeat (first | refine blk_drewN ?_ _ | refine blk_drew ?_ | refine blk_alloc ?_ _)); refine blk_far ?_ NB353_359.out _; (with_reducible repeat (first | refine blk_drewN ?_ _ | refine blk_drew ?_ | refine blk_alloc ?_ _)); refine blk_far ?_ NB353_359.out _; (with_reducible repeat (first | refine blk_drewN ?_ _ | refine blk_drew ?_ | refine blk_alloc ?_ _)); refine blk_far ?_ NB353_359.out _; (with_reducible repeat (first | refine blk_drewN ?_ _ | refine blk_drew ?_ | refine blk_alloc ?_ _)); exact BK353.out⟩, ⟨by (with_reducible repeat (first | refine blk_drewN ?_ _ | refine blk_drew ?_ | refine blk_alloc ?_ _)); refine blk_put (cs := #[.int .i64 t354, .int .i64 t355, .int .i64 t356, .int .i64 0]) ?_ 3 _ rfl; (with_reducible repeat (first | refine blk_drewN ?_ _ | refine blk_drew ?_ | refine blk_alloc ?_ _)); refine blk_put (cs := #[.int .i64 t354, .int .i64 t355, .int .i64 0, .int .i64 0]) ?_ 2 _ rfl; (with_reducible repeat (first | refine blk_drewN ?_ _ | refine blk_drew ?_ | refine blk_alloc ?_ _)); refine blk_put (cs := #[.int .i64 t354, .int .i64 0, .int .i64 0, .int .i64 0]) ?_ 1 _ rfl; (with_reducible repeat (first | refine blk_drewN ?_ _ | refine blk_drew ?_ | refine blk_alloc ?_ _)); refine blk_put (cs := #[.int .i64 0, .int .i64 0, .int .i64 0, .int .i64 0]) ?_ 0 _ rfl; (with_reducible repeat (first | refine blk_drewN ?_ _ | refine blk_drew ?_ | refine blk_alloc ?_ _)); exact BK359.out⟩, ⟨by repeat (first | (with_reducible first | exact HB.out | apply below_alloc | apply pw_below_drewN | apply below_drew1 | refine below_set ?_ GE353.out | refine below_set ?_ GE359.out) | exact HB.out)⟩⟩
      · rw [if_neg c15] at H
        have c15b0 : (!(t348 == t354) || (!(t349 == t355) || (!(t350 == t356) || (!(t351 == t357))))) = false := by simpa using c15
        clear c15
        (first | rw [c15b0] | (simp only [i64_w, i32_w]; rw [c15b0]) | skip)
        have H' := Aside0.mk H
        clear H
        have hnb19 := NB353_359.out
        have hnc19 := NB359_353.out
        have hcz20_0 : w12.cell? ⟨gb353, 0, none⟩ = some (.int .i64 t348) := (blk_cell BK353.out 0).trans rfl
        have hcz20_1 : w12.cell? ⟨gb353, 1, none⟩ = some (.int .i64 t349) := (blk_cell BK353.out 1).trans rfl
        have hcz20_2 : w12.cell? ⟨gb353, 2, none⟩ = some (.int .i64 t350) := (blk_cell BK353.out 2).trans rfl
        have hcz20_3 : w12.cell? ⟨gb353, 3, none⟩ = some (.int .i64 t351) := (blk_cell BK353.out 3).trans rfl
        have hfz20_0 := blk_frozen BK353.out 0
        have hfz20_1 := blk_frozen BK353.out 1
        have hfz20_2 := blk_frozen BK353.out 2
        have hfz20_3 := blk_frozen BK353.out 3
        have hcz21_0 : w12.cell? ⟨gb359, 0, none⟩ = some (.int .i64 0) := (blk_cell BK359.out 0).trans rfl
        have hcz21_1 : w12.cell? ⟨gb359, 1, none⟩ = some (.int .i64 0) := (blk_cell BK359.out 1).trans rfl
        have hcz21_2 : w12.cell? ⟨gb359, 2, none⟩ = some (.int .i64 0) := (blk_cell BK359.out 2).trans rfl
        have hcz21_3 : w12.cell? ⟨gb359, 3, none⟩ = some (.int .i64 0) := (blk_cell BK359.out 3).trans rfl
        have hfz21_0 := blk_frozen BK359.out 0
        have hfz21_1 := blk_frozen BK359.out 1
        have hfz21_2 := blk_frozen BK359.out 2
        have hfz21_3 := blk_frozen BK359.out 3
        go_wp2
        go_meet
        case rel => exact ⟨_, ((t352 != t358)), (by first | rfl | (simp; done) | (simp [*]; done)), H', ⟨by first | omega | exact Nat.le_refl _⟩, ⟨by (with_reducible repeat (first | refine blk_drewN ?_ _ | refine blk_drew ?_ | refine blk_alloc ?_ _)); refine blk_far ?_ NB353_359.out _; (with_reducible repeat (first | refine blk_drewN ?_ _ | refine blk_drew ?_ | refine blk_alloc ?_ _)); refine blk_far ?_ NB353_359.out _; (with_reducible repeat (first | refine blk_drewN ?_ _ | refine blk_drew ?_ | refine blk_alloc ?_ _)); refine blk_far ?_ NB353_359.out _; (with_reducible repeat (first | refine blk_drewN ?_ _ | refine blk_drew ?_ | refine blk_alloc ?_ _)); refine blk_far ?_ NB353_359.out _; (with_reducible repeat (first | refine blk_drewN ?_ _ | refine blk_drew ?_ | refine blk_alloc ?_ _)); exact BK353.out⟩, ⟨by (with_reducible repeat (first | refine blk_drewN ?_ _ | refine blk_drew ?_ | refine blk_alloc ?_ _)); refine blk_put (cs := #[.int .i64 t354, .int .i64 t355, .int .i64 t356, .int .i64 0]) ?_ 3 _ rfl; (with_reducible repeat (first | refine blk_drewN ?_ _ | refine blk_drew ?_ | refine blk_alloc ?_ _)); refine blk_put (cs := #[.int .i64 t354, .int .i64 t355, .int .i64 0, .int .i64 0]) ?_ 2 _ rfl; (with_reducible repeat (first | refine blk_drewN ?_ _ | refine blk_drew ?_ | refine blk_alloc ?_ _)); refine blk_put (cs := #[.int .i64 t354, .int .i64 0, .int .i64 0, .int .i64 0]) ?_ 1 _ rfl; (with_reducible repeat (first | refine blk_drewN ?_ _ | refine blk_drew ?_ | refine blk_alloc ?_ _)); refine blk_put (cs := #[.int .i64 0, .int .i64 0, .int .i64 0, .int .i64 0]) ?_ 0 _ rfl; (with_reducible repeat (first | refine blk_drewN ?_ _ | refine blk_drew ?_ | refine blk_alloc ?_ _)); exact BK359.out⟩, ⟨by repeat (first | (with_reducible first | exact HB.out | apply below_alloc | apply pw_below_drewN | apply below_drew1 | refine below_set ?_ GE353.out | refine below_set ?_ GE359.out) | exact HB.out)⟩⟩
    case rest =>
      clear HC6
      try clear c1
      try clear p2
      try clear c3
      try clear c4
      try clear c11
      try clear c13
      try clear c15
      try clear c15b0
      try clear c16
      try clear c19
      try clear hcz10_0
      try clear hcz10_1
      try clear hcz10_2
      try clear hcz10_3
      try clear hcz14_0
      try clear hcz14_1
      try clear hcz14_2
      try clear hcz14_3
      try clear hcz17_0
      try clear hcz17_1
      try clear hcz17_2
      try clear hcz17_3
      try clear hcz18_0
      try clear hcz18_1
      try clear hcz18_2
      try clear hcz18_3
      try clear hcz20_0
      try clear hcz20_1
      try clear hcz20_2
      try clear hcz20_3
      try clear hcz21_0
      try clear hcz21_1
      try clear hcz21_2
      try clear hcz21_3
      try clear hfz10_0
      try clear hfz10_1
      try clear hfz10_2
      try clear hfz10_3
      try clear hfz14_0
      try clear hfz14_1
      try clear hfz14_2
      try clear hfz14_3
      try clear hfz17_0
      try clear hfz17_1
      try clear hfz17_2
      try clear hfz17_3
      try clear hfz18_0
      try clear hfz18_1
      try clear hfz18_2
      try clear hfz18_3
      try clear hfz20_0
      try clear hfz20_1
      try clear hfz20_2
      try clear hfz20_3
      try clear hfz21_0
      try clear hfz21_1
      try clear hfz21_2
      try clear hfz21_3
      obtain ⟨kq, x28_5, rfl, HA, HJ5, BK353, BK359, HB⟩ := hcut
      cases kq with
      | zero => exact absurd HA.out (by simp [seedcornlaw07_InstReads.j0])
      | succ kj5 =>
        have H := HA.out
        clear HA
        simp only [seedcornlaw07_InstReads.j0] at H
        by_cases c22 : x28_5 = true
        · subst c22
          have H1 : (some false) = some r := by rw [if_pos rfl] at H; exact H
          clear H
          have H := H1
          clear H1
          obtain rfl := Option.some.inj H
          go_wp2
          go_ret
          exact ⟨by first | rfl | (simp [errW_none, errW_some] <;> rfl) | (simp [*, errW_none, errW_some] <;> rfl), by repeat (first | (with_reducible first | exact HB.out | apply below_alloc | apply pw_below_drewN | apply below_drew1 | refine below_set ?_ GE353.out | refine below_set ?_ GE359.out) | exact HB.out)⟩
        · replace c22 := Bool.eq_false_iff.mpr c22
          subst c22
          have H1 : ((inst_Encode.f t348 t349 t350 t351).bind fun bt360 => (if t352 = 0 then (if bt360.2 = 0 then (if bt360.1 = a0 then ((inst_Right.f t348 t349 t350 t351).bind fun t362 => (some t362)) else (some false)) else (some false)) else (some true))) = some r := by rw [if_neg (show ¬ (false = true) by decide)] at H; exact H
          clear H
          have H := H1
          clear H1
          replace H := Option.bind_eq_some_iff.mp H
          obtain ⟨⟨t360, t361⟩, A230, H⟩ := H
          replace H : (if t352 = 0 then (if t361 = 0 then (if t360 = a0 then ((inst_Right.f t348 t349 t350 t351).bind fun t362 => (some t362)) else (some false)) else (some false)) else (some true)) = some r := H
          have A23 := Aside0.mk A230
          clear A230
          by_cases c24 : t352 = 0
          · rw [if_pos c24] at H
            have c24b0 : (t352 == 0) = true := beq_iff_eq.mpr c24
            have c24b1 : (t352 != 0) = false := bne_eq_false_iff_eq.mpr c24
            clear c24
            by_cases c25 : t361 = 0
            · rw [if_pos c25] at H
              have c25b0 : (t361 == 0) = true := beq_iff_eq.mpr c25
              have c25b1 : (t361 != 0) = false := bne_eq_false_iff_eq.mpr c25
              clear c25
              by_cases c26 : t360 = a0
              · rw [if_pos c26] at H
                have c26b0 : (t360 == a0) = true := beq_iff_eq.mpr c26
                have c26b1 : (t360 != a0) = false := bne_eq_false_iff_eq.mpr c26
                clear c26
                replace H := Option.bind_eq_some_iff.mp H
                obtain ⟨t362, A270, H⟩ := H
                replace H : (some t362) = some r := H
                have A27 := Aside0.mk A270
                clear A270
                obtain rfl := Option.some.inj H
                have hnb28 := NB353_359.out
                have hnc28 := NB359_353.out
                have hcz29_0 : wc.cell? ⟨gb353, 0, none⟩ = some (.int .i64 t348) := (blk_cell BK353.out 0).trans rfl
                have hcz29_1 : wc.cell? ⟨gb353, 1, none⟩ = some (.int .i64 t349) := (blk_cell BK353.out 1).trans rfl
                have hcz29_2 : wc.cell? ⟨gb353, 2, none⟩ = some (.int .i64 t350) := (blk_cell BK353.out 2).trans rfl
                have hcz29_3 : wc.cell? ⟨gb353, 3, none⟩ = some (.int .i64 t351) := (blk_cell BK353.out 3).trans rfl
                have hfz29_0 := blk_frozen BK353.out 0
                have hfz29_1 := blk_frozen BK353.out 1
                have hfz29_2 := blk_frozen BK353.out 2
                have hfz29_3 := blk_frozen BK353.out 3
                go_wp2_with (first | ((with_reducible refine gate_callee (f := 38) rfl ?_); refine goesL_ (some 31) rfl rfl Tryd.func38 (by kernel_rfl) rfl #[.agg #[.int .i64 t348, .int .i64 t349, .int .i64 t350, .int .i64 t351]] rfl (by (try simp only [List.map_toArray, List.map_cons, List.map_nil]); first | done | rfl | (simp only [List.length_drop, List.length_take]; rfl)) ?_; (with_reducible refine (inst_Encode.calls t348 t349 t350 t351 t360 t361 _ ?side1 A23.out).mono ?_); (case side1 => exact GK.below HGK.out (by repeat (first | (with_reducible first | exact HB.out | apply below_alloc | apply pw_below_drewN | apply below_drew1 | refine below_set ?_ GE353.out | refine below_set ?_ GE359.out) | exact HB.out))); rintro e w30 ⟨rfl, hb⟩; refine ⟨_, rfl, ?_⟩; have n0_ := Aside0.mk (blk_below (g := gb353) (o := .cells #[.int .i64 t348, .int .i64 t349, .int .i64 t350, .int .i64 t351] 46 (0, 0)) (by (with_reducible repeat (first | refine blk_drewN ?_ _ | refine blk_drew ?_ | refine blk_alloc ?_ _)); exact BK353.out) hb); have n1_ := Aside0.mk (blk_below (g := gb359) (o := .cells #[.int .i64 t354, .int .i64 t355, .int .i64 t356, .int .i64 t357] 46 (0, 0)) (by (with_reducible repeat (first | refine blk_drewN ?_ _ | refine blk_drew ?_ | refine blk_alloc ?_ _)); exact BK359.out) hb); have n2_ := Aside0.mk (below_step (by repeat (first | (with_reducible first | exact HB.out | apply below_alloc | apply pw_below_drewN | apply below_drew1 | refine below_set ?_ GE353.out | refine below_set ?_ GE359.out) | exact HB.out)) hb); clear BK353; clear BK359; clear HB; have BK353 := n0_; have BK359 := n1_; have HB := n2_; clear n0_ n1_ n2_; (try clear hb); (try clear hb2); (try clear hk); (try clear hi); have hcz31_0 : w30.cell? ⟨gb353, 0, none⟩ = some (.int .i64 t348) := (blk_cell BK353.out 0).trans rfl; have hcz31_1 : w30.cell? ⟨gb353, 1, none⟩ = some (.int .i64 t349) := (blk_cell BK353.out 1).trans rfl; have hcz31_2 : w30.cell? ⟨gb353, 2, none⟩ = some (.int .i64 t350) := (blk_cell BK353.out 2).trans rfl; have hcz31_3 : w30.cell? ⟨gb353, 3, none⟩ = some (.int .i64 t351) := (blk_cell BK353.out 3).trans rfl; have hfz31_0 := blk_frozen BK353.out 0; have hfz31_1 := blk_frozen BK353.out 1; have hfz31_2 := blk_frozen BK353.out 2; have hfz31_3 := blk_frozen BK353.out 3) | (go_at_call 40; (with_reducible refine (inst_Right.calls t348 t349 t350 t351 t362 _ ?side1 A27.out).mono ?_); (case side1 => exact GK.below HGK.out (by repeat (first | (with_reducible first | exact HB.out | apply below_alloc | apply pw_below_drewN | apply below_drew1 | refine below_set ?_ GE353.out | refine below_set ?_ GE359.out) | exact HB.out))); rintro e w32 ⟨rfl, hb⟩; have n0_ := Aside0.mk (blk_below (g := gb353) (o := .cells #[.int .i64 t348, .int .i64 t349, .int .i64 t350, .int .i64 t351] 46 (0, 0)) (by (with_reducible repeat (first | refine blk_drewN ?_ _ | refine blk_drew ?_ | refine blk_alloc ?_ _)); exact BK353.out) hb); have n1_ := Aside0.mk (blk_below (g := gb359) (o := .cells #[.int .i64 t354, .int .i64 t355, .int .i64 t356, .int .i64 t357] 46 (0, 0)) (by (with_reducible repeat (first | refine blk_drewN ?_ _ | refine blk_drew ?_ | refine blk_alloc ?_ _)); exact BK359.out) hb); have n2_ := Aside0.mk (below_step (by repeat (first | (with_reducible first | exact HB.out | apply below_alloc | apply pw_below_drewN | apply below_drew1 | refine below_set ?_ GE353.out | refine below_set ?_ GE359.out) | exact HB.out)) hb); clear BK353; clear BK359; clear HB; have BK353 := n0_; have BK359 := n1_; have HB := n2_; clear n0_ n1_ n2_; (try clear hb); (try clear hb2); (try clear hk); (try clear hi)))
                go_ret
                exact ⟨by first | rfl | (simp [errW_none, errW_some] <;> rfl) | (simp [*, errW_none, errW_some] <;> rfl), by repeat (first | (with_reducible first | exact HB.out | apply below_alloc | apply pw_below_drewN | apply below_drew1 | refine below_set ?_ GE353.out | refine below_set ?_ GE359.out) | exact HB.out)⟩
              · rw [if_neg c26] at H
                have c26b0 : (t360 == a0) = false := beq_eq_false_iff_ne.mpr c26
                have c26b1 : (t360 != a0) = true := bne_iff_ne.mpr c26
                obtain rfl := Option.some.inj H
                have hnb33 := NB353_359.out
                have hnc33 := NB359_353.out
                have hcz34_0 : wc.cell? ⟨gb353, 0, none⟩ = some (.int .i64 t348) := (blk_cell BK353.out 0).trans rfl
                have hcz34_1 : wc.cell? ⟨gb353, 1, none⟩ = some (.int .i64 t349) := (blk_cell BK353.out 1).trans rfl
                have hcz34_2 : wc.cell? ⟨gb353, 2, none⟩ = some (.int .i64 t350) := (blk_cell BK353.out 2).trans rfl
                have hcz34_3 : wc.cell? ⟨gb353, 3, none⟩ = some (.int .i64 t351) := (blk_cell BK353.out 3).trans rfl
                have hfz34_0 := blk_frozen BK353.out 0
                have hfz34_1 := blk_frozen BK353.out 1
                have hfz34_2 := blk_frozen BK353.out 2
                have hfz34_3 := blk_frozen BK353.out 3
                go_wp2_with (first | ((with_reducible refine gate_callee (f := 38) rfl ?_); refine goesL_ (some 31) rfl rfl Tryd.func38 (by kernel_rfl) rfl #[.agg #[.int .i64 t348, .int .i64 t349, .int .i64 t350, .int .i64 t351]] rfl (by (try simp only [List.map_toArray, List.map_cons, List.map_nil]); first | done | rfl | (simp only [List.length_drop, List.length_take]; rfl)) ?_; (with_reducible refine (inst_Encode.calls t348 t349 t350 t351 t360 t361 _ ?side1 A23.out).mono ?_); (case side1 => exact GK.below HGK.out (by repeat (first | (with_reducible first | exact HB.out | apply below_alloc | apply pw_below_drewN | apply below_drew1 | refine below_set ?_ GE353.out | refine below_set ?_ GE359.out) | exact HB.out))); rintro e w35 ⟨rfl, hb⟩; refine ⟨_, rfl, ?_⟩; have n0_ := Aside0.mk (blk_below (g := gb353) (o := .cells #[.int .i64 t348, .int .i64 t349, .int .i64 t350, .int .i64 t351] 46 (0, 0)) (by (with_reducible repeat (first | refine blk_drewN ?_ _ | refine blk_drew ?_ | refine blk_alloc ?_ _)); exact BK353.out) hb); have n1_ := Aside0.mk (blk_below (g := gb359) (o := .cells #[.int .i64 t354, .int .i64 t355, .int .i64 t356, .int .i64 t357] 46 (0, 0)) (by (with_reducible repeat (first | refine blk_drewN ?_ _ | refine blk_drew ?_ | refine blk_alloc ?_ _)); exact BK359.out) hb); have n2_ := Aside0.mk (below_step (by repeat (first | (with_reducible first | exact HB.out | apply below_alloc | apply pw_below_drewN | apply below_drew1 | refine below_set ?_ GE353.out | refine below_set ?_ GE359.out) | exact HB.out)) hb); clear BK353; clear BK359; clear HB; have BK353 := n0_; have BK359 := n1_; have HB := n2_; clear n0_ n1_ n2_; (try clear hb); (try clear hb2); (try clear hk); (try clear hi)))
                go_ret
                exact ⟨by first | rfl | (simp [errW_none, errW_some] <;> rfl) | (simp [*, errW_none, errW_some] <;> rfl), by repeat (first | (with_reducible first | exact HB.out | apply below_alloc | apply pw_below_drewN | apply below_drew1 | refine below_set ?_ GE353.out | refine below_set ?_ GE359.out) | exact HB.out)⟩
            · rw [if_neg c25] at H
              have c25b0 : (t361 == 0) = false := beq_eq_false_iff_ne.mpr c25
              have c25b1 : (t361 != 0) = true := bne_iff_ne.mpr c25
              obtain rfl := Option.some.inj H
              have hnb36 := NB353_359.out
              have hnc36 := NB359_353.out
              have hcz37_0 : wc.cell? ⟨gb353, 0, none⟩ = some (.int .i64 t348) := (blk_cell BK353.out 0).trans rfl
              have hcz37_1 : wc.cell? ⟨gb353, 1, none⟩ = some (.int .i64 t349) := (blk_cell BK353.out 1).trans rfl
              have hcz37_2 : wc.cell? ⟨gb353, 2, none⟩ = some (.int .i64 t350) := (blk_cell BK353.out 2).trans rfl
              have hcz37_3 : wc.cell? ⟨gb353, 3, none⟩ = some (.int .i64 t351) := (blk_cell BK353.out 3).trans rfl
              have hfz37_0 := blk_frozen BK353.out 0
              have hfz37_1 := blk_frozen BK353.out 1
              have hfz37_2 := blk_frozen BK353.out 2
              have hfz37_3 := blk_frozen BK353.out 3
              go_wp2_with (first | ((with_reducible refine gate_callee (f := 38) rfl ?_); refine goesL_ (some 31) rfl rfl Tryd.func38 (by kernel_rfl) rfl #[.agg #[.int .i64 t348, .int .i64 t349, .int .i64 t350, .int .i64 t351]] rfl (by (try simp only [List.map_toArray, List.map_cons, List.map_nil]); first | done | rfl | (simp only [List.length_drop, List.length_take]; rfl)) ?_; (with_reducible refine (inst_Encode.calls t348 t349 t350 t351 t360 t361 _ ?side1 A23.out).mono ?_); (case side1 => exact GK.below HGK.out (by repeat (first | (with_reducible first | exact HB.out | apply below_alloc | apply pw_below_drewN | apply below_drew1 | refine below_set ?_ GE353.out | refine below_set ?_ GE359.out) | exact HB.out))); rintro e w38 ⟨rfl, hb⟩; refine ⟨_, rfl, ?_⟩; have n0_ := Aside0.mk (blk_below (g := gb353) (o := .cells #[.int .i64 t348, .int .i64 t349, .int .i64 t350, .int .i64 t351] 46 (0, 0)) (by (with_reducible repeat (first | refine blk_drewN ?_ _ | refine blk_drew ?_ | refine blk_alloc ?_ _)); exact BK353.out) hb); have n1_ := Aside0.mk (blk_below (g := gb359) (o := .cells #[.int .i64 t354, .int .i64 t355, .int .i64 t356, .int .i64 t357] 46 (0, 0)) (by (with_reducible repeat (first | refine blk_drewN ?_ _ | refine blk_drew ?_ | refine blk_alloc ?_ _)); exact BK359.out) hb); have n2_ := Aside0.mk (below_step (by repeat (first | (with_reducible first | exact HB.out | apply below_alloc | apply pw_below_drewN | apply below_drew1 | refine below_set ?_ GE353.out | refine below_set ?_ GE359.out) | exact HB.out)) hb); clear BK353; clear BK359; clear HB; have BK353 := n0_; have BK359 := n1_; have HB := n2_; clear n0_ n1_ n2_; (try clear hb); (try clear hb2); (try clear hk); (try clear hi)))
              go_ret
              exact ⟨by first | rfl | (simp [errW_none, errW_some] <;> rfl) | (simp [*, errW_none, errW_some] <;> rfl), by repeat (first | (with_reducible first | exact HB.out | apply below_alloc | apply pw_below_drewN | apply below_drew1 | refine below_set ?_ GE353.out | refine below_set ?_ GE359.out) | exact HB.out)⟩
          · rw [if_neg c24] at H
            have c24b0 : (t352 == 0) = false := beq_eq_false_iff_ne.mpr c24
            have c24b1 : (t352 != 0) = true := bne_iff_ne.mpr c24
            obtain rfl := Option.some.inj H
            have hnb39 := NB353_359.out
            have hnc39 := NB359_353.out
            have hcz40_0 : wc.cell? ⟨gb353, 0, none⟩ = some (.int .i64 t348) := (blk_cell BK353.out 0).trans rfl
            have hcz40_1 : wc.cell? ⟨gb353, 1, none⟩ = some (.int .i64 t349) := (blk_cell BK353.out 1).trans rfl
            have hcz40_2 : wc.cell? ⟨gb353, 2, none⟩ = some (.int .i64 t350) := (blk_cell BK353.out 2).trans rfl
            have hcz40_3 : wc.cell? ⟨gb353, 3, none⟩ = some (.int .i64 t351) := (blk_cell BK353.out 3).trans rfl
            have hfz40_0 := blk_frozen BK353.out 0
            have hfz40_1 := blk_frozen BK353.out 1
            have hfz40_2 := blk_frozen BK353.out 2
            have hfz40_3 := blk_frozen BK353.out 3
            go_wp2_with (first | ((with_reducible refine gate_callee (f := 38) rfl ?_); refine goesL_ (some 31) rfl rfl Tryd.func38 (by kernel_rfl) rfl #[.agg #[.int .i64 t348, .int .i64 t349, .int .i64 t350, .int .i64 t351]] rfl (by (try simp only [List.map_toArray, List.map_cons, List.map_nil]); first | done | rfl | (simp only [List.length_drop, List.length_take]; rfl)) ?_; (with_reducible refine (inst_Encode.calls t348 t349 t350 t351 t360 t361 _ ?side1 A23.out).mono ?_); (case side1 => exact GK.below HGK.out (by repeat (first | (with_reducible first | exact HB.out | apply below_alloc | apply pw_below_drewN | apply below_drew1 | refine below_set ?_ GE353.out | refine below_set ?_ GE359.out) | exact HB.out))); rintro e w41 ⟨rfl, hb⟩; refine ⟨_, rfl, ?_⟩; have n0_ := Aside0.mk (blk_below (g := gb353) (o := .cells #[.int .i64 t348, .int .i64 t349, .int .i64 t350, .int .i64 t351] 46 (0, 0)) (by (with_reducible repeat (first | refine blk_drewN ?_ _ | refine blk_drew ?_ | refine blk_alloc ?_ _)); exact BK353.out) hb); have n1_ := Aside0.mk (blk_below (g := gb359) (o := .cells #[.int .i64 t354, .int .i64 t355, .int .i64 t356, .int .i64 t357] 46 (0, 0)) (by (with_reducible repeat (first | refine blk_drewN ?_ _ | refine blk_drew ?_ | refine blk_alloc ?_ _)); exact BK359.out) hb); have n2_ := Aside0.mk (below_step (by repeat (first | (with_reducible first | exact HB.out | apply below_alloc | apply pw_below_drewN | apply below_drew1 | refine below_set ?_ GE353.out | refine below_set ?_ GE359.out) | exact HB.out)) hb); clear BK353; clear BK359; clear HB; have BK353 := n0_; have BK359 := n1_; have HB := n2_; clear n0_ n1_ n2_; (try clear hb); (try clear hb2); (try clear hk); (try clear hi)))
            go_ret
            exact ⟨by first | rfl | (simp [errW_none, errW_some] <;> rfl) | (simp [*, errW_none, errW_some] <;> rfl), by repeat (first | (with_reducible first | exact HB.out | apply below_alloc | apply pw_below_drewN | apply below_drew1 | refine below_set ?_ GE353.out | refine below_set ?_ GE359.out) | exact HB.out)⟩
  · replace c3 := Bool.eq_false_iff.mpr c3
    subst c3
    have H1 : (some false) = some r := by rw [if_neg (show ¬ (false = true) by decide)] at H; exact H
    clear H
    have H := H1
    clear H1
    obtain rfl := Option.some.inj H
    go_enter Tryd.func11, Tryd.ntmps11
    go_wp2_with (first | ((with_reducible refine gate_callee (f := 37) rfl ?_); refine goesL_ (some 9) rfl rfl Tryd.func37 (by kernel_rfl) rfl #[] rfl (by (try simp only [List.map_toArray, List.map_cons, List.map_nil]); first | done | rfl | (simp only [List.length_drop, List.length_take]; rfl)) ?_; (with_reducible refine (seedcornlaw07_alive.calls  false _ ?side1 ?side2 A2.out).mono ?_); (case side1 => exact GK.below HGK.out (by repeat (first | (with_reducible first | exact HB.out | apply below_alloc | apply pw_below_drewN | apply below_drew1) | exact HB.out))); (case side2 => exact GT.below HGT.out (by repeat (first | (with_reducible first | exact HB.out | apply below_alloc | apply pw_below_drewN | apply below_drew1) | exact HB.out))); rintro e w42 ⟨rfl, hb⟩; refine ⟨_, rfl, ?_⟩; have n0_ := Aside0.mk (below_step (by repeat (first | (with_reducible first | exact HB.out | apply below_alloc | apply pw_below_drewN | apply below_drew1) | exact HB.out)) hb); clear HB; have HB := n0_; clear n0_; (try clear hb); (try clear hb2); (try clear hk); (try clear hi)))
    go_ret
    exact ⟨by first | rfl | (simp [errW_none, errW_some] <;> rfl) | (simp [*, errW_none, errW_some] <;> rfl), by repeat (first | (with_reducible first | exact HB.out | apply below_alloc | apply pw_below_drewN | apply below_drew1) | exact HB.out)⟩
end Go.Proofs.YtdhkmdgieflioaaDoor.F
namespace Go.Proofs.YtdhkmdgieflioaaDoor.F
open Go.RowKit Go.Proofs.YtdhkmdgieflioaaDoorW.PrintWords Go.Proofs.YtdhkmdgieflioaaDoorW.PrintLast Go.Proofs.YtdhkmdgieflioaaDoorW.PrintMore
set_option linter.unusedVariables false
set_option linter.unusedSimpArgs false
def wB (h : Bool) (x m : Int) : Bool := if h = true then (if x ≥ 0 then decide (x ≤ m) else false) else x == 0
theorem within_f (h : Bool) (x m : Int) : seedcornref07_within.f h x m = some (wB h x m) := by
  unfold seedcornref07_within.f wB
  split
  · split <;> rfl
  · rfl
theorem hasB_w (p : ByteArray) (c n m : Int) (h : Bool) (hh : decide (Lib.indexByte p.data.toList c.toNat.toUInt8 < 0) = !h) : hasB p c n m = wB h n m := by
  unfold hasB wB
  cases h with
  | true =>
    rw [if_neg (of_decide_eq_false hh), if_pos rfl]
  | false =>
    rw [if_pos (of_decide_eq_true hh), if_neg (by decide)]
theorem ref_right (op a b c : Int) (p : ByteArray) (hr ha hb hc : Bool) (hop : ¬ (op < 1 ∨ 28 ≤ op)) (hP : seedcornref07_Parts.f 40 op = some p) (g114 : seedcornref07_has.f 40 p 114 = some hr)
    (g97 : seedcornref07_has.f 40 p 97 = some ha) (g98 : seedcornref07_has.f 40 p 98 = some hb) (g99 : seedcornref07_has.f 40 p 99 = some hc) (hq : (p.data.toList == [63]) = false)
    (k97 : decide (Lib.indexByte (partsOf op).data.toList (97 : Int).toNat.toUInt8 < 0) = !ha) (k98 : decide (Lib.indexByte (partsOf op).data.toList (98 : Int).toNat.toUInt8 < 0) = !hb) (k99 : decide (Lib.indexByte (partsOf op).data.toList (99 : Int).toNat.toUInt8 < 0) = !hc) (ke : endsR (partsOf op) = hr) :
    seedcornref07_Right.f op a b c = some (rightB op a b c) := by
  unfold seedcornref07_Right.f rightB
  rw [if_neg hop, hP, hasB_w _ 97 a 15 ha k97, hasB_w _ 98 b 15 hb k98, hasB_w _ 99 c 65535 hc k99, ke]
  simp only [Option.bind_some, g114, g97, g98, g99, within_f, ByteArray.toList_eq, hq]
  cases hr <;> cases wB ha a 15 <;> cases wB hb b 15 <;> simp [wB]
def refOk (n : Nat) : Bool :=
  match seedcornref07_Parts.f 40 (n : Int) with
  | none => false
  | some p => match seedcornref07_has.f 40 p 114, seedcornref07_has.f 40 p 97, seedcornref07_has.f 40 p 98, seedcornref07_has.f 40 p 99 with
    | some hr, some ha, some hb, some hc => !(p.data.toList == [63]) && (decide (Lib.indexByte (partsOf n).data.toList (97 : Int).toNat.toUInt8 < 0) == !ha) && (decide (Lib.indexByte (partsOf n).data.toList (98 : Int).toNat.toUInt8 < 0) == !hb) && (decide (Lib.indexByte (partsOf n).data.toList (99 : Int).toNat.toUInt8 < 0) == !hc) && (endsR (partsOf n) == hr)
    | _, _, _, _ => false
theorem refOk_all : ((List.range 28).all fun n => decide (n = 0) || refOk n) = true := by kernel_rfl
theorem refOk_at (n : Nat) (h : refOk n = true) (hop : ¬ ((n : Int) < 1 ∨ 28 ≤ (n : Int))) (a b c : Int) : seedcornref07_Right.f n a b c = some (rightB n a b c) := by
  unfold refOk at h
  split at h
  · cases h
  · rename_i p hP
    split at h
    · rename_i hr ha hb hc g1 g2 g3 g4
      simp only [Bool.and_eq_true, Bool.not_eq_true', beq_iff_eq] at h
      obtain ⟨⟨⟨⟨h1, h2⟩, h3⟩, h4⟩, h5⟩ := h
      exact ref_right n a b c p hr ha hb hc hop hP g1 g2 g3 g4 h1 h2 h3 h4 h5
    · cases h
theorem parts_out (op : Int) (h : op < 1 ∨ 28 ≤ op) : seedcornref07_Parts.f 40 op = some ⟨#[63]⟩ := by
  have e (n : Int) (h1 : 1 ≤ n) (h2 : n < 28) : ¬ op = n := by omega
  simp [seedcornref07_Parts.f, seedcornref07_Parts.j0, seedcornref07_Parts.j1, seedcornref07_Parts.j2, e]
  omega
theorem refRight_f (op a b c : Int) : seedcornref07_Right.f op a b c = some (rightB op a b c) := by
  by_cases h : op < 1 ∨ 28 ≤ op
  · unfold seedcornref07_Right.f rightB
    rw [if_pos h, parts_out op h]
    have g1 : seedcornref07_has.f 40 ⟨#[63]⟩ 114 = some false := by kernel_rfl
    have g2 : seedcornref07_has.f 40 ⟨#[63]⟩ 97 = some false := by kernel_rfl
    have g3 : seedcornref07_has.f 40 ⟨#[63]⟩ 98 = some false := by kernel_rfl
    have g4 : seedcornref07_has.f 40 ⟨#[63]⟩ 99 = some false := by kernel_rfl
    simp only [Option.bind_some, g1, g2, g3, g4, within_f, ByteArray.toList_eq]
    simp
  · obtain ⟨n, rfl⟩ : ∃ n : Nat, op = n := ⟨op.toNat, by omega⟩
    have h1 := List.all_eq_true.1 refOk_all n (List.mem_range.2 (by omega))
    rw [decide_eq_false (show ¬ n = 0 by omega), Bool.false_or] at h1
    exact refOk_at n h1 h a b c
theorem dec_parts (v : Int) (h0 : 0 ≤ v) (h1 : v < 4294967296) : wrap64 (v / 16777216) = v / 16777216 ∧ wrap64 (Go.bits .and .u32 (v / 1048576) 15) = v / 1048576 % 16 ∧ wrap64 (Go.bits .and .u32 (v / 65536) 15) = v / 65536 % 16 ∧ wrap64 (Go.bits .and .u32 v 65535) = v % 65536 := by
  have wr : ∀ n : Int, 0 ≤ n → n < 2 ^ 32 → IntKind.u32.wrap n = n := by intro n g0 g1; rw [IntKind.wrap_u32]; omega
  have m1 := bits_mask .u32 32 (by decide) wr 4 (by decide) (v / 1048576) (by omega) (by omega)
  have m2 := bits_mask .u32 32 (by decide) wr 4 (by decide) (v / 65536) (by omega) (by omega)
  have m3 := bits_mask .u32 32 (by decide) wr 16 (by decide) v (by omega) (by omega)
  have e1 : (2 ^ 4 - 1 : Int) = 15 := by decide
  have e2 : (2 ^ 16 - 1 : Int) = 65535 := by decide
  have e3 : (2 ^ 4 : Int) = 16 := by decide
  have e4 : (2 ^ 16 : Int) = 65536 := by decide
  rw [e1, e3] at m1 m2
  rw [e2, e4] at m3
  rw [m1, m2, m3]
  refine ⟨wrapI (by omega) (by omega), wrapI (by omega) (by omega), wrapI (by omega) (by omega), wrapI (by omega) (by omega)⟩
theorem enc_join (op a b c : Int) (h1 : 0 ≤ op) (h2 : op < 256) (ha0 : 0 ≤ a) (ha : a < 16) (hb0 : 0 ≤ b) (hb : b < 16) (hc0 : 0 ≤ c) (hc : c < 65536) :
    Go.bits .or .u32 (Go.bits .or .u32 (Go.bits .or .u32 ((((op) % 4294967296) * 16777216) % 4294967296) ((((a) % 4294967296) * 1048576) % 4294967296)) ((((b) % 4294967296) * 65536) % 4294967296)) ((c) % 4294967296) = op * 16777216 + a * 1048576 + b * 65536 + c := by
  have wr : ∀ n : Int, 0 ≤ n → n < 2 ^ 32 → IntKind.u32.wrap n = n := by intro n g0 g1; rw [IntKind.wrap_u32]; omega
  have e1 : (((op) % 4294967296) * 16777216) % 4294967296 = op * 16777216 := by omega
  have e2 : (((a) % 4294967296) * 1048576) % 4294967296 = a * 1048576 := by omega
  have e3 : (((b) % 4294967296) * 65536) % 4294967296 = b * 65536 := by omega
  have e4 : (c) % 4294967296 = c := by omega
  have p1 : (2 ^ 24 : Int) = 16777216 := by decide
  have p2 : (2 ^ 20 : Int) = 1048576 := by decide
  have p3 : (2 ^ 16 : Int) = 65536 := by decide
  rw [e1, e2, e3, e4, bits_join .u32 32 (by decide) wr 24 (op * 16777216) (a * 1048576) (by omega) (by omega) (by omega) (by omega) (by omega) (by omega),
    bits_join .u32 32 (by decide) wr 20 (op * 16777216 + a * 1048576) (b * 65536) (by omega) (by omega) (by omega) (by omega) (by omega) (by omega),
    bits_join .u32 32 (by decide) wr 16 (op * 16777216 + a * 1048576 + b * 65536) c (by omega) (by omega) (by omega) (by omega) (by omega) (by omega)]
theorem enc_f (op a b c : Int) : inst_Encode.f op a b c = some (if rightB op a b c = true then (Go.bits .or .u32 (Go.bits .or .u32 (Go.bits .or .u32 ((((op) % 4294967296) * 16777216) % 4294967296) ((((a) % 4294967296) * 1048576) % 4294967296)) ((((b) % 4294967296) * 65536) % 4294967296)) ((c) % 4294967296), 0) else (0, 1)) := by
  unfold inst_Encode.f inst_Right.f
  simp only [Option.bind_some]
  split <;> rfl
theorem reads_core (v op a b c : Int) (h0 : 0 ≤ v) (h1 : v < 4294967296) (d1 : wrap64 (v / 16777216) = op) (d2 : wrap64 (Go.bits .and .u32 (v / 1048576) 15) = a) (d3 : wrap64 (Go.bits .and .u32 (v / 65536) 15) = b) (d4 : wrap64 (Go.bits .and .u32 v 65535) = c)
    (q1 : v / 16777216 = op) (q2 : v / 1048576 % 16 = a) (q3 : v / 65536 % 16 = b) (q4 : v % 65536 = c)
    (hen : inst_Encode.f op a b c = some (if rightB op a b c = true then (v, 0) else (0, 1))) : seedcornlaw07_InstReads.f 1 v = some true := by
  have hd : inst_Decode.f v = some (if rightB op a b c = true then (op, a, b, c, 0) else (0, 0, 0, 0, 7)) := by
    unfold inst_Decode.f inst_Right.f
    rw [d1, d2, d3, d4]
    simp only [Option.bind_some]
    split <;> rfl
  have hd2 : seedcornref07_Decode.f v = some (if rightB op a b c = true then (op, a, b, c, 0) else (0, 0, 0, 0, 7)) := by
    unfold seedcornref07_Decode.f
    rw [if_pos ⟨h0, h1⟩, q1, q2, q3, q4, refRight_f]
    simp only [Option.bind_some]
    split <;> rfl
  have hrt : inst_Right.f op a b c = some (rightB op a b c) := rfl
  have he0 : ∃ x, inst_Encode.f 0 0 0 0 = some x := ⟨_, rfl⟩
  obtain ⟨x, he0⟩ := he0
  unfold seedcornlaw07_InstReads.f
  rw [alive_f, hd, hd2]
  cases hb : rightB op a b c with
  | true =>
    rw [hb] at hen hrt
    simp only [Option.bind_some, if_true, beq_self_eq_true, Bool.not_true, Bool.or_false, bne_self_eq_false, Bool.false_eq_true, if_false]
    simp only [seedcornlaw07_InstReads.j0, hen, hrt, Option.bind_some, if_true, Bool.false_eq_true, if_false]
  | false =>
    simp only [Option.bind_some, if_true, beq_self_eq_true, Bool.not_true, Bool.or_false, bne_self_eq_false, Bool.false_eq_true, if_false]
    simp only [seedcornlaw07_InstReads.j0, he0, Option.bind_some, if_true, Bool.false_eq_true, if_false]
    rw [if_neg (by decide)]
theorem instReads_pure (v : Int) (w0 : (Lit.int .u32 v).wf = true) : ∃ k, seedcornlaw07_InstReads.f k v = some true := by
  have hr := (Lit.wf_int_iff .u32 v).1 w0
  have h0 : 0 ≤ v := hr.1
  have h1 : v < 4294967296 := by have h2 : v ≤ 4294967295 := hr.2; omega
  clear hr w0
  obtain ⟨d1, d2, d3, d4⟩ := dec_parts v h0 h1
  refine ⟨1, reads_core v _ _ _ _ h0 h1 d1 d2 d3 d4 rfl rfl rfl rfl ?_⟩
  rw [enc_f, enc_join _ _ _ _ (by omega) (by omega) (by omega) (by omega) (by omega) (by omega) (by omega) (by omega)]
  rw [show v / 16777216 * 16777216 + v / 1048576 % 16 * 1048576 + v / 65536 % 16 * 65536 + v % 65536 = v by omega]
end Go.Proofs.YtdhkmdgieflioaaDoor.F
namespace Go.Proofs.YtdhkmdgieflioaaDoor.F
open Go.RowKit Go.Proofs.YtdhkmdgieflioaaDoorW.PrintWords Go.Proofs.YtdhkmdgieflioaaDoorW.PrintLast Go.Proofs.YtdhkmdgieflioaaDoorW.PrintMore
set_option linter.unusedVariables false
set_option linter.unusedSimpArgs false
theorem refName_f (a : Int) : seedcornref07_Name.f a = some (nameOf a) := by
  by_cases h : 1 ≤ a ∧ a < 28
  · obtain ⟨n, rfl⟩ : ∃ n : Nat, a = n := ⟨a.toNat, by omega⟩
    have h3 : n < 28 := by omega
    have : n = 1 ∨ n = 2 ∨ n = 3 ∨ n = 4 ∨ n = 5 ∨ n = 6 ∨ n = 7 ∨ n = 8 ∨ n = 9 ∨ n = 10 ∨ n = 11 ∨ n = 12 ∨ n = 13 ∨ n = 14 ∨ n = 15 ∨ n = 16 ∨ n = 17 ∨ n = 18 ∨ n = 19 ∨ n = 20 ∨ n = 21 ∨ n = 22 ∨ n = 23 ∨ n = 24 ∨ n = 25 ∨ n = 26 ∨ n = 27 := by omega
    rcases this with rfl | rfl | rfl | rfl | rfl | rfl | rfl | rfl | rfl | rfl | rfl | rfl | rfl | rfl | rfl | rfl | rfl | rfl | rfl | rfl | rfl | rfl | rfl | rfl | rfl | rfl | rfl
    all_goals rfl
  · have he : nameOf a = ⟨#[]⟩ := bytes_eq (by rw [name_empty a h, ByteArray.toList_eq])
    rw [he]
    unfold seedcornref07_Name.f
    repeat rw [if_neg (by omega)]
theorem refOp_l0 (a0 : ByteArray) (d : Nat) : ∀ (i : Nat), i + d = 28 → 1 ≤ i → Ev (fun k => seedcornref07_Op.l0 k a0 (i : Int)) (opFrom a0 d i) := by
  induction d with
  | zero =>
    intro i hi h1
    refine Ev.step (f := fun _ => some 0) (fun k => ?_) (Ev.now _)
    simp only [seedcornref07_Op.l0]
    rw [if_neg (by omega)]
  | succ d ih =>
    intro i hi h1
    have hst : opFrom a0 (d + 1) i = if 0 < i ∧ nameOf (i : Int) = a0 then (i : Int) else opFrom a0 d (i + 1) := rfl
    by_cases h : nameOf (i : Int) = a0
    · refine Ev.step (f := fun _ => some (opFrom a0 (d + 1) i)) (fun k => ?_) (Ev.now _)
      simp only [seedcornref07_Op.l0, refName_f, Option.bind_some]
      rw [if_pos (by omega), if_pos (by rw [h]), hst, if_pos ⟨by omega, h⟩]
    · rw [hst, if_neg (fun x => h x.2)]
      refine Ev.step (f := fun k => seedcornref07_Op.l0 k a0 ((i + 1 : Nat) : Int)) (fun k => ?_) (ih (i + 1) (by omega) (by omega))
      simp only [seedcornref07_Op.l0, refName_f, Option.bind_some]
      rw [if_pos (by omega), if_neg (fun x => h (bytes_eq x)), wrapI (by omega) (by omega)]
      rfl
theorem opOf_from (a0 : ByteArray) : opOf a0 = opFrom a0 27 1 := by
  show (if 0 < 0 ∧ nameOf ((0 : Nat) : Int) = a0 then ((0 : Nat) : Int) else opFrom a0 27 1) = _
  rw [if_neg (by omega)]
theorem refOp_ev (a0 : ByteArray) : Ev (fun k => seedcornref07_Op.f k a0) (opOf a0) := by
  rw [opOf_from]
  exact refOp_l0 a0 27 1 (by omega) (by omega)
theorem opFrom_name (a0 : ByteArray) (d : Nat) : ∀ i : Nat, opFrom a0 d i = 0 ∨ nameOf (opFrom a0 d i) = a0 := by
  induction d with
  | zero => intro i; exact Or.inl rfl
  | succ d ih =>
    intro i
    have hst : opFrom a0 (d + 1) i = if 0 < i ∧ nameOf (i : Int) = a0 then (i : Int) else opFrom a0 d (i + 1) := rfl
    by_cases h : 0 < i ∧ nameOf (i : Int) = a0
    · rw [hst, if_pos h]; exact Or.inr h.2
    · rw [hst, if_neg h]; exact ih (i + 1)
theorem opFrom_at (n : Nat) (hn : n < 28) (d : Nat) : ∀ i : Nat, i + d = 28 → 0 < i → i ≤ n → opFrom (nameOf (n : Int)) d i = (n : Int) := by
  induction d with
  | zero => intro i hi h0 h1; omega
  | succ d ih =>
    intro i hi h0 h1
    have hst : opFrom (nameOf (n : Int)) (d + 1) i = if 0 < i ∧ nameOf (i : Int) = nameOf (n : Int) then (i : Int) else opFrom (nameOf (n : Int)) d (i + 1) := rfl
    by_cases h : i = n
    · rw [hst, if_pos ⟨h0, by rw [h]⟩, h]
    · have := names_apart n i h0 (by omega) hn
      rw [hst, if_neg (fun x => this (by rw [x.2]))]
      exact ih (i + 1) (by omega) (by omega) (by omega)
theorem instNames_j0 (a0 : Int) (a1 : ByteArray) : Ev (fun k => seedcornlaw07_InstNames.j0 k a0 a1 (nameOf a0) (opOf a1) false) true := by
  refine Ev.step (f := fun _ => some true) (fun k => ?_) (Ev.now _)
  have hname : (if opOf a1 = 0 then some true else some ((nameOf (opOf a1)).toList == a1.toList)) = some true := by
    rcases opFrom_name a1 28 0 with h | h
    · have h : opOf a1 = 0 := h
      rw [if_pos h]
    · by_cases h0 : opOf a1 = 0
      · rw [if_pos h0]
      · have h : nameOf (opOf a1) = a1 := h
        rw [if_neg h0, h, beq_self_eq_true]
  simp only [seedcornlaw07_InstNames.j0, inst_Name.f, inst_Op.f, Option.bind_some]
  rw [if_neg (by decide)]
  by_cases h : (nameOf a0).toList = []
  · rw [if_pos h]
    exact hname
  · rw [if_neg h]
    have hr : 1 ≤ a0 ∧ a0 < 28 := Classical.byContradiction fun x => h (name_empty a0 x)
    have ho : opOf (nameOf a0) = a0 := by
      obtain ⟨n, rfl⟩ : ∃ n : Nat, a0 = n := ⟨a0.toNat, by omega⟩
      rw [opOf_from]
      exact opFrom_at n (by omega) 27 1 (by omega) (by omega) (by omega)
    rw [if_pos ho]
    exact hname
theorem instNames_pure (a0 : Int) (a1 : ByteArray) {q : Prop} (_ : q) : ∃ k, seedcornlaw07_InstNames.f k a0 a1 = some true := by
  refine Ev.rounds (g := fun k => seedcornlaw07_InstNames.f k a0 a1) ?_
  unfold seedcornlaw07_InstNames.f
  rw [alive_f]
  by_cases h : (a1.size : Int) > 100
  · refine Ev.congr (fun k => ?_) (Ev.now true)
    simp only [Option.bind_some, if_true]
    rw [if_pos h]
  · refine Ev.congr (f := fun k => (seedcornref07_Op.f k a1).bind fun t => seedcornlaw07_InstNames.j0 k a0 a1 (nameOf a0) (opOf a1) (opOf a1 != t)) (fun k => ?_) ?_
    · simp only [Option.bind_some, inst_Name.f, inst_Op.f, refName_f, if_true]
      rw [if_neg h]
    · refine Ev.bind (refOp_ev a1) ?_
      rw [show (opOf a1 != opOf a1) = false by simp]
      exact instNames_j0 a0 a1
end Go.Proofs.YtdhkmdgieflioaaDoor.F
namespace Go.Proofs.YtdhkmdgieflioaaDoor.F
open Go.RowKit Go.Proofs.YtdhkmdgieflioaaDoorW.PrintWords Go.Proofs.YtdhkmdgieflioaaDoorW.PrintLast Go.Proofs.YtdhkmdgieflioaaDoorW.PrintMore
set_option linter.unusedVariables false
set_option linter.unusedSimpArgs false
theorem ba_ext {a b : ByteArray} (h : a.data.toList = b.data.toList) : a = b := bytes_eq (by rw [ByteArray.toList_eq, ByteArray.toList_eq, h])
theorem ba_app (a b : ByteArray) : (a ++ b).data.toList = a.data.toList ++ b.data.toList := by rw [ByteArray.data_append, Array.toList_append]
theorem str_one (d : Int) : (strOfNums [d]).data.toList = [UInt8.ofNat d.toNat] := rfl
theorem num_l0 (n : Nat) : ∀ (acc : ByteArray), n ≤ 65535 → acc.size + n ≤ 100000 → Ev (fun k => seedcornref01_Text.l0 k (n : Int) acc) ((⟨(Lib.decDigits n).toArray⟩ : ByteArray) ++ acc) := by
  induction n using Nat.strongRecOn with
  | ind n ih =>
    intro acc hn ha
    have hs : ∀ d : Int, (strOfNums [d]).size = 1 := fun d => rfl
    by_cases h : n < 10
    · refine Ev.step (f := fun _ => some ((⟨(Lib.decDigits n).toArray⟩ : ByteArray) ++ acc)) (fun k => ?_) (Ev.now _)
      simp only [seedcornref01_Text.l0, Option.bind_some]
      rw [if_neg (by omega), if_pos (by rw [hs]; omega)]
      congr 1
      refine ba_ext ?_
      rw [ba_app, ba_app, str_one, Lib.decDigits, dif_pos h]
      congr 3
      omega
    · have e1 : (((48 + (Int.tmod (n : Int) 10)) % 4294967296) % 256).toNat = 48 + n % 10 := by rw [Int.tmod_eq_emod_of_nonneg (by omega)]; omega
      have e2 : (Int.tdiv (n : Int) 10) % 4294967296 = ((n / 10 : Nat) : Int) := by rw [Int.tdiv_eq_ediv_of_nonneg (by omega)]; omega
      have := ih (n / 10) (by omega) (strOfNums [((48 + (Int.tmod (n : Int) 10)) % 4294967296) % 256] ++ acc) (by omega) (by rw [ByteArray.size_append, hs]; omega)
      have e3 : ((⟨(Lib.decDigits (n / 10)).toArray⟩ : ByteArray) ++ (strOfNums [((48 + (Int.tmod (n : Int) 10)) % 4294967296) % 256] ++ acc)) = (⟨(Lib.decDigits n).toArray⟩ : ByteArray) ++ acc := by
        refine ba_ext ?_
        rw [ba_app, ba_app, ba_app, str_one, e1, Lib.decDigits.eq_1 n, dif_neg h]
        simp
      rw [e3] at this
      refine Ev.step (f := fun k => seedcornref01_Text.l0 k ((n / 10 : Nat) : Int) (strOfNums [((48 + (Int.tmod (n : Int) 10)) % 4294967296) % 256] ++ acc)) (fun k => ?_) this
      simp only [seedcornref01_Text.l0, Option.bind_some]
      rw [if_pos (by omega), if_pos (by rw [hs]; omega), e2]
def itoaB (n : Int) : ByteArray := ⟨(Lib.itoa n).toArray⟩
theorem number_ev (n : Int) (h0 : 0 ≤ n) (h1 : n ≤ 65535) : Ev (fun k => seedcornref07_number.f k n) (itoaB n) := by
  obtain ⟨m, rfl⟩ : ∃ m : Nat, n = m := ⟨n.toNat, by omega⟩
  have := num_l0 m ⟨#[]⟩ (by omega) (by have : (⟨#[]⟩ : ByteArray).size = 0 := rfl; omega)
  have e : ((⟨(Lib.decDigits m).toArray⟩ : ByteArray) ++ (⟨#[]⟩ : ByteArray)) = itoaB (m : Int) := by
    refine ba_ext ?_
    rw [ba_app]
    unfold itoaB Lib.itoa
    rw [if_neg (by omega)]
    simp
  rw [e] at this
  unfold seedcornref07_number.f seedcornref01_Text.f
  rw [show (m : Int) % 4294967296 = (m : Int) by omega]
  exact Ev.bind this (Ev.now _)
theorem itoaB_size (n : Int) (h0 : 0 ≤ n) (h1 : n ≤ 65535) : (itoaB n).size ≤ 21 := by
  have := Lib.itoa_length_le n (by omega) (by omega)
  simpa [itoaB, ByteArray.size] using this
def restOf (a b c : Int) : List UInt8 → List UInt8
  | [] => []
  | ch :: r => [44, 32] ++ (itemOf a b c ch).data.toList ++ restOf a b c r
theorem text_j1 (p : ByteArray) (op a b c : Int) (ha : 0 ≤ a ∧ a ≤ 65535) (hb : 0 ≤ b ∧ b ≤ 65535) (hc : 0 ≤ c ∧ c ≤ 65535) (i : Nat) (hi : i < p.size) (hp : p.size ≤ 100) (s t : ByteArray) (hs : s.size ≤ 1000000)
    (h : Ev (fun k => seedcornref07_Text.l0 k p (s ++ itemOf a b c p[i]) ((i + 1 : Nat) : Int) op a b c) t) : Ev (fun k => seedcornref07_Text.j1 k p s (i : Int) op a b c) t := by
  have hbt : bt p (i : Int) = (p[i].toNat : Int) := by
    unfold bt
    rw [dif_pos (by simpa using hi)]
    rfl
  generalize p[i] = ch at h hbt
  have hcl : ch.toNat < 256 := ch.toNat_lt
  have hr1 : (⟨#[114]⟩ : ByteArray).size = 1 := rfl
  have hw : wrap64 ((i : Int) + 1) = ((i + 1 : Nat) : Int) := by rw [wrapI (by omega) (by omega)]; omega
  have hsr : (s ++ (⟨#[114]⟩ : ByteArray)).size = s.size + 1 := by rw [ByteArray.size_append, hr1]
  have arm (n : Int) (hn : 0 ≤ n ∧ n ≤ 65535) (he : itemOf a b c ch = ⟨#[114]⟩ ++ itoaB n) :
      Ev (fun k => (seedcornref07_number.f k n).bind fun t327 => (if (s ++ (⟨#[114]⟩ : ByteArray)).size + t327.size ≤ 9223372036854775807 then (seedcornref07_Text.l0 k p ((s ++ (⟨#[114]⟩ : ByteArray)) ++ t327) (wrap64 ((i : Int) + 1)) op a b c) else (none))) t := by
    refine Ev.bind (number_ev n hn.1 hn.2) ?_
    have hz := itoaB_size n hn.1 hn.2
    rw [he, ← ByteArray.append_assoc] at h
    rw [hw]
    exact Ev.congr (fun k => by rw [if_pos (by omega)]) h
  by_cases k97 : ch = 97
  · have g : bt p (i : Int) = 97 := by rw [hbt, k97]; rfl
    refine Ev.step (fun k => ?_) (arm a ha (by unfold itemOf; rw [if_pos k97]; rfl))
    simp only [seedcornref07_Text.j1]
    rw [if_pos (by omega), if_pos (by omega), if_pos g, if_pos (by omega)]
  · have g : ¬ bt p (i : Int) = 97 := by rw [hbt]; exact fun x => k97 (UInt8.toNat_inj.1 (by have : (97 : UInt8).toNat = 97 := rfl; omega))
    by_cases k98 : ch = 98
    · have g2 : bt p (i : Int) = 98 := by rw [hbt, k98]; rfl
      refine Ev.step (fun k => ?_) (arm b hb (by unfold itemOf; rw [if_neg k97, if_pos k98]; rfl))
      simp only [seedcornref07_Text.j1]
      rw [if_pos (by omega), if_pos (by omega), if_neg g, if_pos g2, if_pos (by omega)]
    · have g2 : ¬ bt p (i : Int) = 98 := by rw [hbt]; exact fun x => k98 (UInt8.toNat_inj.1 (by have : (98 : UInt8).toNat = 98 := rfl; omega))
      by_cases k114 : ch = 114
      · have g3 : bt p (i : Int) = 114 := by rw [hbt, k114]; rfl
        refine Ev.step (fun k => ?_) (arm c hc (by unfold itemOf; rw [if_neg k97, if_neg k98, if_pos k114]; rfl))
        simp only [seedcornref07_Text.j1]
        rw [if_pos (by omega), if_pos (by omega), if_neg g, if_neg g2, if_pos g3, if_pos (by omega)]
      · have g3 : ¬ bt p (i : Int) = 114 := by rw [hbt]; exact fun x => k114 (UInt8.toNat_inj.1 (by have : (114 : UInt8).toNat = 114 := rfl; omega))
        have he : itemOf a b c ch = itoaB c := by unfold itemOf; rw [if_neg k97, if_neg k98, if_neg k114]; rfl
        have hz := itoaB_size c hc.1 hc.2
        rw [he] at h
        refine Ev.step (f := fun k => (seedcornref07_number.f k c).bind fun t330 => (if s.size + t330.size ≤ 9223372036854775807 then (seedcornref07_Text.l0 k p (s ++ t330) ((i + 1 : Nat) : Int) op a b c) else (none))) (fun k => ?_) (Ev.bind (number_ev c hc.1 hc.2) (Ev.congr (fun k => by rw [if_pos (by omega)]) h))
        simp only [seedcornref07_Text.j1]
        rw [if_pos (by omega), if_pos (by omega), if_neg g, if_neg g2, if_neg g3, hw]
theorem text_l0 (p : ByteArray) (op a b c : Int) (ha : 0 ≤ a ∧ a ≤ 65535) (hb : 0 ≤ b ∧ b ≤ 65535) (hc : 0 ≤ c ∧ c ≤ 65535) (hp : p.size ≤ 100) (d : Nat) : ∀ (i : Nat) (s : ByteArray), i + d = p.size → 1 ≤ i → s.size ≤ 1000 + 24 * i →
    Ev (fun k => seedcornref07_Text.l0 k p s (i : Int) op a b c) (s ++ ⟨(restOf a b c (p.data.toList.drop i)).toArray⟩) := by
  induction d with
  | zero =>
    intro i s hi h1 hs
    have hl : p.data.toList.length = p.size := rfl
    have e : s ++ (⟨(restOf a b c (p.data.toList.drop i)).toArray⟩ : ByteArray) = s := by
      rw [List.drop_of_length_le (by omega)]
      exact ba_ext (by rw [ba_app]; simp [restOf])
    rw [e]
    refine Ev.step (f := fun _ => some s) (fun k => ?_) (Ev.now _)
    simp only [seedcornref07_Text.l0]
    rw [if_neg (by omega)]
  | succ d ih =>
    intro i s hi h1 hs
    have hlt : i < p.size := by omega
    have h2 : (⟨#[44, 32]⟩ : ByteArray).size = 2 := rfl
    have hz := item_size a b c p[i] ha hb hc
    have hd : p.data.toList.drop i = p[i] :: p.data.toList.drop (i + 1) := List.drop_eq_getElem_cons (by simpa using hlt)
    have := ih (i + 1) ((s ++ (⟨#[44, 32]⟩ : ByteArray)) ++ itemOf a b c p[i]) (by omega) (by omega) (by rw [ByteArray.size_append, ByteArray.size_append, h2]; omega)
    have e : (s ++ (⟨#[44, 32]⟩ : ByteArray)) ++ itemOf a b c p[i] ++ (⟨(restOf a b c (p.data.toList.drop (i + 1))).toArray⟩ : ByteArray) = s ++ (⟨(restOf a b c (p.data.toList.drop i)).toArray⟩ : ByteArray) := by
      refine ba_ext ?_
      rw [hd]
      simp only [ba_app, restOf]
      simp
    rw [e] at this
    refine Ev.step (f := fun k => seedcornref07_Text.j1 k p (s ++ (⟨#[44, 32]⟩ : ByteArray)) (i : Int) op a b c) (fun k => ?_) (text_j1 p op a b c ha hb hc i hlt hp _ _ (by rw [ByteArray.size_append, h2]; omega) this)
    simp only [seedcornref07_Text.l0]
    rw [if_pos (by omega), if_neg (by omega), if_pos (by omega)]
theorem joinTail_rest (a b c : Int) : ∀ l : List UInt8, Lib.joinTail [44, 32] (l.map fun ch => (itemOf a b c ch).data.toList) = restOf a b c l
  | [] => rfl
  | ch :: r => by
    rw [List.map_cons, restOf, ← joinTail_rest a b c r]
    simp [Lib.joinTail]
theorem text_start (p : ByteArray) (op a b c : Int) (ha : 0 ≤ a ∧ a ≤ 65535) (hb : 0 ≤ b ∧ b ≤ 65535) (hc : 0 ≤ c ∧ c ≤ 65535) (hp : p.size ≤ 100) (s : ByteArray) (hs : s.size ≤ 100) :
    Ev (fun k => seedcornref07_Text.l0 k p s 0 op a b c) (if p.data.toList.map (itemOf a b c) = [] then s else s ++ (⟨#[32]⟩ : ByteArray) ++ ⟨(Lib.join ((p.data.toList.map (itemOf a b c)).map (·.data.toList)) [44, 32]).toArray⟩) := by
  have hl : p.data.toList.length = p.size := rfl
  by_cases h0 : p.size = 0
  · rw [List.eq_nil_of_length_eq_zero (hl.trans h0)]
    refine Ev.step (f := fun _ => some s) (fun k => ?_) (Ev.now _)
    simp only [seedcornref07_Text.l0]
    rw [if_neg (by omega)]
  · have hlt : 0 < p.size := by omega
    have h2 : (⟨#[32]⟩ : ByteArray).size = 1 := rfl
    have hz := item_size a b c p[0] ha hb hc
    have hd : p.data.toList = p[0] :: p.data.toList.drop 1 := List.drop_eq_getElem_cons (l := p.data.toList) (i := 0) (by simpa using hlt)
    have := text_l0 p op a b c ha hb hc hp (p.size - 1) 1 ((s ++ (⟨#[32]⟩ : ByteArray)) ++ itemOf a b c p[0]) (by omega) (by omega) (by rw [ByteArray.size_append, ByteArray.size_append, h2]; omega)
    have hne : p.data.toList.map (itemOf a b c) ≠ [] := by rw [hd]; simp
    rw [if_neg hne]
    have e : (s ++ (⟨#[32]⟩ : ByteArray)) ++ itemOf a b c p[0] ++ (⟨(restOf a b c (p.data.toList.drop 1)).toArray⟩ : ByteArray) = s ++ (⟨#[32]⟩ : ByteArray) ++ (⟨(Lib.join ((p.data.toList.map (itemOf a b c)).map (·.data.toList)) [44, 32]).toArray⟩ : ByteArray) := by
      refine ba_ext ?_
      rw [List.map_map, ← joinTail_rest]
      conv => rhs; rw [hd]
      rw [List.map_cons, Lib.join_cons]
      simp only [ba_app, Function.comp_def]
      simp
    rw [e] at this
    refine Ev.step (f := fun k => seedcornref07_Text.j1 k p (s ++ (⟨#[32]⟩ : ByteArray)) ((0 : Nat) : Int) op a b c) (fun k => ?_) (text_j1 p op a b c ha hb hc 0 hlt hp _ _ (by rw [ByteArray.size_append, h2]; omega) this)
    simp only [seedcornref07_Text.l0]
    simp only [if_true]
    rw [if_pos (by omega), if_pos (by omega)]
    rfl
theorem parts_all : ((List.range 28).all fun n => decide (n = 0) || ((seedcornref07_Parts.f 40 (n : Int)).map (·.data.toList) == some (partsOf (n : Int)).data.toList)) = true := by kernel_rfl
theorem parts_ev (op : Int) (h1 : 1 ≤ op) (h2 : op < 28) : Ev (fun k => seedcornref07_Parts.f k op) (partsOf op) := by
  obtain ⟨n, rfl⟩ : ∃ n : Nat, op = n := ⟨op.toNat, by omega⟩
  have h3 := List.all_eq_true.1 parts_all n (List.mem_range.2 (by omega))
  rw [decide_eq_false (show ¬ n = 0 by omega), Bool.false_or, beq_iff_eq] at h3
  have h4 : seedcornref07_Parts.f 40 (n : Int) = some (partsOf (n : Int)) := by
    obtain ⟨p, hp, hq⟩ := Option.map_eq_some_iff.1 h3
    rw [hp, ba_ext hq]
  refine ⟨40, fun k hk => ?_⟩
  obtain ⟨d, rfl⟩ : ∃ d, k = 40 + d := ⟨k - 40, by omega⟩
  clear hk
  induction d with
  | zero => exact h4
  | succ d ih => exact seedcornref07_Parts.mono _ (40 + d) _ ih
theorem right_small (op a b c : Int) (h : rightB op a b c = true) : a < 16 ∧ b < 16 := by
  have hb : ∀ (p : ByteArray) (ch n m : Int), 0 ≤ m → hasB p ch n m = true → n ≤ m := by
    intro p ch n m hm hh
    unfold hasB at hh
    split at hh
    · have := eq_of_beq hh; omega
    · split at hh
      · have := of_decide_eq_true hh; omega
      · cases hh
  unfold rightB at h
  split at h
  · cases h
  · split at h
    · cases h
    · rename_i h1
      split at h
      · cases h
      · rename_i h2
        have h1 := hb _ _ _ _ (by decide) (show hasB (partsOf op) 97 a 15 = true by simpa using h1)
        have h2 := hb _ _ _ _ (by decide) (show hasB (partsOf op) 98 b 15 = true by simpa using h2)
        omega
theorem refText_ev (op a b c : Int) : Ev (fun k => seedcornref07_Text.f k op a b c) (textOf op a b c) := by
  unfold seedcornref07_Text.f
  rw [refRight_f, refName_f]
  cases hr : rightB op a b c with
  | false =>
    unfold textOf
    rw [if_pos hr]
    refine Ev.congr (fun k => ?_) (Ev.now _)
    simp only [Option.bind_some, Bool.false_eq_true, if_false]
  | true =>
    obtain ⟨h1, h2, ha, hb, hc⟩ := right_facts _ _ _ _ hr
    have ht : textOf op a b c = if (partsOf op).data.toList.map (itemOf a b c) = [] then nameOf op else nameOf op ++ (⟨#[32]⟩ : ByteArray) ++ ⟨(Lib.join (((partsOf op).data.toList.map (itemOf a b c)).map (·.data.toList)) [44, 32]).toArray⟩ := by
      unfold textOf
      rw [hr, if_neg (by decide)]
      rfl
    rw [ht]
    refine Ev.congr (f := fun k => (seedcornref07_Parts.f k op).bind fun t325 => seedcornref07_Text.l0 k t325 (nameOf op) 0 op a b c) (fun k => ?_) (Ev.bind (parts_ev op h1 h2) (text_start (partsOf op) op a b c ha hb hc (parts_ascii op h1 h2).1 (nameOf op) (name_size op h1 h2)))
    simp only [Option.bind_some, if_true]
theorem refEnc_f (op a b c : Int) : seedcornref07_Encode.f op a b c = some (if rightB op a b c = true then (op * 16777216 + a * 1048576 + b * 65536 + c, 0) else (0, 1)) := by
  unfold seedcornref07_Encode.f
  rw [refRight_f]
  simp only [Option.bind_some]
  cases hr : rightB op a b c with
  | false => rfl
  | true =>
    obtain ⟨h1, h2, ha, hb, hc⟩ := right_facts _ _ _ _ hr
    obtain ⟨ha2, hb2⟩ := right_small _ _ _ _ hr
    simp only [if_true]
    rw [wrapI (x := op * 16777216) (by omega) (by omega), wrapI (x := a * 1048576) (by omega) (by omega), wrapI (x := b * 65536) (by omega) (by omega), wrapI (x := op * 16777216 + a * 1048576) (by omega) (by omega), wrapI (x := op * 16777216 + a * 1048576 + b * 65536) (by omega) (by omega), wrapI (by omega) (by omega)]
    rw [show (op * 16777216 + a * 1048576 + b * 65536 + c) % 4294967296 = op * 16777216 + a * 1048576 + b * 65536 + c by omega]
theorem instEnc_f (op a b c : Int) : inst_Encode.f op a b c = some (if rightB op a b c = true then (op * 16777216 + a * 1048576 + b * 65536 + c, 0) else (0, 1)) := by
  rw [enc_f]
  cases hr : rightB op a b c with
  | false => rfl
  | true =>
    obtain ⟨h1, h2, ha, hb, hc⟩ := right_facts _ _ _ _ hr
    obtain ⟨ha2, hb2⟩ := right_small _ _ _ _ hr
    simp only [if_true]
    rw [enc_join op a b c (by omega) (by omega) (by omega) (by omega) (by omega) (by omega) (by omega) (by omega)]
theorem dec_enc (op a b c : Int) (hr : rightB op a b c = true) : inst_Decode.f (op * 16777216 + a * 1048576 + b * 65536 + c) = some (op, a, b, c, 0) := by
  obtain ⟨h1, h2, ha, hb, hc⟩ := right_facts _ _ _ _ hr
  obtain ⟨ha2, hb2⟩ := right_small _ _ _ _ hr
  obtain ⟨d1, d2, d3, d4⟩ := dec_parts (op * 16777216 + a * 1048576 + b * 65536 + c) (by omega) (by omega)
  unfold inst_Decode.f inst_Right.f
  rw [d1, d2, d3, d4]
  clear d1 d2 d3 d4
  rw [show (op * 16777216 + a * 1048576 + b * 65536 + c) / 16777216 = op by omega, show (op * 16777216 + a * 1048576 + b * 65536 + c) / 1048576 % 16 = a by omega, show (op * 16777216 + a * 1048576 + b * 65536 + c) / 65536 % 16 = b by omega, show (op * 16777216 + a * 1048576 + b * 65536 + c) % 65536 = c by omega]
  simp only [Option.bind_some, hr, if_true]
theorem codes_core (op a b c : Int) : Ev (fun k => seedcornlaw07_InstCodes.f k op a b c) true := by
  unfold seedcornlaw07_InstCodes.f
  rw [alive_f, instEnc_f, refEnc_f, refRight_f]
  have hT : inst_Text.f op a b c = some (textOf op a b c) := rfl
  have hR : inst_Right.f op a b c = some (rightB op a b c) := rfl
  rw [hT, hR]
  cases hr : rightB op a b c with
  | true =>
    refine Ev.congr (f := fun k => (seedcornref07_Text.f k op a b c).bind fun t340 => (if (textOf op a b c).toList = t340.toList then some true else some false)) (fun k => ?_) (Ev.bind (refText_ev op a b c) (Ev.congr (fun k => by rw [if_pos rfl]) (Ev.now true)))
    simp only [Option.bind_some, if_true, dec_enc op a b c hr, bne_self_eq_false, Bool.false_eq_true, if_false, beq_self_eq_true, Bool.and_self]
  | false =>
    have hd : ∃ x, inst_Decode.f 0 = some x := by
      unfold inst_Decode.f inst_Right.f
      simp only [Option.bind_some]
      split <;> exact ⟨_, rfl⟩
    obtain ⟨x, hd⟩ := hd
    refine Ev.congr (f := fun k => (seedcornref07_Text.f k op a b c).bind fun t340 => (if (textOf op a b c).toList = t340.toList then some true else some false)) (fun k => ?_) (Ev.bind (refText_ev op a b c) (Ev.congr (fun k => by rw [if_pos rfl]) (Ev.now true)))
    simp only [Option.bind_some, if_true, hd, bne_self_eq_false, Bool.false_eq_true, if_false]
    simp
theorem instCodes_pure (op a b c : Int) {q0 q1 q2 q3 : Prop} (_ : q0) (_ : q1) (_ : q2) (_ : q3) : ∃ k, seedcornlaw07_InstCodes.f k op a b c = some true := Ev.rounds (g := fun k => seedcornlaw07_InstCodes.f k op a b c) (codes_core op a b c)
end Go.Proofs.YtdhkmdgieflioaaDoor.F
namespace Go.Proofs.YtdhkmdgieflioaaDoor.F
open Go.RowKit Go.Proofs.YtdhkmdgieflioaaDoorW.PrintWords Go.Proofs.YtdhkmdgieflioaaDoorW.PrintLast Go.Proofs.YtdhkmdgieflioaaDoorW.PrintMore
set_option linter.unusedVariables false
set_option linter.unusedSimpArgs false
def headW1 : List Nat := [104, 97, 114, 110, 101, 115, 115]
def headW2 : List Nat := [51, 50, 102, 55, 102, 55, 97, 101, 99, 55, 52, 52, 56, 51, 55, 56, 98, 52, 55, 102, 57, 52, 99, 49, 52, 97, 48, 50, 49, 98, 55, 100, 99, 53, 55, 49, 51, 48, 101, 52, 51, 98, 52, 52, 53, 48, 56, 49, 57, 98, 55, 57, 53, 56, 54, 51, 100, 98, 99, 98, 102, 102, 56, 55]
def headW3 : List Nat := [99, 117, 116]
def headRest : List Nat := [97, 116, 32, 115, 101, 101, 100, 99, 111, 114, 110, 47, 115, 101, 101, 100, 99, 111, 114, 110, 108, 97, 119, 53, 48, 46, 83, 101, 101, 100, 76, 111, 97, 100, 115, 32, 115, 101, 101, 100, 99, 111, 114, 110, 47, 115, 101, 101, 100, 99, 111, 114, 110, 108, 97, 119, 53, 48, 46, 83, 101, 101, 100, 83, 109, 97, 108, 108, 32, 115, 101, 101, 100, 99, 111, 114, 110, 47, 115, 101, 101, 100, 99, 111, 114, 110, 108, 97, 119, 53, 48, 46, 83, 101, 101, 100, 73, 109, 97, 103, 101, 115, 32, 115, 101, 101, 100, 99, 111, 114, 110, 47, 115, 101, 101, 100, 99, 111, 114, 110, 108, 97, 119, 53, 48, 46, 83, 101, 101, 100, 78, 111, 116, 101, 115, 32, 115, 101, 101, 100, 99, 111, 114, 110, 47, 115, 101, 101, 100, 99, 111, 114, 110, 108, 97, 119, 53, 48, 46, 83, 101, 101, 100, 84, 119, 111, 32, 115, 101, 101, 100, 99, 111, 114, 110, 47, 115, 101, 101, 100, 99, 111, 114, 110, 108, 97, 119, 49, 49, 46, 76, 105, 115, 116, 105, 110, 103, 71, 111, 101, 115, 79, 110, 32, 115, 101, 101, 100, 99, 111, 114, 110, 47, 115, 101, 101, 100, 99, 111, 114, 110, 108, 97, 119, 48, 55, 46, 73, 110, 115, 116, 67, 111, 100, 101, 115, 32, 115, 101, 101, 100, 99, 111, 114, 110, 47, 115, 101, 101, 100, 99, 111, 114, 110, 108, 97, 119, 49, 49, 46, 76, 105, 115, 116, 105, 110, 103, 68, 97, 116, 97, 32, 115, 101, 101, 100, 99, 111, 114, 110, 47, 115, 101, 101, 100, 99, 111, 114, 110, 108, 97, 119, 48, 55, 46, 73, 110, 115, 116, 82, 101, 97, 100, 115, 32, 115, 101, 101, 100, 99, 111, 114, 110, 47, 115, 101, 101, 100, 99, 111, 114, 110, 108, 97, 119, 48, 55, 46, 73, 110, 115, 116, 65, 112, 97, 114, 116, 32, 115, 101, 101, 100, 99, 111, 114, 110, 47, 115, 101, 101, 100, 99, 111, 114, 110, 108, 97, 119, 48, 55, 46, 73, 110, 115, 116, 70, 105, 101, 108, 100, 115, 32, 115, 101, 101, 100, 99, 111, 114, 110, 47, 115, 101, 101, 100, 99, 111, 114, 110, 108, 97, 119, 48, 55, 46, 73, 110, 115, 116, 67, 111, 117, 110, 116, 115, 32, 115, 101, 101, 100, 99, 111, 114, 110, 47, 115, 101, 101, 100, 99, 111, 114, 110, 108, 97, 119, 48, 55, 46, 73, 110, 115, 116, 78, 97, 109, 101, 115, 32, 115, 101, 101, 100, 99, 111, 114, 110, 47, 115, 101, 101, 100, 99, 111, 114, 110, 108, 97, 119, 53, 48, 46, 83, 101, 101, 100, 73, 116, 115, 101, 108, 102, 32, 115, 101, 101, 100, 99, 111, 114, 110, 47, 115, 101, 101, 100, 99, 111, 114, 110, 108, 97, 119, 49, 49, 46, 76, 105, 115, 116, 105, 110, 103, 84, 97, 114, 103, 101, 116, 115, 32, 115, 101, 101, 100, 99, 111, 114, 110, 47, 115, 101, 101, 100, 99, 111, 114, 110, 108, 97, 119, 49, 49, 46, 76, 105, 115, 116, 105, 110, 103, 84, 101, 120, 116, 32, 115, 101, 101, 100, 99, 111, 114, 110, 47, 115, 101, 101, 100, 99, 111, 114, 110, 108, 97, 119, 49, 49, 46, 76, 105, 115, 116, 105, 110, 103, 76, 105, 110, 101, 115, 32, 115, 101, 101, 100, 99, 111, 114, 110, 47, 115, 101, 101, 100, 99, 111, 114, 110, 108, 97, 119, 49, 49, 46, 76, 105, 115, 116, 105, 110, 103, 80, 108, 97, 99, 101, 115, 32, 115, 101, 101, 100, 99, 111, 114, 110, 47, 115, 101, 101, 100, 99, 111, 114, 110, 108, 97, 119, 49, 49, 46, 76, 105, 115, 116, 105, 110, 103, 65, 112, 97, 114, 116]
def chars (l : List Nat) : List Char := l.map Char.ofNat
theorem head_is : Tryd.prog.initOrder = String.ofList (chars headW1 ++ Char.ofNat 32 :: (chars headW2 ++ Char.ofNat 32 :: (chars headW3 ++ Char.ofNat 32 :: chars headRest))) := by kernel_rfl
theorem words_step : ∀ (w r : List Char), (∀ c ∈ w, c ≠ Char.ofNat 32) → wordsSigns (w ++ Char.ofNat 32 :: r) = w :: wordsSigns r
  | [], r, _ => rfl
  | c :: w, r, h => by
    have ih := words_step w r (fun d hd => h d (List.mem_cons_of_mem _ hd))
    have hc := h c (List.mem_cons_self ..)
    show wordsSigns (c :: (w ++ Char.ofNat 32 :: r)) = _
    rw [wordsSigns.eq_def]
    split
    · rename_i e; cases e
    · rename_i e; injection e with e1 e2; exact absurd e1 hc
    · rename_i c' r' hne e
      injection e with e1 e2
      subst e1 e2
      rw [ih]
theorem words_head : wordsSigns Tryd.prog.initOrder.toList = chars headW1 :: chars headW2 :: chars headW3 :: wordsSigns (chars headRest) := by
  rw [head_is, String.toList_ofList]
  rw [words_step _ _ (by decide +kernel), words_step _ _ (by decide +kernel), words_step _ _ (by decide +kernel)]
theorem head0 : behindMainWord (wordsSigns Tryd.prog.initOrder.toList) = chars headW3 :: wordsSigns (chars headRest) := by
  rw [words_head]
  unfold behindMainWord
  simp only
  rw [if_pos (by decide +kernel)]
section
variable {P : Program}
theorem mainIs_of {s : List Char} {R : List (List Char)} (h : wordsSigns P.initOrder.toList = chars headW1 :: s :: R) (hs : isSumSigns s = true) : P.mainIs = some (true, s) := by
  unfold Program.mainIs
  rw [h]
  simp only [hs, Bool.not_true]
  rw [if_neg (by decide), if_pos (by decide +kernel)]
theorem headLifts_of {R : List (List Char)} (h : behindMainWord (wordsSigns P.initOrder.toList) = chars headW3 :: R) : P.headLifts = [] := by
  unfold Program.headLifts
  rw [h]
  kernel_rfl
theorem liftsFinal_of {R : List (List Char)} (h : behindMainWord (wordsSigns P.initOrder.toList) = chars headW3 :: R) : P.liftsFinal = false := by
  unfold Program.liftsFinal
  rw [h, headLifts_of h]
  kernel_rfl
theorem make_of {R : List (List Char)} (h : behindMainWord (wordsSigns P.initOrder.toList) = chars headW3 :: R) : P.make = some .cut := by
  unfold Program.make
  rw [h, headLifts_of h]
  kernel_rfl
theorem strip_of {R : List (List Char)} : stripLifts liftWords (chars headW3 :: R) = ([], chars headW3 :: R) := by kernel_rfl
theorem mayEnter_of {R : List (List Char)} (h : behindMainWord (wordsSigns P.initOrder.toList) = chars headW3 :: R) (h1 : P.laysLater = false) (h2 : P.bearsReflect = false) (h3 : P.doorFits [] = true) : P.mayEnter = true := by
  unfold Program.mayEnter
  rw [h]
  simp only [strip_of, h1, h2, h3]
  kernel_rfl
end
theorem main_is : Tryd.prog.mainIs = some (true, chars headW2) := mainIs_of words_head (by kernel_rfl)
theorem head_lifts : Tryd.prog.headLifts = [] := headLifts_of head0
theorem lifts_final : Tryd.prog.liftsFinal = false := liftsFinal_of head0
theorem make_cut : Tryd.prog.make = some .cut := make_of head0
theorem lays_later : Tryd.prog.laysLater = false := by kernel_rfl
theorem bears_reflect : Tryd.prog.bearsReflect = false := by kernel_rfl
theorem door_fits : Tryd.prog.doorFits [] = true := by kernel_rfl
theorem may_enter : Tryd.prog.mayEnter = true := mayEnter_of head0 lays_later bears_reflect door_fits
def kindsOf (P : Program) (fn : Func) (c : OpenClaim) : List (Option IntKind) := if c.domain.isEmpty then [] else fn.params.toList.map fun t => match P.underlying t with | some (.int k) => some k | _ => none
theorem joined_of {P : Program} {f : FuncId} {fn : Func} {s : ChangeSpec} {c : OpenClaim}
    (k1 : c.wf (OpenSpec.ofChange s) = true) (k2 : laidOutB P = true) (k3 : mapsRowed P = true)
    (k4 : fn.params.all (P.readableRec ·) = true) (k5 : namedTie P c.named s.vars = true)
    (k6 : (c.stops == []) = true) (k7 : (P.stops == []) = true) (k8 : (c.knobs == []) = true) (k9 : (P.stopKnobs == []) = true)
    (k10 : (c.inPlace == P.inPlace f) = true) (k11 : (c.unfollowed == P.unfollowed f) = true) (k12 : (c.recurses == P.recurses f) = true) (k13 : (c.named == P.varsNamed f) = true)
    (k14 : (c.maps == (fn.params.toList ++ s.plain.varTypes P).any (P.mapsRec ·)) = true) (k15 : (c.ifaces == (fn.params.toList ++ s.plain.varTypes P).any (P.ifacesRec ·)) = true) (k16 : (c.mapsOut == P.mapsAmong fn.resultTypes.toList) = true)
    (k17 : (c.loops == (fn.params.toList ++ s.plain.varTypes P).any (P.loopsFrom ·)) = true) (k18 : (c.wideKeys == (fn.params.toList ++ s.plain.varTypes P ++ fn.resultTypes.toList).any (P.wideKeysFrom ·)) = true)
    (k19 : s.vars.all (P.varReadable ·) = true) (k20 : fn.resultTypes.all (fun t => P.readableRec t && decide (t < P.types.size)) = true) (k21 : (c.ifacesOut == fn.resultTypes.toList.any (P.ifacesRec ·)) = true) (k22 : (c.loopsOut == fn.resultTypes.toList.any (P.loopsFrom ·)) = true) (k23 : (c.plainKeys == P.plainKeys) = true)
    (k24 : c.shortTexts.isNone = true) (k25 : P.stopsHeard = true) (k26 : P.mayEnter = true) (k27 : (c.lifted == P.liftsFinal) = true) (k28 : (P.make == some c.make) = true)
    (k29 : (c.kinds == kindsOf P fn c) = true) (k30 : (c.pinned == c.pinnedBy) = true)
    (k31 : (c.veiled == (fn.params.toList ++ s.plain.varTypes P ++ fn.resultTypes.toList).any (P.veiledRec ·)) = true) (k32 : c.veiledFits P fn.params.toList (fn.params.toList ++ s.plain.varTypes P ++ fn.resultTypes.toList) = true) :
    joinedFacts P f fn s c = true := by
  have h2 : ∀ a b : Bool, a = true → b = true → (a && b) = true := fun a b ha hb => by rw [ha, hb]; rfl
  unfold joinedFacts
  exact h2 _ _ (h2 _ _ (h2 _ _ (h2 _ _ (h2 _ _ (h2 _ _ (h2 _ _ (h2 _ _ (h2 _ _ (h2 _ _ (h2 _ _ (h2 _ _ (h2 _ _ (h2 _ _ (h2 _ _ (h2 _ _ (h2 _ _ (h2 _ _ (h2 _ _ (h2 _ _ (h2 _ _ (h2 _ _ (h2 _ _ (h2 _ _ (h2 _ _ (h2 _ _ (h2 _ _ (h2 _ _ (h2 _ _ (h2 _ _ (h2 _ _ (k1) k2) k3) k4) k5) k6) k7) k8) k9) k10) k11) k12) k13) k14) k15) k16) k17) k18) k19) k20) k21) k22) k23) k24) k25) k26) k27) k28) k29) k30) k31) k32
theorem p_laid : laidOutB Tryd.prog = true := by kernel_rfl
theorem p_rowed : mapsRowed Tryd.prog = true := by kernel_rfl
theorem p_stops : (Tryd.prog.stops == []) = true := by kernel_rfl
theorem p_knobs : (Tryd.prog.stopKnobs == []) = true := by kernel_rfl
theorem p_heard : Tryd.prog.stopsHeard = true := by kernel_rfl
theorem p_keys : Tryd.prog.plainKeys = true := by kernel_rfl
theorem p_looks : Tryd.prog.looks [] = false := by kernel_rfl
theorem head_sum : chars headW2 = "32f7f7aec7448378b47f94c14a021b7dc57130e43b4450819b795863dbcbff87".toList := by kernel_rfl
theorem main_sum : Tryd.prog.mainIs = some (true, "32f7f7aec7448378b47f94c14a021b7dc57130e43b4450819b795863dbcbff87".toList) := head_sum ▸ main_is
end Go.Proofs.YtdhkmdgieflioaaDoor.F
