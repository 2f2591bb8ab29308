/- Texts of this claim: contracts of functions that the law reaches, and plain lemmas. -/
import Derived.Test.YtdhkmdgieflioaaDoorRows
import Derived.LaidLaws
import Derived.ChangeArms
import Derived.ChangeSame
import Derived.OpenShut
import Derived.Lib.LaidTab
import Derived.LaidMore
import Derived.MakeChecks
import Derived.Deep.Strs
import Derived.Stop.LaidErr
import Derived.JoinedOf
import Derived.KernelRfl
import Derived.SevenTiedAt
import Derived.Test.YtdhkmdgieflioaaDoorY1
import Derived.Test.YtdhkmdgieflioaaDoorY5
namespace Go.Proofs.YtdhkmdgieflioaaDoor.F
open Go.RowKit Go.Proofs.YtdhkmdgieflioaaDoorW.PrintWords Go.Proofs.YtdhkmdgieflioaaDoorW.PrintLast Go.Proofs.YtdhkmdgieflioaaDoorW.PrintMore
attribute [local go_sem] max2_int min2_int max_two min_two max_three min_three max_four min_four
set_option linter.unusedVariables false
set_option linter.unusedSimpArgs false
def seedcornlaw50_SeedImages.f (k : Nat) (l0_0 : List Int) (a0_1 : Int) : Option (Bool) := if (l0_0.length : Int) > 40 then ((seedcornlaw50_awake.f k).bind fun t223 => (some t223)) else ((seedcornref08_Put.f k l0_0 a0_1).bind fun bt224 => (if bt224.2 = 0 then ((seedcornref02_Dump.f bt224.1).bind fun t227 => ((seedcornlaw50_awake.f k).bind fun t228 => (if t228 = true then ((seedcornref02_Load.f k t227).bind fun t229 => (if t229.toList = bt224.1.toList then ((seed_Image.f k).bind fun t230 => ((seedcornref50_Loads.f k t230 t227).bind fun t231 => (some t231))) else (some false))) else (some false)))) else ((seedcornlaw50_awake.f k).bind fun t226 => (some t226))))
theorem seedcornlaw50_SeedImages.mono : ∀ a0 a1 k, LeO (seedcornlaw50_SeedImages.f k a0 a1) (seedcornlaw50_SeedImages.f (k + 1) a0 a1) := by
  intro a0 a1 k
  unfold seedcornlaw50_SeedImages.f
  repeat' first
      | (with_reducible exact seed_Image.mono _)
      | (with_reducible exact seedcornlaw50_awake.mono _)
      | (with_reducible exact seedcornref02_Load.mono _ _)
      | (with_reducible exact seedcornref08_Put.mono _ _ _)
      | (with_reducible exact seedcornref50_Loads.mono _ _ _)
      | (with_reducible exact LeO.refl _)
      | (with_reducible exact LeO.none _)
      | (with_reducible refine LeO.ite ?_ ?_)
      | (with_reducible refine LeO.bind ?_ (fun _ => ?_))
      | exact seed_Image.mono _
      | exact seedcornlaw50_awake.mono _
      | exact seedcornref02_Load.mono _ _
      | exact seedcornref08_Put.mono _ _ _
      | exact seedcornref50_Loads.mono _ _ _
      | exact LeO.none _
      | refine LeO.ite ?_ ?_
      | refine LeO.bind ?_ (fun _ => ?_)
set_option maxHeartbeats 8000000 in
set_option maxRecDepth 100000 in
theorem seedcornlaw50_SeedImages.calls (k : Nat) (A0_0 : Option Addr) (c0_0 : Nat) (l0_0 : List Int) (a0_1 : Int) (r : Bool) (w : World) (hGC : GC w) (hGK : GK w) (hr0_0 : Kd.C (Kd.int .u32) w A0_0 l0_0.length l0_0) (hc0_0 : l0_0.length ≤ c0_0) (h : seedcornlaw50_SeedImages.f k l0_0 a0_1 = some r) :
    Calls Tryd.prog 5 #[.agg #[.slice A0_0 l0_0.length c0_0, .int .i64 a0_1]] w fun e w' => e = .returned (.bool r) ∧ Below w.heap.size w w' := by
  have hu28 := Tryd.underlying28
  have HR0_0 := Aside0.mk hr0_0
  have HC0_0 := Aside0.mk hc0_0
  clear hr0_0 hc0_0
  have HGC := Aside0.mk hGC
  clear hGC
  have HGK := Aside0.mk hGK
  clear hGK
  have HB := Aside0.mk (Below.refl w.heap.size w)
  have H : (if (l0_0.length : Int) > 40 then ((seedcornlaw50_awake.f k).bind fun t223 => (some t223)) else ((seedcornref08_Put.f k l0_0 a0_1).bind fun bt224 => (if bt224.2 = 0 then ((seedcornref02_Dump.f bt224.1).bind fun t227 => ((seedcornlaw50_awake.f k).bind fun t228 => (if t228 = true then ((seedcornref02_Load.f k t227).bind fun t229 => (if t229.toList = bt224.1.toList then ((seed_Image.f k).bind fun t230 => ((seedcornref50_Loads.f k t230 t227).bind fun t231 => (some t231))) else (some false))) else (some false)))) else ((seedcornlaw50_awake.f k).bind fun t226 => (some t226))))) = some r := h
  clear h
  by_cases c2 : (l0_0.length : Int) > 40
  · rw [if_pos c2] at H
    have c2b0 : decide (40 < (l0_0.length : Int)) = true := decide_eq_true c2
    have c2b1 : decide (40 < l0_0.length) = true := decide_eq_true (by omega)
    clear c2
    replace H := Option.bind_eq_some_iff.mp H
    obtain ⟨t223, A30, H⟩ := H
    replace H : (some t223) = some r := H
    have A3 := Aside0.mk A30
    clear A30
    obtain rfl := Option.some.inj H
    go_enter Tryd.func5, Tryd.ntmps5
    go_wp2_with (first | ((with_reducible refine gate_dst (N := 1) rfl ?_); refine box_event ?hg (N := 1) ?hd (cs := #[.slice A0_0 l0_0.length c0_0, .int .i64 a0_1]) (t := 28) ?hr ?_; (case hd => rfl); (case hg => rfl); (case hr => first | (go_simp; done) | (go_simp; rfl)); intro gb222 hg w4 hbox hb; have n0_ := Aside0.mk (below_step (by repeat (first | (with_reducible first | exact HB.out | apply below_alloc | apply pw_below_drewN | apply below_drew1) | exact HB.out)) hb); have n1_ := Aside0.mk (hbox); have n2_ := Aside0.mk ((by rw [hg]; exact (below_size (by repeat (first | (with_reducible first | exact HB.out | apply below_alloc | apply pw_below_drewN | apply below_drew1) | exact HB.out))) : w.heap.size ≤ gb222)); have n3_ := Aside0.mk ((by rw [hg]; exact (below_size (by repeat (first | (with_reducible first | exact HB.out | apply below_alloc | apply pw_below_drewN | apply below_drew1) | exact HB.out))) : w.heap.size ≤ gb222)); clear HB; have HB := n0_; have BK222 := n1_; have GW222 := n2_; have GE222 := n3_; clear n0_ n1_ n2_ n3_; clear hb hbox hg; have hcz5_0 : w4.cell? ⟨gb222, 0, none⟩ = some (.slice A0_0 l0_0.length c0_0) := (blk_cell BK222.out 0).trans rfl; have hcz5_1 : w4.cell? ⟨gb222, 1, none⟩ = some (.int .i64 a0_1) := (blk_cell BK222.out 1).trans rfl; have hfz5_0 := blk_frozen BK222.out 0; have hfz5_1 := blk_frozen BK222.out 1) | ((with_reducible refine gate_callee (f := 22) rfl ?_); refine goesL_ (some 10) rfl rfl Tryd.func22 (by kernel_rfl) rfl #[] rfl (by (try simp only [List.map_toArray, List.map_cons, List.map_nil]); first | done | rfl | (simp only [List.length_drop, List.length_take]; rfl)) ?_; (with_reducible refine (seedcornlaw50_awake.calls k  t223 _ ?side1 ?side2 A3.out).mono ?_); (case side1 => exact GC.below HGC.out (by repeat (first | (with_reducible first | exact HB.out | apply below_alloc | apply pw_below_drewN | apply below_drew1 | refine below_set ?_ GE222.out) | exact HB.out))); (case side2 => exact GK.below HGK.out (by repeat (first | (with_reducible first | exact HB.out | apply below_alloc | apply pw_below_drewN | apply below_drew1 | refine below_set ?_ GE222.out) | exact HB.out))); rintro e w6 ⟨rfl, hb⟩; refine ⟨_, rfl, ?_⟩; have n0_ := Aside0.mk (blk_below (g := gb222) (o := .cells #[.slice A0_0 l0_0.length c0_0, .int .i64 a0_1] 28 (0, 0)) (by (with_reducible repeat (first | refine blk_drewN ?_ _ | refine blk_drew ?_ | refine blk_alloc ?_ _)); exact BK222.out) hb); have n1_ := Aside0.mk (below_step (by repeat (first | (with_reducible first | exact HB.out | apply below_alloc | apply pw_below_drewN | apply below_drew1 | refine below_set ?_ GE222.out) | exact HB.out)) hb); clear BK222; clear HB; have BK222 := n0_; have HB := n1_; clear n0_ n1_; (try clear hb); (try clear hb2); (try clear hk); (try clear hi)))
    go_ret
    exact ⟨by first | rfl | (simp [errW_none, errW_some] <;> rfl) | (simp [*, errW_none, errW_some] <;> rfl), by repeat (first | (with_reducible first | exact HB.out | apply below_alloc | apply pw_below_drewN | apply below_drew1 | refine below_set ?_ GE222.out) | exact HB.out)⟩
  · rw [if_neg c2] at H
    have c2b0 : decide (40 < (l0_0.length : Int)) = false := decide_eq_false c2
    have c2b1 : decide (40 < l0_0.length) = false := decide_eq_false (by omega)
    clear c2
    replace H := Option.bind_eq_some_iff.mp H
    obtain ⟨⟨t224, t225⟩, A70, H⟩ := H
    replace H : (if t225 = 0 then ((seedcornref02_Dump.f t224).bind fun t227 => ((seedcornlaw50_awake.f k).bind fun t228 => (if t228 = true then ((seedcornref02_Load.f k t227).bind fun t229 => (if t229.toList = t224.toList then ((seed_Image.f k).bind fun t230 => ((seedcornref50_Loads.f k t230 t227).bind fun t231 => (some t231))) else (some false))) else (some false)))) else ((seedcornlaw50_awake.f k).bind fun t226 => (some t226))) = some r := H
    have A7 := Aside0.mk A70
    clear A70
    by_cases c8 : t225 = 0
    · rw [if_pos c8] at H
      have c8b0 : (t225 == 0) = true := beq_iff_eq.mpr c8
      have c8b1 : (t225 != 0) = false := bne_eq_false_iff_eq.mpr c8
      clear c8
      replace H := Option.bind_eq_some_iff.mp H
      obtain ⟨t227, A90, H⟩ := H
      replace H : ((seedcornlaw50_awake.f k).bind fun t228 => (if t228 = true then ((seedcornref02_Load.f k t227).bind fun t229 => (if t229.toList = t224.toList then ((seed_Image.f k).bind fun t230 => ((seedcornref50_Loads.f k t230 t227).bind fun t231 => (some t231))) else (some false))) else (some false))) = some r := H
      have A9 := Aside0.mk A90
      clear A90
      replace H := Option.bind_eq_some_iff.mp H
      obtain ⟨t228, A100, H⟩ := H
      replace H : (if t228 = true then ((seedcornref02_Load.f k t227).bind fun t229 => (if t229.toList = t224.toList then ((seed_Image.f k).bind fun t230 => ((seedcornref50_Loads.f k t230 t227).bind fun t231 => (some t231))) else (some false))) else (some false)) = some r := H
      have A10 := Aside0.mk A100
      clear A100
      by_cases c11 : t228 = true
      · subst c11
        have H1 : ((seedcornref02_Load.f k t227).bind fun t229 => (if t229.toList = t224.toList then ((seed_Image.f k).bind fun t230 => ((seedcornref50_Loads.f k t230 t227).bind fun t231 => (some t231))) else (some false))) = some r := by rw [if_pos rfl] at H; exact H
        clear H
        have H := H1
        clear H1
        replace H := Option.bind_eq_some_iff.mp H
        obtain ⟨t229, A120, H⟩ := H
        replace H : (if t229.toList = t224.toList then ((seed_Image.f k).bind fun t230 => ((seedcornref50_Loads.f k t230 t227).bind fun t231 => (some t231))) else (some false)) = some r := H
        have A12 := Aside0.mk A120
        clear A120
        by_cases c13 : t229.toList = t224.toList
        · rw [if_pos c13] at H
          have c13b0 : (t229.toList == t224.toList) = true := beq_iff_eq.mpr c13
          have c13b1 : (t229.toList != t224.toList) = false := bne_eq_false_iff_eq.mpr c13
          clear c13
          replace H := Option.bind_eq_some_iff.mp H
          obtain ⟨t230, A140, H⟩ := H
          replace H : ((seedcornref50_Loads.f k t230 t227).bind fun t231 => (some t231)) = some r := H
          have A14 := Aside0.mk A140
          clear A140
          replace H := Option.bind_eq_some_iff.mp H
          obtain ⟨t231, A150, H⟩ := H
          replace H : (some t231) = some r := H
          have A15 := Aside0.mk A150
          clear A150
          obtain rfl := Option.some.inj H
          go_enter Tryd.func5, Tryd.ntmps5
          go_wp2_with (first | ((with_reducible refine gate_dst (N := 1) rfl ?_); refine box_event ?hg (N := 1) ?hd (cs := #[.slice A0_0 l0_0.length c0_0, .int .i64 a0_1]) (t := 28) ?hr ?_; (case hd => rfl); (case hg => rfl); (case hr => first | (go_simp; done) | (go_simp; rfl)); intro gb222 hg w16 hbox hb; have n0_ := Aside0.mk (below_step (by repeat (first | (with_reducible first | exact HB.out | apply below_alloc | apply pw_below_drewN | apply below_drew1) | exact HB.out)) hb); have n1_ := Aside0.mk (hbox); have n2_ := Aside0.mk ((by rw [hg]; exact (below_size (by repeat (first | (with_reducible first | exact HB.out | apply below_alloc | apply pw_below_drewN | apply below_drew1) | exact HB.out))) : w.heap.size ≤ gb222)); have n3_ := Aside0.mk ((by rw [hg]; exact (below_size (by repeat (first | (with_reducible first | exact HB.out | apply below_alloc | apply pw_below_drewN | apply below_drew1) | exact HB.out))) : w.heap.size ≤ gb222)); clear HB; have HB := n0_; have BK222 := n1_; have GW222 := n2_; have GE222 := n3_; clear n0_ n1_ n2_ n3_; clear hb hbox hg; have hcz17_0 : w16.cell? ⟨gb222, 0, none⟩ = some (.slice A0_0 l0_0.length c0_0) := (blk_cell BK222.out 0).trans rfl; have hcz17_1 : w16.cell? ⟨gb222, 1, none⟩ = some (.int .i64 a0_1) := (blk_cell BK222.out 1).trans rfl; have hfz17_0 := blk_frozen BK222.out 0; have hfz17_1 := blk_frozen BK222.out 1) | ((with_reducible refine gate_callee (f := 26) rfl ?_); refine goesL_ (some 13) rfl rfl Tryd.func26 (by kernel_rfl) rfl #[.agg #[.slice A0_0 l0_0.length c0_0, .int .i64 a0_1]] rfl (by (try simp only [List.map_toArray, List.map_cons, List.map_nil]); first | done | rfl | (simp only [List.length_drop, List.length_take]; rfl)) ?_; (with_reducible refine (seedcornref08_Put.calls k _ _ l0_0 a0_1 t224 t225 _ ?side1 ?side2 A7.out).mono ?_); (case side1 => repeat (first | exact (Kd.C_below HR0_0.out HB.out) | (with_reducible refine Kd.C_alloc ?_ _) | (with_reducible refine Kd.C_drewN ?_ _) | (with_reducible refine Kd.C_drew ?_))); (case side2 => exact HC0_0.out); rintro e w18 ⟨rfl, hb⟩; refine ⟨_, rfl, ?_⟩; have n0_ := Aside0.mk (blk_below (g := gb222) (o := .cells #[.slice A0_0 l0_0.length c0_0, .int .i64 a0_1] 28 (0, 0)) (by (with_reducible repeat (first | refine blk_drewN ?_ _ | refine blk_drew ?_ | refine blk_alloc ?_ _)); exact BK222.out) hb); have n1_ := Aside0.mk (below_step (by repeat (first | (with_reducible first | exact HB.out | apply below_alloc | apply pw_below_drewN | apply below_drew1 | refine below_set ?_ GE222.out) | exact HB.out)) hb); clear BK222; clear HB; have BK222 := n0_; have HB := n1_; clear n0_ n1_; (try clear hb); (try clear hb2); (try clear hk); (try clear hi)) | ((with_reducible refine gate_callee (f := 27) rfl ?_); refine goesL_ (some 20) rfl rfl Tryd.func27 (by kernel_rfl) rfl #[.string t224] rfl (by (try simp only [List.map_toArray, List.map_cons, List.map_nil]); first | done | rfl | (simp only [List.length_drop, List.length_take]; rfl)) ?_; (with_reducible refine (seedcornref02_Dump.calls t224 t227 _ A9.out).mono ?_); rintro e w19 ⟨rfl, hb⟩; refine ⟨_, rfl, ?_⟩; have n0_ := Aside0.mk (blk_below (g := gb222) (o := .cells #[.slice A0_0 l0_0.length c0_0, .int .i64 a0_1] 28 (0, 0)) (by (with_reducible repeat (first | refine blk_drewN ?_ _ | refine blk_drew ?_ | refine blk_alloc ?_ _)); exact BK222.out) hb); have n1_ := Aside0.mk (below_step (by repeat (first | (with_reducible first | exact HB.out | apply below_alloc | apply pw_below_drewN | apply below_drew1 | refine below_set ?_ GE222.out) | exact HB.out)) hb); clear BK222; clear HB; have BK222 := n0_; have HB := n1_; clear n0_ n1_; (try clear hb); (try clear hb2); (try clear hk); (try clear hi)) | ((with_reducible refine gate_callee (f := 22) rfl ?_); refine goesL_ (some 21) rfl rfl Tryd.func22 (by kernel_rfl) rfl #[] rfl (by (try simp only [List.map_toArray, List.map_cons, List.map_nil]); first | done | rfl | (simp only [List.length_drop, List.length_take]; rfl)) ?_; (with_reducible refine (seedcornlaw50_awake.calls k  true _ ?side1 ?side2 A10.out).mono ?_); (case side1 => exact GC.below HGC.out (by repeat (first | (with_reducible first | exact HB.out | apply below_alloc | apply pw_below_drewN | apply below_drew1 | refine below_set ?_ GE222.out) | exact HB.out))); (case side2 => exact GK.below HGK.out (by repeat (first | (with_reducible first | exact HB.out | apply below_alloc | apply pw_below_drewN | apply below_drew1 | refine below_set ?_ GE222.out) | exact HB.out))); rintro e w20 ⟨rfl, hb⟩; refine ⟨_, rfl, ?_⟩; have n0_ := Aside0.mk (blk_below (g := gb222) (o := .cells #[.slice A0_0 l0_0.length c0_0, .int .i64 a0_1] 28 (0, 0)) (by (with_reducible repeat (first | refine blk_drewN ?_ _ | refine blk_drew ?_ | refine blk_alloc ?_ _)); exact BK222.out) hb); have n1_ := Aside0.mk (below_step (by repeat (first | (with_reducible first | exact HB.out | apply below_alloc | apply pw_below_drewN | apply below_drew1 | refine below_set ?_ GE222.out) | exact HB.out)) hb); clear BK222; clear HB; have BK222 := n0_; have HB := n1_; clear n0_ n1_; (try clear hb); (try clear hb2); (try clear hk); (try clear hi)) | (go_at_call 28; (with_reducible refine (seedcornref02_Load.calls k t227 t229 _ A12.out).mono ?_); rintro e w21 ⟨rfl, hb⟩; have n0_ := Aside0.mk (blk_below (g := gb222) (o := .cells #[.slice A0_0 l0_0.length c0_0, .int .i64 a0_1] 28 (0, 0)) (by (with_reducible repeat (first | refine blk_drewN ?_ _ | refine blk_drew ?_ | refine blk_alloc ?_ _)); exact BK222.out) hb); have n1_ := Aside0.mk (below_step (by repeat (first | (with_reducible first | exact HB.out | apply below_alloc | apply pw_below_drewN | apply below_drew1 | refine below_set ?_ GE222.out) | exact HB.out)) hb); clear BK222; clear HB; have BK222 := n0_; have HB := n1_; clear n0_ n1_; (try clear hb); (try clear hb2); (try clear hk); (try clear hi)) | (go_at_call 24; (with_reducible refine (seed_Image.calls k  t230 _ ?side1 ?side2 A14.out).mono ?_); (case side1 => exact GC.below HGC.out (by repeat (first | (with_reducible first | exact HB.out | apply below_alloc | apply pw_below_drewN | apply below_drew1 | refine below_set ?_ GE222.out) | exact HB.out))); (case side2 => exact GK.below HGK.out (by repeat (first | (with_reducible first | exact HB.out | apply below_alloc | apply pw_below_drewN | apply below_drew1 | refine below_set ?_ GE222.out) | exact HB.out))); rintro e w22 ⟨rfl, hb⟩; have n0_ := Aside0.mk (blk_below (g := gb222) (o := .cells #[.slice A0_0 l0_0.length c0_0, .int .i64 a0_1] 28 (0, 0)) (by (with_reducible repeat (first | refine blk_drewN ?_ _ | refine blk_drew ?_ | refine blk_alloc ?_ _)); exact BK222.out) hb); have n1_ := Aside0.mk (below_step (by repeat (first | (with_reducible first | exact HB.out | apply below_alloc | apply pw_below_drewN | apply below_drew1 | refine below_set ?_ GE222.out) | exact HB.out)) hb); clear BK222; clear HB; have BK222 := n0_; have HB := n1_; clear n0_ n1_; (try clear hb); (try clear hb2); (try clear hk); (try clear hi)) | (go_at_call 23; (with_reducible refine (seedcornref50_Loads.calls k t230 t227 t231 _ A15.out).mono ?_); rintro e w23 ⟨rfl, hb⟩; have n0_ := Aside0.mk (blk_below (g := gb222) (o := .cells #[.slice A0_0 l0_0.length c0_0, .int .i64 a0_1] 28 (0, 0)) (by (with_reducible repeat (first | refine blk_drewN ?_ _ | refine blk_drew ?_ | refine blk_alloc ?_ _)); exact BK222.out) hb); have n1_ := Aside0.mk (below_step (by repeat (first | (with_reducible first | exact HB.out | apply below_alloc | apply pw_below_drewN | apply below_drew1 | refine below_set ?_ GE222.out) | exact HB.out)) hb); clear BK222; clear HB; have BK222 := n0_; have HB := n1_; clear n0_ n1_; (try clear hb); (try clear hb2); (try clear hk); (try clear hi)))
          go_ret
          exact ⟨by first | rfl | (simp [errW_none, errW_some] <;> rfl) | (simp [*, errW_none, errW_some] <;> rfl), by repeat (first | (with_reducible first | exact HB.out | apply below_alloc | apply pw_below_drewN | apply below_drew1 | refine below_set ?_ GE222.out) | exact HB.out)⟩
        · rw [if_neg c13] at H
          have c13b0 : (t229.toList == t224.toList) = false := beq_eq_false_iff_ne.mpr c13
          have c13b1 : (t229.toList != t224.toList) = true := bne_iff_ne.mpr c13
          obtain rfl := Option.some.inj H
          go_enter Tryd.func5, Tryd.ntmps5
          go_wp2_with (first | ((with_reducible refine gate_dst (N := 1) rfl ?_); refine box_event ?hg (N := 1) ?hd (cs := #[.slice A0_0 l0_0.length c0_0, .int .i64 a0_1]) (t := 28) ?hr ?_; (case hd => rfl); (case hg => rfl); (case hr => first | (go_simp; done) | (go_simp; rfl)); intro gb222 hg w24 hbox hb; have n0_ := Aside0.mk (below_step (by repeat (first | (with_reducible first | exact HB.out | apply below_alloc | apply pw_below_drewN | apply below_drew1) | exact HB.out)) hb); have n1_ := Aside0.mk (hbox); have n2_ := Aside0.mk ((by rw [hg]; exact (below_size (by repeat (first | (with_reducible first | exact HB.out | apply below_alloc | apply pw_below_drewN | apply below_drew1) | exact HB.out))) : w.heap.size ≤ gb222)); have n3_ := Aside0.mk ((by rw [hg]; exact (below_size (by repeat (first | (with_reducible first | exact HB.out | apply below_alloc | apply pw_below_drewN | apply below_drew1) | exact HB.out))) : w.heap.size ≤ gb222)); clear HB; have HB := n0_; have BK222 := n1_; have GW222 := n2_; have GE222 := n3_; clear n0_ n1_ n2_ n3_; clear hb hbox hg; have hcz25_0 : w24.cell? ⟨gb222, 0, none⟩ = some (.slice A0_0 l0_0.length c0_0) := (blk_cell BK222.out 0).trans rfl; have hcz25_1 : w24.cell? ⟨gb222, 1, none⟩ = some (.int .i64 a0_1) := (blk_cell BK222.out 1).trans rfl; have hfz25_0 := blk_frozen BK222.out 0; have hfz25_1 := blk_frozen BK222.out 1) | ((with_reducible refine gate_callee (f := 26) rfl ?_); refine goesL_ (some 13) rfl rfl Tryd.func26 (by kernel_rfl) rfl #[.agg #[.slice A0_0 l0_0.length c0_0, .int .i64 a0_1]] rfl (by (try simp only [List.map_toArray, List.map_cons, List.map_nil]); first | done | rfl | (simp only [List.length_drop, List.length_take]; rfl)) ?_; (with_reducible refine (seedcornref08_Put.calls k _ _ l0_0 a0_1 t224 t225 _ ?side1 ?side2 A7.out).mono ?_); (case side1 => repeat (first | exact (Kd.C_below HR0_0.out HB.out) | (with_reducible refine Kd.C_alloc ?_ _) | (with_reducible refine Kd.C_drewN ?_ _) | (with_reducible refine Kd.C_drew ?_))); (case side2 => exact HC0_0.out); rintro e w26 ⟨rfl, hb⟩; refine ⟨_, rfl, ?_⟩; have n0_ := Aside0.mk (blk_below (g := gb222) (o := .cells #[.slice A0_0 l0_0.length c0_0, .int .i64 a0_1] 28 (0, 0)) (by (with_reducible repeat (first | refine blk_drewN ?_ _ | refine blk_drew ?_ | refine blk_alloc ?_ _)); exact BK222.out) hb); have n1_ := Aside0.mk (below_step (by repeat (first | (with_reducible first | exact HB.out | apply below_alloc | apply pw_below_drewN | apply below_drew1 | refine below_set ?_ GE222.out) | exact HB.out)) hb); clear BK222; clear HB; have BK222 := n0_; have HB := n1_; clear n0_ n1_; (try clear hb); (try clear hb2); (try clear hk); (try clear hi)) | ((with_reducible refine gate_callee (f := 27) rfl ?_); refine goesL_ (some 20) rfl rfl Tryd.func27 (by kernel_rfl) rfl #[.string t224] rfl (by (try simp only [List.map_toArray, List.map_cons, List.map_nil]); first | done | rfl | (simp only [List.length_drop, List.length_take]; rfl)) ?_; (with_reducible refine (seedcornref02_Dump.calls t224 t227 _ A9.out).mono ?_); rintro e w27 ⟨rfl, hb⟩; refine ⟨_, rfl, ?_⟩; have n0_ := Aside0.mk (blk_below (g := gb222) (o := .cells #[.slice A0_0 l0_0.length c0_0, .int .i64 a0_1] 28 (0, 0)) (by (with_reducible repeat (first | refine blk_drewN ?_ _ | refine blk_drew ?_ | refine blk_alloc ?_ _)); exact BK222.out) hb); have n1_ := Aside0.mk (below_step (by repeat (first | (with_reducible first | exact HB.out | apply below_alloc | apply pw_below_drewN | apply below_drew1 | refine below_set ?_ GE222.out) | exact HB.out)) hb); clear BK222; clear HB; have BK222 := n0_; have HB := n1_; clear n0_ n1_; (try clear hb); (try clear hb2); (try clear hk); (try clear hi)) | ((with_reducible refine gate_callee (f := 22) rfl ?_); refine goesL_ (some 21) rfl rfl Tryd.func22 (by kernel_rfl) rfl #[] rfl (by (try simp only [List.map_toArray, List.map_cons, List.map_nil]); first | done | rfl | (simp only [List.length_drop, List.length_take]; rfl)) ?_; (with_reducible refine (seedcornlaw50_awake.calls k  true _ ?side1 ?side2 A10.out).mono ?_); (case side1 => exact GC.below HGC.out (by repeat (first | (with_reducible first | exact HB.out | apply below_alloc | apply pw_below_drewN | apply below_drew1 | refine below_set ?_ GE222.out) | exact HB.out))); (case side2 => exact GK.below HGK.out (by repeat (first | (with_reducible first | exact HB.out | apply below_alloc | apply pw_below_drewN | apply below_drew1 | refine below_set ?_ GE222.out) | exact HB.out))); rintro e w28 ⟨rfl, hb⟩; refine ⟨_, rfl, ?_⟩; have n0_ := Aside0.mk (blk_below (g := gb222) (o := .cells #[.slice A0_0 l0_0.length c0_0, .int .i64 a0_1] 28 (0, 0)) (by (with_reducible repeat (first | refine blk_drewN ?_ _ | refine blk_drew ?_ | refine blk_alloc ?_ _)); exact BK222.out) hb); have n1_ := Aside0.mk (below_step (by repeat (first | (with_reducible first | exact HB.out | apply below_alloc | apply pw_below_drewN | apply below_drew1 | refine below_set ?_ GE222.out) | exact HB.out)) hb); clear BK222; clear HB; have BK222 := n0_; have HB := n1_; clear n0_ n1_; (try clear hb); (try clear hb2); (try clear hk); (try clear hi)) | (go_at_call 28; (with_reducible refine (seedcornref02_Load.calls k t227 t229 _ A12.out).mono ?_); rintro e w29 ⟨rfl, hb⟩; have n0_ := Aside0.mk (blk_below (g := gb222) (o := .cells #[.slice A0_0 l0_0.length c0_0, .int .i64 a0_1] 28 (0, 0)) (by (with_reducible repeat (first | refine blk_drewN ?_ _ | refine blk_drew ?_ | refine blk_alloc ?_ _)); exact BK222.out) hb); have n1_ := Aside0.mk (below_step (by repeat (first | (with_reducible first | exact HB.out | apply below_alloc | apply pw_below_drewN | apply below_drew1 | refine below_set ?_ GE222.out) | exact HB.out)) hb); clear BK222; clear HB; have BK222 := n0_; have HB := n1_; clear n0_ n1_; (try clear hb); (try clear hb2); (try clear hk); (try clear hi)))
          go_ret
          exact ⟨by first | rfl | (simp [errW_none, errW_some] <;> rfl) | (simp [*, errW_none, errW_some] <;> rfl), by repeat (first | (with_reducible first | exact HB.out | apply below_alloc | apply pw_below_drewN | apply below_drew1 | refine below_set ?_ GE222.out) | exact HB.out)⟩
      · replace c11 := Bool.eq_false_iff.mpr c11
        subst c11
        have H1 : (some false) = some r := by rw [if_neg (show ¬ (false = true) by decide)] at H; exact H
        clear H
        have H := H1
        clear H1
        obtain rfl := Option.some.inj H
        go_enter Tryd.func5, Tryd.ntmps5
        go_wp2_with (first | ((with_reducible refine gate_dst (N := 1) rfl ?_); refine box_event ?hg (N := 1) ?hd (cs := #[.slice A0_0 l0_0.length c0_0, .int .i64 a0_1]) (t := 28) ?hr ?_; (case hd => rfl); (case hg => rfl); (case hr => first | (go_simp; done) | (go_simp; rfl)); intro gb222 hg w30 hbox hb; have n0_ := Aside0.mk (below_step (by repeat (first | (with_reducible first | exact HB.out | apply below_alloc | apply pw_below_drewN | apply below_drew1) | exact HB.out)) hb); have n1_ := Aside0.mk (hbox); have n2_ := Aside0.mk ((by rw [hg]; exact (below_size (by repeat (first | (with_reducible first | exact HB.out | apply below_alloc | apply pw_below_drewN | apply below_drew1) | exact HB.out))) : w.heap.size ≤ gb222)); have n3_ := Aside0.mk ((by rw [hg]; exact (below_size (by repeat (first | (with_reducible first | exact HB.out | apply below_alloc | apply pw_below_drewN | apply below_drew1) | exact HB.out))) : w.heap.size ≤ gb222)); clear HB; have HB := n0_; have BK222 := n1_; have GW222 := n2_; have GE222 := n3_; clear n0_ n1_ n2_ n3_; clear hb hbox hg; have hcz31_0 : w30.cell? ⟨gb222, 0, none⟩ = some (.slice A0_0 l0_0.length c0_0) := (blk_cell BK222.out 0).trans rfl; have hcz31_1 : w30.cell? ⟨gb222, 1, none⟩ = some (.int .i64 a0_1) := (blk_cell BK222.out 1).trans rfl; have hfz31_0 := blk_frozen BK222.out 0; have hfz31_1 := blk_frozen BK222.out 1) | ((with_reducible refine gate_callee (f := 26) rfl ?_); refine goesL_ (some 13) rfl rfl Tryd.func26 (by kernel_rfl) rfl #[.agg #[.slice A0_0 l0_0.length c0_0, .int .i64 a0_1]] rfl (by (try simp only [List.map_toArray, List.map_cons, List.map_nil]); first | done | rfl | (simp only [List.length_drop, List.length_take]; rfl)) ?_; (with_reducible refine (seedcornref08_Put.calls k _ _ l0_0 a0_1 t224 t225 _ ?side1 ?side2 A7.out).mono ?_); (case side1 => repeat (first | exact (Kd.C_below HR0_0.out HB.out) | (with_reducible refine Kd.C_alloc ?_ _) | (with_reducible refine Kd.C_drewN ?_ _) | (with_reducible refine Kd.C_drew ?_))); (case side2 => exact HC0_0.out); rintro e w32 ⟨rfl, hb⟩; refine ⟨_, rfl, ?_⟩; have n0_ := Aside0.mk (blk_below (g := gb222) (o := .cells #[.slice A0_0 l0_0.length c0_0, .int .i64 a0_1] 28 (0, 0)) (by (with_reducible repeat (first | refine blk_drewN ?_ _ | refine blk_drew ?_ | refine blk_alloc ?_ _)); exact BK222.out) hb); have n1_ := Aside0.mk (below_step (by repeat (first | (with_reducible first | exact HB.out | apply below_alloc | apply pw_below_drewN | apply below_drew1 | refine below_set ?_ GE222.out) | exact HB.out)) hb); clear BK222; clear HB; have BK222 := n0_; have HB := n1_; clear n0_ n1_; (try clear hb); (try clear hb2); (try clear hk); (try clear hi)) | ((with_reducible refine gate_callee (f := 27) rfl ?_); refine goesL_ (some 20) rfl rfl Tryd.func27 (by kernel_rfl) rfl #[.string t224] rfl (by (try simp only [List.map_toArray, List.map_cons, List.map_nil]); first | done | rfl | (simp only [List.length_drop, List.length_take]; rfl)) ?_; (with_reducible refine (seedcornref02_Dump.calls t224 t227 _ A9.out).mono ?_); rintro e w33 ⟨rfl, hb⟩; refine ⟨_, rfl, ?_⟩; have n0_ := Aside0.mk (blk_below (g := gb222) (o := .cells #[.slice A0_0 l0_0.length c0_0, .int .i64 a0_1] 28 (0, 0)) (by (with_reducible repeat (first | refine blk_drewN ?_ _ | refine blk_drew ?_ | refine blk_alloc ?_ _)); exact BK222.out) hb); have n1_ := Aside0.mk (below_step (by repeat (first | (with_reducible first | exact HB.out | apply below_alloc | apply pw_below_drewN | apply below_drew1 | refine below_set ?_ GE222.out) | exact HB.out)) hb); clear BK222; clear HB; have BK222 := n0_; have HB := n1_; clear n0_ n1_; (try clear hb); (try clear hb2); (try clear hk); (try clear hi)) | ((with_reducible refine gate_callee (f := 22) rfl ?_); refine goesL_ (some 21) rfl rfl Tryd.func22 (by kernel_rfl) rfl #[] rfl (by (try simp only [List.map_toArray, List.map_cons, List.map_nil]); first | done | rfl | (simp only [List.length_drop, List.length_take]; rfl)) ?_; (with_reducible refine (seedcornlaw50_awake.calls k  false _ ?side1 ?side2 A10.out).mono ?_); (case side1 => exact GC.below HGC.out (by repeat (first | (with_reducible first | exact HB.out | apply below_alloc | apply pw_below_drewN | apply below_drew1 | refine below_set ?_ GE222.out) | exact HB.out))); (case side2 => exact GK.below HGK.out (by repeat (first | (with_reducible first | exact HB.out | apply below_alloc | apply pw_below_drewN | apply below_drew1 | refine below_set ?_ GE222.out) | exact HB.out))); rintro e w34 ⟨rfl, hb⟩; refine ⟨_, rfl, ?_⟩; have n0_ := Aside0.mk (blk_below (g := gb222) (o := .cells #[.slice A0_0 l0_0.length c0_0, .int .i64 a0_1] 28 (0, 0)) (by (with_reducible repeat (first | refine blk_drewN ?_ _ | refine blk_drew ?_ | refine blk_alloc ?_ _)); exact BK222.out) hb); have n1_ := Aside0.mk (below_step (by repeat (first | (with_reducible first | exact HB.out | apply below_alloc | apply pw_below_drewN | apply below_drew1 | refine below_set ?_ GE222.out) | exact HB.out)) hb); clear BK222; clear HB; have BK222 := n0_; have HB := n1_; clear n0_ n1_; (try clear hb); (try clear hb2); (try clear hk); (try clear hi)))
        go_ret
        exact ⟨by first | rfl | (simp [errW_none, errW_some] <;> rfl) | (simp [*, errW_none, errW_some] <;> rfl), by repeat (first | (with_reducible first | exact HB.out | apply below_alloc | apply pw_below_drewN | apply below_drew1 | refine below_set ?_ GE222.out) | exact HB.out)⟩
    · rw [if_neg c8] at H
      have c8b0 : (t225 == 0) = false := beq_eq_false_iff_ne.mpr c8
      have c8b1 : (t225 != 0) = true := bne_iff_ne.mpr c8
      replace H := Option.bind_eq_some_iff.mp H
      obtain ⟨t226, A350, H⟩ := H
      replace H : (some t226) = some r := H
      have A35 := Aside0.mk A350
      clear A350
      obtain rfl := Option.some.inj H
      go_enter Tryd.func5, Tryd.ntmps5
      go_wp2_with (first | ((with_reducible refine gate_dst (N := 1) rfl ?_); refine box_event ?hg (N := 1) ?hd (cs := #[.slice A0_0 l0_0.length c0_0, .int .i64 a0_1]) (t := 28) ?hr ?_; (case hd => rfl); (case hg => rfl); (case hr => first | (go_simp; done) | (go_simp; rfl)); intro gb222 hg w36 hbox hb; have n0_ := Aside0.mk (below_step (by repeat (first | (with_reducible first | exact HB.out | apply below_alloc | apply pw_below_drewN | apply below_drew1) | exact HB.out)) hb); have n1_ := Aside0.mk (hbox); have n2_ := Aside0.mk ((by rw [hg]; exact (below_size (by repeat (first | (with_reducible first | exact HB.out | apply below_alloc | apply pw_below_drewN | apply below_drew1) | exact HB.out))) : w.heap.size ≤ gb222)); have n3_ := Aside0.mk ((by rw [hg]; exact (below_size (by repeat (first | (with_reducible first | exact HB.out | apply below_alloc | apply pw_below_drewN | apply below_drew1) | exact HB.out))) : w.heap.size ≤ gb222)); clear HB; have HB := n0_; have BK222 := n1_; have GW222 := n2_; have GE222 := n3_; clear n0_ n1_ n2_ n3_; clear hb hbox hg; have hcz37_0 : w36.cell? ⟨gb222, 0, none⟩ = some (.slice A0_0 l0_0.length c0_0) := (blk_cell BK222.out 0).trans rfl; have hcz37_1 : w36.cell? ⟨gb222, 1, none⟩ = some (.int .i64 a0_1) := (blk_cell BK222.out 1).trans rfl; have hfz37_0 := blk_frozen BK222.out 0; have hfz37_1 := blk_frozen BK222.out 1) | ((with_reducible refine gate_callee (f := 26) rfl ?_); refine goesL_ (some 13) rfl rfl Tryd.func26 (by kernel_rfl) rfl #[.agg #[.slice A0_0 l0_0.length c0_0, .int .i64 a0_1]] rfl (by (try simp only [List.map_toArray, List.map_cons, List.map_nil]); first | done | rfl | (simp only [List.length_drop, List.length_take]; rfl)) ?_; (with_reducible refine (seedcornref08_Put.calls k _ _ l0_0 a0_1 t224 t225 _ ?side1 ?side2 A7.out).mono ?_); (case side1 => repeat (first | exact (Kd.C_below HR0_0.out HB.out) | (with_reducible refine Kd.C_alloc ?_ _) | (with_reducible refine Kd.C_drewN ?_ _) | (with_reducible refine Kd.C_drew ?_))); (case side2 => exact HC0_0.out); rintro e w38 ⟨rfl, hb⟩; refine ⟨_, rfl, ?_⟩; have n0_ := Aside0.mk (blk_below (g := gb222) (o := .cells #[.slice A0_0 l0_0.length c0_0, .int .i64 a0_1] 28 (0, 0)) (by (with_reducible repeat (first | refine blk_drewN ?_ _ | refine blk_drew ?_ | refine blk_alloc ?_ _)); exact BK222.out) hb); have n1_ := Aside0.mk (below_step (by repeat (first | (with_reducible first | exact HB.out | apply below_alloc | apply pw_below_drewN | apply below_drew1 | refine below_set ?_ GE222.out) | exact HB.out)) hb); clear BK222; clear HB; have BK222 := n0_; have HB := n1_; clear n0_ n1_; (try clear hb); (try clear hb2); (try clear hk); (try clear hi)) | ((with_reducible refine gate_callee (f := 22) rfl ?_); refine goesL_ (some 18) rfl rfl Tryd.func22 (by kernel_rfl) rfl #[] rfl (by (try simp only [List.map_toArray, List.map_cons, List.map_nil]); first | done | rfl | (simp only [List.length_drop, List.length_take]; rfl)) ?_; (with_reducible refine (seedcornlaw50_awake.calls k  t226 _ ?side1 ?side2 A35.out).mono ?_); (case side1 => exact GC.below HGC.out (by repeat (first | (with_reducible first | exact HB.out | apply below_alloc | apply pw_below_drewN | apply below_drew1 | refine below_set ?_ GE222.out) | exact HB.out))); (case side2 => exact GK.below HGK.out (by repeat (first | (with_reducible first | exact HB.out | apply below_alloc | apply pw_below_drewN | apply below_drew1 | refine below_set ?_ GE222.out) | exact HB.out))); rintro e w39 ⟨rfl, hb⟩; refine ⟨_, rfl, ?_⟩; have n0_ := Aside0.mk (blk_below (g := gb222) (o := .cells #[.slice A0_0 l0_0.length c0_0, .int .i64 a0_1] 28 (0, 0)) (by (with_reducible repeat (first | refine blk_drewN ?_ _ | refine blk_drew ?_ | refine blk_alloc ?_ _)); exact BK222.out) hb); have n1_ := Aside0.mk (below_step (by repeat (first | (with_reducible first | exact HB.out | apply below_alloc | apply pw_below_drewN | apply below_drew1 | refine below_set ?_ GE222.out) | exact HB.out)) hb); clear BK222; clear HB; have BK222 := n0_; have HB := n1_; clear n0_ n1_; (try clear hb); (try clear hb2); (try clear hk); (try clear hi)))
      go_ret
      exact ⟨by first | rfl | (simp [errW_none, errW_some] <;> rfl) | (simp [*, errW_none, errW_some] <;> rfl), by repeat (first | (with_reducible first | exact HB.out | apply below_alloc | apply pw_below_drewN | apply below_drew1 | refine below_set ?_ GE222.out) | exact HB.out)⟩
end Go.Proofs.YtdhkmdgieflioaaDoor.F
namespace Go.Proofs.YtdhkmdgieflioaaDoor.F
open Go.RowKit Go.Proofs.YtdhkmdgieflioaaDoorW.PrintWords Go.Proofs.YtdhkmdgieflioaaDoorW.PrintLast Go.Proofs.YtdhkmdgieflioaaDoorW.PrintMore
set_option linter.unusedVariables false
set_option linter.unusedSimpArgs false
open Go.ChangeShapes
section
variable {H : Type} {enc : TypeId × Value → H} {P : Program} {w : World} {base : Nat} {spare : Nat → Bool} {held : Bool} {fuel : Nat} {t : TypeId} {cs : List Value}
theorem list_ext_parts (m : Nat) (hm : 0 < m) : ∀ (n : Nat) (cs : List Value) (gs : List (List Value)), cs.length = n * m → gs.length = n → (∀ i, i < n → (cs.drop (i * m)).take m = gs.getD i []) → cs = gs.flatMap id
  | 0, cs, gs, hl, hg, _ => by
    have h1 : cs = [] := List.eq_nil_of_length_eq_zero (by omega)
    have h2 : gs = [] := List.eq_nil_of_length_eq_zero hg
    subst h1 h2
    rfl
  | n + 1, cs, gs, hl, hg, h => by
    match gs, hg with
    | g :: gs, hg =>
      have h0 : cs.take m = g := by have := h 0 (by omega); simpa using this
      have hr := list_ext_parts m hm n (cs.drop m) gs (by rw [List.length_drop, hl, Nat.add_mul]; omega) (by simpa using hg) (fun i hi => by
        have := h (i + 1) (by omega)
        rw [List.drop_drop, show m + i * m = (i + 1) * m by rw [Nat.add_mul]; omega, this]
        rfl)
      rw [List.flatMap_cons, ← hr]
      show cs = g ++ cs.drop m
      rw [← h0, List.take_append_drop]
theorem cells_of_rows {n e m : Nat} (fl : DataW H → List Value) (ht : P.underlying t = some (.array n e)) (hm : 0 < m) (hce : P.cellsOf e = m) (hct : P.cellsOf t = n * m)
    (hel : ∀ (f : Nat) (c : List Value) (x : DataW H × List MemPlace), DataW.trod enc P w base spare held f e c = some x → c = fl x.1)
    {Ds : List (DataW H)} {p : List MemPlace} (h : DataW.trod enc P w base spare held fuel t cs = some (.agg Ds, p)) : cs = (Ds.map fl).flatMap id := by
  obtain ⟨xs, f, _, hx, hl, hn, hi⟩ := DataW.trod_array ht h
  have hD : Ds = xs.map (·.1) := by have := congrArg Prod.fst hx; simpa using this
  refine list_ext_parts m hm n cs _ (by rw [hl, hct]) (by rw [List.length_map, hD, List.length_map, hn]) (fun i hlt => ?_)
  have h1 := hi i hlt
  rw [hce] at h1
  have h2 : i < xs.length := by omega
  rw [List.getElem?_eq_getElem h2] at h1
  have h3 := hel _ _ _ h1
  rw [h3, hD]
  simp [List.getD_eq_getElem?_getD, h2]
end
def flKind {H : Type} : DataW H → List Value
  | .agg [.lit (.string a), .lit (.string b)] => [.string ⟨a.toArray⟩, .string ⟨b.toArray⟩]
  | _ => []
def flCode {H : Type} : DataW H → List Value
  | .agg [.agg [.lit (.int _ a), .lit (.int _ b), .lit (.int _ c), .lit (.int _ d)], .lit (.string s)] => [.int .i64 a, .int .i64 b, .int .i64 c, .int .i64 d, .string ⟨s.toArray⟩]
  | _ => []
theorem split2 {α : Type} (l : List α) (k : Nat) : l = l.take k ++ l.drop k := (List.take_append_drop k l).symm
theorem fl_kind {H : Type} {enc : TypeId × Value → H} {w : World} {base : Nat} {spare : Nat → Bool} {held : Bool} (f : Nat) (c : List Value) (x : DataW H × List MemPlace) (h : DataW.trod enc Tryd.prog w base spare held f 89 c = some x) : c = flKind x.1 := by
  obtain ⟨y0, y1, n, rfl, hl, h0, h1⟩ := trod_struct2 Tryd.underlying89 h
  have c9 : Tryd.prog.cellsOf 9 = 1 := by kernel_rfl
  have c89 : Tryd.prog.cellsOf 89 = 2 := by kernel_rfl
  rw [c89] at hl
  obtain ⟨s0, e0, rfl, _⟩ := DataW.trod_string Tryd.underlying9 h0
  obtain ⟨s1, e1, rfl, _⟩ := DataW.trod_string Tryd.underlying9 h1
  have e0' : c.take 1 = [.string s0] := by have h := e0; rw [c9] at h; exact h
  have e1' : (c.drop 1).take 1 = [.string s1] := by have h := e1; rw [c9] at h; exact h
  have hd : (c.drop 1).take 1 = c.drop 1 := List.take_of_length_le (by rw [List.length_drop, hl]; decide)
  rw [split2 c 1, e0', ← hd, e1']
  rfl
theorem fl_code {H : Type} {enc : TypeId × Value → H} {w : World} {base : Nat} {spare : Nat → Bool} {held : Bool} (f : Nat) (c : List Value) (x : DataW H × List MemPlace) (h : DataW.trod enc Tryd.prog w base spare held f 101 c = some x) : c = flCode x.1 := by
  obtain ⟨y0, y1, n, rfl, hl, h0, h1⟩ := trod_struct2 Tryd.underlying101 h
  have c9 : Tryd.prog.cellsOf 9 = 1 := by kernel_rfl
  have c3 : Tryd.prog.cellsOf 3 = 1 := by kernel_rfl
  have c46 : Tryd.prog.cellsOf 46 = 4 := by kernel_rfl
  have c101 : Tryd.prog.cellsOf 101 = 5 := by kernel_rfl
  rw [c101] at hl
  obtain ⟨s1, e1, rfl, _⟩ := DataW.trod_string Tryd.underlying9 h1
  obtain ⟨zs, n2, _, rfl, hl2, hz, hf⟩ := DataW.trod_struct Tryd.underlying46 h0
  have g0 := hf 0 _ rfl
  have g1 := hf 1 _ rfl
  have g2 := hf 2 _ rfl
  have g3 := hf 3 _ rfl
  match zs, hz, g0, g1, g2, g3 with
  | [z0, z1, z2, z3], _, g0, g1, g2, g3 =>
    obtain ⟨a0, b0, rfl, _⟩ := DataW.trod_int Tryd.underlying3 (show _ = some z0 from g0)
    obtain ⟨a1, b1, rfl, _⟩ := DataW.trod_int Tryd.underlying3 (show _ = some z1 from g1)
    obtain ⟨a2, b2, rfl, _⟩ := DataW.trod_int Tryd.underlying3 (show _ = some z2 from g2)
    obtain ⟨a3, b3, rfl, _⟩ := DataW.trod_int Tryd.underlying3 (show _ = some z3 from g3)
    have e1' : (c.drop 4).take 1 = [.string s1] := by have h := e1; rw [c9] at h; exact h
    have hd : (c.drop 4).take 1 = c.drop 4 := List.take_of_length_le (by rw [List.length_drop, hl]; decide)
    have k0 : ((c.take 4).drop 0).take 1 = [.int .i64 a0] := by have h : List.take (Tryd.prog.cellsOf 3) (List.drop 0 (List.take (Tryd.prog.cellsOf 46) (List.drop 0 c))) = [.int .i64 a0] := b0; rw [c3, c46] at h; exact h
    have k1 : ((c.take 4).drop 1).take 1 = [.int .i64 a1] := by have h : List.take (Tryd.prog.cellsOf 3) (List.drop 1 (List.take (Tryd.prog.cellsOf 46) (List.drop 0 c))) = [.int .i64 a1] := b1; rw [c3, c46] at h; exact h
    have k2 : ((c.take 4).drop 2).take 1 = [.int .i64 a2] := by have h : List.take (Tryd.prog.cellsOf 3) (List.drop 2 (List.take (Tryd.prog.cellsOf 46) (List.drop 0 c))) = [.int .i64 a2] := b2; rw [c3, c46] at h; exact h
    have k3 : ((c.take 4).drop 3).take 1 = [.int .i64 a3] := by have h : List.take (Tryd.prog.cellsOf 3) (List.drop 3 (List.take (Tryd.prog.cellsOf 46) (List.drop 0 c))) = [.int .i64 a3] := b3; rw [c3, c46] at h; exact h
    have hq : c.take 4 = [.int .i64 a0, .int .i64 a1, .int .i64 a2, .int .i64 a3] := by
      have := list_ext_parts 1 (by omega) 4 (c.take 4) [[.int .i64 a0], [.int .i64 a1], [.int .i64 a2], [.int .i64 a3]] (by rw [List.length_take, hl]; rfl) rfl (fun i hi => by
        have : i = 0 ∨ i = 1 ∨ i = 2 ∨ i = 3 := by omega
        rcases this with rfl | rfl | rfl | rfl
        · exact k0
        · exact k1
        · exact k2
        · exact k3)
      simpa using this
    rw [split2 c 4, hq, ← hd, e1']
    rfl
theorem tyKinds : (Tryd.prog.globals[0]?).map (·.type) = some 90 := by kernel_rfl
theorem tyCode : (Tryd.prog.globals[1]?).map (·.type) = some 102 := by kernel_rfl
theorem gk_of {W : World} {rest : List (String × DataW Unit)} (h : laidMet Tryd.prog (("seedcorn/inst.kinds", Rows.laid_seedcorn_inst_kinds) :: rest) W) : GK W := by
  obtain ⟨ps, ⟨g', t', cs, fuel, p, q, hg', ht', hvar, hd, _, _⟩, _⟩ := h
  obtain rfl := Option.some.inj (g_kinds.symm.trans hg')
  obtain rfl := Option.some.inj (tyKinds.symm.trans ht')
  have hc := cells_of_rows (n := 28) (e := 89) (m := 2) flKind Tryd.underlying90 (by omega) (by kernel_rfl) (by kernel_rfl) fl_kind hd
  refine ⟨?_⟩
  rw [hvar]
  cases cs with
  | mk l =>
    simp only at hc
    subst hc
    rfl
theorem gc_of {W : World} {rest : List (String × DataW Unit)} (h : laidMet Tryd.prog (("seedcorn/seed.code", Rows.laid_seedcorn_seed_code) :: rest) W) : GC W := by
  obtain ⟨ps, ⟨g', t', cs, fuel, p, q, hg', ht', hvar, hd, _, _⟩, _⟩ := h
  obtain rfl := Option.some.inj (g_code.symm.trans hg')
  obtain rfl := Option.some.inj (tyCode.symm.trans ht')
  have hc := cells_of_rows (n := 37) (e := 101) (m := 5) flCode Tryd.underlying102 (by omega) (by kernel_rfl) (by kernel_rfl) fl_code hd
  refine ⟨?_⟩
  rw [hvar]
  cases cs with
  | mk l =>
    simp only at hc
    subst hc
    rfl
theorem laid_seed {W : World} (h : laidMet Tryd.prog [("seedcorn/inst.kinds", Rows.laid_seedcorn_inst_kinds), ("seedcorn/seed.code", Rows.laid_seedcorn_seed_code)] W) : GK W ∧ GC W := ⟨gk_of h, gc_of h.tail⟩
end Go.Proofs.YtdhkmdgieflioaaDoor.F
namespace Go.Proofs.YtdhkmdgieflioaaDoor.F
open Go.RowKit Go.Proofs.YtdhkmdgieflioaaDoorW.PrintWords Go.Proofs.YtdhkmdgieflioaaDoorW.PrintLast Go.Proofs.YtdhkmdgieflioaaDoorW.PrintMore
set_option linter.unusedVariables false
set_option linter.unusedSimpArgs false
open SeedSim
theorem by_l1 (l : List Int) (i : Nat) (d : Nat) : ∀ (j : Nat) (x3 : List Int) (v : Int), j + d = 4 → x3.length + d ≤ 100000 →
    ∃ y : List Int, y.length = x3.length + d ∧ ∀ r, (Ev (fun k => seedcornref01_Bytes.l0 k l y (wrap64 ((i : Int) + 1))) r → Ev (fun k => seedcornref01_Bytes.l1 k l x3 (i : Int) v (j : Int)) r) := by
  induction d with
  | zero =>
    intro j x3 v hj hx
    refine ⟨x3, rfl, fun r h => Ev.step (fun k => ?_) h⟩
    simp only [seedcornref01_Bytes.l1]
    rw [if_neg (by omega)]
  | succ d ih =>
    intro j x3 v hj hx
    obtain ⟨y, h1, h2⟩ := ih (j + 1) (x3 ++ [(Int.tmod v 256) % 256]) ((Int.tdiv v 256) % 4294967296) (by omega) (by rw [List.length_append, List.length_singleton]; omega)
    refine ⟨y, by rw [h1, List.length_append, List.length_singleton]; omega, fun r h => Ev.step (fun k => ?_) (h2 r h)⟩
    simp only [seedcornref01_Bytes.l1]
    rw [if_pos (by omega), if_pos (by omega), wrapS (x := (j : Int) + 1) (by omega) (by omega)]
    rfl
theorem by_l0 (l : List Int) (hl : l.length ≤ 1000) (d : Nat) : ∀ (i : Nat) (x3 : List Int), i + d = l.length → x3.length = 4 * i →
    ∃ b : ByteArray, b.size = 4 * l.length ∧ Ev (fun k => seedcornref01_Bytes.l0 k l x3 (i : Int)) b := by
  induction d with
  | zero =>
    intro i x3 hi hx
    refine ⟨strOfNums x3, by rw [strOfNums_size]; omega, Ev.step (f := fun _ => some (strOfNums x3)) (fun k => ?_) (Ev.now _)⟩
    simp only [seedcornref01_Bytes.l0]
    rw [if_neg (by omega)]
  | succ d ih =>
    intro i x3 hi hx
    obtain ⟨y, h1, h2⟩ := by_l1 l i 4 0 x3 (rd l (i : Int)) (by omega) (by omega)
    obtain ⟨b, h3, h4⟩ := ih (i + 1) y (by omega) (by omega)
    refine ⟨b, h3, Ev.step (fun k => ?_) (h2 b ?_)⟩
    · simp only [seedcornref01_Bytes.l0]
      rw [if_pos (by omega), if_pos (by omega)]
      rfl
    · rw [wrapS (x := (i : Int) + 1) (by omega) (by omega)]
      exact h4
theorem bytes01_ev (l : List Int) (hl : l.length ≤ 1000) : ∃ b : ByteArray, b.size = 4 * l.length ∧ Ev (fun k => seedcornref01_Bytes.f k l) b := by
  obtain ⟨b, h1, h2⟩ := by_l0 l hl l.length 0 [] (by omega) rfl
  refine ⟨b, h1, Ev.congr (fun k => ?_) h2⟩
  unfold seedcornref01_Bytes.f
  rw [wrapS (x := 4 * (l.length : Int)) (by omega) (by omega), if_pos (by omega), if_pos (by omega)]
  rfl
theorem put_ev (l : List Int) (d : Int) (hl : l.length ≤ 40) : ∃ (s : ByteArray) (e : Int), s.size ≤ 200 ∧ Ev (fun k => seedcornref08_Put.f k l d) (s, e) := by
  unfold seedcornref08_Put.f
  rw [right8_f]
  by_cases h : l.length ≤ 16384 ∧ 0 ≤ d ∧ d ≤ 32768
  · rw [decide_eq_true h]
    obtain ⟨b1, s1, e1⟩ := bytes01_ev ([((l.length : Int)) % 4294967296, d % 4294967296] : List Int) (by simp)
    obtain ⟨b2, s2, e2⟩ := bytes01_ev l (by omega)
    have h2 : ([((l.length : Int)) % 4294967296, d % 4294967296] : List Int).length = 2 := rfl
    have h4 : (⟨#[83, 69, 69, 68]⟩ : ByteArray).size = 4 := rfl
    refine ⟨((⟨#[83, 69, 69, 68]⟩ : ByteArray) ++ b1) ++ b2, 0, by rw [ByteArray.size_append, ByteArray.size_append, h4]; omega, ?_⟩
    refine Ev.congr (f := fun k => (seedcornref01_Bytes.f k (([((l.length : Int)) % 4294967296, d % 4294967296] : List Int))).bind fun t211 => (if 4 + t211.size ≤ 9223372036854775807 then ((seedcornref01_Bytes.f k l).bind fun t212 => (if ((⟨#[83, 69, 69, 68]⟩ : ByteArray) ++ t211).size + t212.size ≤ 9223372036854775807 then (some (((⟨#[83, 69, 69, 68]⟩ : ByteArray) ++ t211) ++ t212, 0)) else (none))) else (none))) (fun k => by simp only [Option.bind_some, if_true]) ?_
    refine Ev.bind e1 ?_
    refine Ev.congr (f := fun k => (seedcornref01_Bytes.f k l).bind fun t212 => (if ((⟨#[83, 69, 69, 68]⟩ : ByteArray) ++ b1).size + t212.size ≤ 9223372036854775807 then (some (((⟨#[83, 69, 69, 68]⟩ : ByteArray) ++ b1) ++ t212, (0 : Int))) else (none))) (fun k => by rw [if_pos (by omega)]) ?_
    refine Ev.bind e2 ?_
    exact Ev.congr (fun k => by rw [if_pos (by rw [ByteArray.size_append, h4]; omega)]) (Ev.now _)
  · rw [decide_eq_false h]
    exact ⟨⟨#[]⟩, 1, by decide, Ev.congr (fun k => by simp only [Option.bind_some, Bool.false_eq_true, if_false]) (Ev.now _)⟩
theorem two_loads (pre : List Int) (c : Int) (h0 : 0 ≤ c) (h1 : c ≤ 255) : loads ⟨false, -1, pre⟩ [sgn (c / 16), sgn (c % 16)] = ⟨false, -1, pre ++ [c]⟩ := by
  have d1 := digit_sgn (c / 16) (by omega) (by omega)
  have d2 := digit_sgn (c % 16) (by omega) (by omega)
  show lstep (lstep ⟨false, -1, pre⟩ (sgn (c / 16))) (sgn (c % 16)) = _
  have k1 : lstep ⟨false, -1, pre⟩ (sgn (c / 16)) = ⟨false, c / 16, pre⟩ := by
    unfold lstep
    simp only [if_neg d1.2.1, if_neg d1.2.2, d1.1]
    rw [if_neg (by simp; omega), if_pos (by decide)]
  rw [k1]
  unfold lstep
  simp only [if_neg d2.2.1, if_neg d2.2.2, d2.1]
  rw [if_neg (by simp; omega), if_neg (by omega)]
  have hc16 : 16 * (c / 16) + c % 16 = c := by omega
  rw [hc16]
theorem note_loads (pre : List Int) (i : Nat) (hi : i < 1000) : loads ⟨false, -1, pre⟩ (dnote i) = ⟨false, -1, pre⟩ := by
  have hd := (dec_at (i / 16) (by omega)).2.2
  rw [show 16 * (i / 16) = i - i % 16 by omega] at hd
  unfold dnote
  have e : [32, 32, 35, 32] ++ inpL (decOf (i - i % 16)) ++ [10] = [32, 32, 35] ++ ([32] ++ inpL (decOf (i - i % 16))) ++ [10] := by simp
  rw [e, loads_append, loads_append]
  have e1 : loads ⟨false, -1, pre⟩ [32, 32, 35] = ⟨true, -1, pre⟩ := by
    show lstep (lstep (lstep ⟨false, -1, pre⟩ 32) 32) 35 = _
    simp [lstep, digit]
  rw [e1, loads_note _ _ (by
    intro c hc
    rcases List.mem_append.1 hc with h | h
    · rw [List.mem_singleton] at h; omega
    · exact hd c h)]
  show lstep ⟨true, -1, pre⟩ 10 = _
  simp [lstep, digit]
theorem piece_loads (pre : List Int) (n i : Nat) (c : Int) (h0 : 0 ≤ c) (h1 : c ≤ 255) (hi : i < 1000) : loads ⟨false, -1, pre⟩ (dpiece n i c) = ⟨false, -1, pre ++ [c]⟩ := by
  unfold dpiece
  rw [loads_append, loads_append]
  have e1 : loads ⟨false, -1, pre⟩ (if i % 16 > 0 then [32] else []) = ⟨false, -1, pre⟩ := by
    split
    · show lstep ⟨false, -1, pre⟩ 32 = _
      simp [lstep, digit]
    · rfl
  rw [e1, two_loads pre c h0 h1]
  split
  · exact note_loads _ i hi
  · rfl
theorem dump_loads (n : Nat) : ∀ (l : List Int) (i : Nat) (pre : List Int), i + l.length ≤ 1000 → (∀ x ∈ l, 0 ≤ x ∧ x ≤ 255) → loads ⟨false, -1, pre⟩ (dumpL n i l) = ⟨false, -1, pre ++ l⟩
  | [], _, pre, _, _ => by simp [dumpL, loads]
  | c :: r, i, pre, hi, h => by
    rw [List.length_cons] at hi
    have hc := h c (List.mem_cons_self ..)
    rw [dumpL, loads_append, piece_loads pre n i c hc.1 hc.2 (by omega), dump_loads n r (i + 1) _ (by omega) (fun x hx => h x (List.mem_cons_of_mem _ hx)), List.append_assoc]
    rfl
theorem dump_bytes (n : Nat) : ∀ (l : List Int) (i : Nat), (∀ x ∈ l, 0 ≤ x ∧ x ≤ 255) → ∀ x ∈ dumpL n i l, 0 ≤ x ∧ x ≤ 255
  | [], _, _ => by simp [dumpL]
  | c :: r, i, h => by
    have hc := h c (List.mem_cons_self ..)
    intro x hx
    rw [dumpL] at hx
    rcases List.mem_append.1 hx with hx | hx
    · unfold dpiece dnote at hx
      rcases List.mem_append.1 hx with hx | hx
      · rcases List.mem_append.1 hx with hx | hx
        · split at hx
          · rw [List.mem_singleton] at hx; omega
          · simp at hx
        · simp only [List.mem_cons, List.not_mem_nil, or_false] at hx
          rcases hx with rfl | rfl
          · exact sgn_byte _ (by omega) (by omega)
          · exact sgn_byte _ (by omega) (by omega)
      · split at hx
        · rcases List.mem_append.1 hx with hx | hx
          · rcases List.mem_append.1 hx with hx | hx
            · simp only [List.mem_cons, List.not_mem_nil, or_false] at hx
              omega
            · exact inpL_byte _ x hx
          · rw [List.mem_singleton] at hx; omega
        · simp at hx
    · exact dump_bytes n r (i + 1) (fun y hy => h y (List.mem_cons_of_mem _ hy)) x hx
theorem load_dump (s : ByteArray) (hs : s.size ≤ 1000) : loadOf (strOfNums (dumpL s.size 0 (inpL s))) = s := by
  refine inpL_inj _ _ ?_
  unfold loadOf
  rw [inpL_nums _ (dump_bytes s.size (inpL s) 0 (fun x hx => inpL_byte s x hx)), dump_loads s.size (inpL s) 0 [] (by rw [inpL_len]; omega) (fun x hx => inpL_byte s x hx), List.nil_append]
  exact inpL_nums _ (fun x hx => inpL_byte s x hx)
theorem seedImages_pure (l : List Int) (d : Int) (_h : inR l) {q : Prop} (_ : q) : ∃ k, seedcornlaw50_SeedImages.f k l d = some true := by
  refine Ev.rounds (g := fun k => seedcornlaw50_SeedImages.f k l d) ?_
  unfold seedcornlaw50_SeedImages.f
  by_cases hl : (l.length : Int) > 40
  · exact Ev.congr (fun k => by rw [if_pos hl]) (Ev.bind awake_f (Ev.now _))
  · refine Ev.congr (fun k => by rw [if_neg hl]) ?_
    obtain ⟨s, e, hs, hp⟩ := put_ev l d (by omega)
    refine Ev.bind hp ?_
    by_cases he : e = 0
    · subst he
      have hdl := dump_len s.size (inpL s) 0 (by rw [inpL_len]; omega)
      rw [inpL_len] at hdl
      have hds : (strOfNums (dumpL s.size 0 (inpL s))).size ≤ 4000 := by rw [strOfNums_size]; omega
      have hdf : seedcornref02_Dump.f s = some (strOfNums (dumpL s.size 0 (inpL s))) := by unfold seedcornref02_Dump.f; rw [if_pos (by omega)]
      have hld := load_dump s (by omega)
      generalize strOfNums (dumpL s.size 0 (inpL s)) = D at hds hdf hld
      refine Ev.congr (f := fun k => ((seedcornlaw50_awake.f k).bind fun t228 => (if t228 = true then ((seedcornref02_Load.f k D).bind fun t229 => (if t229.toList = s.toList then ((seed_Image.f k).bind fun t230 => ((seedcornref50_Loads.f k t230 D).bind fun t231 => (some t231))) else (some false))) else (some false)))) (fun k => by rw [hdf]; rfl) ?_
      refine Ev.bind awake_f ?_
      refine Ev.congr (fun k => by rw [if_pos rfl]) ?_
      refine Ev.bind (load_f D (by omega)) ?_
      rw [hld]
      refine Ev.congr (fun k => by rw [if_pos rfl]) ?_
      refine Ev.bind image_ev ?_
      exact Ev.bind (loads_f D (by omega)) (Ev.now _)
    · refine Ev.congr (f := fun k => (seedcornlaw50_awake.f k).bind fun t226 => (some t226)) (fun k => ?_) (Ev.bind awake_f (Ev.now _))
      dsimp only
      rw [if_neg he]
end Go.Proofs.YtdhkmdgieflioaaDoor.F
namespace Go.Proofs.YtdhkmdgieflioaaDoor.F
open Go.RowKit Go.Proofs.YtdhkmdgieflioaaDoorW.PrintWords Go.Proofs.YtdhkmdgieflioaaDoorW.PrintLast Go.Proofs.YtdhkmdgieflioaaDoorW.PrintMore
set_option linter.unusedVariables false
set_option linter.unusedSimpArgs false
def headW1 : List Nat := [104, 97, 114, 110, 101, 115, 115]
def headW2 : List Nat := [51, 50, 102, 55, 102, 55, 97, 101, 99, 55, 52, 52, 56, 51, 55, 56, 98, 52, 55, 102, 57, 52, 99, 49, 52, 97, 48, 50, 49, 98, 55, 100, 99, 53, 55, 49, 51, 48, 101, 52, 51, 98, 52, 52, 53, 48, 56, 49, 57, 98, 55, 57, 53, 56, 54, 51, 100, 98, 99, 98, 102, 102, 56, 55]
def headW3 : List Nat := [99, 117, 116]
def headRest : List Nat := [97, 116, 32, 115, 101, 101, 100, 99, 111, 114, 110, 47, 115, 101, 101, 100, 99, 111, 114, 110, 108, 97, 119, 53, 48, 46, 83, 101, 101, 100, 76, 111, 97, 100, 115, 32, 115, 101, 101, 100, 99, 111, 114, 110, 47, 115, 101, 101, 100, 99, 111, 114, 110, 108, 97, 119, 53, 48, 46, 83, 101, 101, 100, 83, 109, 97, 108, 108, 32, 115, 101, 101, 100, 99, 111, 114, 110, 47, 115, 101, 101, 100, 99, 111, 114, 110, 108, 97, 119, 53, 48, 46, 83, 101, 101, 100, 73, 109, 97, 103, 101, 115, 32, 115, 101, 101, 100, 99, 111, 114, 110, 47, 115, 101, 101, 100, 99, 111, 114, 110, 108, 97, 119, 53, 48, 46, 83, 101, 101, 100, 78, 111, 116, 101, 115, 32, 115, 101, 101, 100, 99, 111, 114, 110, 47, 115, 101, 101, 100, 99, 111, 114, 110, 108, 97, 119, 53, 48, 46, 83, 101, 101, 100, 84, 119, 111, 32, 115, 101, 101, 100, 99, 111, 114, 110, 47, 115, 101, 101, 100, 99, 111, 114, 110, 108, 97, 119, 49, 49, 46, 76, 105, 115, 116, 105, 110, 103, 71, 111, 101, 115, 79, 110, 32, 115, 101, 101, 100, 99, 111, 114, 110, 47, 115, 101, 101, 100, 99, 111, 114, 110, 108, 97, 119, 48, 55, 46, 73, 110, 115, 116, 67, 111, 100, 101, 115, 32, 115, 101, 101, 100, 99, 111, 114, 110, 47, 115, 101, 101, 100, 99, 111, 114, 110, 108, 97, 119, 49, 49, 46, 76, 105, 115, 116, 105, 110, 103, 68, 97, 116, 97, 32, 115, 101, 101, 100, 99, 111, 114, 110, 47, 115, 101, 101, 100, 99, 111, 114, 110, 108, 97, 119, 48, 55, 46, 73, 110, 115, 116, 82, 101, 97, 100, 115, 32, 115, 101, 101, 100, 99, 111, 114, 110, 47, 115, 101, 101, 100, 99, 111, 114, 110, 108, 97, 119, 48, 55, 46, 73, 110, 115, 116, 65, 112, 97, 114, 116, 32, 115, 101, 101, 100, 99, 111, 114, 110, 47, 115, 101, 101, 100, 99, 111, 114, 110, 108, 97, 119, 48, 55, 46, 73, 110, 115, 116, 70, 105, 101, 108, 100, 115, 32, 115, 101, 101, 100, 99, 111, 114, 110, 47, 115, 101, 101, 100, 99, 111, 114, 110, 108, 97, 119, 48, 55, 46, 73, 110, 115, 116, 67, 111, 117, 110, 116, 115, 32, 115, 101, 101, 100, 99, 111, 114, 110, 47, 115, 101, 101, 100, 99, 111, 114, 110, 108, 97, 119, 48, 55, 46, 73, 110, 115, 116, 78, 97, 109, 101, 115, 32, 115, 101, 101, 100, 99, 111, 114, 110, 47, 115, 101, 101, 100, 99, 111, 114, 110, 108, 97, 119, 53, 48, 46, 83, 101, 101, 100, 73, 116, 115, 101, 108, 102, 32, 115, 101, 101, 100, 99, 111, 114, 110, 47, 115, 101, 101, 100, 99, 111, 114, 110, 108, 97, 119, 49, 49, 46, 76, 105, 115, 116, 105, 110, 103, 84, 97, 114, 103, 101, 116, 115, 32, 115, 101, 101, 100, 99, 111, 114, 110, 47, 115, 101, 101, 100, 99, 111, 114, 110, 108, 97, 119, 49, 49, 46, 76, 105, 115, 116, 105, 110, 103, 84, 101, 120, 116, 32, 115, 101, 101, 100, 99, 111, 114, 110, 47, 115, 101, 101, 100, 99, 111, 114, 110, 108, 97, 119, 49, 49, 46, 76, 105, 115, 116, 105, 110, 103, 76, 105, 110, 101, 115, 32, 115, 101, 101, 100, 99, 111, 114, 110, 47, 115, 101, 101, 100, 99, 111, 114, 110, 108, 97, 119, 49, 49, 46, 76, 105, 115, 116, 105, 110, 103, 80, 108, 97, 99, 101, 115, 32, 115, 101, 101, 100, 99, 111, 114, 110, 47, 115, 101, 101, 100, 99, 111, 114, 110, 108, 97, 119, 49, 49, 46, 76, 105, 115, 116, 105, 110, 103, 65, 112, 97, 114, 116]
def chars (l : List Nat) : List Char := l.map Char.ofNat
theorem head_is : Tryd.prog.initOrder = String.ofList (chars headW1 ++ Char.ofNat 32 :: (chars headW2 ++ Char.ofNat 32 :: (chars headW3 ++ Char.ofNat 32 :: chars headRest))) := by kernel_rfl
theorem words_step : ∀ (w r : List Char), (∀ c ∈ w, c ≠ Char.ofNat 32) → wordsSigns (w ++ Char.ofNat 32 :: r) = w :: wordsSigns r
  | [], r, _ => rfl
  | c :: w, r, h => by
    have ih := words_step w r (fun d hd => h d (List.mem_cons_of_mem _ hd))
    have hc := h c (List.mem_cons_self ..)
    show wordsSigns (c :: (w ++ Char.ofNat 32 :: r)) = _
    rw [wordsSigns.eq_def]
    split
    · rename_i e; cases e
    · rename_i e; injection e with e1 e2; exact absurd e1 hc
    · rename_i c' r' hne e
      injection e with e1 e2
      subst e1 e2
      rw [ih]
theorem words_head : wordsSigns Tryd.prog.initOrder.toList = chars headW1 :: chars headW2 :: chars headW3 :: wordsSigns (chars headRest) := by
  rw [head_is, String.toList_ofList]
  rw [words_step _ _ (by decide +kernel), words_step _ _ (by decide +kernel), words_step _ _ (by decide +kernel)]
theorem head0 : behindMainWord (wordsSigns Tryd.prog.initOrder.toList) = chars headW3 :: wordsSigns (chars headRest) := by
  rw [words_head]
  unfold behindMainWord
  simp only
  rw [if_pos (by decide +kernel)]
section
variable {P : Program}
theorem mainIs_of {s : List Char} {R : List (List Char)} (h : wordsSigns P.initOrder.toList = chars headW1 :: s :: R) (hs : isSumSigns s = true) : P.mainIs = some (true, s) := by
  unfold Program.mainIs
  rw [h]
  simp only [hs, Bool.not_true]
  rw [if_neg (by decide), if_pos (by decide +kernel)]
theorem headLifts_of {R : List (List Char)} (h : behindMainWord (wordsSigns P.initOrder.toList) = chars headW3 :: R) : P.headLifts = [] := by
  unfold Program.headLifts
  rw [h]
  kernel_rfl
theorem liftsFinal_of {R : List (List Char)} (h : behindMainWord (wordsSigns P.initOrder.toList) = chars headW3 :: R) : P.liftsFinal = false := by
  unfold Program.liftsFinal
  rw [h, headLifts_of h]
  kernel_rfl
theorem make_of {R : List (List Char)} (h : behindMainWord (wordsSigns P.initOrder.toList) = chars headW3 :: R) : P.make = some .cut := by
  unfold Program.make
  rw [h, headLifts_of h]
  kernel_rfl
theorem strip_of {R : List (List Char)} : stripLifts liftWords (chars headW3 :: R) = ([], chars headW3 :: R) := by kernel_rfl
theorem mayEnter_of {R : List (List Char)} (h : behindMainWord (wordsSigns P.initOrder.toList) = chars headW3 :: R) (h1 : P.laysLater = false) (h2 : P.bearsReflect = false) (h3 : P.doorFits [] = true) : P.mayEnter = true := by
  unfold Program.mayEnter
  rw [h]
  simp only [strip_of, h1, h2, h3]
  kernel_rfl
end
theorem main_is : Tryd.prog.mainIs = some (true, chars headW2) := mainIs_of words_head (by kernel_rfl)
theorem lifts_final : Tryd.prog.liftsFinal = false := liftsFinal_of head0
theorem make_cut : Tryd.prog.make = some .cut := make_of head0
theorem lays_later : Tryd.prog.laysLater = false := by kernel_rfl
theorem bears_reflect : Tryd.prog.bearsReflect = false := by kernel_rfl
theorem door_fits : Tryd.prog.doorFits [] = true := by kernel_rfl
theorem may_enter : Tryd.prog.mayEnter = true := mayEnter_of head0 lays_later bears_reflect door_fits
def kindsOf (P : Program) (fn : Func) (c : OpenClaim) : List (Option IntKind) := if c.domain.isEmpty then [] else fn.params.toList.map fun t => match P.underlying t with | some (.int k) => some k | _ => none
theorem joined_of {P : Program} {f : FuncId} {fn : Func} {s : ChangeSpec} {c : OpenClaim}
    (k1 : c.wf (OpenSpec.ofChange s) = true) (k2 : laidOutB P = true) (k3 : mapsRowed P = true)
    (k4 : fn.params.all (P.readableRec ·) = true) (k5 : namedTie P c.named s.vars = true)
    (k6 : (c.stops == []) = true) (k7 : (P.stops == []) = true) (k8 : (c.knobs == []) = true) (k9 : (P.stopKnobs == []) = true)
    (k10 : (c.inPlace == P.inPlace f) = true) (k11 : (c.unfollowed == P.unfollowed f) = true) (k12 : (c.recurses == P.recurses f) = true) (k13 : (c.named == P.varsNamed f) = true)
    (k14 : (c.maps == (fn.params.toList ++ s.plain.varTypes P).any (P.mapsRec ·)) = true) (k15 : (c.ifaces == (fn.params.toList ++ s.plain.varTypes P).any (P.ifacesRec ·)) = true) (k16 : (c.mapsOut == P.mapsAmong fn.resultTypes.toList) = true)
    (k17 : (c.loops == (fn.params.toList ++ s.plain.varTypes P).any (P.loopsFrom ·)) = true) (k18 : (c.wideKeys == (fn.params.toList ++ s.plain.varTypes P ++ fn.resultTypes.toList).any (P.wideKeysFrom ·)) = true)
    (k19 : s.vars.all (P.varReadable ·) = true) (k20 : fn.resultTypes.all (fun t => P.readableRec t && decide (t < P.types.size)) = true) (k21 : (c.ifacesOut == fn.resultTypes.toList.any (P.ifacesRec ·)) = true) (k22 : (c.loopsOut == fn.resultTypes.toList.any (P.loopsFrom ·)) = true) (k23 : (c.plainKeys == P.plainKeys) = true)
    (k24 : c.shortTexts.isNone = true) (k25 : P.stopsHeard = true) (k26 : P.mayEnter = true) (k27 : (c.lifted == P.liftsFinal) = true) (k28 : (P.make == some c.make) = true)
    (k29 : (c.kinds == kindsOf P fn c) = true) (k30 : (c.pinned == c.pinnedBy) = true)
    (k31 : (c.veiled == (fn.params.toList ++ s.plain.varTypes P ++ fn.resultTypes.toList).any (P.veiledRec ·)) = true) (k32 : c.veiledFits P fn.params.toList (fn.params.toList ++ s.plain.varTypes P ++ fn.resultTypes.toList) = true) :
    joinedFacts P f fn s c = true := by
  have h2 : ∀ a b : Bool, a = true → b = true → (a && b) = true := fun a b ha hb => by rw [ha, hb]; rfl
  unfold joinedFacts
  exact h2 _ _ (h2 _ _ (h2 _ _ (h2 _ _ (h2 _ _ (h2 _ _ (h2 _ _ (h2 _ _ (h2 _ _ (h2 _ _ (h2 _ _ (h2 _ _ (h2 _ _ (h2 _ _ (h2 _ _ (h2 _ _ (h2 _ _ (h2 _ _ (h2 _ _ (h2 _ _ (h2 _ _ (h2 _ _ (h2 _ _ (h2 _ _ (h2 _ _ (h2 _ _ (h2 _ _ (h2 _ _ (h2 _ _ (h2 _ _ (h2 _ _ (k1) k2) k3) k4) k5) k6) k7) k8) k9) k10) k11) k12) k13) k14) k15) k16) k17) k18) k19) k20) k21) k22) k23) k24) k25) k26) k27) k28) k29) k30) k31) k32
theorem p_laid : laidOutB Tryd.prog = true := by kernel_rfl
theorem p_rowed : mapsRowed Tryd.prog = true := by kernel_rfl
theorem p_stops : (Tryd.prog.stops == []) = true := by kernel_rfl
theorem p_knobs : (Tryd.prog.stopKnobs == []) = true := by kernel_rfl
theorem p_heard : Tryd.prog.stopsHeard = true := by kernel_rfl
theorem p_looks : Tryd.prog.looks [] = false := by kernel_rfl
theorem head_sum : chars headW2 = "32f7f7aec7448378b47f94c14a021b7dc57130e43b4450819b795863dbcbff87".toList := by kernel_rfl
theorem main_sum : Tryd.prog.mainIs = some (true, "32f7f7aec7448378b47f94c14a021b7dc57130e43b4450819b795863dbcbff87".toList) := head_sum ▸ main_is
end Go.Proofs.YtdhkmdgieflioaaDoor.F
