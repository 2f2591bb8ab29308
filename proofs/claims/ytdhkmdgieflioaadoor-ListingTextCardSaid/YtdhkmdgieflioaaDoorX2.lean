/- Texts of this claim: contracts of functions that the law reaches, and plain lemmas. -/
import Derived.Lib.FrozenHead
import Derived.Lib.ConvBytes
import Derived.Outline
import Derived.WalkLawsBesides
import Derived.WalkSpells
import Derived.RegionTactic
import Derived.Deep.QuietTactic
import Derived.BigQuiet
import Derived.DataShut
import Derived.Test.YtdhkmdgieflioaaDoorX1
namespace Go.Proofs.YtdhkmdgieflioaaDoor.F
open Go.RowKit Go.Proofs.YtdhkmdgieflioaaDoorW.PrintWords Go.Proofs.YtdhkmdgieflioaaDoorW.PrintLast Go.Proofs.YtdhkmdgieflioaaDoorW.PrintMore
attribute [local go_sem] max2_int min2_int max_two min_two max_three min_three max_four min_four
set_option linter.unusedVariables false
set_option linter.unusedSimpArgs false
def seedcornlaw11_awake.f  : Option (Bool) := (inst_Encode.f 18 0 0 0).bind fun bt534 => ((listing_Text.f (([bt534.1, 0] : List Int)) 3).bind fun bt539 => ((listing_Text.f ([] : List Int) (-1)).bind fun bt541 => (if bt534.2 = 0 then (if bt539.2 = 0 then (if bt539.1.toList = ([46, 100, 97, 116, 97, 32, 51, 10, 76, 48, 58, 10, 32, 32, 106, 109, 112, 32, 76, 48, 10, 32, 32, 46, 119, 111, 114, 100, 32, 48, 10] : List UInt8) then (if bt541.2 = 1 then ((listing_Targets.f (([bt534.1] : List Int)) 0).bind fun t546 => (some ((t546.length : Int) == 1))) else (some false)) else (some false)) else (some false)) else (some false))))
set_option maxHeartbeats 8000000 in
set_option maxRecDepth 100000 in
theorem seedcornlaw11_awake.calls  (r : Bool) (w : World) (hGK : GK w) (hGT : GT w) (h : seedcornlaw11_awake.f  = some r) :
    Calls Tryd.prog 33 #[] w fun e w' => e = .returned (.bool r) ∧ Below w.heap.size w w' := by
  have hu46 := Tryd.underlying46
  have hu28 := Tryd.underlying28
  have HGK := Aside0.mk hGK
  clear hGK
  have HGT := Aside0.mk hGT
  clear hGT
  have HB := Aside0.mk (Below.refl w.heap.size w)
  have H : ((inst_Encode.f 18 0 0 0).bind fun bt534 => ((listing_Text.f (([bt534.1, 0] : List Int)) 3).bind fun bt539 => ((listing_Text.f ([] : List Int) (-1)).bind fun bt541 => (if bt534.2 = 0 then (if bt539.2 = 0 then (if bt539.1.toList = ([46, 100, 97, 116, 97, 32, 51, 10, 76, 48, 58, 10, 32, 32, 106, 109, 112, 32, 76, 48, 10, 32, 32, 46, 119, 111, 114, 100, 32, 48, 10] : List UInt8) then (if bt541.2 = 1 then ((listing_Targets.f (([bt534.1] : List Int)) 0).bind fun t546 => (some ((t546.length : Int) == 1))) else (some false)) else (some false)) else (some false)) else (some false))))) = some r := h
  clear h
  replace H := Option.bind_eq_some_iff.mp H
  obtain ⟨⟨t534, t535⟩, A10, H⟩ := H
  replace H : ((listing_Text.f (([t534, 0] : List Int)) 3).bind fun bt539 => ((listing_Text.f ([] : List Int) (-1)).bind fun bt541 => (if t535 = 0 then (if bt539.2 = 0 then (if bt539.1.toList = ([46, 100, 97, 116, 97, 32, 51, 10, 76, 48, 58, 10, 32, 32, 106, 109, 112, 32, 76, 48, 10, 32, 32, 46, 119, 111, 114, 100, 32, 48, 10] : List UInt8) then (if bt541.2 = 1 then ((listing_Targets.f (([t534] : List Int)) 0).bind fun t546 => (some ((t546.length : Int) == 1))) else (some false)) else (some false)) else (some false)) else (some false)))) = some r := H
  have A1 := Aside0.mk A10
  clear A10
  obtain ⟨y536, hy536⟩ : ∃ y_ : List Int, y_ = (([t534, 0] : List Int)) := ⟨_, rfl⟩
  replace H : ((listing_Text.f y536 3).bind fun bt539 => ((listing_Text.f ([] : List Int) (-1)).bind fun bt541 => (if t535 = 0 then (if bt539.2 = 0 then (if bt539.1.toList = ([46, 100, 97, 116, 97, 32, 51, 10, 76, 48, 58, 10, 32, 32, 106, 109, 112, 32, 76, 48, 10, 32, 32, 46, 119, 111, 114, 100, 32, 48, 10] : List UInt8) then (if bt541.2 = 1 then ((listing_Targets.f (([t534] : List Int)) 0).bind fun t546 => (some ((t546.length : Int) == 1))) else (some false)) else (some false)) else (some false)) else (some false)))) = some r := by first | (rw [hy536]; with_reducible exact H) | (have H2_ := (Option.bind_some _ _).symm.trans H; rw [hy536]; with_reducible exact H2_) | (have H2_ := (Option.bind_some _ _).symm.trans H; with_reducible exact H2_) | with_reducible exact H | (rw [hy536]; exact H) | exact H
  have Ny536 := Aside0.mk hy536
  clear hy536
  replace H := Option.bind_eq_some_iff.mp H
  obtain ⟨⟨t539, t540⟩, A20, H⟩ := H
  replace H : ((listing_Text.f ([] : List Int) (-1)).bind fun bt541 => (if t535 = 0 then (if t540 = 0 then (if t539.toList = ([46, 100, 97, 116, 97, 32, 51, 10, 76, 48, 58, 10, 32, 32, 106, 109, 112, 32, 76, 48, 10, 32, 32, 46, 119, 111, 114, 100, 32, 48, 10] : List UInt8) then (if bt541.2 = 1 then ((listing_Targets.f (([t534] : List Int)) 0).bind fun t546 => (some ((t546.length : Int) == 1))) else (some false)) else (some false)) else (some false)) else (some false))) = some r := H
  have A2 := Aside0.mk A20
  clear A20
  replace H := Option.bind_eq_some_iff.mp H
  obtain ⟨⟨t541, t542⟩, A30, H⟩ := H
  replace H : (if t535 = 0 then (if t540 = 0 then (if t539.toList = ([46, 100, 97, 116, 97, 32, 51, 10, 76, 48, 58, 10, 32, 32, 106, 109, 112, 32, 76, 48, 10, 32, 32, 46, 119, 111, 114, 100, 32, 48, 10] : List UInt8) then (if t542 = 1 then ((listing_Targets.f (([t534] : List Int)) 0).bind fun t546 => (some ((t546.length : Int) == 1))) else (some false)) else (some false)) else (some false)) else (some false)) = some r := H
  have A3 := Aside0.mk A30
  clear A30
  by_cases c4 : t535 = 0
  · rw [if_pos c4] at H
    have c4b0 : (t535 == 0) = true := beq_iff_eq.mpr c4
    have c4b1 : (t535 != 0) = false := bne_eq_false_iff_eq.mpr c4
    clear c4
    by_cases c5 : t540 = 0
    · rw [if_pos c5] at H
      have c5b0 : (t540 == 0) = true := beq_iff_eq.mpr c5
      have c5b1 : (t540 != 0) = false := bne_eq_false_iff_eq.mpr c5
      clear c5
      by_cases c6 : t539.toList = ([46, 100, 97, 116, 97, 32, 51, 10, 76, 48, 58, 10, 32, 32, 106, 109, 112, 32, 76, 48, 10, 32, 32, 46, 119, 111, 114, 100, 32, 48, 10] : List UInt8)
      · rw [if_pos c6] at H
        have c6b0 : (t539.toList == ([46, 100, 97, 116, 97, 32, 51, 10, 76, 48, 58, 10, 32, 32, 106, 109, 112, 32, 76, 48, 10, 32, 32, 46, 119, 111, 114, 100, 32, 48, 10] : List UInt8)) = true := beq_iff_eq.mpr c6
        have c6b1 : (t539.toList != ([46, 100, 97, 116, 97, 32, 51, 10, 76, 48, 58, 10, 32, 32, 106, 109, 112, 32, 76, 48, 10, 32, 32, 46, 119, 111, 114, 100, 32, 48, 10] : List UInt8)) = false := bne_eq_false_iff_eq.mpr c6
        clear c6
        by_cases c7 : t542 = 1
        · rw [if_pos c7] at H
          have c7b0 : (t542 == 1) = true := beq_iff_eq.mpr c7
          have c7b1 : (t542 != 1) = false := bne_eq_false_iff_eq.mpr c7
          clear c7
          obtain ⟨y543, hy543⟩ : ∃ y_ : List Int, y_ = (([t534] : List Int)) := ⟨_, rfl⟩
          replace H : ((listing_Targets.f y543 0).bind fun t546 => (some ((t546.length : Int) == 1))) = some r := by first | (rw [hy543]; with_reducible exact H) | (have H2_ := (Option.bind_some _ _).symm.trans H; rw [hy543]; with_reducible exact H2_) | (have H2_ := (Option.bind_some _ _).symm.trans H; with_reducible exact H2_) | with_reducible exact H | (rw [hy543]; exact H) | exact H
          have Ny543 := Aside0.mk hy543
          clear hy543
          replace H := Option.bind_eq_some_iff.mp H
          obtain ⟨t546, A80, H⟩ := H
          replace H : (some ((t546.length : Int) == 1)) = some r := H
          have A8 := Aside0.mk A80
          clear A80
          obtain rfl := Option.some.inj H
          go_enter Tryd.func33, Tryd.ntmps33
          go_wp2_with (first | ((with_reducible refine gate_callee (f := 38) rfl ?_); refine goesL_ (some 9) rfl rfl Tryd.func38 (by kernel_rfl) rfl #[.agg #[.int .i64 18, .int .i64 0, .int .i64 0, .int .i64 0]] rfl (by (try simp only [List.map_toArray, List.map_cons, List.map_nil]); first | done | rfl | (simp only [List.length_drop, List.length_take]; rfl)) ?_; (with_reducible refine (inst_Encode.calls 18 0 0 0 t534 t535 _ ?side1 A1.out).mono ?_); (case side1 => exact GK.below HGK.out (by repeat (first | (with_reducible first | exact HB.out | apply below_alloc | apply pw_below_drewN | apply below_drew1) | exact HB.out))); rintro e w9 ⟨rfl, hb⟩; refine ⟨_, rfl, ?_⟩; have n0_ := Aside0.mk (below_step (by repeat (first | (with_reducible first | exact HB.out | apply below_alloc | apply pw_below_drewN | apply below_drew1) | exact HB.out)) hb); clear HB; have HB := n0_; clear n0_; (try clear hb); (try clear hb2); (try clear hk); (try clear hi)) | ((with_reducible refine gate_dst (N := 14) rfl ?_); (try (refine gate_guard (by rfl) ?_; dsimp only)); refine Kd.R_lit (Kd.int .u32) _ 47 ?hg (N := 14) ?hd (xs := ([t534, 0] : List Int)) (inner := [.int .u32 t534, .int .u32 0]) (ok := fun _ => True) (okp := fun _ => True) ?hr ?hp (fun _ hk => hk) trivial (Below.refl _ _) (Nat.le_refl _) (by simp) ?_; (case hd => rfl); (case hg => rfl); (case hr => first | (go_simp; done) | (go_simp; rfl)); (case hp => exact (Reps.one (show Kd.M (Kd.int .u32) _ _ _ t534 [.int .u32 t534] from rfl) (Reps.one (show Kd.M (Kd.int .u32) _ _ _ 0 [.int .u32 0] from rfl) (Reps.none _ _)))); intro v537 w10 ho11 hb hg_ hnew_; clear hg_ hnew_; (first | rw [← Ny536.out] at ho11 | (simp only [Int.reduceToNat] at ho11; rw [← Ny536.out] at ho11)); have n0_ := Aside0.mk (Kd.R_lower ho11 (below_size (by repeat (first | (with_reducible first | exact HB.out | apply below_alloc | apply pw_below_drewN | apply below_drew1) | exact HB.out)))); have n1_ := Aside0.mk (below_step (by repeat (first | (with_reducible first | exact HB.out | apply below_alloc | apply pw_below_drewN | apply below_drew1) | exact HB.out)) hb); clear HB; have HO538 := n0_; have HB := n1_; clear n0_ n1_; clear hb ho11; obtain ⟨Ao12, co12, eo12⟩ := Kd.R_slice HO538.out; subst eo12) | ((with_reducible refine gate_callee (f := 36) rfl ?_); refine goesL_ (some 16) rfl rfl Tryd.func36 (by kernel_rfl) rfl #[.agg #[.slice Ao12 y536.length co12, .int .i64 3]] rfl (by (try simp only [List.map_toArray, List.map_cons, List.map_nil]); first | done | rfl | (simp only [List.length_drop, List.length_take]; rfl)) ?_; (with_reducible refine (listing_Text.calls _ _ y536 3 t539 t540 _ ?side1 ?side2 ?side3 ?side4 A2.out).mono ?_); (case side1 => exact GK.below HGK.out (by repeat (first | (with_reducible first | exact HB.out | apply below_alloc | apply pw_below_drewN | apply below_drew1) | exact HB.out))); (case side2 => exact GT.below HGT.out (by repeat (first | (with_reducible first | exact HB.out | apply below_alloc | apply pw_below_drewN | apply below_drew1) | exact HB.out))); (case side3 => repeat (first | exact (Kd.R_reads' HO538.out).2.2 | (with_reducible refine Kd.C_alloc ?_ _) | (with_reducible refine Kd.C_drewN ?_ _) | (with_reducible refine Kd.C_drew ?_))); (case side4 => exact (Kd.R_reads' HO538.out).2.1); rintro e w13 ⟨rfl, hb⟩; refine ⟨_, rfl, ?_⟩; have n0_ := Aside0.mk (Kd.R_below (by (with_reducible repeat (first | apply Kd.R_alloc | apply Kd.R_drewN | apply Kd.R_drew)); exact HO538.out) hb); have n1_ := Aside0.mk (below_step (by repeat (first | (with_reducible first | exact HB.out | apply below_alloc | apply pw_below_drewN | apply below_drew1) | exact HB.out)) hb); clear HO538; clear HB; have HO538 := n0_; have HB := n1_; clear n0_ n1_; (try clear hb); (try clear hb2); (try clear hk); (try clear hi)) | ((with_reducible refine gate_callee (f := 36) rfl ?_); refine goesL_ (some 21) rfl rfl Tryd.func36 (by kernel_rfl) rfl #[.agg #[.slice none 0 0, .int .i64 (-1)]] rfl (by (try simp only [List.map_toArray, List.map_cons, List.map_nil]); first | done | rfl | (simp only [List.length_drop, List.length_take]; rfl)) ?_; (refine (listing_Text.calls _ _ ([] : List Int) (-1) t541 t542 _ ?side1 ?side2 ?side3 ?side4 A3.out).mono ?_); (case side1 => exact GK.below HGK.out (by repeat (first | (with_reducible first | exact HB.out | apply below_alloc | apply pw_below_drewN | apply below_drew1) | exact HB.out))); (case side2 => exact GT.below HGT.out (by repeat (first | (with_reducible first | exact HB.out | apply below_alloc | apply pw_below_drewN | apply below_drew1) | exact HB.out))); (case side3 => exact Kd.C_nil _ _); (case side4 => exact Nat.le_refl _); rintro e w14 ⟨rfl, hb⟩; refine ⟨_, rfl, ?_⟩; have n0_ := Aside0.mk (Kd.R_below (by (with_reducible repeat (first | apply Kd.R_alloc | apply Kd.R_drewN | apply Kd.R_drew)); exact HO538.out) hb); have n1_ := Aside0.mk (below_step (by repeat (first | (with_reducible first | exact HB.out | apply below_alloc | apply pw_below_drewN | apply below_drew1) | exact HB.out)) hb); clear HO538; clear HB; have HO538 := n0_; have HB := n1_; clear n0_ n1_; (try clear hb); (try clear hb2); (try clear hk); (try clear hi)) | ((with_reducible refine gate_dst (N := 40) rfl ?_); (try (refine gate_guard (by rfl) ?_; dsimp only)); refine Kd.R_lit (Kd.int .u32) _ 47 ?hg (N := 40) ?hd (xs := ([t534] : List Int)) (inner := [.int .u32 t534]) (ok := fun _ => True) (okp := fun _ => True) ?hr ?hp (fun _ hk => hk) trivial (Below.refl _ _) (Nat.le_refl _) (by simp) ?_; (case hd => rfl); (case hg => rfl); (case hr => first | (go_simp; done) | (go_simp; rfl)); (case hp => exact (Reps.one (show Kd.M (Kd.int .u32) _ _ _ t534 [.int .u32 t534] from rfl) (Reps.none _ _))); intro v544 w15 ho16 hb hg_ hnew_; clear hg_ hnew_; (first | rw [← Ny543.out] at ho16 | (simp only [Int.reduceToNat] at ho16; rw [← Ny543.out] at ho16)); have n0_ := Aside0.mk (Kd.R_elder' (by (with_reducible repeat (first | apply Kd.R_alloc | apply Kd.R_drewN | apply Kd.R_drew)); exact HO538.out) (Kd.R_base ho16) hb); have n1_ := Aside0.mk (Kd.R_lower (Kd.R_new' ho16 (Kd.R_lt (by (with_reducible repeat (first | apply Kd.R_alloc | apply Kd.R_drewN | apply Kd.R_drew)); exact HO538.out))) (below_size (by repeat (first | (with_reducible first | exact HB.out | apply below_alloc | apply pw_below_drewN | apply below_drew1) | exact HB.out)))); have n2_ := Aside0.mk (below_step (by repeat (first | (with_reducible first | exact HB.out | apply below_alloc | apply pw_below_drewN | apply below_drew1) | exact HB.out)) hb); clear HO538; clear HB; have HO538 := n0_; have HO545 := n1_; have HB := n2_; clear n0_ n1_ n2_; clear hb ho16; obtain ⟨Ao17, co17, eo17⟩ := Kd.R_slice HO545.out; subst eo17) | (go_at_call 35; (with_reducible refine (listing_Targets.calls _ _ y543 0 t546 _ ?side1 ?side2 ?side3 A8.out).mono ?_); (case side1 => exact GK.below HGK.out (by repeat (first | (with_reducible first | exact HB.out | apply below_alloc | apply pw_below_drewN | apply below_drew1) | exact HB.out))); (case side2 => repeat (first | exact (Kd.R_reads' HO545.out).2.2 | (with_reducible refine Kd.C_alloc ?_ _) | (with_reducible refine Kd.C_drewN ?_ _) | (with_reducible refine Kd.C_drew ?_))); (case side3 => exact (Kd.R_reads' HO545.out).2.1); rintro e w18 ⟨v547, rfl, ho0, hb⟩; have n0_ := Aside0.mk (Kd.R_below (by (with_reducible repeat (first | apply Kd.R_alloc | apply Kd.R_drewN | apply Kd.R_drew)); exact HO538.out) hb); have n1_ := Aside0.mk (Kd.R_below (by (with_reducible repeat (first | apply Kd.R_alloc | apply Kd.R_drewN | apply Kd.R_drew)); exact HO545.out) hb); have n2_ := Aside0.mk (Kd.R_lower ho0 (below_size (by repeat (first | (with_reducible first | exact HB.out | apply below_alloc | apply pw_below_drewN | apply below_drew1) | exact HB.out)))); have n3_ := Aside0.mk (below_step (by repeat (first | (with_reducible first | exact HB.out | apply below_alloc | apply pw_below_drewN | apply below_drew1) | exact HB.out)) hb); clear HO538; clear HO545; clear HB; have HO538 := n0_; have HO545 := n1_; have HO548 := n2_; have HB := n3_; clear n0_ n1_ n2_ n3_; (try clear hb); (try clear hb2); (try clear hk); (try clear hi); (try clear ho0); obtain ⟨Ao19, co19, eo19⟩ := Kd.R_slice HO548.out; subst eo19))
          go_ret
          exact ⟨by first | rfl | (simp [errW_none, errW_some] <;> rfl) | (simp [*, errW_none, errW_some] <;> rfl), by repeat (first | (with_reducible first | exact HB.out | apply below_alloc | apply pw_below_drewN | apply below_drew1) | exact HB.out)⟩
        · rw [if_neg c7] at H
          have c7b0 : (t542 == 1) = false := beq_eq_false_iff_ne.mpr c7
          have c7b1 : (t542 != 1) = true := bne_iff_ne.mpr c7
          obtain rfl := Option.some.inj H
          go_enter Tryd.func33, Tryd.ntmps33
          go_wp2_with (first | ((with_reducible refine gate_callee (f := 38) rfl ?_); refine goesL_ (some 9) rfl rfl Tryd.func38 (by kernel_rfl) rfl #[.agg #[.int .i64 18, .int .i64 0, .int .i64 0, .int .i64 0]] rfl (by (try simp only [List.map_toArray, List.map_cons, List.map_nil]); first | done | rfl | (simp only [List.length_drop, List.length_take]; rfl)) ?_; (with_reducible refine (inst_Encode.calls 18 0 0 0 t534 t535 _ ?side1 A1.out).mono ?_); (case side1 => exact GK.below HGK.out (by repeat (first | (with_reducible first | exact HB.out | apply below_alloc | apply pw_below_drewN | apply below_drew1) | exact HB.out))); rintro e w20 ⟨rfl, hb⟩; refine ⟨_, rfl, ?_⟩; have n0_ := Aside0.mk (below_step (by repeat (first | (with_reducible first | exact HB.out | apply below_alloc | apply pw_below_drewN | apply below_drew1) | exact HB.out)) hb); clear HB; have HB := n0_; clear n0_; (try clear hb); (try clear hb2); (try clear hk); (try clear hi)) | ((with_reducible refine gate_dst (N := 14) rfl ?_); (try (refine gate_guard (by rfl) ?_; dsimp only)); refine Kd.R_lit (Kd.int .u32) _ 47 ?hg (N := 14) ?hd (xs := ([t534, 0] : List Int)) (inner := [.int .u32 t534, .int .u32 0]) (ok := fun _ => True) (okp := fun _ => True) ?hr ?hp (fun _ hk => hk) trivial (Below.refl _ _) (Nat.le_refl _) (by simp) ?_; (case hd => rfl); (case hg => rfl); (case hr => first | (go_simp; done) | (go_simp; rfl)); (case hp => exact (Reps.one (show Kd.M (Kd.int .u32) _ _ _ t534 [.int .u32 t534] from rfl) (Reps.one (show Kd.M (Kd.int .u32) _ _ _ 0 [.int .u32 0] from rfl) (Reps.none _ _)))); intro v537 w21 ho22 hb hg_ hnew_; clear hg_ hnew_; (first | rw [← Ny536.out] at ho22 | (simp only [Int.reduceToNat] at ho22; rw [← Ny536.out] at ho22)); have n0_ := Aside0.mk (Kd.R_lower ho22 (below_size (by repeat (first | (with_reducible first | exact HB.out | apply below_alloc | apply pw_below_drewN | apply below_drew1) | exact HB.out)))); have n1_ := Aside0.mk (below_step (by repeat (first | (with_reducible first | exact HB.out | apply below_alloc | apply pw_below_drewN | apply below_drew1) | exact HB.out)) hb); clear HB; have HO538 := n0_; have HB := n1_; clear n0_ n1_; clear hb ho22; obtain ⟨Ao23, co23, eo23⟩ := Kd.R_slice HO538.out; subst eo23) | ((with_reducible refine gate_callee (f := 36) rfl ?_); refine goesL_ (some 16) rfl rfl Tryd.func36 (by kernel_rfl) rfl #[.agg #[.slice Ao23 y536.length co23, .int .i64 3]] rfl (by (try simp only [List.map_toArray, List.map_cons, List.map_nil]); first | done | rfl | (simp only [List.length_drop, List.length_take]; rfl)) ?_; (with_reducible refine (listing_Text.calls _ _ y536 3 t539 t540 _ ?side1 ?side2 ?side3 ?side4 A2.out).mono ?_); (case side1 => exact GK.below HGK.out (by repeat (first | (with_reducible first | exact HB.out | apply below_alloc | apply pw_below_drewN | apply below_drew1) | exact HB.out))); (case side2 => exact GT.below HGT.out (by repeat (first | (with_reducible first | exact HB.out | apply below_alloc | apply pw_below_drewN | apply below_drew1) | exact HB.out))); (case side3 => repeat (first | exact (Kd.R_reads' HO538.out).2.2 | (with_reducible refine Kd.C_alloc ?_ _) | (with_reducible refine Kd.C_drewN ?_ _) | (with_reducible refine Kd.C_drew ?_))); (case side4 => exact (Kd.R_reads' HO538.out).2.1); rintro e w24 ⟨rfl, hb⟩; refine ⟨_, rfl, ?_⟩; have n0_ := Aside0.mk (Kd.R_below (by (with_reducible repeat (first | apply Kd.R_alloc | apply Kd.R_drewN | apply Kd.R_drew)); exact HO538.out) hb); have n1_ := Aside0.mk (below_step (by repeat (first | (with_reducible first | exact HB.out | apply below_alloc | apply pw_below_drewN | apply below_drew1) | exact HB.out)) hb); clear HO538; clear HB; have HO538 := n0_; have HB := n1_; clear n0_ n1_; (try clear hb); (try clear hb2); (try clear hk); (try clear hi)) | ((with_reducible refine gate_callee (f := 36) rfl ?_); refine goesL_ (some 21) rfl rfl Tryd.func36 (by kernel_rfl) rfl #[.agg #[.slice none 0 0, .int .i64 (-1)]] rfl (by (try simp only [List.map_toArray, List.map_cons, List.map_nil]); first | done | rfl | (simp only [List.length_drop, List.length_take]; rfl)) ?_; (refine (listing_Text.calls _ _ ([] : List Int) (-1) t541 t542 _ ?side1 ?side2 ?side3 ?side4 A3.out).mono ?_); (case side1 => exact GK.below HGK.out (by repeat (first | (with_reducible first | exact HB.out | apply below_alloc | apply pw_below_drewN | apply below_drew1) | exact HB.out))); (case side2 => exact GT.below HGT.out (by repeat (first | (with_reducible first | exact HB.out | apply below_alloc | apply pw_below_drewN | apply below_drew1) | exact HB.out))); (case side3 => exact Kd.C_nil _ _); (case side4 => exact Nat.le_refl _); rintro e w25 ⟨rfl, hb⟩; refine ⟨_, rfl, ?_⟩; have n0_ := Aside0.mk (Kd.R_below (by (with_reducible repeat (first | apply Kd.R_alloc | apply Kd.R_drewN | apply Kd.R_drew)); exact HO538.out) hb); have n1_ := Aside0.mk (below_step (by repeat (first | (with_reducible first | exact HB.out | apply below_alloc | apply pw_below_drewN | apply below_drew1) | exact HB.out)) hb); clear HO538; clear HB; have HO538 := n0_; have HB := n1_; clear n0_ n1_; (try clear hb); (try clear hb2); (try clear hk); (try clear hi)))
          go_ret
          exact ⟨by first | rfl | (simp [errW_none, errW_some] <;> rfl) | (simp [*, errW_none, errW_some] <;> rfl), by repeat (first | (with_reducible first | exact HB.out | apply below_alloc | apply pw_below_drewN | apply below_drew1) | exact HB.out)⟩
      · rw [if_neg c6] at H
        have c6b0 : (t539.toList == ([46, 100, 97, 116, 97, 32, 51, 10, 76, 48, 58, 10, 32, 32, 106, 109, 112, 32, 76, 48, 10, 32, 32, 46, 119, 111, 114, 100, 32, 48, 10] : List UInt8)) = false := beq_eq_false_iff_ne.mpr c6
        have c6b1 : (t539.toList != ([46, 100, 97, 116, 97, 32, 51, 10, 76, 48, 58, 10, 32, 32, 106, 109, 112, 32, 76, 48, 10, 32, 32, 46, 119, 111, 114, 100, 32, 48, 10] : List UInt8)) = true := bne_iff_ne.mpr c6
        obtain rfl := Option.some.inj H
        go_enter Tryd.func33, Tryd.ntmps33
        go_wp2_with (first | ((with_reducible refine gate_callee (f := 38) rfl ?_); refine goesL_ (some 9) rfl rfl Tryd.func38 (by kernel_rfl) rfl #[.agg #[.int .i64 18, .int .i64 0, .int .i64 0, .int .i64 0]] rfl (by (try simp only [List.map_toArray, List.map_cons, List.map_nil]); first | done | rfl | (simp only [List.length_drop, List.length_take]; rfl)) ?_; (with_reducible refine (inst_Encode.calls 18 0 0 0 t534 t535 _ ?side1 A1.out).mono ?_); (case side1 => exact GK.below HGK.out (by repeat (first | (with_reducible first | exact HB.out | apply below_alloc | apply pw_below_drewN | apply below_drew1) | exact HB.out))); rintro e w26 ⟨rfl, hb⟩; refine ⟨_, rfl, ?_⟩; have n0_ := Aside0.mk (below_step (by repeat (first | (with_reducible first | exact HB.out | apply below_alloc | apply pw_below_drewN | apply below_drew1) | exact HB.out)) hb); clear HB; have HB := n0_; clear n0_; (try clear hb); (try clear hb2); (try clear hk); (try clear hi)) | ((with_reducible refine gate_dst (N := 14) rfl ?_); (try (refine gate_guard (by rfl) ?_; dsimp only)); refine Kd.R_lit (Kd.int .u32) _ 47 ?hg (N := 14) ?hd (xs := ([t534, 0] : List Int)) (inner := [.int .u32 t534, .int .u32 0]) (ok := fun _ => True) (okp := fun _ => True) ?hr ?hp (fun _ hk => hk) trivial (Below.refl _ _) (Nat.le_refl _) (by simp) ?_; (case hd => rfl); (case hg => rfl); (case hr => first | (go_simp; done) | (go_simp; rfl)); (case hp => exact (Reps.one (show Kd.M (Kd.int .u32) _ _ _ t534 [.int .u32 t534] from rfl) (Reps.one (show Kd.M (Kd.int .u32) _ _ _ 0 [.int .u32 0] from rfl) (Reps.none _ _)))); intro v537 w27 ho28 hb hg_ hnew_; clear hg_ hnew_; (first | rw [← Ny536.out] at ho28 | (simp only [Int.reduceToNat] at ho28; rw [← Ny536.out] at ho28)); have n0_ := Aside0.mk (Kd.R_lower ho28 (below_size (by repeat (first | (with_reducible first | exact HB.out | apply below_alloc | apply pw_below_drewN | apply below_drew1) | exact HB.out)))); have n1_ := Aside0.mk (below_step (by repeat (first | (with_reducible first | exact HB.out | apply below_alloc | apply pw_below_drewN | apply below_drew1) | exact HB.out)) hb); clear HB; have HO538 := n0_; have HB := n1_; clear n0_ n1_; clear hb ho28; obtain ⟨Ao29, co29, eo29⟩ := Kd.R_slice HO538.out; subst eo29) | ((with_reducible refine gate_callee (f := 36) rfl ?_); refine goesL_ (some 16) rfl rfl Tryd.func36 (by kernel_rfl) rfl #[.agg #[.slice Ao29 y536.length co29, .int .i64 3]] rfl (by (try simp only [List.map_toArray, List.map_cons, List.map_nil]); first | done | rfl | (simp only [List.length_drop, List.length_take]; rfl)) ?_; (with_reducible refine (listing_Text.calls _ _ y536 3 t539 t540 _ ?side1 ?side2 ?side3 ?side4 A2.out).mono ?_); (case side1 => exact GK.below HGK.out (by repeat (first | (with_reducible first | exact HB.out | apply below_alloc | apply pw_below_drewN | apply below_drew1) | exact HB.out))); (case side2 => exact GT.below HGT.out (by repeat (first | (with_reducible first | exact HB.out | apply below_alloc | apply pw_below_drewN | apply below_drew1) | exact HB.out))); (case side3 => repeat (first | exact (Kd.R_reads' HO538.out).2.2 | (with_reducible refine Kd.C_alloc ?_ _) | (with_reducible refine Kd.C_drewN ?_ _) | (with_reducible refine Kd.C_drew ?_))); (case side4 => exact (Kd.R_reads' HO538.out).2.1); rintro e w30 ⟨rfl, hb⟩; refine ⟨_, rfl, ?_⟩; have n0_ := Aside0.mk (Kd.R_below (by (with_reducible repeat (first | apply Kd.R_alloc | apply Kd.R_drewN | apply Kd.R_drew)); exact HO538.out) hb); have n1_ := Aside0.mk (below_step (by repeat (first | (with_reducible first | exact HB.out | apply below_alloc | apply pw_below_drewN | apply below_drew1) | exact HB.out)) hb); clear HO538; clear HB; have HO538 := n0_; have HB := n1_; clear n0_ n1_; (try clear hb); (try clear hb2); (try clear hk); (try clear hi)) | ((with_reducible refine gate_callee (f := 36) rfl ?_); refine goesL_ (some 21) rfl rfl Tryd.func36 (by kernel_rfl) rfl #[.agg #[.slice none 0 0, .int .i64 (-1)]] rfl (by (try simp only [List.map_toArray, List.map_cons, List.map_nil]); first | done | rfl | (simp only [List.length_drop, List.length_take]; rfl)) ?_; (refine (listing_Text.calls _ _ ([] : List Int) (-1) t541 t542 _ ?side1 ?side2 ?side3 ?side4 A3.out).mono ?_); (case side1 => exact GK.below HGK.out (by repeat (first | (with_reducible first | exact HB.out | apply below_alloc | apply pw_below_drewN | apply below_drew1) | exact HB.out))); (case side2 => exact GT.below HGT.out (by repeat (first | (with_reducible first | exact HB.out | apply below_alloc | apply pw_below_drewN | apply below_drew1) | exact HB.out))); (case side3 => exact Kd.C_nil _ _); (case side4 => exact Nat.le_refl _); rintro e w31 ⟨rfl, hb⟩; refine ⟨_, rfl, ?_⟩; have n0_ := Aside0.mk (Kd.R_below (by (with_reducible repeat (first | apply Kd.R_alloc | apply Kd.R_drewN | apply Kd.R_drew)); exact HO538.out) hb); have n1_ := Aside0.mk (below_step (by repeat (first | (with_reducible first | exact HB.out | apply below_alloc | apply pw_below_drewN | apply below_drew1) | exact HB.out)) hb); clear HO538; clear HB; have HO538 := n0_; have HB := n1_; clear n0_ n1_; (try clear hb); (try clear hb2); (try clear hk); (try clear hi)))
        go_ret
        exact ⟨by first | rfl | (simp [errW_none, errW_some] <;> rfl) | (simp [*, errW_none, errW_some] <;> rfl), by repeat (first | (with_reducible first | exact HB.out | apply below_alloc | apply pw_below_drewN | apply below_drew1) | exact HB.out)⟩
    · rw [if_neg c5] at H
      have c5b0 : (t540 == 0) = false := beq_eq_false_iff_ne.mpr c5
      have c5b1 : (t540 != 0) = true := bne_iff_ne.mpr c5
      obtain rfl := Option.some.inj H
      go_enter Tryd.func33, Tryd.ntmps33
      go_wp2_with (first | ((with_reducible refine gate_callee (f := 38) rfl ?_); refine goesL_ (some 9) rfl rfl Tryd.func38 (by kernel_rfl) rfl #[.agg #[.int .i64 18, .int .i64 0, .int .i64 0, .int .i64 0]] rfl (by (try simp only [List.map_toArray, List.map_cons, List.map_nil]); first | done | rfl | (simp only [List.length_drop, List.length_take]; rfl)) ?_; (with_reducible refine (inst_Encode.calls 18 0 0 0 t534 t535 _ ?side1 A1.out).mono ?_); (case side1 => exact GK.below HGK.out (by repeat (first | (with_reducible first | exact HB.out | apply below_alloc | apply pw_below_drewN | apply below_drew1) | exact HB.out))); rintro e w32 ⟨rfl, hb⟩; refine ⟨_, rfl, ?_⟩; have n0_ := Aside0.mk (below_step (by repeat (first | (with_reducible first | exact HB.out | apply below_alloc | apply pw_below_drewN | apply below_drew1) | exact HB.out)) hb); clear HB; have HB := n0_; clear n0_; (try clear hb); (try clear hb2); (try clear hk); (try clear hi)) | ((with_reducible refine gate_dst (N := 14) rfl ?_); (try (refine gate_guard (by rfl) ?_; dsimp only)); refine Kd.R_lit (Kd.int .u32) _ 47 ?hg (N := 14) ?hd (xs := ([t534, 0] : List Int)) (inner := [.int .u32 t534, .int .u32 0]) (ok := fun _ => True) (okp := fun _ => True) ?hr ?hp (fun _ hk => hk) trivial (Below.refl _ _) (Nat.le_refl _) (by simp) ?_; (case hd => rfl); (case hg => rfl); (case hr => first | (go_simp; done) | (go_simp; rfl)); (case hp => exact (Reps.one (show Kd.M (Kd.int .u32) _ _ _ t534 [.int .u32 t534] from rfl) (Reps.one (show Kd.M (Kd.int .u32) _ _ _ 0 [.int .u32 0] from rfl) (Reps.none _ _)))); intro v537 w33 ho34 hb hg_ hnew_; clear hg_ hnew_; (first | rw [← Ny536.out] at ho34 | (simp only [Int.reduceToNat] at ho34; rw [← Ny536.out] at ho34)); have n0_ := Aside0.mk (Kd.R_lower ho34 (below_size (by repeat (first | (with_reducible first | exact HB.out | apply below_alloc | apply pw_below_drewN | apply below_drew1) | exact HB.out)))); have n1_ := Aside0.mk (below_step (by repeat (first | (with_reducible first | exact HB.out | apply below_alloc | apply pw_below_drewN | apply below_drew1) | exact HB.out)) hb); clear HB; have HO538 := n0_; have HB := n1_; clear n0_ n1_; clear hb ho34; obtain ⟨Ao35, co35, eo35⟩ := Kd.R_slice HO538.out; subst eo35) | ((with_reducible refine gate_callee (f := 36) rfl ?_); refine goesL_ (some 16) rfl rfl Tryd.func36 (by kernel_rfl) rfl #[.agg #[.slice Ao35 y536.length co35, .int .i64 3]] rfl (by (try simp only [List.map_toArray, List.map_cons, List.map_nil]); first | done | rfl | (simp only [List.length_drop, List.length_take]; rfl)) ?_; (with_reducible refine (listing_Text.calls _ _ y536 3 t539 t540 _ ?side1 ?side2 ?side3 ?side4 A2.out).mono ?_); (case side1 => exact GK.below HGK.out (by repeat (first | (with_reducible first | exact HB.out | apply below_alloc | apply pw_below_drewN | apply below_drew1) | exact HB.out))); (case side2 => exact GT.below HGT.out (by repeat (first | (with_reducible first | exact HB.out | apply below_alloc | apply pw_below_drewN | apply below_drew1) | exact HB.out))); (case side3 => repeat (first | exact (Kd.R_reads' HO538.out).2.2 | (with_reducible refine Kd.C_alloc ?_ _) | (with_reducible refine Kd.C_drewN ?_ _) | (with_reducible refine Kd.C_drew ?_))); (case side4 => exact (Kd.R_reads' HO538.out).2.1); rintro e w36 ⟨rfl, hb⟩; refine ⟨_, rfl, ?_⟩; have n0_ := Aside0.mk (Kd.R_below (by (with_reducible repeat (first | apply Kd.R_alloc | apply Kd.R_drewN | apply Kd.R_drew)); exact HO538.out) hb); have n1_ := Aside0.mk (below_step (by repeat (first | (with_reducible first | exact HB.out | apply below_alloc | apply pw_below_drewN | apply below_drew1) | exact HB.out)) hb); clear HO538; clear HB; have HO538 := n0_; have HB := n1_; clear n0_ n1_; (try clear hb); (try clear hb2); (try clear hk); (try clear hi)) | ((with_reducible refine gate_callee (f := 36) rfl ?_); refine goesL_ (some 21) rfl rfl Tryd.func36 (by kernel_rfl) rfl #[.agg #[.slice none 0 0, .int .i64 (-1)]] rfl (by (try simp only [List.map_toArray, List.map_cons, List.map_nil]); first | done | rfl | (simp only [List.length_drop, List.length_take]; rfl)) ?_; (refine (listing_Text.calls _ _ ([] : List Int) (-1) t541 t542 _ ?side1 ?side2 ?side3 ?side4 A3.out).mono ?_); (case side1 => exact GK.below HGK.out (by repeat (first | (with_reducible first | exact HB.out | apply below_alloc | apply pw_below_drewN | apply below_drew1) | exact HB.out))); (case side2 => exact GT.below HGT.out (by repeat (first | (with_reducible first | exact HB.out | apply below_alloc | apply pw_below_drewN | apply below_drew1) | exact HB.out))); (case side3 => exact Kd.C_nil _ _); (case side4 => exact Nat.le_refl _); rintro e w37 ⟨rfl, hb⟩; refine ⟨_, rfl, ?_⟩; have n0_ := Aside0.mk (Kd.R_below (by (with_reducible repeat (first | apply Kd.R_alloc | apply Kd.R_drewN | apply Kd.R_drew)); exact HO538.out) hb); have n1_ := Aside0.mk (below_step (by repeat (first | (with_reducible first | exact HB.out | apply below_alloc | apply pw_below_drewN | apply below_drew1) | exact HB.out)) hb); clear HO538; clear HB; have HO538 := n0_; have HB := n1_; clear n0_ n1_; (try clear hb); (try clear hb2); (try clear hk); (try clear hi)))
      go_ret
      exact ⟨by first | rfl | (simp [errW_none, errW_some] <;> rfl) | (simp [*, errW_none, errW_some] <;> rfl), by repeat (first | (with_reducible first | exact HB.out | apply below_alloc | apply pw_below_drewN | apply below_drew1) | exact HB.out)⟩
  · rw [if_neg c4] at H
    have c4b0 : (t535 == 0) = false := beq_eq_false_iff_ne.mpr c4
    have c4b1 : (t535 != 0) = true := bne_iff_ne.mpr c4
    obtain rfl := Option.some.inj H
    go_enter Tryd.func33, Tryd.ntmps33
    go_wp2_with (first | ((with_reducible refine gate_callee (f := 38) rfl ?_); refine goesL_ (some 9) rfl rfl Tryd.func38 (by kernel_rfl) rfl #[.agg #[.int .i64 18, .int .i64 0, .int .i64 0, .int .i64 0]] rfl (by (try simp only [List.map_toArray, List.map_cons, List.map_nil]); first | done | rfl | (simp only [List.length_drop, List.length_take]; rfl)) ?_; (with_reducible refine (inst_Encode.calls 18 0 0 0 t534 t535 _ ?side1 A1.out).mono ?_); (case side1 => exact GK.below HGK.out (by repeat (first | (with_reducible first | exact HB.out | apply below_alloc | apply pw_below_drewN | apply below_drew1) | exact HB.out))); rintro e w38 ⟨rfl, hb⟩; refine ⟨_, rfl, ?_⟩; have n0_ := Aside0.mk (below_step (by repeat (first | (with_reducible first | exact HB.out | apply below_alloc | apply pw_below_drewN | apply below_drew1) | exact HB.out)) hb); clear HB; have HB := n0_; clear n0_; (try clear hb); (try clear hb2); (try clear hk); (try clear hi)) | ((with_reducible refine gate_dst (N := 14) rfl ?_); (try (refine gate_guard (by rfl) ?_; dsimp only)); refine Kd.R_lit (Kd.int .u32) _ 47 ?hg (N := 14) ?hd (xs := ([t534, 0] : List Int)) (inner := [.int .u32 t534, .int .u32 0]) (ok := fun _ => True) (okp := fun _ => True) ?hr ?hp (fun _ hk => hk) trivial (Below.refl _ _) (Nat.le_refl _) (by simp) ?_; (case hd => rfl); (case hg => rfl); (case hr => first | (go_simp; done) | (go_simp; rfl)); (case hp => exact (Reps.one (show Kd.M (Kd.int .u32) _ _ _ t534 [.int .u32 t534] from rfl) (Reps.one (show Kd.M (Kd.int .u32) _ _ _ 0 [.int .u32 0] from rfl) (Reps.none _ _)))); intro v537 w39 ho40 hb hg_ hnew_; clear hg_ hnew_; (first | rw [← Ny536.out] at ho40 | (simp only [Int.reduceToNat] at ho40; rw [← Ny536.out] at ho40)); have n0_ := Aside0.mk (Kd.R_lower ho40 (below_size (by repeat (first | (with_reducible first | exact HB.out | apply below_alloc | apply pw_below_drewN | apply below_drew1) | exact HB.out)))); have n1_ := Aside0.mk (below_step (by repeat (first | (with_reducible first | exact HB.out | apply below_alloc | apply pw_below_drewN | apply below_drew1) | exact HB.out)) hb); clear HB; have HO538 := n0_; have HB := n1_; clear n0_ n1_; clear hb ho40; obtain ⟨Ao41, co41, eo41⟩ := Kd.R_slice HO538.out; subst eo41) | ((with_reducible refine gate_callee (f := 36) rfl ?_); refine goesL_ (some 16) rfl rfl Tryd.func36 (by kernel_rfl) rfl #[.agg #[.slice Ao41 y536.length co41, .int .i64 3]] rfl (by (try simp only [List.map_toArray, List.map_cons, List.map_nil]); first | done | rfl | (simp only [List.length_drop, List.length_take]; rfl)) ?_; (with_reducible refine (listing_Text.calls _ _ y536 3 t539 t540 _ ?side1 ?side2 ?side3 ?side4 A2.out).mono ?_); (case side1 => exact GK.below HGK.out (by repeat (first | (with_reducible first | exact HB.out | apply below_alloc | apply pw_below_drewN | apply below_drew1) | exact HB.out))); (case side2 => exact GT.below HGT.out (by repeat (first | (with_reducible first | exact HB.out | apply below_alloc | apply pw_below_drewN | apply below_drew1) | exact HB.out))); (case side3 => repeat (first | exact (Kd.R_reads' HO538.out).2.2 | (with_reducible refine Kd.C_alloc ?_ _) | (with_reducible refine Kd.C_drewN ?_ _) | (with_reducible refine Kd.C_drew ?_))); (case side4 => exact (Kd.R_reads' HO538.out).2.1); rintro e w42 ⟨rfl, hb⟩; refine ⟨_, rfl, ?_⟩; have n0_ := Aside0.mk (Kd.R_below (by (with_reducible repeat (first | apply Kd.R_alloc | apply Kd.R_drewN | apply Kd.R_drew)); exact HO538.out) hb); have n1_ := Aside0.mk (below_step (by repeat (first | (with_reducible first | exact HB.out | apply below_alloc | apply pw_below_drewN | apply below_drew1) | exact HB.out)) hb); clear HO538; clear HB; have HO538 := n0_; have HB := n1_; clear n0_ n1_; (try clear hb); (try clear hb2); (try clear hk); (try clear hi)) | ((with_reducible refine gate_callee (f := 36) rfl ?_); refine goesL_ (some 21) rfl rfl Tryd.func36 (by kernel_rfl) rfl #[.agg #[.slice none 0 0, .int .i64 (-1)]] rfl (by (try simp only [List.map_toArray, List.map_cons, List.map_nil]); first | done | rfl | (simp only [List.length_drop, List.length_take]; rfl)) ?_; (refine (listing_Text.calls _ _ ([] : List Int) (-1) t541 t542 _ ?side1 ?side2 ?side3 ?side4 A3.out).mono ?_); (case side1 => exact GK.below HGK.out (by repeat (first | (with_reducible first | exact HB.out | apply below_alloc | apply pw_below_drewN | apply below_drew1) | exact HB.out))); (case side2 => exact GT.below HGT.out (by repeat (first | (with_reducible first | exact HB.out | apply below_alloc | apply pw_below_drewN | apply below_drew1) | exact HB.out))); (case side3 => exact Kd.C_nil _ _); (case side4 => exact Nat.le_refl _); rintro e w43 ⟨rfl, hb⟩; refine ⟨_, rfl, ?_⟩; have n0_ := Aside0.mk (Kd.R_below (by (with_reducible repeat (first | apply Kd.R_alloc | apply Kd.R_drewN | apply Kd.R_drew)); exact HO538.out) hb); have n1_ := Aside0.mk (below_step (by repeat (first | (with_reducible first | exact HB.out | apply below_alloc | apply pw_below_drewN | apply below_drew1) | exact HB.out)) hb); clear HO538; clear HB; have HO538 := n0_; have HB := n1_; clear n0_ n1_; (try clear hb); (try clear hb2); (try clear hk); (try clear hi)))
    go_ret
    exact ⟨by first | rfl | (simp [errW_none, errW_some] <;> rfl) | (simp [*, errW_none, errW_some] <;> rfl), by repeat (first | (with_reducible first | exact HB.out | apply below_alloc | apply pw_below_drewN | apply below_drew1) | exact HB.out)⟩
end Go.Proofs.YtdhkmdgieflioaaDoor.F
namespace Go.Proofs.YtdhkmdgieflioaaDoor.F
open Go.RowKit Go.Proofs.YtdhkmdgieflioaaDoorW.PrintWords Go.Proofs.YtdhkmdgieflioaaDoorW.PrintLast Go.Proofs.YtdhkmdgieflioaaDoorW.PrintMore
set_option linter.unusedVariables false
set_option linter.unusedSimpArgs false
structure Stp (W W' : World) (g cc : Nat) (o : Option Nat) : Prop where
  keep : ∀ k, k < W.heap.size → k ≠ g → k ≠ cc → some k ≠ o → W'.heap[k]? = W.heap[k]?
  size : W.heap.size ≤ W'.heap.size
  os : W'.os = W.os
  tape : W'.tape = W.tape
  output : W'.output = W.output
theorem Stp.refl (W : World) (g cc : Nat) (o : Option Nat) : Stp W W g cc o := ⟨fun _ _ _ _ _ => rfl, Nat.le_refl _, rfl, rfl, rfl⟩
theorem Stp.drew {W W' : World} {g cc : Nat} {o : Option Nat} (h : Stp W W' g cc o) : Stp W W'.drew g cc o := ⟨h.keep, h.size, h.os, h.tape, h.output⟩
theorem Stp.drewN {W W' : World} {g cc : Nat} {o : Option Nat} (h : Stp W W' g cc o) (n : Nat) : Stp W (W'.drewN n) g cc o := ⟨h.keep, h.size, h.os, h.tape, h.output⟩
theorem Stp.alloc {W W' : World} {g cc : Nat} {o : Option Nat} (h : Stp W W' g cc o) (b : Obj) : Stp W (W'.alloc b) g cc o :=
  ⟨fun k h1 h2 h3 h4 => (Below.heap_alloc W' b k (Nat.lt_of_lt_of_le h1 h.size)).trans (h.keep k h1 h2 h3 h4), by simp; have := h.size; omega, h.os, h.tape, h.output⟩
theorem Stp.setg {W W' : World} {g cc : Nat} {o : Option Nat} (h : Stp W W' g cc o) (j : Nat) (u : Value) : Stp W (W'.setCell ⟨g, j, none⟩ u) g cc o :=
  ⟨fun k h1 h2 h3 h4 => (Below.heap_setCell W' ⟨g, j, none⟩ u k h2).trans (h.keep k h1 h2 h3 h4), by simp [World.setCell]; exact h.size, h.os, h.tape, h.output⟩
theorem Stp.setc {W W' : World} {g cc : Nat} {o : Option Nat} (h : Stp W W' g cc o) (j : Nat) (u : Value) : Stp W (W'.setCell ⟨cc, j, none⟩ u) g cc o :=
  ⟨fun k h1 h2 h3 h4 => (Below.heap_setCell W' ⟨cc, j, none⟩ u k h3).trans (h.keep k h1 h2 h3 h4), by simp [World.setCell]; exact h.size, h.os, h.tape, h.output⟩
theorem Stp.new {W W' : World} {g cc : Nat} {o : Option Nat} (h : Stp W W' g cc o) (b j : Nat) (hb : W.heap.size ≤ b) (u : Value) : Stp W (W'.setCell ⟨b, j, none⟩ u) g cc o :=
  ⟨fun k h1 h2 h3 h4 => (Below.heap_setCell W' ⟨b, j, none⟩ u k (by show k ≠ b; omega)).trans (h.keep k h1 h2 h3 h4), by simp [World.setCell]; exact h.size, h.os, h.tape, h.output⟩
theorem Stp.weaken {W W' : World} {g cc : Nat} (h : Stp W W' g cc none) (o : Option Nat) : Stp W W' g cc o := ⟨fun k h1 h2 h3 _ => h.keep k h1 h2 h3 (by simp), h.size, h.os, h.tape, h.output⟩
theorem Stp.below {W W' W2 : World} {g cc : Nat} {o : Option Nat} (h : Stp W W' g cc o) (hb : Below W'.heap.size W' W2) : Stp W W2 g cc o :=
  ⟨fun k h1 h2 h3 h4 => (hb.block k (Nat.lt_of_lt_of_le h1 h.size)).trans (h.keep k h1 h2 h3 h4), Nat.le_trans h.size hb.size, hb.os.trans h.os, hb.tape.trans h.tape, hb.output.trans h.output⟩
theorem Stp.grown {W W' W2 : World} {g cc : Nat} {o : Option Nat} (h : Stp W W' g cc o) (hb : W'.grownBy W2 o) : Stp W W2 g cc o :=
  ⟨fun k h1 h2 h3 h4 => (hb.block k (Nat.lt_of_lt_of_le h1 h.size) h4).trans (h.keep k h1 h2 h3 h4), Nat.le_trans h.size hb.size, hb.os.trans h.os, hb.tape.trans h.tape, hb.output.trans h.output⟩
end Go.Proofs.YtdhkmdgieflioaaDoor.F
namespace Go.Proofs.YtdhkmdgieflioaaDoor.F
open Go.RowKit Go.Proofs.YtdhkmdgieflioaaDoorW.PrintWords Go.Proofs.YtdhkmdgieflioaaDoorW.PrintLast Go.Proofs.YtdhkmdgieflioaaDoorW.PrintMore
set_option linter.unusedVariables false
set_option linter.unusedSimpArgs false
def OutOk (W : World) (base : Nat) (v : Value) (xs : List Int) : Prop :=
  (v = .slice none 0 0 ∧ xs = []) ∨
  ∃ g cap cur fz, v = .slice (some ⟨g, 0, none⟩) xs.length cap ∧ base ≤ g ∧ W.heap[g]? = some (.cells cur 5 fz) ∧ (fz.2 = 0 ∨ cur.size ≤ fz.1) ∧ xs.length ≤ cap ∧ cap ≤ maxLen ∧ cur.size = cap ∧ cur.toList.take xs.length = xs.map (Value.int .u8)
theorem OutOk.slice {W : World} {base : Nat} {v : Value} {xs : List Int} (h : OutOk W base v xs) : ∃ A c, v = .slice A xs.length c := by
  rcases h with ⟨rfl, rfl⟩ | ⟨g, cap, cur, fz, rfl, _⟩
  · exact ⟨none, 0, rfl⟩
  · exact ⟨_, _, rfl⟩
theorem OutOk.lt {W : World} {base : Nat} {v : Value} {xs : List Int} (h : OutOk W base v xs) : ∀ k, v.ownBlock = some k → base ≤ k ∧ k < W.heap.size := by
  rcases h with ⟨rfl, rfl⟩ | ⟨g, cap, cur, fz, rfl, hb, hg, _⟩
  · intro k hk; simp [Value.ownBlock] at hk
  · intro k hk
    have : g = k := by simpa [Value.ownBlock] using hk
    subst this
    exact ⟨hb, (Array.getElem?_eq_some_iff.1 hg).1⟩
theorem OutOk.move {W W' : World} {base : Nat} {v : Value} {xs : List Int} (h : OutOk W base v xs) (hk : ∀ k, v.ownBlock = some k → W'.heap[k]? = W.heap[k]?) : OutOk W' base v xs := by
  rcases h with ⟨rfl, rfl⟩ | ⟨g, cap, cur, fz, rfl, hb, hg, rest⟩
  · exact .inl ⟨rfl, rfl⟩
  · exact .inr ⟨g, cap, cur, fz, rfl, hb, (hk g (by simp [Value.ownBlock])).trans hg, rest⟩
theorem OutOk.ne {W : World} {base : Nat} {v : Value} {xs : List Int} (h : OutOk W base v xs) {g t : Nat} {cs : Array Value} {fr : Nat × Nat} (hg : W.heap[g]? = some (.cells cs t fr)) (ht : t ≠ 5) : some g ≠ v.ownBlock := by
  rcases h with ⟨rfl, rfl⟩ | ⟨g', cap, cur, fz, rfl, hb, hg', _⟩
  · simp [Value.ownBlock]
  · intro he
    have : g = g' := by simpa [Value.ownBlock] using he
    subst this
    rw [hg] at hg'
    injection hg' with hh
    injection hh with _ ht' _
    exact ht ht'
theorem OutOk.set {W : World} {base : Nat} {v : Value} {xs : List Int} (h : OutOk W base v xs) {g t : Nat} {cs : Array Value} {fr : Nat × Nat} (hg : W.heap[g]? = some (.cells cs t fr)) (ht : t ≠ 5) (j : Nat) (u : Value) : OutOk (W.setCell ⟨g, j, none⟩ u) base v xs :=
  h.move fun k hk => Below.heap_setCell W ⟨g, j, none⟩ u k (fun e => h.ne hg ht (by rw [hk]; exact congrArg some e.symm))
theorem OutOk.drew {W : World} {base : Nat} {v : Value} {xs : List Int} (h : OutOk W base v xs) : OutOk W.drew base v xs := h
theorem OutOk.drewN {W : World} {base : Nat} {v : Value} {xs : List Int} (h : OutOk W base v xs) (n : Nat) : OutOk (W.drewN n) base v xs := h
theorem OutOk.alloc {W : World} {base : Nat} {v : Value} {xs : List Int} (h : OutOk W base v xs) (o : Obj) : OutOk (W.alloc o) base v xs := h.move fun k hk => Below.heap_alloc W o k (h.lt k hk).2
theorem OutOk.below {W W' : World} {base : Nat} {v : Value} {xs : List Int} (h : OutOk W base v xs) (hb : Below W.heap.size W W') : OutOk W' base v xs := h.move fun k hk => hb.block k (h.lt k hk).2
theorem OutOk.stp {W W' : World} {g cc base : Nat} {v : Value} {xs : List Int} {cs1 cs2 : Array Value} (h : OutOk W base v xs) (hg : W.heap[g]? = some (.cells cs1 145 (0, 0))) (hc : W.heap[cc]? = some (.cells cs2 3 (0, 0)))
    (hs : Stp W W' g cc none) : OutOk W' base v xs :=
  h.move fun k hk => hs.keep k (h.lt k hk).2 (fun e => h.ne hg (by decide) (by rw [hk, e])) (fun e => h.ne hc (by decide) (by rw [hk, e])) (by simp)
theorem OutOk.setRow {W : World} {base : Nat} {v : Value} {xs : List Int} (h : OutOk W base v xs) {g t : Nat} {cs : Array Value} {fr : Nat × Nat} (hg : W.heap[g]? = some (.cells cs t fr)) (ht : t ≠ 5) (new : Array Value) : OutOk (W.setRow g new) base v xs :=
  h.move fun k hk => setRow_other W g k new (fun e => h.ne hg ht (by rw [hk, e]))
theorem run_storeCells_free (P : Program) (g o : Nat) (t : TypeId) (fz : Nat × Nat) : ∀ (vs : List Value) (i : Nat) (cur : Array Value) (w : World), w.heap[g]? = some (.cells cur t fz) → (fz.2 = 0 ∨ cur.size ≤ fz.1) → o + i + vs.length ≤ cur.size → (∀ v ∈ vs, v.oneCell' = true) →
    (storeCells ⟨g, o, none⟩ vs i).run P w = .ok () (w.setRow g (cur.toList.take (o + i) ++ vs ++ cur.toList.drop (o + i + vs.length)).toArray)
  | [], i, cur, w, hg, _, _, _ => by
    simp only [storeCells, List.append_nil, List.length_nil, Nat.add_zero, List.take_append_drop, Array.toArray_toList]
    rw [setRow_self w g cur t fz hg]
    rfl
  | v :: rest, i, cur, w, hg, hfz, hl, h1 => by
    have hi : o + i < cur.size := by simp at hl; omega
    have hadd : (⟨g, o, none⟩ : Addr).add i = ⟨g, o + i, none⟩ := by unfold Addr.add; split <;> simp_all
    have hcell : w.cell? ⟨g, o + i, none⟩ = some cur[o + i] := by simp [World.cell?, hg, hi]
    have hfro : w.frozen? ⟨g, o + i, none⟩ = false := by
      obtain ⟨lo, hi'⟩ := fz
      simp only [World.frozen?, hg, Bool.and_eq_false_iff, decide_eq_false_iff_not]
      simp only at hfz
      omega
    have hst : (store ((⟨g, o, none⟩ : Addr).add i) v).run P w = .ok () (w.setRow g (cur.setIfInBounds (o + i) v)) := by
      rw [hadd, run_store P w _ v _ (h1 v (by simp)), hcell]
      simp [hfro, setCell_eq_setRow w g (o + i) cur t fz v hg]
    have ih := run_storeCells_free P g o t fz rest (i + 1) (cur.setIfInBounds (o + i) v) (w.setRow g (cur.setIfInBounds (o + i) v)) (setRow_heap w g cur _ t _ hg) (by simpa using hfz) (by simp at hl ⊢; omega) (fun x hx => h1 x (by simp [hx]))
    simp only [storeCells, Sem.run_bind, hst, Result.andThen_ok, ih, setRow_setRow]
    congr 3
    have e := list_seg_step cur.toList (o + i) v rest (by simp at hl ⊢; omega)
    simpa [Array.toList_setIfInBounds, Nat.add_assoc] using e
theorem OutOk.append {W : World} {base : Nat} {v : Value} {xs : List Int} (h : OutOk W base v xs) (ty : TypeId) (ad : Addr) (c : Nat) (ys : List Int) (hnews : ∀ j u, (ys.map (Value.int .u8))[j]? = some u → W.cell? (ad.add j) = some u)
    (hl : xs.length + ys.length ≤ 140737488355328) (hbase : base ≤ W.heap.size) :
    ∃ v' w', (Builtin.append_ #[72, 72] ty #[v, .slice (some ad) ys.length c]).run Tryd.prog W = .ok v' w' ∧ OutOk w' base v' (xs ++ ys) ∧ W.grownBy w' v.ownBlock := by
  obtain ⟨i0, hi, hzz⟩ := Option.map_eq_some_iff.1 info5
  simp only [Prod.mk.injEq] at hzz
  obtain ⟨hz0, hz1, hz2⟩ := hzz
  have ht := Tryd.underlying72
  have one : ∀ u ∈ ys.map (Value.int .u8), u.oneCell' = true := by intro u hu; obtain ⟨x, _, rfl⟩ := List.mem_map.1 hu; rfl
  have hlen : (ys.map (Value.int .u8)).length = ys.length * i0.size := by rw [hz1]; simp
  have hmax : xs.length + ys.length ≤ maxLen := by unfold maxLen; omega
  rcases h with ⟨rfl, rfl⟩ | ⟨g, cap, cur, fz, rfl, hb, hg, hfz, hnc, hcm, hcs, htake⟩
  · obtain ⟨v', w', r1, r2, r3, r4⟩ := run_append_own (P := Tryd.prog) W base 72 ty 5 i0 _ 1 1 ht hi hz0 hz1 hz2 (by rfl) (by decide) (.slice none 0 0) 0 [] ⟨rfl, .inl ⟨rfl, rfl⟩⟩ ad ys.length c (ys.map (Value.int .u8)) (by simp) hnews one (by simpa using hmax) (by simpa using hl) hbase
    refine ⟨v', w', r1, ?_, r3⟩
    · rcases r2.2 with ⟨e1, e2⟩ | ⟨g, cap, cur, rfl, hb, hg, hnc, hcm, hcs, htake⟩
      · refine .inl ⟨e1, ?_⟩
        have : ys.length = 0 := by omega
        simpa using this
      · refine .inr ⟨g, cap, cur, (0, 0), ?_, hb, hg, .inl rfl, ?_, hcm, by simpa using hcs, ?_⟩
        · simp
        · simpa using hnc
        · simpa using htake
  · by_cases hroom : xs.length + ys.length ≤ cap
    · have hf := run_firstCells_some (P := Tryd.prog) W i0.size ys.length ad ys.length c (ys.map (Value.int .u8)) hlen hnews
      have hst := run_storeCells_free Tryd.prog g (xs.length * i0.size) 5 fz (ys.map (Value.int .u8)) 0 cur W hg hfz (by simp [hz1]; omega) one
      simp only [Nat.add_zero] at hst
      have hrun : (Builtin.append_ #[72, 72] ty #[.slice (some ⟨g, 0, none⟩) xs.length cap, .slice (some ad) ys.length c]).run Tryd.prog W =
          .ok (.slice (some ⟨g, 0, none⟩) (xs.length + ys.length) cap) (W.setRow g (cur.toList.take (xs.length * i0.size) ++ ys.map (Value.int .u8) ++ cur.toList.drop (xs.length * i0.size + (ys.map (Value.int .u8)).length)).toArray) := by
        simp [Builtin.append_, run_underlying ht, sizeOf, typeInfo, hi, Builtin.lenOf, hroom, hf, Addr.add_lit, hst]
      refine ⟨_, _, hrun, .inr ⟨g, cap, _, fz, by simp, hb, setRow_heap W g cur _ 5 _ hg, ?_, by simpa using hroom, hcm, ?_, ?_⟩, ⟨rfl, rfl, rfl, by simp, fun k _ hk => setRow_other W g k _ (fun e => hk (by simp [Value.ownBlock, e]))⟩⟩
      · rw [hz1]; simp; omega
      · rw [hz1]; simp; omega
      · rw [hz1]
        simp only [Nat.mul_one, htake, List.map_append]
        rw [show (xs ++ ys).length = (xs.map (Value.int .u8) ++ ys.map (Value.int .u8)).length by simp]
        exact List.take_left
    · have holds : ∀ j u, (xs.map (Value.int .u8))[j]? = some u → W.cell? ((⟨g, 0, none⟩ : Addr).add j) = some u := by
        intro j u hu
        have hj : j < xs.length := by have := (List.getElem?_eq_some_iff.1 hu).1; simpa using this
        have hadd : (⟨g, 0, none⟩ : Addr).add j = ⟨g, j, none⟩ := by unfold Addr.add; split <;> simp_all
        rw [hadd]
        have : W.cell? ⟨g, j, none⟩ = cur[j]? := by simp [World.cell?, hg]
        rw [this, ← hu, ← htake, List.getElem?_take_of_lt hj]
        simp
      have hr := run_append_grow (P := Tryd.prog) W 72 ty 5 i0 _ ht hi hz0 ⟨g, 0, none⟩ xs.length cap (xs.map (Value.int .u8)) (by rw [hz1]; simp) holds ad ys.length c (ys.map (Value.int .u8)) hlen hnews (by omega) (by omega) (growslice_fits (by omega) (by rw [hz2]; omega))
      have hge := grownCap_ge W (xs.length + ys.length) cap 5
      have hcm2 : grownCap W (xs.length + ys.length) cap 5 ≤ maxLen := grownCap_le_maxLen W (xs.length + ys.length) cap 5 hmax
      refine ⟨_, _, hr, .inr ⟨W.heap.size, _, _, (0, 0), by simp, hbase, heap_alloc_new W.drew _, .inl rfl, by simpa using hge, hcm2, ?_, ?_⟩, ⟨rfl, rfl, rfl, by simp, fun k hk _ => Below.heap_alloc W.drew _ k hk⟩⟩
      · simp only [Array.size_append, List.size_toArray, size_zeroCells, List.length_map]
        simp only [Value.cells, Array.size, List.length]
        omega
      · simp only [Array.toList_append, List.append_assoc, List.map_append]
        rw [← List.append_assoc, show (xs ++ ys).length = (xs.map (Value.int .u8) ++ ys.map (Value.int .u8)).length by simp]
        exact List.take_left
theorem OutOk.string {W : World} {base : Nat} {v : Value} {xs : List Int} (h : OutOk W base v xs) : (convert 72 9 v).run Tryd.prog W = .ok (.string (strOfNums xs)) W := by
  rcases h with ⟨rfl, rfl⟩ | ⟨g, cap, cur, fz, rfl, hb, hg, hfz, hnc, hcm, hcs, htake⟩
  · exact run_convert_bytes_nil W 72 5 Tryd.underlying72 Tryd.underlying5 0 0 9 Tryd.underlying9
  · refine run_convert_bytes_arg W 72 5 Tryd.underlying72 Tryd.underlying5 g 0 xs.length cap xs rfl (fun i hi => ?_) 9 Tryd.underlying9
    have : W.cell? ⟨g, 0 + i, none⟩ = cur[i]? := by simp [World.cell?, hg]
    rw [this]
    have h2 : (cur.toList.take xs.length)[i]? = (xs.map (Value.int .u8))[i]? := by rw [htake]
    rw [List.getElem?_take_of_lt hi] at h2
    rw [← Array.getElem?_toList, h2]
    simp [List.getElem?_eq_getElem hi, List.getD_eq_getElem?_getD]
theorem OutOk.made (W : World) (base : Nat) (s : ByteArray) (hb : base ≤ W.heap.size) (hs : grownCap W s.size 0 5 ≤ maxLen) : OutOk (Lib.bytesWorld W 5 s) base (.slice (some ⟨W.heap.size, 0, none⟩) s.size (grownCap W s.size 0 5)) (bytesOf s) := by
  have hge := grownCap_ge W s.size 0 5
  have hd : s.data.size = s.size := rfl
  have hsz : (Lib.bytesCells W 5 s).size = grownCap W s.size 0 5 := by
    simp only [Lib.bytesCells, Array.size_append, Array.size_map, Array.size_replicate]
    rw [hd]
    omega
  refine .inr ⟨W.heap.size, _, _, _, by rw [bytesOf_length], hb, Lib.bytesWorld_at_new W 5 s, .inr (Nat.le_refl _), by rw [bytesOf_length]; exact hge, hs, hsz, ?_⟩
  rw [bytesOf_length]
  have hl : ((s.data.map fun b => Value.int .u8 b.toNat).toList).length = s.size := by simp
  simp only [Lib.bytesCells, Array.toList_append]
  rw [List.take_append_of_le_length (by rw [hl]; exact Nat.le_refl _), List.take_of_length_le (by rw [hl]; exact Nat.le_refl _)]
  simp [bytesOf]
theorem OutOk.event {ops : Array Oper} {rest : List Oper} {o : Oper} {a : Act} {Q : Exit → Act → World → Prop} {W : World} {base : Nat} {v : Value} {xs : List Int} (h : OutOk W base v xs) (hgd : o.guard = none) (s x : Operand)
    (ho : o.op = .call { callee := .builtin .append, args := #[s, x], argTypes := #[72, 72] }) (hs : a.eval s = v) (ad : Addr) (c : Nat) (ys : List Int) (hx : a.eval x = .slice (some ad) ys.length c)
    (hnews : ∀ j u, (ys.map (Value.int .u8))[j]? = some u → W.cell? (ad.add j) = some u) (hl : xs.length + ys.length ≤ 140737488355328) (hbase : base ≤ W.heap.size)
    (k : ∀ v' w', OutOk w' base v' (xs ++ ys) → W.grownBy w' v.ownBlock → wpList Tryd.prog ops Q rest (a.put o.dst v') w') : wpList Tryd.prog ops Q (o :: rest) a W := by
  obtain ⟨v', w', hr, h1, h2⟩ := h.append o.type ad c ys hnews hl hbase
  refine Kd.event_run hgd (v := v') (w1 := w') ?_ (k v' w' h1 h2)
  unfold execOp
  simp only [ho, resolve, invoke, builtin, Sem.run_bind, Sem.run_pure, Result.andThen_ok, List.map_toArray, List.map_cons, List.map_nil, hs, hx, hr]
end Go.Proofs.YtdhkmdgieflioaaDoor.F
namespace Go.Proofs.YtdhkmdgieflioaaDoor.F
open Go.RowKit Go.Proofs.YtdhkmdgieflioaaDoorW.PrintWords Go.Proofs.YtdhkmdgieflioaaDoorW.PrintLast Go.Proofs.YtdhkmdgieflioaaDoorW.PrintMore
attribute [local go_sem] max2_int min2_int max_two min_two max_three min_three max_four min_four
set_option linter.unusedVariables false
set_option linter.unusedSimpArgs false
def seedcornref07_Name.f (a0 : Int) : Option (ByteArray) := if a0 = 1 then (some (⟨#[108, 105]⟩ : ByteArray)) else (if a0 = 2 then (some (⟨#[108, 117, 105]⟩ : ByteArray)) else (if a0 = 3 then (some (⟨#[109, 111, 118]⟩ : ByteArray)) else (if a0 = 4 then (some (⟨#[97, 100, 100]⟩ : ByteArray)) else (if a0 = 5 then (some (⟨#[115, 117, 98]⟩ : ByteArray)) else (if a0 = 6 then (some (⟨#[109, 117, 108]⟩ : ByteArray)) else (if a0 = 7 then (some (⟨#[100, 105, 118]⟩ : ByteArray)) else (if a0 = 8 then (some (⟨#[109, 111, 100]⟩ : ByteArray)) else (if a0 = 9 then (some (⟨#[97, 110, 100]⟩ : ByteArray)) else (if a0 = 10 then (some (⟨#[111, 114]⟩ : ByteArray)) else (if a0 = 11 then (some (⟨#[120, 111, 114]⟩ : ByteArray)) else (if a0 = 12 then (some (⟨#[115, 104, 108]⟩ : ByteArray)) else (if a0 = 13 then (some (⟨#[115, 104, 114]⟩ : ByteArray)) else (if a0 = 14 then (some (⟨#[108, 116]⟩ : ByteArray)) else (if a0 = 15 then (some (⟨#[101, 113]⟩ : ByteArray)) else (if a0 = 16 then (some (⟨#[108, 100]⟩ : ByteArray)) else (if a0 = 17 then (some (⟨#[115, 116]⟩ : ByteArray)) else (if a0 = 18 then (some (⟨#[106, 109, 112]⟩ : ByteArray)) else (if a0 = 19 then (some (⟨#[106, 122]⟩ : ByteArray)) else (if a0 = 20 then (some (⟨#[106, 110, 122]⟩ : ByteArray)) else (if a0 = 21 then (some (⟨#[99, 97, 108, 108]⟩ : ByteArray)) else (if a0 = 22 then (some (⟨#[114, 101, 116]⟩ : ByteArray)) else (if a0 = 23 then (some (⟨#[103, 101, 116]⟩ : ByteArray)) else (if a0 = 24 then (some (⟨#[112, 117, 116]⟩ : ByteArray)) else (if a0 = 25 then (some (⟨#[99, 104, 107]⟩ : ByteArray)) else (if a0 = 26 then (some (⟨#[104, 97, 108, 116]⟩ : ByteArray)) else (if a0 = 27 then (some (⟨#[108, 100, 99]⟩ : ByteArray)) else (some (⟨#[]⟩ : ByteArray))))))))))))))))))))))))))))
set_option maxHeartbeats 8000000 in
set_option maxRecDepth 100000 in
theorem seedcornref07_Name.calls (a0 : Int) (r : ByteArray) (w : World) (h : seedcornref07_Name.f a0 = some r) :
    Calls Tryd.prog 51 #[.int .i64 a0] w fun e w' => e = .returned (.string r) ∧ Drawn0 w w' := by
  have H : (if a0 = 1 then (some (⟨#[108, 105]⟩ : ByteArray)) else (if a0 = 2 then (some (⟨#[108, 117, 105]⟩ : ByteArray)) else (if a0 = 3 then (some (⟨#[109, 111, 118]⟩ : ByteArray)) else (if a0 = 4 then (some (⟨#[97, 100, 100]⟩ : ByteArray)) else (if a0 = 5 then (some (⟨#[115, 117, 98]⟩ : ByteArray)) else (if a0 = 6 then (some (⟨#[109, 117, 108]⟩ : ByteArray)) else (if a0 = 7 then (some (⟨#[100, 105, 118]⟩ : ByteArray)) else (if a0 = 8 then (some (⟨#[109, 111, 100]⟩ : ByteArray)) else (if a0 = 9 then (some (⟨#[97, 110, 100]⟩ : ByteArray)) else (if a0 = 10 then (some (⟨#[111, 114]⟩ : ByteArray)) else (if a0 = 11 then (some (⟨#[120, 111, 114]⟩ : ByteArray)) else (if a0 = 12 then (some (⟨#[115, 104, 108]⟩ : ByteArray)) else (if a0 = 13 then (some (⟨#[115, 104, 114]⟩ : ByteArray)) else (if a0 = 14 then (some (⟨#[108, 116]⟩ : ByteArray)) else (if a0 = 15 then (some (⟨#[101, 113]⟩ : ByteArray)) else (if a0 = 16 then (some (⟨#[108, 100]⟩ : ByteArray)) else (if a0 = 17 then (some (⟨#[115, 116]⟩ : ByteArray)) else (if a0 = 18 then (some (⟨#[106, 109, 112]⟩ : ByteArray)) else (if a0 = 19 then (some (⟨#[106, 122]⟩ : ByteArray)) else (if a0 = 20 then (some (⟨#[106, 110, 122]⟩ : ByteArray)) else (if a0 = 21 then (some (⟨#[99, 97, 108, 108]⟩ : ByteArray)) else (if a0 = 22 then (some (⟨#[114, 101, 116]⟩ : ByteArray)) else (if a0 = 23 then (some (⟨#[103, 101, 116]⟩ : ByteArray)) else (if a0 = 24 then (some (⟨#[112, 117, 116]⟩ : ByteArray)) else (if a0 = 25 then (some (⟨#[99, 104, 107]⟩ : ByteArray)) else (if a0 = 26 then (some (⟨#[104, 97, 108, 116]⟩ : ByteArray)) else (if a0 = 27 then (some (⟨#[108, 100, 99]⟩ : ByteArray)) else (some (⟨#[]⟩ : ByteArray))))))))))))))))))))))))))))) = some r := h
  clear h
  by_cases c2 : a0 = 1
  · rw [if_pos c2] at H
    have c2b0 : (a0 == 1) = true := beq_iff_eq.mpr c2
    have c2b1 : (a0 != 1) = false := bne_eq_false_iff_eq.mpr c2
    clear c2
    obtain rfl := Option.some.inj H
    go_enter Tryd.func51, Tryd.ntmps51
    go_wp2
    go_ret
    exact ⟨by first | rfl | (simp; done) | (simp [*]; done), by repeat (first | exact Drawn0.refl _ | apply Drawn0.step)⟩
  · rw [if_neg c2] at H
    have c2b0 : (a0 == 1) = false := beq_eq_false_iff_ne.mpr c2
    have c2b1 : (a0 != 1) = true := bne_iff_ne.mpr c2
    by_cases c3 : a0 = 2
    · rw [if_pos c3] at H
      have c3b0 : (a0 == 2) = true := beq_iff_eq.mpr c3
      have c3b1 : (a0 != 2) = false := bne_eq_false_iff_eq.mpr c3
      clear c3
      obtain rfl := Option.some.inj H
      go_enter Tryd.func51, Tryd.ntmps51
      go_wp2
      go_ret
      exact ⟨by first | rfl | (simp; done) | (simp [*]; done), by repeat (first | exact Drawn0.refl _ | apply Drawn0.step)⟩
    · rw [if_neg c3] at H
      have c3b0 : (a0 == 2) = false := beq_eq_false_iff_ne.mpr c3
      have c3b1 : (a0 != 2) = true := bne_iff_ne.mpr c3
      by_cases c4 : a0 = 3
      · rw [if_pos c4] at H
        have c4b0 : (a0 == 3) = true := beq_iff_eq.mpr c4
        have c4b1 : (a0 != 3) = false := bne_eq_false_iff_eq.mpr c4
        clear c4
        obtain rfl := Option.some.inj H
        go_enter Tryd.func51, Tryd.ntmps51
        go_wp2
        go_ret
        exact ⟨by first | rfl | (simp; done) | (simp [*]; done), by repeat (first | exact Drawn0.refl _ | apply Drawn0.step)⟩
      · rw [if_neg c4] at H
        have c4b0 : (a0 == 3) = false := beq_eq_false_iff_ne.mpr c4
        have c4b1 : (a0 != 3) = true := bne_iff_ne.mpr c4
        by_cases c5 : a0 = 4
        · rw [if_pos c5] at H
          have c5b0 : (a0 == 4) = true := beq_iff_eq.mpr c5
          have c5b1 : (a0 != 4) = false := bne_eq_false_iff_eq.mpr c5
          clear c5
          obtain rfl := Option.some.inj H
          go_enter Tryd.func51, Tryd.ntmps51
          go_wp2
          go_ret
          exact ⟨by first | rfl | (simp; done) | (simp [*]; done), by repeat (first | exact Drawn0.refl _ | apply Drawn0.step)⟩
        · rw [if_neg c5] at H
          have c5b0 : (a0 == 4) = false := beq_eq_false_iff_ne.mpr c5
          have c5b1 : (a0 != 4) = true := bne_iff_ne.mpr c5
          by_cases c6 : a0 = 5
          · rw [if_pos c6] at H
            have c6b0 : (a0 == 5) = true := beq_iff_eq.mpr c6
            have c6b1 : (a0 != 5) = false := bne_eq_false_iff_eq.mpr c6
            clear c6
            obtain rfl := Option.some.inj H
            go_enter Tryd.func51, Tryd.ntmps51
            go_wp2
            go_ret
            exact ⟨by first | rfl | (simp; done) | (simp [*]; done), by repeat (first | exact Drawn0.refl _ | apply Drawn0.step)⟩
          · rw [if_neg c6] at H
            have c6b0 : (a0 == 5) = false := beq_eq_false_iff_ne.mpr c6
            have c6b1 : (a0 != 5) = true := bne_iff_ne.mpr c6
            by_cases c7 : a0 = 6
            · rw [if_pos c7] at H
              have c7b0 : (a0 == 6) = true := beq_iff_eq.mpr c7
              have c7b1 : (a0 != 6) = false := bne_eq_false_iff_eq.mpr c7
              clear c7
              obtain rfl := Option.some.inj H
              go_enter Tryd.func51, Tryd.ntmps51
              go_wp2
              go_ret
              exact ⟨by first | rfl | (simp; done) | (simp [*]; done), by repeat (first | exact Drawn0.refl _ | apply Drawn0.step)⟩
            · rw [if_neg c7] at H
              have c7b0 : (a0 == 6) = false := beq_eq_false_iff_ne.mpr c7
              have c7b1 : (a0 != 6) = true := bne_iff_ne.mpr c7
              by_cases c8 : a0 = 7
              · rw [if_pos c8] at H
                have c8b0 : (a0 == 7) = true := beq_iff_eq.mpr c8
                have c8b1 : (a0 != 7) = false := bne_eq_false_iff_eq.mpr c8
                clear c8
                obtain rfl := Option.some.inj H
                go_enter Tryd.func51, Tryd.ntmps51
                go_wp2
                go_ret
                exact ⟨by first | rfl | (simp; done) | (simp [*]; done), by repeat (first | exact Drawn0.refl _ | apply Drawn0.step)⟩
              · rw [if_neg c8] at H
                have c8b0 : (a0 == 7) = false := beq_eq_false_iff_ne.mpr c8
                have c8b1 : (a0 != 7) = true := bne_iff_ne.mpr c8
                by_cases c9 : a0 = 8
                · rw [if_pos c9] at H
                  have c9b0 : (a0 == 8) = true := beq_iff_eq.mpr c9
                  have c9b1 : (a0 != 8) = false := bne_eq_false_iff_eq.mpr c9
                  clear c9
                  obtain rfl := Option.some.inj H
                  go_enter Tryd.func51, Tryd.ntmps51
                  go_wp2
                  go_ret
                  exact ⟨by first | rfl | (simp; done) | (simp [*]; done), by repeat (first | exact Drawn0.refl _ | apply Drawn0.step)⟩
                · rw [if_neg c9] at H
                  have c9b0 : (a0 == 8) = false := beq_eq_false_iff_ne.mpr c9
                  have c9b1 : (a0 != 8) = true := bne_iff_ne.mpr c9
                  by_cases c10 : a0 = 9
                  · rw [if_pos c10] at H
                    have c10b0 : (a0 == 9) = true := beq_iff_eq.mpr c10
                    have c10b1 : (a0 != 9) = false := bne_eq_false_iff_eq.mpr c10
                    clear c10
                    obtain rfl := Option.some.inj H
                    go_enter Tryd.func51, Tryd.ntmps51
                    go_wp2
                    go_ret
                    exact ⟨by first | rfl | (simp; done) | (simp [*]; done), by repeat (first | exact Drawn0.refl _ | apply Drawn0.step)⟩
                  · rw [if_neg c10] at H
                    have c10b0 : (a0 == 9) = false := beq_eq_false_iff_ne.mpr c10
                    have c10b1 : (a0 != 9) = true := bne_iff_ne.mpr c10
                    by_cases c11 : a0 = 10
                    · rw [if_pos c11] at H
                      have c11b0 : (a0 == 10) = true := beq_iff_eq.mpr c11
                      have c11b1 : (a0 != 10) = false := bne_eq_false_iff_eq.mpr c11
                      clear c11
                      obtain rfl := Option.some.inj H
                      go_enter Tryd.func51, Tryd.ntmps51
                      go_wp2
                      go_ret
                      exact ⟨by first | rfl | (simp; done) | (simp [*]; done), by repeat (first | exact Drawn0.refl _ | apply Drawn0.step)⟩
                    · rw [if_neg c11] at H
                      have c11b0 : (a0 == 10) = false := beq_eq_false_iff_ne.mpr c11
                      have c11b1 : (a0 != 10) = true := bne_iff_ne.mpr c11
                      by_cases c12 : a0 = 11
                      · rw [if_pos c12] at H
                        have c12b0 : (a0 == 11) = true := beq_iff_eq.mpr c12
                        have c12b1 : (a0 != 11) = false := bne_eq_false_iff_eq.mpr c12
                        clear c12
                        obtain rfl := Option.some.inj H
                        go_enter Tryd.func51, Tryd.ntmps51
                        go_wp2
                        go_ret
                        exact ⟨by first | rfl | (simp; done) | (simp [*]; done), by repeat (first | exact Drawn0.refl _ | apply Drawn0.step)⟩
                      · rw [if_neg c12] at H
                        have c12b0 : (a0 == 11) = false := beq_eq_false_iff_ne.mpr c12
                        have c12b1 : (a0 != 11) = true := bne_iff_ne.mpr c12
                        by_cases c13 : a0 = 12
                        · rw [if_pos c13] at H
                          have c13b0 : (a0 == 12) = true := beq_iff_eq.mpr c13
                          have c13b1 : (a0 != 12) = false := bne_eq_false_iff_eq.mpr c13
                          clear c13
                          obtain rfl := Option.some.inj H
                          go_enter Tryd.func51, Tryd.ntmps51
                          go_wp2
                          go_ret
                          exact ⟨by first | rfl | (simp; done) | (simp [*]; done), by repeat (first | exact Drawn0.refl _ | apply Drawn0.step)⟩
                        · rw [if_neg c13] at H
                          have c13b0 : (a0 == 12) = false := beq_eq_false_iff_ne.mpr c13
                          have c13b1 : (a0 != 12) = true := bne_iff_ne.mpr c13
                          by_cases c14 : a0 = 13
                          · rw [if_pos c14] at H
                            have c14b0 : (a0 == 13) = true := beq_iff_eq.mpr c14
                            have c14b1 : (a0 != 13) = false := bne_eq_false_iff_eq.mpr c14
                            clear c14
                            obtain rfl := Option.some.inj H
                            go_enter Tryd.func51, Tryd.ntmps51
                            go_wp2
                            go_ret
                            exact ⟨by first | rfl | (simp; done) | (simp [*]; done), by repeat (first | exact Drawn0.refl _ | apply Drawn0.step)⟩
                          · rw [if_neg c14] at H
                            have c14b0 : (a0 == 13) = false := beq_eq_false_iff_ne.mpr c14
                            have c14b1 : (a0 != 13) = true := bne_iff_ne.mpr c14
                            by_cases c15 : a0 = 14
                            · rw [if_pos c15] at H
                              have c15b0 : (a0 == 14) = true := beq_iff_eq.mpr c15
                              have c15b1 : (a0 != 14) = false := bne_eq_false_iff_eq.mpr c15
                              clear c15
                              obtain rfl := Option.some.inj H
                              go_enter Tryd.func51, Tryd.ntmps51
                              go_wp2
                              go_ret
                              exact ⟨by first | rfl | (simp; done) | (simp [*]; done), by repeat (first | exact Drawn0.refl _ | apply Drawn0.step)⟩
                            · rw [if_neg c15] at H
                              have c15b0 : (a0 == 14) = false := beq_eq_false_iff_ne.mpr c15
                              have c15b1 : (a0 != 14) = true := bne_iff_ne.mpr c15
                              by_cases c16 : a0 = 15
                              · rw [if_pos c16] at H
                                have c16b0 : (a0 == 15) = true := beq_iff_eq.mpr c16
                                have c16b1 : (a0 != 15) = false := bne_eq_false_iff_eq.mpr c16
                                clear c16
                                obtain rfl := Option.some.inj H
                                go_enter Tryd.func51, Tryd.ntmps51
                                go_wp2
                                go_ret
                                exact ⟨by first | rfl | (simp; done) | (simp [*]; done), by repeat (first | exact Drawn0.refl _ | apply Drawn0.step)⟩
                              · rw [if_neg c16] at H
                                have c16b0 : (a0 == 15) = false := beq_eq_false_iff_ne.mpr c16
                                have c16b1 : (a0 != 15) = true := bne_iff_ne.mpr c16
                                by_cases c17 : a0 = 16
                                · rw [if_pos c17] at H
                                  have c17b0 : (a0 == 16) = true := beq_iff_eq.mpr c17
                                  have c17b1 : (a0 != 16) = false := bne_eq_false_iff_eq.mpr c17
                                  clear c17
                                  obtain rfl := Option.some.inj H
                                  go_enter Tryd.func51, Tryd.ntmps51
                                  go_wp2
                                  go_ret
                                  exact ⟨by first | rfl | (simp; done) | (simp [*]; done), by repeat (first | exact Drawn0.refl _ | apply Drawn0.step)⟩
                                · rw [if_neg c17] at H
                                  have c17b0 : (a0 == 16) = false := beq_eq_false_iff_ne.mpr c17
                                  have c17b1 : (a0 != 16) = true := bne_iff_ne.mpr c17
                                  by_cases c18 : a0 = 17
                                  · rw [if_pos c18] at H
                                    have c18b0 : (a0 == 17) = true := beq_iff_eq.mpr c18
                                    have c18b1 : (a0 != 17) = false := bne_eq_false_iff_eq.mpr c18
                                    clear c18
                                    obtain rfl := Option.some.inj H
                                    go_enter Tryd.func51, Tryd.ntmps51
                                    go_wp2
                                    go_ret
                                    exact ⟨by first | rfl | (simp; done) | (simp [*]; done), by repeat (first | exact Drawn0.refl _ | apply Drawn0.step)⟩
                                  · rw [if_neg c18] at H
                                    have c18b0 : (a0 == 17) = false := beq_eq_false_iff_ne.mpr c18
                                    have c18b1 : (a0 != 17) = true := bne_iff_ne.mpr c18
                                    by_cases c19 : a0 = 18
                                    · rw [if_pos c19] at H
                                      have c19b0 : (a0 == 18) = true := beq_iff_eq.mpr c19
                                      have c19b1 : (a0 != 18) = false := bne_eq_false_iff_eq.mpr c19
                                      clear c19
                                      obtain rfl := Option.some.inj H
                                      go_enter Tryd.func51, Tryd.ntmps51
                                      go_wp2
                                      go_ret
                                      exact ⟨by first | rfl | (simp; done) | (simp [*]; done), by repeat (first | exact Drawn0.refl _ | apply Drawn0.step)⟩
                                    · rw [if_neg c19] at H
                                      have c19b0 : (a0 == 18) = false := beq_eq_false_iff_ne.mpr c19
                                      have c19b1 : (a0 != 18) = true := bne_iff_ne.mpr c19
                                      by_cases c20 : a0 = 19
                                      · rw [if_pos c20] at H
                                        have c20b0 : (a0 == 19) = true := beq_iff_eq.mpr c20
                                        have c20b1 : (a0 != 19) = false := bne_eq_false_iff_eq.mpr c20
                                        clear c20
                                        obtain rfl := Option.some.inj H
                                        go_enter Tryd.func51, Tryd.ntmps51
                                        go_wp2
                                        go_ret
                                        exact ⟨by first | rfl | (simp; done) | (simp [*]; done), by repeat (first | exact Drawn0.refl _ | apply Drawn0.step)⟩
                                      · rw [if_neg c20] at H
                                        have c20b0 : (a0 == 19) = false := beq_eq_false_iff_ne.mpr c20
                                        have c20b1 : (a0 != 19) = true := bne_iff_ne.mpr c20
                                        by_cases c21 : a0 = 20
                                        · rw [if_pos c21] at H
                                          have c21b0 : (a0 == 20) = true := beq_iff_eq.mpr c21
                                          have c21b1 : (a0 != 20) = false := bne_eq_false_iff_eq.mpr c21
                                          clear c21
                                          obtain rfl := Option.some.inj H
                                          go_enter Tryd.func51, Tryd.ntmps51
                                          go_wp2
                                          go_ret
                                          exact ⟨by first | rfl | (simp; done) | (simp [*]; done), by repeat (first | exact Drawn0.refl _ | apply Drawn0.step)⟩
                                        · rw [if_neg c21] at H
                                          have c21b0 : (a0 == 20) = false := beq_eq_false_iff_ne.mpr c21
                                          have c21b1 : (a0 != 20) = true := bne_iff_ne.mpr c21
                                          by_cases c22 : a0 = 21
                                          · rw [if_pos c22] at H
                                            have c22b0 : (a0 == 21) = true := beq_iff_eq.mpr c22
                                            have c22b1 : (a0 != 21) = false := bne_eq_false_iff_eq.mpr c22
                                            clear c22
                                            obtain rfl := Option.some.inj H
                                            go_enter Tryd.func51, Tryd.ntmps51
                                            go_wp2
                                            go_ret
                                            exact ⟨by first | rfl | (simp; done) | (simp [*]; done), by repeat (first | exact Drawn0.refl _ | apply Drawn0.step)⟩
                                          · rw [if_neg c22] at H
                                            have c22b0 : (a0 == 21) = false := beq_eq_false_iff_ne.mpr c22
                                            have c22b1 : (a0 != 21) = true := bne_iff_ne.mpr c22
                                            by_cases c23 : a0 = 22
                                            · rw [if_pos c23] at H
                                              have c23b0 : (a0 == 22) = true := beq_iff_eq.mpr c23
                                              have c23b1 : (a0 != 22) = false := bne_eq_false_iff_eq.mpr c23
                                              clear c23
                                              obtain rfl := Option.some.inj H
                                              go_enter Tryd.func51, Tryd.ntmps51
                                              go_wp2
                                              go_ret
                                              exact ⟨by first | rfl | (simp; done) | (simp [*]; done), by repeat (first | exact Drawn0.refl _ | apply Drawn0.step)⟩
                                            · rw [if_neg c23] at H
                                              have c23b0 : (a0 == 22) = false := beq_eq_false_iff_ne.mpr c23
                                              have c23b1 : (a0 != 22) = true := bne_iff_ne.mpr c23
                                              by_cases c24 : a0 = 23
                                              · rw [if_pos c24] at H
                                                have c24b0 : (a0 == 23) = true := beq_iff_eq.mpr c24
                                                have c24b1 : (a0 != 23) = false := bne_eq_false_iff_eq.mpr c24
                                                clear c24
                                                obtain rfl := Option.some.inj H
                                                go_enter Tryd.func51, Tryd.ntmps51
                                                go_wp2
                                                go_ret
                                                exact ⟨by first | rfl | (simp; done) | (simp [*]; done), by repeat (first | exact Drawn0.refl _ | apply Drawn0.step)⟩
                                              · rw [if_neg c24] at H
                                                have c24b0 : (a0 == 23) = false := beq_eq_false_iff_ne.mpr c24
                                                have c24b1 : (a0 != 23) = true := bne_iff_ne.mpr c24
                                                by_cases c25 : a0 = 24
                                                · rw [if_pos c25] at H
                                                  have c25b0 : (a0 == 24) = true := beq_iff_eq.mpr c25
                                                  have c25b1 : (a0 != 24) = false := bne_eq_false_iff_eq.mpr c25
                                                  clear c25
                                                  obtain rfl := Option.some.inj H
                                                  go_enter Tryd.func51, Tryd.ntmps51
                                                  go_wp2
                                                  go_ret
                                                  exact ⟨by first | rfl | (simp; done) | (simp [*]; done), by repeat (first | exact Drawn0.refl _ | apply Drawn0.step)⟩
                                                · rw [if_neg c25] at H
                                                  have c25b0 : (a0 == 24) = false := beq_eq_false_iff_ne.mpr c25
                                                  have c25b1 : (a0 != 24) = true := bne_iff_ne.mpr c25
                                                  by_cases c26 : a0 = 25
                                                  · rw [if_pos c26] at H
                                                    have c26b0 : (a0 == 25) = true := beq_iff_eq.mpr c26
                                                    have c26b1 : (a0 != 25) = false := bne_eq_false_iff_eq.mpr c26
                                                    clear c26
                                                    obtain rfl := Option.some.inj H
                                                    go_enter Tryd.func51, Tryd.ntmps51
                                                    go_wp2
                                                    go_ret
                                                    exact ⟨by first | rfl | (simp; done) | (simp [*]; done), by repeat (first | exact Drawn0.refl _ | apply Drawn0.step)⟩
                                                  · rw [if_neg c26] at H
                                                    have c26b0 : (a0 == 25) = false := beq_eq_false_iff_ne.mpr c26
                                                    have c26b1 : (a0 != 25) = true := bne_iff_ne.mpr c26
                                                    by_cases c27 : a0 = 26
                                                    · rw [if_pos c27] at H
                                                      have c27b0 : (a0 == 26) = true := beq_iff_eq.mpr c27
                                                      have c27b1 : (a0 != 26) = false := bne_eq_false_iff_eq.mpr c27
                                                      clear c27
                                                      obtain rfl := Option.some.inj H
                                                      go_enter Tryd.func51, Tryd.ntmps51
                                                      go_wp2
                                                      go_ret
                                                      exact ⟨by first | rfl | (simp; done) | (simp [*]; done), by repeat (first | exact Drawn0.refl _ | apply Drawn0.step)⟩
                                                    · rw [if_neg c27] at H
                                                      have c27b0 : (a0 == 26) = false := beq_eq_false_iff_ne.mpr c27
                                                      have c27b1 : (a0 != 26) = true := bne_iff_ne.mpr c27
                                                      by_cases c28 : a0 = 27
                                                      · rw [if_pos c28] at H
                                                        have c28b0 : (a0 == 27) = true := beq_iff_eq.mpr c28
                                                        have c28b1 : (a0 != 27) = false := bne_eq_false_iff_eq.mpr c28
                                                        clear c28
                                                        obtain rfl := Option.some.inj H
                                                        go_enter Tryd.func51, Tryd.ntmps51
                                                        go_wp2
                                                        go_ret
                                                        exact ⟨by first | rfl | (simp; done) | (simp [*]; done), by repeat (first | exact Drawn0.refl _ | apply Drawn0.step)⟩
                                                      · rw [if_neg c28] at H
                                                        have c28b0 : (a0 == 27) = false := beq_eq_false_iff_ne.mpr c28
                                                        have c28b1 : (a0 != 27) = true := bne_iff_ne.mpr c28
                                                        obtain rfl := Option.some.inj H
                                                        go_enter Tryd.func51, Tryd.ntmps51
                                                        go_wp2
                                                        go_ret
                                                        exact ⟨by first | rfl | (simp; done) | (simp [*]; done), by repeat (first | exact Drawn0.refl _ | apply Drawn0.step)⟩
end Go.Proofs.YtdhkmdgieflioaaDoor.F
namespace Go.Proofs.YtdhkmdgieflioaaDoor.F
open Go.RowKit Go.Proofs.YtdhkmdgieflioaaDoorW.PrintWords Go.Proofs.YtdhkmdgieflioaaDoorW.PrintLast Go.Proofs.YtdhkmdgieflioaaDoorW.PrintMore
set_option linter.unusedVariables false
set_option linter.unusedSimpArgs false
theorem wrapI {x : Int} (h0 : -9223372036854775808 ≤ x) (h1 : x ≤ 9223372036854775807) : wrap64 x = x := by unfold wrap64; omega
theorem name_empty (i : Int) (h : ¬ (1 ≤ i ∧ i < 28)) : (nameOf i).toList = [] := by
  rw [ByteArray.toList_eq]
  by_cases h0 : i = 0
  · subst h0; rfl
  · unfold nameOf
    rw [if_neg (by omega)]
end Go.Proofs.YtdhkmdgieflioaaDoor.F
namespace Go.Proofs.YtdhkmdgieflioaaDoor.F
open Go.RowKit Go.Proofs.YtdhkmdgieflioaaDoorW.PrintWords Go.Proofs.YtdhkmdgieflioaaDoorW.PrintLast Go.Proofs.YtdhkmdgieflioaaDoorW.PrintMore
attribute [local go_sem] max2_int min2_int max_two min_two max_three min_three max_four min_four
set_option linter.unusedVariables false
set_option linter.unusedSimpArgs false
theorem eqA46 (d : Nat) (w : World) (x0 y0 : Int) (x1 y1 : Int) (x2 y2 : Int) (x3 y3 : Int) :
    (Op.equalIn (d + 2) 46 (.agg #[.int .i64 x0, .int .i64 x1, .int .i64 x2, .int .i64 x3]) (.agg #[.int .i64 y0, .int .i64 y1, .int .i64 y2, .int .i64 y3])).run Tryd.prog w = .ok (x0 == y0 && (x1 == y1 && (x2 == y2 && (x3 == y3)))) w := by
  refine eqA_of Tryd.underlying46 (by kernel_rfl) ?_
  refine eqf_cons (by rfl) (by go_simp; rfl) (by go_simp; rfl) (by go_simp) ?_
  refine eqf_cons (by rfl) (by go_simp; rfl) (by go_simp; rfl) (by go_simp) ?_
  refine eqf_cons (by rfl) (by go_simp; rfl) (by go_simp; rfl) (by go_simp) ?_
  exact eqf_last (by rfl) (by go_simp; rfl) (by go_simp; rfl) (by go_simp)
end Go.Proofs.YtdhkmdgieflioaaDoor.F
namespace Go.Proofs.YtdhkmdgieflioaaDoor.F
open Go.RowKit Go.Proofs.YtdhkmdgieflioaaDoorW.PrintWords Go.Proofs.YtdhkmdgieflioaaDoorW.PrintLast Go.Proofs.YtdhkmdgieflioaaDoorW.PrintMore
attribute [local go_sem] max2_int min2_int max_two min_two max_three min_three max_four min_four
set_option linter.unusedVariables false
set_option linter.unusedSimpArgs false
mutual
def seedcornref07_Parts.j0 : Nat → Int → Int → Bool → Option (ByteArray)
  | 0, _, _, _ => none
  | k + 1, x0, x3, x4 => if x4 = true then (some (⟨#[97, 99]⟩ : ByteArray)) else (if x3 = 3 then (some (⟨#[97, 98]⟩ : ByteArray)) else (if x3 = 16 then (seedcornref07_Parts.j1 k x0 x3 (x3 == 16)) else (if x3 = 17 then (seedcornref07_Parts.j1 k x0 x3 (x3 == 17)) else (seedcornref07_Parts.j1 k x0 x3 (x3 == 27)))))
def seedcornref07_Parts.j1 : Nat → Int → Int → Bool → Option (ByteArray)
  | 0, _, _, _ => none
  | k + 1, x0, x3, x13 => if x13 = true then (some (⟨#[97, 98, 99]⟩ : ByteArray)) else (if x3 = 18 then (some (⟨#[99]⟩ : ByteArray)) else (if x3 = 22 then (seedcornref07_Parts.j2 k x0 x3 (x3 == 22)) else (if x3 = 23 then (seedcornref07_Parts.j2 k x0 x3 (x3 == 23)) else (seedcornref07_Parts.j2 k x0 x3 (x3 == 24)))))
def seedcornref07_Parts.j2 : Nat → Int → Int → Bool → Option (ByteArray)
  | 0, _, _, _ => none
  | k + 1, x0, x3, x19 => if x19 = true then (some (⟨#[97]⟩ : ByteArray)) else (if x3 = 26 then (some (⟨#[]⟩ : ByteArray)) else (if x0 ≥ 4 then (if x0 ≤ 15 then (some (⟨#[97, 98, 114]⟩ : ByteArray)) else (some (⟨#[63]⟩ : ByteArray))) else (some (⟨#[63]⟩ : ByteArray))))
end
def seedcornref07_Parts.f (k : Nat) (a0 : Int) : Option (ByteArray) := if a0 = 1 then (seedcornref07_Parts.j0 k a0 a0 (a0 == 1)) else (if a0 = 2 then (seedcornref07_Parts.j0 k a0 a0 (a0 == 2)) else (if a0 = 19 then (seedcornref07_Parts.j0 k a0 a0 (a0 == 19)) else (if a0 = 20 then (seedcornref07_Parts.j0 k a0 a0 (a0 == 20)) else (if a0 = 21 then (seedcornref07_Parts.j0 k a0 a0 (a0 == 21)) else (seedcornref07_Parts.j0 k a0 a0 (a0 == 25))))))
theorem seedcornref07_Parts.mono_l : ∀ k, (∀ y0 y1 y2, LeO (seedcornref07_Parts.j0 k y0 y1 y2) (seedcornref07_Parts.j0 (k + 1) y0 y1 y2)) ∧ (∀ y0 y1 y2, LeO (seedcornref07_Parts.j1 k y0 y1 y2) (seedcornref07_Parts.j1 (k + 1) y0 y1 y2)) ∧ (∀ y0 y1 y2, LeO (seedcornref07_Parts.j2 k y0 y1 y2) (seedcornref07_Parts.j2 (k + 1) y0 y1 y2))
  | 0 => ⟨fun _ _ _ r h => by simp [seedcornref07_Parts.j0] at h, fun _ _ _ r h => by simp [seedcornref07_Parts.j1] at h, fun _ _ _ r h => by simp [seedcornref07_Parts.j2] at h⟩
  | k + 1 => by
    obtain ⟨ih0, ih1, ih2⟩ := seedcornref07_Parts.mono_l k
    refine ⟨?_, ?_, ?_⟩
    · intro y0 y1 y2
      unfold seedcornref07_Parts.j0
      repeat' first
      | (with_reducible exact ih0 _ _ _)
      | (with_reducible exact ih1 _ _ _)
      | (with_reducible exact ih2 _ _ _)
      | (with_reducible exact LeO.refl _)
      | (with_reducible exact LeO.none _)
      | (with_reducible refine LeO.ite ?_ ?_)
      | (with_reducible refine LeO.bind ?_ (fun _ => ?_))
      | exact ih0 _ _ _
      | exact ih1 _ _ _
      | exact ih2 _ _ _
      | exact LeO.none _
      | refine LeO.ite ?_ ?_
      | refine LeO.bind ?_ (fun _ => ?_)
    · intro y0 y1 y2
      unfold seedcornref07_Parts.j1
      repeat' first
      | (with_reducible exact ih0 _ _ _)
      | (with_reducible exact ih1 _ _ _)
      | (with_reducible exact ih2 _ _ _)
      | (with_reducible exact LeO.refl _)
      | (with_reducible exact LeO.none _)
      | (with_reducible refine LeO.ite ?_ ?_)
      | (with_reducible refine LeO.bind ?_ (fun _ => ?_))
      | exact ih0 _ _ _
      | exact ih1 _ _ _
      | exact ih2 _ _ _
      | exact LeO.none _
      | refine LeO.ite ?_ ?_
      | refine LeO.bind ?_ (fun _ => ?_)
    · intro y0 y1 y2
      unfold seedcornref07_Parts.j2
      repeat' first
      | (with_reducible exact ih0 _ _ _)
      | (with_reducible exact ih1 _ _ _)
      | (with_reducible exact ih2 _ _ _)
      | (with_reducible exact LeO.refl _)
      | (with_reducible exact LeO.none _)
      | (with_reducible refine LeO.ite ?_ ?_)
      | (with_reducible refine LeO.bind ?_ (fun _ => ?_))
      | exact ih0 _ _ _
      | exact ih1 _ _ _
      | exact ih2 _ _ _
      | exact LeO.none _
      | refine LeO.ite ?_ ?_
      | refine LeO.bind ?_ (fun _ => ?_)
theorem seedcornref07_Parts.mono : ∀ a0 k, LeO (seedcornref07_Parts.f k a0) (seedcornref07_Parts.f (k + 1) a0) := by
  intro a0 k
  obtain ⟨ih0, ih1, ih2⟩ := seedcornref07_Parts.mono_l k
  unfold seedcornref07_Parts.f
  repeat' first
      | (with_reducible exact ih0 _ _ _)
      | (with_reducible exact ih1 _ _ _)
      | (with_reducible exact ih2 _ _ _)
      | (with_reducible exact LeO.refl _)
      | (with_reducible exact LeO.none _)
      | (with_reducible refine LeO.ite ?_ ?_)
      | (with_reducible refine LeO.bind ?_ (fun _ => ?_))
      | exact ih0 _ _ _
      | exact ih1 _ _ _
      | exact ih2 _ _ _
      | exact LeO.none _
      | refine LeO.ite ?_ ?_
      | refine LeO.bind ?_ (fun _ => ?_)
set_option maxHeartbeats 8000000 in
set_option maxRecDepth 100000 in
theorem seedcornref07_Parts.calls (k : Nat) (a0 : Int) (r : ByteArray) (w : World) (h : seedcornref07_Parts.f k a0 = some r) :
    Calls Tryd.prog 48 #[.int .i64 a0] w fun e w' => e = .returned (.string r) ∧ Drawn0 w w' := by
  have H : (if a0 = 1 then (seedcornref07_Parts.j0 k a0 a0 (a0 == 1)) else (if a0 = 2 then (seedcornref07_Parts.j0 k a0 a0 (a0 == 2)) else (if a0 = 19 then (seedcornref07_Parts.j0 k a0 a0 (a0 == 19)) else (if a0 = 20 then (seedcornref07_Parts.j0 k a0 a0 (a0 == 20)) else (if a0 = 21 then (seedcornref07_Parts.j0 k a0 a0 (a0 == 21)) else (seedcornref07_Parts.j0 k a0 a0 (a0 == 25))))))) = some r := h
  clear h
  have HC2 := Aside0.mk H
  clear H
  go_enter Tryd.func48, Tryd.ntmps48
  go_upto_if 4 with (fail)
  go_cut [4] (fun v4 wc => ∃ (kq : Nat) (x4_1 : Bool), v4 = .bool x4_1 ∧ Aside0 (seedcornref07_Parts.j0 kq a0 a0 x4_1 = some r) ∧ Aside0 (kq ≤ k) ∧ Drawn0 w wc)
  case first =>
    have H := HC2.out
    clear HC2
    by_cases c3 : a0 = 1
    · rw [if_pos c3] at H
      have c3b0 : (a0 == 1) = true := beq_iff_eq.mpr c3
      have c3b1 : (a0 != 1) = false := bne_eq_false_iff_eq.mpr c3
      clear c3
      (first | rw [c3b0] | (simp only [i64_w, i32_w]; rw [c3b0]) | skip)
      have H' := Aside0.mk H
      clear H
      go_wp2
      go_meet
      case rel => exact ⟨_, ((a0 == 1)), (by first | rfl | (simp; done) | (simp [*]; done)), H', ⟨by first | omega | exact Nat.le_refl _⟩, by repeat (first | exact Drawn0.refl _ | apply Drawn0.step)⟩
    · rw [if_neg c3] at H
      have c3b0 : (a0 == 1) = false := beq_eq_false_iff_ne.mpr c3
      have c3b1 : (a0 != 1) = true := bne_iff_ne.mpr c3
      (first | rw [c3b0] | (simp only [i64_w, i32_w]; rw [c3b0]) | skip)
      by_cases c4 : a0 = 2
      · rw [if_pos c4] at H
        have c4b0 : (a0 == 2) = true := beq_iff_eq.mpr c4
        have c4b1 : (a0 != 2) = false := bne_eq_false_iff_eq.mpr c4
        clear c4
        have H' := Aside0.mk H
        clear H
        go_wp2
        go_meet
        case rel => exact ⟨_, ((a0 == 2)), (by first | rfl | (simp; done) | (simp [*]; done)), H', ⟨by first | omega | exact Nat.le_refl _⟩, by repeat (first | exact Drawn0.refl _ | apply Drawn0.step)⟩
      · rw [if_neg c4] at H
        have c4b0 : (a0 == 2) = false := beq_eq_false_iff_ne.mpr c4
        have c4b1 : (a0 != 2) = true := bne_iff_ne.mpr c4
        by_cases c5 : a0 = 19
        · rw [if_pos c5] at H
          have c5b0 : (a0 == 19) = true := beq_iff_eq.mpr c5
          have c5b1 : (a0 != 19) = false := bne_eq_false_iff_eq.mpr c5
          clear c5
          have H' := Aside0.mk H
          clear H
          go_wp2
          go_meet
          case rel => exact ⟨_, ((a0 == 19)), (by first | rfl | (simp; done) | (simp [*]; done)), H', ⟨by first | omega | exact Nat.le_refl _⟩, by repeat (first | exact Drawn0.refl _ | apply Drawn0.step)⟩
        · rw [if_neg c5] at H
          have c5b0 : (a0 == 19) = false := beq_eq_false_iff_ne.mpr c5
          have c5b1 : (a0 != 19) = true := bne_iff_ne.mpr c5
          by_cases c6 : a0 = 20
          · rw [if_pos c6] at H
            have c6b0 : (a0 == 20) = true := beq_iff_eq.mpr c6
            have c6b1 : (a0 != 20) = false := bne_eq_false_iff_eq.mpr c6
            clear c6
            have H' := Aside0.mk H
            clear H
            go_wp2
            go_meet
            case rel => exact ⟨_, ((a0 == 20)), (by first | rfl | (simp; done) | (simp [*]; done)), H', ⟨by first | omega | exact Nat.le_refl _⟩, by repeat (first | exact Drawn0.refl _ | apply Drawn0.step)⟩
          · rw [if_neg c6] at H
            have c6b0 : (a0 == 20) = false := beq_eq_false_iff_ne.mpr c6
            have c6b1 : (a0 != 20) = true := bne_iff_ne.mpr c6
            by_cases c7 : a0 = 21
            · rw [if_pos c7] at H
              have c7b0 : (a0 == 21) = true := beq_iff_eq.mpr c7
              have c7b1 : (a0 != 21) = false := bne_eq_false_iff_eq.mpr c7
              clear c7
              have H' := Aside0.mk H
              clear H
              go_wp2
              go_meet
              case rel => exact ⟨_, ((a0 == 21)), (by first | rfl | (simp; done) | (simp [*]; done)), H', ⟨by first | omega | exact Nat.le_refl _⟩, by repeat (first | exact Drawn0.refl _ | apply Drawn0.step)⟩
            · rw [if_neg c7] at H
              have c7b0 : (a0 == 21) = false := beq_eq_false_iff_ne.mpr c7
              have c7b1 : (a0 != 21) = true := bne_iff_ne.mpr c7
              have H' := Aside0.mk H
              clear H
              go_wp2
              go_meet
              case rel => exact ⟨_, ((a0 == 25)), (by first | rfl | (simp; done) | (simp [*]; done)), H', ⟨by first | omega | exact Nat.le_refl _⟩, by repeat (first | exact Drawn0.refl _ | apply Drawn0.step)⟩
  case rest =>
    clear HC2
    try clear p2
    try clear c3
    try clear c3b0
    try clear c3b1
    try clear c4
    try clear c4b0
    try clear c4b1
    try clear c5
    try clear c5b0
    try clear c5b1
    try clear c6
    try clear c6b0
    try clear c6b1
    try clear c7
    try clear c7b0
    try clear c7b1
    obtain ⟨kq, x4_1, rfl, HA, HJ1, ⟨mc1, rfl⟩⟩ := hcut
    cases kq with
    | zero => exact absurd HA.out (by simp [seedcornref07_Parts.j0])
    | succ kj1 =>
      have H := HA.out
      clear HA
      simp only [seedcornref07_Parts.j0] at H
      by_cases c8 : x4_1 = true
      · subst c8
        have H1 : (some (⟨#[97, 99]⟩ : ByteArray)) = some r := by rw [if_pos rfl] at H; exact H
        clear H
        have H := H1
        clear H1
        obtain rfl := Option.some.inj H
        go_wp2
        go_ret
        exact ⟨by first | rfl | (simp; done) | (simp [*]; done), by repeat (first | exact Drawn0.refl _ | apply Drawn0.step)⟩
      · replace c8 := Bool.eq_false_iff.mpr c8
        subst c8
        have H1 : (if a0 = 3 then (some (⟨#[97, 98]⟩ : ByteArray)) else (if a0 = 16 then (seedcornref07_Parts.j1 kj1 a0 a0 (a0 == 16)) else (if a0 = 17 then (seedcornref07_Parts.j1 kj1 a0 a0 (a0 == 17)) else (seedcornref07_Parts.j1 kj1 a0 a0 (a0 == 27))))) = some r := by rw [if_neg (show ¬ (false = true) by decide)] at H; exact H
        clear H
        have H := H1
        clear H1
        by_cases c9 : a0 = 3
        · rw [if_pos c9] at H
          have c9b0 : (a0 == 3) = true := beq_iff_eq.mpr c9
          have c9b1 : (a0 != 3) = false := bne_eq_false_iff_eq.mpr c9
          clear c9
          obtain rfl := Option.some.inj H
          go_wp2
          go_ret
          exact ⟨by first | rfl | (simp; done) | (simp [*]; done), by repeat (first | exact Drawn0.refl _ | apply Drawn0.step)⟩
        · rw [if_neg c9] at H
          have c9b0 : (a0 == 3) = false := beq_eq_false_iff_ne.mpr c9
          have c9b1 : (a0 != 3) = true := bne_iff_ne.mpr c9
          have HC10 := Aside0.mk H
          clear H
          go_upto_if 13 with (fail)
          go_cut [13] (fun v13 wc => ∃ (kq : Nat) (x13_9 : Bool), v13 = .bool x13_9 ∧ Aside0 (seedcornref07_Parts.j1 kq a0 a0 x13_9 = some r) ∧ Aside0 (kq ≤ kj1) ∧ Drawn0 w wc)
          case first =>
            have H := HC10.out
            clear HC10
            by_cases c11 : a0 = 16
            · rw [if_pos c11] at H
              have c11b0 : (a0 == 16) = true := beq_iff_eq.mpr c11
              have c11b1 : (a0 != 16) = false := bne_eq_false_iff_eq.mpr c11
              clear c11
              (first | rw [c11b0] | (simp only [i64_w, i32_w]; rw [c11b0]) | skip)
              have H' := Aside0.mk H
              clear H
              go_wp2
              go_meet
              case rel => exact ⟨_, ((a0 == 16)), (by first | rfl | (simp; done) | (simp [*]; done)), H', ⟨by have := HJ1.out; first | omega | exact Nat.le_refl _⟩, by repeat (first | exact Drawn0.refl _ | apply Drawn0.step)⟩
            · rw [if_neg c11] at H
              have c11b0 : (a0 == 16) = false := beq_eq_false_iff_ne.mpr c11
              have c11b1 : (a0 != 16) = true := bne_iff_ne.mpr c11
              (first | rw [c11b0] | (simp only [i64_w, i32_w]; rw [c11b0]) | skip)
              by_cases c12 : a0 = 17
              · rw [if_pos c12] at H
                have c12b0 : (a0 == 17) = true := beq_iff_eq.mpr c12
                have c12b1 : (a0 != 17) = false := bne_eq_false_iff_eq.mpr c12
                clear c12
                have H' := Aside0.mk H
                clear H
                go_wp2
                go_meet
                case rel => exact ⟨_, ((a0 == 17)), (by first | rfl | (simp; done) | (simp [*]; done)), H', ⟨by have := HJ1.out; first | omega | exact Nat.le_refl _⟩, by repeat (first | exact Drawn0.refl _ | apply Drawn0.step)⟩
              · rw [if_neg c12] at H
                have c12b0 : (a0 == 17) = false := beq_eq_false_iff_ne.mpr c12
                have c12b1 : (a0 != 17) = true := bne_iff_ne.mpr c12
                have H' := Aside0.mk H
                clear H
                go_wp2
                go_meet
                case rel => exact ⟨_, ((a0 == 27)), (by first | rfl | (simp; done) | (simp [*]; done)), H', ⟨by have := HJ1.out; first | omega | exact Nat.le_refl _⟩, by repeat (first | exact Drawn0.refl _ | apply Drawn0.step)⟩
          case rest =>
            clear HC10
            try clear c1
            try clear p2
            try clear c3
            try clear c3b0
            try clear c3b1
            try clear c4
            try clear c4b0
            try clear c4b1
            try clear c5
            try clear c5b0
            try clear c5b1
            try clear c6
            try clear c6b0
            try clear c6b1
            try clear c7
            try clear c7b0
            try clear c7b1
            try clear c8
            try clear c9
            try clear c9b0
            try clear c9b1
            try clear c11
            try clear c11b0
            try clear c11b1
            try clear c12
            try clear c12b0
            try clear c12b1
            try clear p2
            obtain ⟨kq, x13_9, rfl, HA, HJ9, ⟨mc9, rfl⟩⟩ := hcut
            cases kq with
            | zero => exact absurd HA.out (by simp [seedcornref07_Parts.j1])
            | succ kj9 =>
              have H := HA.out
              clear HA
              simp only [seedcornref07_Parts.j1] at H
              by_cases c13 : x13_9 = true
              · subst c13
                have H1 : (some (⟨#[97, 98, 99]⟩ : ByteArray)) = some r := by rw [if_pos rfl] at H; exact H
                clear H
                have H := H1
                clear H1
                obtain rfl := Option.some.inj H
                go_wp2
                go_ret
                exact ⟨by first | rfl | (simp; done) | (simp [*]; done), by repeat (first | exact Drawn0.refl _ | apply Drawn0.step)⟩
              · replace c13 := Bool.eq_false_iff.mpr c13
                subst c13
                have H1 : (if a0 = 18 then (some (⟨#[99]⟩ : ByteArray)) else (if a0 = 22 then (seedcornref07_Parts.j2 kj9 a0 a0 (a0 == 22)) else (if a0 = 23 then (seedcornref07_Parts.j2 kj9 a0 a0 (a0 == 23)) else (seedcornref07_Parts.j2 kj9 a0 a0 (a0 == 24))))) = some r := by rw [if_neg (show ¬ (false = true) by decide)] at H; exact H
                clear H
                have H := H1
                clear H1
                by_cases c14 : a0 = 18
                · rw [if_pos c14] at H
                  have c14b0 : (a0 == 18) = true := beq_iff_eq.mpr c14
                  have c14b1 : (a0 != 18) = false := bne_eq_false_iff_eq.mpr c14
                  clear c14
                  obtain rfl := Option.some.inj H
                  go_wp2
                  go_ret
                  exact ⟨by first | rfl | (simp; done) | (simp [*]; done), by repeat (first | exact Drawn0.refl _ | apply Drawn0.step)⟩
                · rw [if_neg c14] at H
                  have c14b0 : (a0 == 18) = false := beq_eq_false_iff_ne.mpr c14
                  have c14b1 : (a0 != 18) = true := bne_iff_ne.mpr c14
                  have HC15 := Aside0.mk H
                  clear H
                  go_upto_if 19 with (fail)
                  go_cut [19] (fun v19 wc => ∃ (kq : Nat) (x19_14 : Bool), v19 = .bool x19_14 ∧ Aside0 (seedcornref07_Parts.j2 kq a0 a0 x19_14 = some r) ∧ Aside0 (kq ≤ kj9) ∧ Drawn0 w wc)
                  case first =>
                    have H := HC15.out
                    clear HC15
                    by_cases c16 : a0 = 22
                    · rw [if_pos c16] at H
                      have c16b0 : (a0 == 22) = true := beq_iff_eq.mpr c16
                      have c16b1 : (a0 != 22) = false := bne_eq_false_iff_eq.mpr c16
                      clear c16
                      (first | rw [c16b0] | (simp only [i64_w, i32_w]; rw [c16b0]) | skip)
                      have H' := Aside0.mk H
                      clear H
                      go_wp2
                      go_meet
                      case rel => exact ⟨_, ((a0 == 22)), (by first | rfl | (simp; done) | (simp [*]; done)), H', ⟨by have := HJ1.out; have := HJ9.out; first | omega | exact Nat.le_refl _⟩, by repeat (first | exact Drawn0.refl _ | apply Drawn0.step)⟩
                    · rw [if_neg c16] at H
                      have c16b0 : (a0 == 22) = false := beq_eq_false_iff_ne.mpr c16
                      have c16b1 : (a0 != 22) = true := bne_iff_ne.mpr c16
                      (first | rw [c16b0] | (simp only [i64_w, i32_w]; rw [c16b0]) | skip)
                      by_cases c17 : a0 = 23
                      · rw [if_pos c17] at H
                        have c17b0 : (a0 == 23) = true := beq_iff_eq.mpr c17
                        have c17b1 : (a0 != 23) = false := bne_eq_false_iff_eq.mpr c17
                        clear c17
                        have H' := Aside0.mk H
                        clear H
                        go_wp2
                        go_meet
                        case rel => exact ⟨_, ((a0 == 23)), (by first | rfl | (simp; done) | (simp [*]; done)), H', ⟨by have := HJ1.out; have := HJ9.out; first | omega | exact Nat.le_refl _⟩, by repeat (first | exact Drawn0.refl _ | apply Drawn0.step)⟩
                      · rw [if_neg c17] at H
                        have c17b0 : (a0 == 23) = false := beq_eq_false_iff_ne.mpr c17
                        have c17b1 : (a0 != 23) = true := bne_iff_ne.mpr c17
                        have H' := Aside0.mk H
                        clear H
                        go_wp2
                        go_meet
                        case rel => exact ⟨_, ((a0 == 24)), (by first | rfl | (simp; done) | (simp [*]; done)), H', ⟨by have := HJ1.out; have := HJ9.out; first | omega | exact Nat.le_refl _⟩, by repeat (first | exact Drawn0.refl _ | apply Drawn0.step)⟩
                  case rest =>
                    clear HC15
                    try clear c1
                    try clear p2
                    try clear c3
                    try clear c3b0
                    try clear c3b1
                    try clear c4
                    try clear c4b0
                    try clear c4b1
                    try clear c5
                    try clear c5b0
                    try clear c5b1
                    try clear c6
                    try clear c6b0
                    try clear c6b1
                    try clear c7
                    try clear c7b0
                    try clear c7b1
                    try clear c8
                    try clear c9
                    try clear c9b0
                    try clear c9b1
                    try clear c11
                    try clear c11b0
                    try clear c11b1
                    try clear c12
                    try clear c12b0
                    try clear c12b1
                    try clear c13
                    try clear c14
                    try clear c14b0
                    try clear c14b1
                    try clear c16
                    try clear c16b0
                    try clear c16b1
                    try clear c17
                    try clear c17b0
                    try clear c17b1
                    try clear p2
                    obtain ⟨kq, x19_14, rfl, HA, HJ14, ⟨mc14, rfl⟩⟩ := hcut
                    cases kq with
                    | zero => exact absurd HA.out (by simp [seedcornref07_Parts.j2])
                    | succ kj14 =>
                      have H := HA.out
                      clear HA
                      simp only [seedcornref07_Parts.j2] at H
                      by_cases c18 : x19_14 = true
                      · subst c18
                        have H1 : (some (⟨#[97]⟩ : ByteArray)) = some r := by rw [if_pos rfl] at H; exact H
                        clear H
                        have H := H1
                        clear H1
                        obtain rfl := Option.some.inj H
                        go_wp2
                        go_ret
                        exact ⟨by first | rfl | (simp; done) | (simp [*]; done), by repeat (first | exact Drawn0.refl _ | apply Drawn0.step)⟩
                      · replace c18 := Bool.eq_false_iff.mpr c18
                        subst c18
                        have H1 : (if a0 = 26 then (some (⟨#[]⟩ : ByteArray)) else (if a0 ≥ 4 then (if a0 ≤ 15 then (some (⟨#[97, 98, 114]⟩ : ByteArray)) else (some (⟨#[63]⟩ : ByteArray))) else (some (⟨#[63]⟩ : ByteArray)))) = some r := by rw [if_neg (show ¬ (false = true) by decide)] at H; exact H
                        clear H
                        have H := H1
                        clear H1
                        by_cases c19 : a0 = 26
                        · rw [if_pos c19] at H
                          have c19b0 : (a0 == 26) = true := beq_iff_eq.mpr c19
                          have c19b1 : (a0 != 26) = false := bne_eq_false_iff_eq.mpr c19
                          clear c19
                          obtain rfl := Option.some.inj H
                          go_wp2
                          go_ret
                          exact ⟨by first | rfl | (simp; done) | (simp [*]; done), by repeat (first | exact Drawn0.refl _ | apply Drawn0.step)⟩
                        · rw [if_neg c19] at H
                          have c19b0 : (a0 == 26) = false := beq_eq_false_iff_ne.mpr c19
                          have c19b1 : (a0 != 26) = true := bne_iff_ne.mpr c19
                          by_cases c20 : a0 ≥ 4
                          · rw [if_pos c20] at H
                            have c20b0 : decide (4 ≤ a0) = true := decide_eq_true c20
                            clear c20
                            by_cases c21 : a0 ≤ 15
                            · rw [if_pos c21] at H
                              have c21b0 : decide (a0 ≤ 15) = true := decide_eq_true c21
                              clear c21
                              obtain rfl := Option.some.inj H
                              go_wp2
                              go_ret
                              exact ⟨by first | rfl | (simp; done) | (simp [*]; done), by repeat (first | exact Drawn0.refl _ | apply Drawn0.step)⟩
                            · rw [if_neg c21] at H
                              have c21b0 : decide (a0 ≤ 15) = false := decide_eq_false c21
                              clear c21
                              obtain rfl := Option.some.inj H
                              go_wp2
                              go_ret
                              exact ⟨by first | rfl | (simp; done) | (simp [*]; done), by repeat (first | exact Drawn0.refl _ | apply Drawn0.step)⟩
                          · rw [if_neg c20] at H
                            have c20b0 : decide (4 ≤ a0) = false := decide_eq_false c20
                            clear c20
                            obtain rfl := Option.some.inj H
                            go_wp2
                            go_ret
                            exact ⟨by first | rfl | (simp; done) | (simp [*]; done), by repeat (first | exact Drawn0.refl _ | apply Drawn0.step)⟩
end Go.Proofs.YtdhkmdgieflioaaDoor.F
namespace Go.Proofs.YtdhkmdgieflioaaDoor.F
open Go.RowKit Go.Proofs.YtdhkmdgieflioaaDoorW.PrintWords Go.Proofs.YtdhkmdgieflioaaDoorW.PrintLast Go.Proofs.YtdhkmdgieflioaaDoorW.PrintMore
attribute [local go_sem] max2_int min2_int max_two min_two max_three min_three max_four min_four
set_option linter.unusedVariables false
set_option linter.unusedSimpArgs false
def seedcornref07_has.l0 : Nat → ByteArray → Int → Int → Option (Bool)
  | 0, _, _, _ => none
  | k + 1, x0, x1, x5 => if x5 < (x0.size : Int) then (if 0 ≤ x5 then (if (bt x0 x5) = x1 then (some true) else (seedcornref07_has.l0 k x0 x1 (wrap64 (x5 + 1)))) else (none)) else (some false)
def seedcornref07_has.f (k : Nat) (a0 : ByteArray) (a1 : Int) : Option (Bool) := seedcornref07_has.l0 k a0 a1 0
theorem seedcornref07_has.mono_l : ∀ k, (∀ y0 y1 y2, LeO (seedcornref07_has.l0 k y0 y1 y2) (seedcornref07_has.l0 (k + 1) y0 y1 y2))
  | 0 => fun _ _ _ r h => by simp [seedcornref07_has.l0] at h
  | k + 1 => by
    have ih0 := seedcornref07_has.mono_l k
    · intro y0 y1 y2
      unfold seedcornref07_has.l0
      repeat' first
      | (with_reducible exact ih0 _ _ _)
      | (with_reducible exact LeO.refl _)
      | (with_reducible exact LeO.none _)
      | (with_reducible refine LeO.ite ?_ ?_)
      | (with_reducible refine LeO.bind ?_ (fun _ => ?_))
      | exact ih0 _ _ _
      | exact LeO.none _
      | refine LeO.ite ?_ ?_
      | refine LeO.bind ?_ (fun _ => ?_)
theorem seedcornref07_has.mono : ∀ a0 a1 k, LeO (seedcornref07_has.f k a0 a1) (seedcornref07_has.f (k + 1) a0 a1) := by
  intro a0 a1 k
  have ih0 := seedcornref07_has.mono_l k
  unfold seedcornref07_has.f
  repeat' first
      | (with_reducible exact ih0 _ _ _)
      | (with_reducible exact LeO.refl _)
      | (with_reducible exact LeO.none _)
      | (with_reducible refine LeO.ite ?_ ?_)
      | (with_reducible refine LeO.bind ?_ (fun _ => ?_))
      | exact ih0 _ _ _
      | exact LeO.none _
      | refine LeO.ite ?_ ?_
      | refine LeO.bind ?_ (fun _ => ?_)
set_option maxHeartbeats 8000000 in
set_option maxRecDepth 100000 in
theorem seedcornref07_has.calls (k : Nat) (a0 : ByteArray) (a1 : Int) (r : Bool) (w : World) (h : seedcornref07_has.f k a0 a1 = some r) :
    Calls Tryd.prog 77 #[.string a0, .int .u8 a1] w fun e w' => e = .returned (.bool r) ∧ Drawn0 w w' := by
  have H : (seedcornref07_has.l0 k a0 a1 0) = some r := h
  clear h
  have H' := Aside0.mk H
  clear H
  go_enter Tryd.func77, Tryd.ntmps77
  go_wp2
  go_loopg [5] k (fun kq v5 w' => ∃ (x5_1 : Int), v5 = .int .i64 x5_1 ∧ Aside0 (seedcornref07_has.l0 kq a0 a1 x5_1 = some r) ∧ Aside0 (kq ≤ k) ∧ Drawn0 w w')
  case atStart => exact ⟨(0), (by first | rfl | (simp; done) | (simp [*]; done)), H', ⟨Nat.le_refl _⟩, by repeat (first | exact Drawn0.refl _ | apply Drawn0.step)⟩
  case round =>
    clear H'
    try clear p2
    obtain ⟨x5_1, rfl, HA, HK1, ⟨m1, rfl⟩⟩ := hrel
    cases gk with
    | zero => exact absurd HA.out (by simp [seedcornref07_has.l0])
    | succ k1 =>
      have H := HA.out
      clear HA
      simp only [seedcornref07_has.l0] at H
      by_cases c3 : x5_1 < (a0.size : Int)
      · rw [if_pos c3] at H
        have c3b0 : decide (x5_1 < (a0.size : Int)) = true := decide_eq_true c3
        clear c3
        by_cases c4 : 0 ≤ x5_1
        · rw [if_pos c4] at H
          have c4b0 : decide (0 ≤ x5_1) = true := decide_eq_true c4
          clear c4
          by_cases c6 : (bt a0 x5_1) = a1
          · rw [if_pos c6] at H
            have c6b0 : ((bt a0 x5_1) == a1) = true := beq_iff_eq.mpr c6
            have c6b1 : ((bt a0 x5_1) != a1) = false := bne_eq_false_iff_eq.mpr c6
            clear c6
            obtain rfl := Option.some.inj H
            have p5 : 0 ≤ (x5_1 : Int) := of_decide_eq_true (by first | (with_reducible assumption) | assumption)
            have q5 : x5_1 < (a0.size : Int) := of_decide_eq_true (by first | (with_reducible assumption) | assumption)
            have hx5 := bt_at a0 x5_1
            replace p5 := eq_true p5
            replace q5 := eq_true q5
            go_wp2
            go_ret
            exact ⟨by first | rfl | (simp; done) | (simp [*]; done), by repeat (first | exact Drawn0.refl _ | apply Drawn0.step)⟩
          · rw [if_neg c6] at H
            have c6b0 : ((bt a0 x5_1) == a1) = false := beq_eq_false_iff_ne.mpr c6
            have c6b1 : ((bt a0 x5_1) != a1) = true := bne_iff_ne.mpr c6
            have H' := Aside0.mk H
            clear H
            have p5 : 0 ≤ (x5_1 : Int) := of_decide_eq_true (by first | (with_reducible assumption) | assumption)
            have q5 : x5_1 < (a0.size : Int) := of_decide_eq_true (by first | (with_reducible assumption) | assumption)
            have hx5 := bt_at a0 x5_1
            replace p5 := eq_true p5
            replace q5 := eq_true q5
            go_wp2
            go_roundg k1
            case measure => have := HK1.out; omega
            case rel => exact ⟨(wrap64 (x5_1 + 1)), (by first | rfl | (simp; done) | (simp [*]; done)), H', ⟨by have := HK1.out; omega⟩, by repeat (first | exact Drawn0.refl _ | apply Drawn0.step)⟩
        · rw [if_neg c4] at H
          exact absurd H (by simp)
      · rw [if_neg c3] at H
        have c3b0 : decide (x5_1 < (a0.size : Int)) = false := decide_eq_false c3
        clear c3
        obtain rfl := Option.some.inj H
        go_wp2
        go_ret
        exact ⟨by first | rfl | (simp; done) | (simp [*]; done), by repeat (first | exact Drawn0.refl _ | apply Drawn0.step)⟩
end Go.Proofs.YtdhkmdgieflioaaDoor.F
namespace Go.Proofs.YtdhkmdgieflioaaDoor.F
open Go.RowKit Go.Proofs.YtdhkmdgieflioaaDoorW.PrintWords Go.Proofs.YtdhkmdgieflioaaDoorW.PrintLast Go.Proofs.YtdhkmdgieflioaaDoorW.PrintMore
attribute [local go_sem] max2_int min2_int max_two min_two max_three min_three max_four min_four
set_option linter.unusedVariables false
set_option linter.unusedSimpArgs false
def seedcornref07_within.f (a0 : Bool) (a1 : Int) (a2 : Int) : Option (Bool) := if a0 = true then (if a1 ≥ 0 then (some (decide (a1 ≤ a2))) else (some false)) else (some (a1 == 0))
set_option maxHeartbeats 8000000 in
set_option maxRecDepth 100000 in
theorem seedcornref07_within.calls (a0 : Bool) (a1 : Int) (a2 : Int) (r : Bool) (w : World) (h : seedcornref07_within.f a0 a1 a2 = some r) :
    Calls Tryd.prog 78 #[.bool a0, .int .i64 a1, .int .i64 a2] w fun e w' => e = .returned (.bool r) ∧ Drawn0 w w' := by
  have H : (if a0 = true then (if a1 ≥ 0 then (some (decide (a1 ≤ a2))) else (some false)) else (some (a1 == 0))) = some r := h
  clear h
  by_cases c4 : a0 = true
  · subst c4
    have H1 : (if a1 ≥ 0 then (some (decide (a1 ≤ a2))) else (some false)) = some r := by rw [if_pos rfl] at H; exact H
    clear H
    have H := H1
    clear H1
    by_cases c5 : a1 ≥ 0
    · rw [if_pos c5] at H
      have c5b0 : decide (0 ≤ a1) = true := decide_eq_true c5
      clear c5
      obtain rfl := Option.some.inj H
      go_enter Tryd.func78, Tryd.ntmps78
      go_wp2
      go_ret
      exact ⟨by first | rfl | (simp; done) | (simp [*]; done), by repeat (first | exact Drawn0.refl _ | apply Drawn0.step)⟩
    · rw [if_neg c5] at H
      have c5b0 : decide (0 ≤ a1) = false := decide_eq_false c5
      clear c5
      obtain rfl := Option.some.inj H
      go_enter Tryd.func78, Tryd.ntmps78
      go_wp2
      go_ret
      exact ⟨by first | rfl | (simp; done) | (simp [*]; done), by repeat (first | exact Drawn0.refl _ | apply Drawn0.step)⟩
  · replace c4 := Bool.eq_false_iff.mpr c4
    subst c4
    have H1 : (some (a1 == 0)) = some r := by rw [if_neg (show ¬ (false = true) by decide)] at H; exact H
    clear H
    have H := H1
    clear H1
    obtain rfl := Option.some.inj H
    go_enter Tryd.func78, Tryd.ntmps78
    go_wp2
    go_ret
    exact ⟨by first | rfl | (simp; done) | (simp [*]; done), by repeat (first | exact Drawn0.refl _ | apply Drawn0.step)⟩
end Go.Proofs.YtdhkmdgieflioaaDoor.F
namespace Go.Proofs.YtdhkmdgieflioaaDoor.F
open Go.RowKit Go.Proofs.YtdhkmdgieflioaaDoorW.PrintWords Go.Proofs.YtdhkmdgieflioaaDoorW.PrintLast Go.Proofs.YtdhkmdgieflioaaDoorW.PrintMore
set_option linter.unusedVariables false
set_option linter.unusedSimpArgs false
def seedcornref07_Right.f (a0_0 : Int) (a0_1 : Int) (a0_2 : Int) (a0_3 : Int) : Option Bool :=
  (seedcornref07_Parts.f 40 a0_0).bind fun p => (seedcornref07_has.f 40 p 114).bind fun hr => (seedcornref07_has.f 40 p 97).bind fun ha => (seedcornref07_has.f 40 p 98).bind fun hb => (seedcornref07_has.f 40 p 99).bind fun hc =>
    (seedcornref07_within.f ha a0_1 15).bind fun wa => (seedcornref07_within.f hb a0_2 15).bind fun wb => (seedcornref07_within.f (hc || hr) a0_3 (if hr = true then 15 else 65535)).bind fun wc => some ((!(p.toList == [63])) && (wa && (wb && wc)))
set_option maxHeartbeats 8000000 in
set_option maxRecDepth 100000 in
theorem seedcornref07_Right.calls (a0_0 : Int) (a0_1 : Int) (a0_2 : Int) (a0_3 : Int) (r : Bool) (w : World) (h : seedcornref07_Right.f a0_0 a0_1 a0_2 a0_3 = some r) :
    Calls Tryd.prog 41 #[.agg #[.int .i64 a0_0, .int .i64 a0_1, .int .i64 a0_2, .int .i64 a0_3]] w fun e w' => e = .returned (.bool r) ∧ Below w.heap.size w w' := by
  unfold seedcornref07_Right.f at h
  obtain ⟨p, hp, h⟩ := Option.bind_eq_some_iff.mp h
  obtain ⟨hr, hhr, h⟩ := Option.bind_eq_some_iff.mp h
  obtain ⟨ha, hha, h⟩ := Option.bind_eq_some_iff.mp h
  obtain ⟨hb, hhb, h⟩ := Option.bind_eq_some_iff.mp h
  obtain ⟨hc, hhc, h⟩ := Option.bind_eq_some_iff.mp h
  obtain ⟨wa, hwa, h⟩ := Option.bind_eq_some_iff.mp h
  obtain ⟨wb, hwb, h⟩ := Option.bind_eq_some_iff.mp h
  obtain ⟨wc, hwc, h⟩ := Option.bind_eq_some_iff.mp h
  have hu46 := Tryd.underlying46
  have hu3 := Tryd.underlying3
  have HP := Aside0.mk hp
  have QHR := Aside0.mk hhr
  have QHA := Aside0.mk hha
  have QHB := Aside0.mk hhb
  have QHC := Aside0.mk hhc
  have WA := Aside0.mk hwa
  have WB := Aside0.mk hwb
  obtain rfl := Option.some.inj h
  clear h hp hhr hha hhb hhc hwa hwb
  obtain ⟨q, hq⟩ : ∃ q, (p.toList == [63]) = q := ⟨_, rfl⟩
  rw [hq]
  cases hr <;> (first | rw [if_pos rfl] at hwc | rw [if_neg (by decide)] at hwc) <;> (have WC := Aside0.mk hwc; clear hwc; cases q) <;> try (cases wa) <;> try (cases wb) <;> try (cases hc)
  all_goals try simp only [Bool.true_or, Bool.false_or, Bool.or_true, Bool.or_false] at WC
  all_goals
    go_enter Tryd.func41, Tryd.ntmps41
    go_wp2_with (first | ((with_reducible refine gate_dst (N := 1) rfl ?_); refine box_event ?hg (N := 1) ?hd (cs := #[.int .i64 a0_0, .int .i64 a0_1, .int .i64 a0_2, .int .i64 a0_3]) (t := 46) ?hr ?_; (case hd => rfl); (case hg => rfl); (case hr => first | (go_simp; done) | (go_simp; rfl)); intro gb hg w4 hbox hb; have HBL := Aside0.mk hb; have BK := Aside0.mk hbox; clear hb hbox hg; have f0 : w4.cell? ⟨gb, 0, none⟩ = some (.int .i64 a0_0) := (blk_cell BK.out 0).trans rfl; have f1 : w4.cell? ⟨gb, 1, none⟩ = some (.int .i64 a0_1) := (blk_cell BK.out 1).trans rfl; have f2 : w4.cell? ⟨gb, 2, none⟩ = some (.int .i64 a0_2) := (blk_cell BK.out 2).trans rfl; have f3 : w4.cell? ⟨gb, 3, none⟩ = some (.int .i64 a0_3) := (blk_cell BK.out 3).trans rfl) | (go_at_call 48; (with_reducible refine (seedcornref07_Parts.calls 40 a0_0 p _ HP.out).mono ?_); rintro e w1 ⟨rfl, ⟨n1, rfl⟩⟩) | (go_at_call 77; (with_reducible refine (seedcornref07_has.calls 40 p 114 _ _ QHR.out).mono ?_); rintro e w2 ⟨rfl, ⟨n2, rfl⟩⟩))
    go_quiet (first | ((with_reducible refine (seedcornref07_has.calls 40 p 97 _ _ QHA.out).mono ?_); rintro e w' ⟨rfl, ⟨nd, rfl⟩⟩; first | exact ⟨rfl, _, World.drewN_drewN _ _ _⟩ | exact ⟨rfl, _, Eq.trans (World.drewN_drewN _ _ _) (congrArg (World.drewN _) (Nat.add_assoc _ _ _))⟩ | exact ⟨rfl, _, by rw [World.drewN_drewN]; simp only [Nat.add_assoc]; rfl⟩) | ((with_reducible refine (seedcornref07_has.calls 40 p 98 _ _ QHB.out).mono ?_); rintro e w' ⟨rfl, ⟨nd, rfl⟩⟩; first | exact ⟨rfl, _, World.drewN_drewN _ _ _⟩ | exact ⟨rfl, _, Eq.trans (World.drewN_drewN _ _ _) (congrArg (World.drewN _) (Nat.add_assoc _ _ _))⟩ | exact ⟨rfl, _, by rw [World.drewN_drewN]; simp only [Nat.add_assoc]; rfl⟩) | ((with_reducible refine (seedcornref07_has.calls 40 p 99 _ _ QHC.out).mono ?_); rintro e w' ⟨rfl, ⟨nd, rfl⟩⟩; first | exact ⟨rfl, _, World.drewN_drewN _ _ _⟩ | exact ⟨rfl, _, Eq.trans (World.drewN_drewN _ _ _) (congrArg (World.drewN _) (Nat.add_assoc _ _ _))⟩ | exact ⟨rfl, _, by rw [World.drewN_drewN]; simp only [Nat.add_assoc]; rfl⟩) | ((with_reducible refine (seedcornref07_has.calls 40 p 114 _ _ QHR.out).mono ?_); rintro e w' ⟨rfl, ⟨nd, rfl⟩⟩; first | exact ⟨rfl, _, World.drewN_drewN _ _ _⟩ | exact ⟨rfl, _, Eq.trans (World.drewN_drewN _ _ _) (congrArg (World.drewN _) (Nat.add_assoc _ _ _))⟩ | exact ⟨rfl, _, by rw [World.drewN_drewN]; simp only [Nat.add_assoc]; rfl⟩) | ((with_reducible refine (seedcornref07_within.calls _ a0_1 15 _ _ WA.out).mono ?_); rintro e w' ⟨rfl, ⟨nd, rfl⟩⟩; first | exact ⟨rfl, _, World.drewN_drewN _ _ _⟩ | exact ⟨rfl, _, Eq.trans (World.drewN_drewN _ _ _) (congrArg (World.drewN _) (Nat.add_assoc _ _ _))⟩ | exact ⟨rfl, _, by rw [World.drewN_drewN]; simp only [Nat.add_assoc]; rfl⟩) | ((with_reducible refine (seedcornref07_within.calls _ a0_2 15 _ _ WB.out).mono ?_); rintro e w' ⟨rfl, ⟨nd, rfl⟩⟩; first | exact ⟨rfl, _, World.drewN_drewN _ _ _⟩ | exact ⟨rfl, _, Eq.trans (World.drewN_drewN _ _ _) (congrArg (World.drewN _) (Nat.add_assoc _ _ _))⟩ | exact ⟨rfl, _, by rw [World.drewN_drewN]; simp only [Nat.add_assoc]; rfl⟩) | ((with_reducible refine (seedcornref07_within.calls _ a0_3 _ _ _ WC.out).mono ?_); rintro e w' ⟨rfl, ⟨nd, rfl⟩⟩; first | exact ⟨rfl, _, World.drewN_drewN _ _ _⟩ | exact ⟨rfl, _, Eq.trans (World.drewN_drewN _ _ _) (congrArg (World.drewN _) (Nat.add_assoc _ _ _))⟩ | exact ⟨rfl, _, by rw [World.drewN_drewN]; simp only [Nat.add_assoc]; rfl⟩))
    go_wp2
    go_ret
    exact ⟨by first | rfl | simp, by repeat (first | exact HBL.out | apply pw_below_drewN)⟩
end Go.Proofs.YtdhkmdgieflioaaDoor.F
namespace Go.Proofs.YtdhkmdgieflioaaDoor.F
open Go.RowKit Go.Proofs.YtdhkmdgieflioaaDoorW.PrintWords Go.Proofs.YtdhkmdgieflioaaDoorW.PrintLast Go.Proofs.YtdhkmdgieflioaaDoorW.PrintMore
set_option linter.unusedVariables false
set_option linter.unusedSimpArgs false
def seedcornref07_Decode.f (a0 : Int) : Option (Int × Int × Int × Int × Int) := if 0 ≤ a0 ∧ a0 < 4294967296 then ((seedcornref07_Right.f (a0 / 16777216) (a0 / 1048576 % 16) (a0 / 65536 % 16) (a0 % 65536)).bind fun t115 => (if t115 = true then (some (a0 / 16777216, a0 / 1048576 % 16, a0 / 65536 % 16, a0 % 65536, 0)) else (some (0, 0, 0, 0, 7)))) else none
set_option maxHeartbeats 8000000 in
set_option maxRecDepth 100000 in
theorem seedcornref07_Decode.calls (a0 : Int) (r1 : Int) (r2 : Int) (r3 : Int) (r4 : Int) (r5 : Int) (w : World) (h : seedcornref07_Decode.f a0 = some (r1, r2, r3, r4, r5)) :
    Calls Tryd.prog 46 #[.int .u32 a0] w fun e w' => e = .returned (.tuple #[.agg #[.int .i64 r1, .int .i64 r2, .int .i64 r3, .int .i64 r4], .int .i64 r5]) ∧ Below w.heap.size w w' := by
  have hu46 := Tryd.underlying46
  have HB := Aside0.mk (Below.refl w.heap.size w)
  unfold seedcornref07_Decode.f at h
  by_cases hg : 0 ≤ a0 ∧ a0 < 4294967296
  rotate_left
  · rw [if_neg hg] at h; cases h
  rw [if_pos hg] at h
  obtain ⟨hg0, hg1⟩ := hg
  have H : ((seedcornref07_Right.f (a0 / 16777216) (a0 / 1048576 % 16) (a0 / 65536 % 16) (a0 % 65536)).bind fun t115 => (if t115 = true then (some (a0 / 16777216, a0 / 1048576 % 16, a0 / 65536 % 16, a0 % 65536, 0)) else (some (0, 0, 0, 0, 7)))) = some (r1, r2, r3, r4, r5) := h
  clear h
  replace H := Option.bind_eq_some_iff.mp H
  obtain ⟨t115, A20, H⟩ := H
  replace H : (if t115 = true then (some (a0 / 16777216, a0 / 1048576 % 16, a0 / 65536 % 16, a0 % 65536, 0)) else (some (0, 0, 0, 0, 7))) = some (r1, r2, r3, r4, r5) := H
  have A2 := Aside0.mk A20
  clear A20
  by_cases c3 : t115 = true
  · subst c3
    have H1 : (some (a0 / 16777216, a0 / 1048576 % 16, a0 / 65536 % 16, a0 % 65536, 0)) = some (r1, r2, r3, r4, r5) := by rw [if_pos rfl] at H; exact H
    clear H
    have H := H1
    clear H1
    simp only [Option.some.injEq, Prod.mk.injEq] at H
    obtain ⟨rfl, rfl, rfl, rfl, rfl⟩ := H
    go_enter Tryd.func46, Tryd.ntmps46
    go_wp2_with (first | ((with_reducible refine gate_dst (N := 2) rfl ?_); refine box_event ?hg (N := 2) ?hd (cs := #[.int .i64 0, .int .i64 0, .int .i64 0, .int .i64 0]) (t := 46) ?hr ?_; (case hd => rfl); (case hg => rfl); (case hr => first | (go_simp; done) | (go_simp; rfl)); intro gb113 hg w4 hbox hb; have n0_ := Aside0.mk (below_step (by repeat (first | (with_reducible first | exact HB.out | apply below_alloc | apply pw_below_drewN | apply below_drew1) | exact HB.out)) hb); have n1_ := Aside0.mk (hbox); have n2_ := Aside0.mk ((by rw [hg]; exact (below_size (by repeat (first | (with_reducible first | exact HB.out | apply below_alloc | apply pw_below_drewN | apply below_drew1) | exact HB.out))) : w.heap.size ≤ gb113)); have n3_ := Aside0.mk ((by rw [hg]; exact (below_size (by repeat (first | (with_reducible first | exact HB.out | apply below_alloc | apply pw_below_drewN | apply below_drew1) | exact HB.out))) : w.heap.size ≤ gb113)); clear HB; have HB := n0_; have BK113 := n1_; have GW113 := n2_; have GE113 := n3_; clear n0_ n1_ n2_ n3_; clear hb hbox hg) | ((with_reducible refine gate_dst (N := 4) rfl ?_); refine box_event ?hg (N := 4) ?hd (cs := #[.int .i64 0, .int .i64 0, .int .i64 0, .int .i64 0]) (t := 46) ?hr ?_; (case hd => rfl); (case hg => rfl); (case hr => first | (go_simp; done) | (go_simp; rfl)); intro gb114 hg w5 hbox hb; have n0_ := Aside0.mk (blk_below (g := gb113) (o := .cells #[.int .i64 0, .int .i64 0, .int .i64 0, .int .i64 0] 46 (0, 0)) (by (with_reducible repeat (first | refine blk_drewN ?_ _ | refine blk_drew ?_ | refine blk_alloc ?_ _)); exact BK113.out) hb); have n1_ := Aside0.mk (below_step (by repeat (first | (with_reducible first | exact HB.out | apply below_alloc | apply pw_below_drewN | apply below_drew1 | refine below_set ?_ GE113.out) | exact HB.out)) hb); have n2_ := Aside0.mk (hbox); have n3_ := Aside0.mk ((by rw [hg]; exact (below_size (by repeat (first | (with_reducible first | exact HB.out | apply below_alloc | apply pw_below_drewN | apply below_drew1 | refine below_set ?_ GE113.out) | exact HB.out))) : w.heap.size ≤ gb114)); have n4_ := Aside0.mk ((by rw [hg]; exact (below_size (by repeat (first | (with_reducible first | exact HB.out | apply below_alloc | apply pw_below_drewN | apply below_drew1 | refine below_set ?_ GE113.out) | exact HB.out))) : w.heap.size ≤ gb114)); have n5_ := Aside0.mk ((by rw [hg]; exact Nat.ne_of_lt (blk_lt (g := gb113) (o := .cells #[.int .i64 0, .int .i64 0, .int .i64 0, .int .i64 0] 46 (0, 0)) (by (with_reducible repeat (first | refine blk_drewN ?_ _ | refine blk_drew ?_ | refine blk_alloc ?_ _)); exact BK113.out)) : gb113 ≠ gb114)); have n6_ := Aside0.mk ((by rw [hg]; exact Nat.ne_of_gt (blk_lt (g := gb113) (o := .cells #[.int .i64 0, .int .i64 0, .int .i64 0, .int .i64 0] 46 (0, 0)) (by (with_reducible repeat (first | refine blk_drewN ?_ _ | refine blk_drew ?_ | refine blk_alloc ?_ _)); exact BK113.out)) : gb114 ≠ gb113)); clear BK113; clear HB; have BK113 := n0_; have HB := n1_; have BK114 := n2_; have GW114 := n3_; have GE114 := n4_; have NB113_114 := n5_; have NB114_113 := n6_; clear n0_ n1_ n2_ n3_ n4_ n5_ n6_; clear hb hbox hg; have hnb6 := NB114_113.out; have hnc6 := NB113_114.out; have hcz7_0 : w5.cell? ⟨gb114, 0, none⟩ = some (.int .i64 0) := (blk_cell BK114.out 0).trans rfl; have hcz7_1 : w5.cell? ⟨gb114, 1, none⟩ = some (.int .i64 0) := (blk_cell BK114.out 1).trans rfl; have hcz7_2 : w5.cell? ⟨gb114, 2, none⟩ = some (.int .i64 0) := (blk_cell BK114.out 2).trans rfl; have hcz7_3 : w5.cell? ⟨gb114, 3, none⟩ = some (.int .i64 0) := (blk_cell BK114.out 3).trans rfl; have hfz7_0 := blk_frozen BK114.out 0; have hfz7_1 := blk_frozen BK114.out 1; have hfz7_2 := blk_frozen BK114.out 2; have hfz7_3 := blk_frozen BK114.out 3) | ((with_reducible refine gate_callee (f := 41) rfl ?_); refine goesL_ (some 21) rfl rfl Tryd.func41 (by kernel_rfl) rfl #[.agg #[.int .i64 (a0 / 16777216), .int .i64 (a0 / 1048576 % 16), .int .i64 (a0 / 65536 % 16), .int .i64 (a0 % 65536)]] rfl (by (try simp only [List.map_toArray, List.map_cons, List.map_nil]); first | done | rfl | (simp only [List.length_drop, List.length_take]; rfl)) ?_; (with_reducible refine (seedcornref07_Right.calls (a0 / 16777216) (a0 / 1048576 % 16) (a0 / 65536 % 16) (a0 % 65536) true _ A2.out).mono ?_); rintro e w8 ⟨rfl, hb⟩; refine ⟨_, rfl, ?_⟩; have n0_ := Aside0.mk (blk_below (g := gb113) (o := .cells #[.int .i64 0, .int .i64 0, .int .i64 0, .int .i64 0] 46 (0, 0)) (by (with_reducible repeat (first | refine blk_drewN ?_ _ | refine blk_drew ?_ | refine blk_alloc ?_ _)); refine blk_far ?_ NB113_114.out _; (with_reducible repeat (first | refine blk_drewN ?_ _ | refine blk_drew ?_ | refine blk_alloc ?_ _)); refine blk_far ?_ NB113_114.out _; (with_reducible repeat (first | refine blk_drewN ?_ _ | refine blk_drew ?_ | refine blk_alloc ?_ _)); refine blk_far ?_ NB113_114.out _; (with_reducible repeat (first | refine blk_drewN ?_ _ | refine blk_drew ?_ | refine blk_alloc ?_ _)); refine blk_far ?_ NB113_114.out _; (with_reducible repeat (first | refine blk_drewN ?_ _ | refine blk_drew ?_ | refine blk_alloc ?_ _)); exact BK113.out) hb); have n1_ := Aside0.mk (blk_below (g := gb114) (o := .cells #[.int .i64 (a0 / 16777216), .int .i64 (a0 / 1048576 % 16), .int .i64 (a0 / 65536 % 16), .int .i64 (a0 % 65536)] 46 (0, 0)) (by (with_reducible repeat (first | refine blk_drewN ?_ _ | refine blk_drew ?_ | refine blk_alloc ?_ _)); refine blk_put (cs := #[.int .i64 (a0 / 16777216), .int .i64 (a0 / 1048576 % 16), .int .i64 (a0 / 65536 % 16), .int .i64 0]) ?_ 3 _ rfl; (with_reducible repeat (first | refine blk_drewN ?_ _ | refine blk_drew ?_ | refine blk_alloc ?_ _)); refine blk_put (cs := #[.int .i64 (a0 / 16777216), .int .i64 (a0 / 1048576 % 16), .int .i64 0, .int .i64 0]) ?_ 2 _ rfl; (with_reducible repeat (first | refine blk_drewN ?_ _ | refine blk_drew ?_ | refine blk_alloc ?_ _)); refine blk_put (cs := #[.int .i64 (a0 / 16777216), .int .i64 0, .int .i64 0, .int .i64 0]) ?_ 1 _ rfl; (with_reducible repeat (first | refine blk_drewN ?_ _ | refine blk_drew ?_ | refine blk_alloc ?_ _)); refine blk_put (cs := #[.int .i64 0, .int .i64 0, .int .i64 0, .int .i64 0]) ?_ 0 _ rfl; (with_reducible repeat (first | refine blk_drewN ?_ _ | refine blk_drew ?_ | refine blk_alloc ?_ _)); exact BK114.out) hb); have n2_ := Aside0.mk (below_step (by repeat (first | (with_reducible first | exact HB.out | apply below_alloc | apply pw_below_drewN | apply below_drew1 | refine below_set ?_ GE113.out | refine below_set ?_ GE114.out) | exact HB.out)) hb); clear BK113; clear BK114; clear HB; have BK113 := n0_; have BK114 := n1_; have HB := n2_; clear n0_ n1_ n2_; (try clear hb); (try clear hb2); (try clear hk); (try clear hi); have hcz9_0 : w8.cell? ⟨gb114, 0, none⟩ = some (.int .i64 (a0 / 16777216)) := (blk_cell BK114.out 0).trans rfl; have hcz9_1 : w8.cell? ⟨gb114, 1, none⟩ = some (.int .i64 (a0 / 1048576 % 16)) := (blk_cell BK114.out 1).trans rfl; have hcz9_2 : w8.cell? ⟨gb114, 2, none⟩ = some (.int .i64 (a0 / 65536 % 16)) := (blk_cell BK114.out 2).trans rfl; have hcz9_3 : w8.cell? ⟨gb114, 3, none⟩ = some (.int .i64 (a0 % 65536)) := (blk_cell BK114.out 3).trans rfl; have hfz9_0 := blk_frozen BK114.out 0; have hfz9_1 := blk_frozen BK114.out 1; have hfz9_2 := blk_frozen BK114.out 2; have hfz9_3 := blk_frozen BK114.out 3; have hcz10_0 : w8.cell? ⟨gb113, 0, none⟩ = some (.int .i64 0) := (blk_cell BK113.out 0).trans rfl; have hcz10_1 : w8.cell? ⟨gb113, 1, none⟩ = some (.int .i64 0) := (blk_cell BK113.out 1).trans rfl; have hcz10_2 : w8.cell? ⟨gb113, 2, none⟩ = some (.int .i64 0) := (blk_cell BK113.out 2).trans rfl; have hcz10_3 : w8.cell? ⟨gb113, 3, none⟩ = some (.int .i64 0) := (blk_cell BK113.out 3).trans rfl; have hfz10_0 := blk_frozen BK113.out 0; have hfz10_1 := blk_frozen BK113.out 1; have hfz10_2 := blk_frozen BK113.out 2; have hfz10_3 := blk_frozen BK113.out 3))
    refine bodyPost_ret (results_ct rfl _ _ gb113 46 #[.int .i64 (a0 / 16777216), .int .i64 (a0 / 1048576 % 16), .int .i64 (a0 / 65536 % 16), .int .i64 (a0 % 65536)] (0, 0) _ rfl (by (with_reducible repeat (first | refine blk_drewN ?_ _ | refine blk_drew ?_ | refine blk_alloc ?_ _)); refine blk_put (cs := #[.int .i64 (a0 / 16777216), .int .i64 (a0 / 1048576 % 16), .int .i64 (a0 / 65536 % 16), .int .i64 0]) ?_ 3 _ rfl; (with_reducible repeat (first | refine blk_drewN ?_ _ | refine blk_drew ?_ | refine blk_alloc ?_ _)); refine blk_put (cs := #[.int .i64 (a0 / 16777216), .int .i64 (a0 / 1048576 % 16), .int .i64 0, .int .i64 0]) ?_ 2 _ rfl; (with_reducible repeat (first | refine blk_drewN ?_ _ | refine blk_drew ?_ | refine blk_alloc ?_ _)); refine blk_put (cs := #[.int .i64 (a0 / 16777216), .int .i64 0, .int .i64 0, .int .i64 0]) ?_ 1 _ rfl; (with_reducible repeat (first | refine blk_drewN ?_ _ | refine blk_drew ?_ | refine blk_alloc ?_ _)); refine blk_put (cs := #[.int .i64 0, .int .i64 0, .int .i64 0, .int .i64 0]) ?_ 0 _ rfl; (with_reducible repeat (first | refine blk_drewN ?_ _ | refine blk_drew ?_ | refine blk_alloc ?_ _)); exact BK113.out) Tryd.underlying46 rfl (by kernel_rfl)) rfl ?_
    exact ⟨by first | rfl | (simp [errW_none, errW_some] <;> rfl) | (simp [*, errW_none, errW_some] <;> rfl), by repeat (first | (with_reducible first | exact HB.out | apply below_alloc | apply pw_below_drewN | apply below_drew1 | refine below_set ?_ GE113.out | refine below_set ?_ GE114.out) | exact HB.out)⟩
  · replace c3 := Bool.eq_false_iff.mpr c3
    subst c3
    have H1 : (some (0, 0, 0, 0, 7)) = some (r1, r2, r3, r4, r5) := by rw [if_neg (show ¬ (false = true) by decide)] at H; exact H
    clear H
    have H := H1
    clear H1
    simp only [Option.some.injEq, Prod.mk.injEq] at H
    obtain ⟨rfl, rfl, rfl, rfl, rfl⟩ := H
    go_enter Tryd.func46, Tryd.ntmps46
    go_wp2_with (first | ((with_reducible refine gate_dst (N := 2) rfl ?_); refine box_event ?hg (N := 2) ?hd (cs := #[.int .i64 0, .int .i64 0, .int .i64 0, .int .i64 0]) (t := 46) ?hr ?_; (case hd => rfl); (case hg => rfl); (case hr => first | (go_simp; done) | (go_simp; rfl)); intro gb113 hg w11 hbox hb; have n0_ := Aside0.mk (below_step (by repeat (first | (with_reducible first | exact HB.out | apply below_alloc | apply pw_below_drewN | apply below_drew1) | exact HB.out)) hb); have n1_ := Aside0.mk (hbox); have n2_ := Aside0.mk ((by rw [hg]; exact (below_size (by repeat (first | (with_reducible first | exact HB.out | apply below_alloc | apply pw_below_drewN | apply below_drew1) | exact HB.out))) : w.heap.size ≤ gb113)); have n3_ := Aside0.mk ((by rw [hg]; exact (below_size (by repeat (first | (with_reducible first | exact HB.out | apply below_alloc | apply pw_below_drewN | apply below_drew1) | exact HB.out))) : w.heap.size ≤ gb113)); clear HB; have HB := n0_; have BK113 := n1_; have GW113 := n2_; have GE113 := n3_; clear n0_ n1_ n2_ n3_; clear hb hbox hg) | ((with_reducible refine gate_dst (N := 4) rfl ?_); refine box_event ?hg (N := 4) ?hd (cs := #[.int .i64 0, .int .i64 0, .int .i64 0, .int .i64 0]) (t := 46) ?hr ?_; (case hd => rfl); (case hg => rfl); (case hr => first | (go_simp; done) | (go_simp; rfl)); intro gb114 hg w12 hbox hb; have n0_ := Aside0.mk (blk_below (g := gb113) (o := .cells #[.int .i64 0, .int .i64 0, .int .i64 0, .int .i64 0] 46 (0, 0)) (by (with_reducible repeat (first | refine blk_drewN ?_ _ | refine blk_drew ?_ | refine blk_alloc ?_ _)); exact BK113.out) hb); have n1_ := Aside0.mk (below_step (by repeat (first | (with_reducible first | exact HB.out | apply below_alloc | apply pw_below_drewN | apply below_drew1 | refine below_set ?_ GE113.out) | exact HB.out)) hb); have n2_ := Aside0.mk (hbox); have n3_ := Aside0.mk ((by rw [hg]; exact (below_size (by repeat (first | (with_reducible first | exact HB.out | apply below_alloc | apply pw_below_drewN | apply below_drew1 | refine below_set ?_ GE113.out) | exact HB.out))) : w.heap.size ≤ gb114)); have n4_ := Aside0.mk ((by rw [hg]; exact (below_size (by repeat (first | (with_reducible first | exact HB.out | apply below_alloc | apply pw_below_drewN | apply below_drew1 | refine below_set ?_ GE113.out) | exact HB.out))) : w.heap.size ≤ gb114)); have n5_ := Aside0.mk ((by rw [hg]; exact Nat.ne_of_lt (blk_lt (g := gb113) (o := .cells #[.int .i64 0, .int .i64 0, .int .i64 0, .int .i64 0] 46 (0, 0)) (by (with_reducible repeat (first | refine blk_drewN ?_ _ | refine blk_drew ?_ | refine blk_alloc ?_ _)); exact BK113.out)) : gb113 ≠ gb114)); have n6_ := Aside0.mk ((by rw [hg]; exact Nat.ne_of_gt (blk_lt (g := gb113) (o := .cells #[.int .i64 0, .int .i64 0, .int .i64 0, .int .i64 0] 46 (0, 0)) (by (with_reducible repeat (first | refine blk_drewN ?_ _ | refine blk_drew ?_ | refine blk_alloc ?_ _)); exact BK113.out)) : gb114 ≠ gb113)); clear BK113; clear HB; have BK113 := n0_; have HB := n1_; have BK114 := n2_; have GW114 := n3_; have GE114 := n4_; have NB113_114 := n5_; have NB114_113 := n6_; clear n0_ n1_ n2_ n3_ n4_ n5_ n6_; clear hb hbox hg; have hnb13 := NB114_113.out; have hnc13 := NB113_114.out; have hcz14_0 : w12.cell? ⟨gb114, 0, none⟩ = some (.int .i64 0) := (blk_cell BK114.out 0).trans rfl; have hcz14_1 : w12.cell? ⟨gb114, 1, none⟩ = some (.int .i64 0) := (blk_cell BK114.out 1).trans rfl; have hcz14_2 : w12.cell? ⟨gb114, 2, none⟩ = some (.int .i64 0) := (blk_cell BK114.out 2).trans rfl; have hcz14_3 : w12.cell? ⟨gb114, 3, none⟩ = some (.int .i64 0) := (blk_cell BK114.out 3).trans rfl; have hfz14_0 := blk_frozen BK114.out 0; have hfz14_1 := blk_frozen BK114.out 1; have hfz14_2 := blk_frozen BK114.out 2; have hfz14_3 := blk_frozen BK114.out 3) | ((with_reducible refine gate_callee (f := 41) rfl ?_); refine goesL_ (some 21) rfl rfl Tryd.func41 (by kernel_rfl) rfl #[.agg #[.int .i64 (a0 / 16777216), .int .i64 (a0 / 1048576 % 16), .int .i64 (a0 / 65536 % 16), .int .i64 (a0 % 65536)]] rfl (by (try simp only [List.map_toArray, List.map_cons, List.map_nil]); first | done | rfl | (simp only [List.length_drop, List.length_take]; rfl)) ?_; (with_reducible refine (seedcornref07_Right.calls (a0 / 16777216) (a0 / 1048576 % 16) (a0 / 65536 % 16) (a0 % 65536) false _ A2.out).mono ?_); rintro e w15 ⟨rfl, hb⟩; refine ⟨_, rfl, ?_⟩; have n0_ := Aside0.mk (blk_below (g := gb113) (o := .cells #[.int .i64 0, .int .i64 0, .int .i64 0, .int .i64 0] 46 (0, 0)) (by (with_reducible repeat (first | refine blk_drewN ?_ _ | refine blk_drew ?_ | refine blk_alloc ?_ _)); refine blk_far ?_ NB113_114.out _; (with_reducible repeat (first | refine blk_drewN ?_ _ | refine blk_drew ?_ | refine blk_alloc ?_ _)); refine blk_far ?_ NB113_114.out _; (with_reducible repeat (first | refine blk_drewN ?_ _ | refine blk_drew ?_ | refine blk_alloc ?_ _)); refine blk_far ?_ NB113_114.out _; (with_reducible repeat (first | refine blk_drewN ?_ _ | refine blk_drew ?_ | refine blk_alloc ?_ _)); refine blk_far ?_ NB113_114.out _; (with_reducible repeat (first | refine blk_drewN ?_ _ | refine blk_drew ?_ | refine blk_alloc ?_ _)); exact BK113.out) hb); have n1_ := Aside0.mk (blk_below (g := gb114) (o := .cells #[.int .i64 (a0 / 16777216), .int .i64 (a0 / 1048576 % 16), .int .i64 (a0 / 65536 % 16), .int .i64 (a0 % 65536)] 46 (0, 0)) (by (with_reducible repeat (first | refine blk_drewN ?_ _ | refine blk_drew ?_ | refine blk_alloc ?_ _)); refine blk_put (cs := #[.int .i64 (a0 / 16777216), .int .i64 (a0 / 1048576 % 16), .int .i64 (a0 / 65536 % 16), .int .i64 0]) ?_ 3 _ rfl; (with_reducible repeat (first | refine blk_drewN ?_ _ | refine blk_drew ?_ | refine blk_alloc ?_ _)); refine blk_put (cs := #[.int .i64 (a0 / 16777216), .int .i64 (a0 / 1048576 % 16), .int .i64 0, .int .i64 0]) ?_ 2 _ rfl; (with_reducible repeat (first | refine blk_drewN ?_ _ | refine blk_drew ?_ | refine blk_alloc ?_ _)); refine blk_put (cs := #[.int .i64 (a0 / 16777216), .int .i64 0, .int .i64 0, .int .i64 0]) ?_ 1 _ rfl; (with_reducible repeat (first | refine blk_drewN ?_ _ | refine blk_drew ?_ | refine blk_alloc ?_ _)); refine blk_put (cs := #[.int .i64 0, .int .i64 0, .int .i64 0, .int .i64 0]) ?_ 0 _ rfl; (with_reducible repeat (first | refine blk_drewN ?_ _ | refine blk_drew ?_ | refine blk_alloc ?_ _)); exact BK114.out) hb); have n2_ := Aside0.mk (below_step (by repeat (first | (with_reducible first | exact HB.out | apply below_alloc | apply pw_below_drewN | apply below_drew1 | refine below_set ?_ GE113.out | refine below_set ?_ GE114.out) | exact HB.out)) hb); clear BK113; clear BK114; clear HB; have BK113 := n0_; have BK114 := n1_; have HB := n2_; clear n0_ n1_ n2_; (try clear hb); (try clear hb2); (try clear hk); (try clear hi); have hcz16_0 : w15.cell? ⟨gb113, 0, none⟩ = some (.int .i64 0) := (blk_cell BK113.out 0).trans rfl; have hcz16_1 : w15.cell? ⟨gb113, 1, none⟩ = some (.int .i64 0) := (blk_cell BK113.out 1).trans rfl; have hcz16_2 : w15.cell? ⟨gb113, 2, none⟩ = some (.int .i64 0) := (blk_cell BK113.out 2).trans rfl; have hcz16_3 : w15.cell? ⟨gb113, 3, none⟩ = some (.int .i64 0) := (blk_cell BK113.out 3).trans rfl; have hfz16_0 := blk_frozen BK113.out 0; have hfz16_1 := blk_frozen BK113.out 1; have hfz16_2 := blk_frozen BK113.out 2; have hfz16_3 := blk_frozen BK113.out 3))
    refine bodyPost_ret (results_ct rfl _ _ gb113 46 #[.int .i64 0, .int .i64 0, .int .i64 0, .int .i64 0] (0, 0) _ rfl (by (with_reducible repeat (first | refine blk_drewN ?_ _ | refine blk_drew ?_ | refine blk_alloc ?_ _)); refine blk_put (cs := #[.int .i64 0, .int .i64 0, .int .i64 0, .int .i64 0]) ?_ 3 _ rfl; (with_reducible repeat (first | refine blk_drewN ?_ _ | refine blk_drew ?_ | refine blk_alloc ?_ _)); refine blk_put (cs := #[.int .i64 0, .int .i64 0, .int .i64 0, .int .i64 0]) ?_ 2 _ rfl; (with_reducible repeat (first | refine blk_drewN ?_ _ | refine blk_drew ?_ | refine blk_alloc ?_ _)); refine blk_put (cs := #[.int .i64 0, .int .i64 0, .int .i64 0, .int .i64 0]) ?_ 1 _ rfl; (with_reducible repeat (first | refine blk_drewN ?_ _ | refine blk_drew ?_ | refine blk_alloc ?_ _)); refine blk_put (cs := #[.int .i64 0, .int .i64 0, .int .i64 0, .int .i64 0]) ?_ 0 _ rfl; (with_reducible repeat (first | refine blk_drewN ?_ _ | refine blk_drew ?_ | refine blk_alloc ?_ _)); exact BK113.out) Tryd.underlying46 rfl (by kernel_rfl)) rfl ?_
    exact ⟨by first | rfl | (simp [errW_none, errW_some] <;> rfl) | (simp [*, errW_none, errW_some] <;> rfl), by repeat (first | (with_reducible first | exact HB.out | apply below_alloc | apply pw_below_drewN | apply below_drew1 | refine below_set ?_ GE113.out | refine below_set ?_ GE114.out) | exact HB.out)⟩
end Go.Proofs.YtdhkmdgieflioaaDoor.F
namespace Go.Proofs.YtdhkmdgieflioaaDoor.F
open Go.RowKit Go.Proofs.YtdhkmdgieflioaaDoorW.PrintWords Go.Proofs.YtdhkmdgieflioaaDoorW.PrintLast Go.Proofs.YtdhkmdgieflioaaDoorW.PrintMore
set_option linter.unusedVariables false
set_option linter.unusedSimpArgs false
def wB (h : Bool) (x m : Int) : Bool := if h = true then (if x ≥ 0 then decide (x ≤ m) else false) else x == 0
theorem within_f (h : Bool) (x m : Int) : seedcornref07_within.f h x m = some (wB h x m) := by
  unfold seedcornref07_within.f wB
  split
  · split <;> rfl
  · rfl
theorem hasB_w (p : ByteArray) (c n m : Int) (h : Bool) (hh : decide (Lib.indexByte p.data.toList c.toNat.toUInt8 < 0) = !h) : hasB p c n m = wB h n m := by
  unfold hasB wB
  cases h with
  | true =>
    rw [if_neg (of_decide_eq_false hh), if_pos rfl]
  | false =>
    rw [if_pos (of_decide_eq_true hh), if_neg (by decide)]
theorem ref_right (op a b c : Int) (p : ByteArray) (hr ha hb hc : Bool) (hop : ¬ (op < 1 ∨ 28 ≤ op)) (hP : seedcornref07_Parts.f 40 op = some p) (g114 : seedcornref07_has.f 40 p 114 = some hr)
    (g97 : seedcornref07_has.f 40 p 97 = some ha) (g98 : seedcornref07_has.f 40 p 98 = some hb) (g99 : seedcornref07_has.f 40 p 99 = some hc) (hq : (p.data.toList == [63]) = false)
    (k97 : decide (Lib.indexByte (partsOf op).data.toList (97 : Int).toNat.toUInt8 < 0) = !ha) (k98 : decide (Lib.indexByte (partsOf op).data.toList (98 : Int).toNat.toUInt8 < 0) = !hb) (k99 : decide (Lib.indexByte (partsOf op).data.toList (99 : Int).toNat.toUInt8 < 0) = !hc) (ke : endsR (partsOf op) = hr) :
    seedcornref07_Right.f op a b c = some (rightB op a b c) := by
  unfold seedcornref07_Right.f rightB
  rw [if_neg hop, hP, hasB_w _ 97 a 15 ha k97, hasB_w _ 98 b 15 hb k98, hasB_w _ 99 c 65535 hc k99, ke]
  simp only [Option.bind_some, g114, g97, g98, g99, within_f, ByteArray.toList_eq, hq]
  cases hr <;> cases wB ha a 15 <;> cases wB hb b 15 <;> simp [wB]
def refOk (n : Nat) : Bool :=
  match seedcornref07_Parts.f 40 (n : Int) with
  | none => false
  | some p => match seedcornref07_has.f 40 p 114, seedcornref07_has.f 40 p 97, seedcornref07_has.f 40 p 98, seedcornref07_has.f 40 p 99 with
    | some hr, some ha, some hb, some hc => !(p.data.toList == [63]) && (decide (Lib.indexByte (partsOf n).data.toList (97 : Int).toNat.toUInt8 < 0) == !ha) && (decide (Lib.indexByte (partsOf n).data.toList (98 : Int).toNat.toUInt8 < 0) == !hb) && (decide (Lib.indexByte (partsOf n).data.toList (99 : Int).toNat.toUInt8 < 0) == !hc) && (endsR (partsOf n) == hr)
    | _, _, _, _ => false
theorem refOk_all : ((List.range 28).all fun n => decide (n = 0) || refOk n) = true := by kernel_rfl
theorem refOk_at (n : Nat) (h : refOk n = true) (hop : ¬ ((n : Int) < 1 ∨ 28 ≤ (n : Int))) (a b c : Int) : seedcornref07_Right.f n a b c = some (rightB n a b c) := by
  unfold refOk at h
  split at h
  · cases h
  · rename_i p hP
    split at h
    · rename_i hr ha hb hc g1 g2 g3 g4
      simp only [Bool.and_eq_true, Bool.not_eq_true', beq_iff_eq] at h
      obtain ⟨⟨⟨⟨h1, h2⟩, h3⟩, h4⟩, h5⟩ := h
      exact ref_right n a b c p hr ha hb hc hop hP g1 g2 g3 g4 h1 h2 h3 h4 h5
    · cases h
theorem parts_out (op : Int) (h : op < 1 ∨ 28 ≤ op) : seedcornref07_Parts.f 40 op = some ⟨#[63]⟩ := by
  have e (n : Int) (h1 : 1 ≤ n) (h2 : n < 28) : ¬ op = n := by omega
  simp [seedcornref07_Parts.f, seedcornref07_Parts.j0, seedcornref07_Parts.j1, seedcornref07_Parts.j2, e]
  omega
theorem refRight_f (op a b c : Int) : seedcornref07_Right.f op a b c = some (rightB op a b c) := by
  by_cases h : op < 1 ∨ 28 ≤ op
  · unfold seedcornref07_Right.f rightB
    rw [if_pos h, parts_out op h]
    have g1 : seedcornref07_has.f 40 ⟨#[63]⟩ 114 = some false := by kernel_rfl
    have g2 : seedcornref07_has.f 40 ⟨#[63]⟩ 97 = some false := by kernel_rfl
    have g3 : seedcornref07_has.f 40 ⟨#[63]⟩ 98 = some false := by kernel_rfl
    have g4 : seedcornref07_has.f 40 ⟨#[63]⟩ 99 = some false := by kernel_rfl
    simp only [Option.bind_some, g1, g2, g3, g4, within_f, ByteArray.toList_eq]
    simp
  · obtain ⟨n, rfl⟩ : ∃ n : Nat, op = n := ⟨op.toNat, by omega⟩
    have h1 := List.all_eq_true.1 refOk_all n (List.mem_range.2 (by omega))
    rw [decide_eq_false (show ¬ n = 0 by omega), Bool.false_or] at h1
    exact refOk_at n h1 h a b c
end Go.Proofs.YtdhkmdgieflioaaDoor.F
namespace Go.Proofs.YtdhkmdgieflioaaDoor.F
open Go.RowKit Go.Proofs.YtdhkmdgieflioaaDoorW.PrintWords Go.Proofs.YtdhkmdgieflioaaDoorW.PrintLast Go.Proofs.YtdhkmdgieflioaaDoorW.PrintMore
set_option linter.unusedVariables false
set_option linter.unusedSimpArgs false
theorem refName_f (a : Int) : seedcornref07_Name.f a = some (nameOf a) := by
  by_cases h : 1 ≤ a ∧ a < 28
  · obtain ⟨n, rfl⟩ : ∃ n : Nat, a = n := ⟨a.toNat, by omega⟩
    have h3 : n < 28 := by omega
    have : n = 1 ∨ n = 2 ∨ n = 3 ∨ n = 4 ∨ n = 5 ∨ n = 6 ∨ n = 7 ∨ n = 8 ∨ n = 9 ∨ n = 10 ∨ n = 11 ∨ n = 12 ∨ n = 13 ∨ n = 14 ∨ n = 15 ∨ n = 16 ∨ n = 17 ∨ n = 18 ∨ n = 19 ∨ n = 20 ∨ n = 21 ∨ n = 22 ∨ n = 23 ∨ n = 24 ∨ n = 25 ∨ n = 26 ∨ n = 27 := by omega
    rcases this with rfl | rfl | rfl | rfl | rfl | rfl | rfl | rfl | rfl | rfl | rfl | rfl | rfl | rfl | rfl | rfl | rfl | rfl | rfl | rfl | rfl | rfl | rfl | rfl | rfl | rfl | rfl
    all_goals rfl
  · have he : nameOf a = ⟨#[]⟩ := bytes_eq (by rw [name_empty a h, ByteArray.toList_eq])
    rw [he]
    unfold seedcornref07_Name.f
    repeat rw [if_neg (by omega)]
end Go.Proofs.YtdhkmdgieflioaaDoor.F
namespace Go.Proofs.YtdhkmdgieflioaaDoor.F
open Go.RowKit Go.Proofs.YtdhkmdgieflioaaDoorW.PrintWords Go.Proofs.YtdhkmdgieflioaaDoorW.PrintLast Go.Proofs.YtdhkmdgieflioaaDoorW.PrintMore
attribute [local go_sem] max2_int min2_int max_two min_two max_three min_three max_four min_four
set_option linter.unusedVariables false
set_option linter.unusedSimpArgs false
def seedcornref01_Text.l0 : Nat → Int → ByteArray → Option (ByteArray)
  | 0, _, _ => none
  | k + 1, x0, x3 => if x0 > 9 then ((some (([((48 + (Int.tmod x0 10)) % 4294967296) % 256] : List Int) : List Int)).bind fun y316 => (if (strOfNums y316).size + x3.size ≤ 9223372036854775807 then (seedcornref01_Text.l0 k ((Int.tdiv x0 10) % 4294967296) ((strOfNums y316) ++ x3)) else (none))) else ((some (([((48 + x0) % 4294967296) % 256] : List Int) : List Int)).bind fun y319 => (if (strOfNums y319).size + x3.size ≤ 9223372036854775807 then (some ((strOfNums y319) ++ x3)) else (none)))
def seedcornref01_Text.f (k : Nat) (a0 : Int) : Option (ByteArray) := seedcornref01_Text.l0 k a0 (⟨#[]⟩ : ByteArray)
theorem seedcornref01_Text.mono_l : ∀ k, (∀ y0 y1, LeO (seedcornref01_Text.l0 k y0 y1) (seedcornref01_Text.l0 (k + 1) y0 y1))
  | 0 => fun _ _ r h => by simp [seedcornref01_Text.l0] at h
  | k + 1 => by
    have ih0 := seedcornref01_Text.mono_l k
    · intro y0 y1
      unfold seedcornref01_Text.l0
      repeat' first
      | (with_reducible exact ih0 _ _)
      | (with_reducible exact LeO.refl _)
      | (with_reducible exact LeO.none _)
      | (with_reducible refine LeO.ite ?_ ?_)
      | (with_reducible refine LeO.bind ?_ (fun _ => ?_))
      | exact ih0 _ _
      | exact LeO.none _
      | refine LeO.ite ?_ ?_
      | refine LeO.bind ?_ (fun _ => ?_)
theorem seedcornref01_Text.mono : ∀ a0 k, LeO (seedcornref01_Text.f k a0) (seedcornref01_Text.f (k + 1) a0) := by
  intro a0 k
  have ih0 := seedcornref01_Text.mono_l k
  unfold seedcornref01_Text.f
  repeat' first
      | (with_reducible exact ih0 _ _)
      | (with_reducible exact LeO.refl _)
      | (with_reducible exact LeO.none _)
      | (with_reducible refine LeO.ite ?_ ?_)
      | (with_reducible refine LeO.bind ?_ (fun _ => ?_))
      | exact ih0 _ _
      | exact LeO.none _
      | refine LeO.ite ?_ ?_
      | refine LeO.bind ?_ (fun _ => ?_)
set_option maxHeartbeats 8000000 in
set_option maxRecDepth 100000 in
theorem seedcornref01_Text.calls (k : Nat) (a0 : Int) (r : ByteArray) (w : World) (h : seedcornref01_Text.f k a0 = some r) :
    Calls Tryd.prog 103 #[.int .u32 a0] w fun e w' => e = .returned (.string r) ∧ Below w.heap.size w w' := by
  have HB := Aside0.mk (Below.refl w.heap.size w)
  have H : (seedcornref01_Text.l0 k a0 (⟨#[]⟩ : ByteArray)) = some r := h
  clear h
  have H' := Aside0.mk H
  clear H
  go_enter Tryd.func103, Tryd.ntmps103
  go_wp2
  go_loopg [0, 3] k (fun kq v0 v3 w' => ∃ (x0_1 : Int) (x3_1 : ByteArray), v0 = .int .u32 x0_1 ∧ v3 = .string x3_1 ∧ Aside0 (seedcornref01_Text.l0 kq x0_1 x3_1 = some r) ∧ Aside0 (kq ≤ k) ∧ Aside0 (Below w.heap.size w w'))
  case atStart => exact ⟨(a0), ((⟨#[]⟩ : ByteArray)), (by first | rfl | (simp; done) | (simp [*]; done)), (by first | rfl | (simp; done) | (simp [*]; done)), H', ⟨Nat.le_refl _⟩, ⟨by repeat (first | (with_reducible first | exact HB.out | apply below_alloc | apply pw_below_drewN | apply below_drew1) | exact HB.out)⟩⟩
  case round =>
    clear H'
    try clear c1
    obtain ⟨x0_1, x3_1, rfl, rfl, HA, HK1, HB⟩ := hrel
    cases gk with
    | zero => exact absurd HA.out (by simp [seedcornref01_Text.l0])
    | succ k1 =>
      have H := HA.out
      clear HA
      simp only [seedcornref01_Text.l0] at H
      by_cases c2 : x0_1 > 9
      · rw [if_pos c2] at H
        have c2b0 : decide (9 < x0_1) = true := decide_eq_true c2
        clear c2
        obtain ⟨y316, hy316⟩ : ∃ y_ : List Int, y_ = (([((48 + (Int.tmod x0_1 10)) % 4294967296) % 256] : List Int)) := ⟨_, rfl⟩
        replace H : (if (strOfNums y316).size + x3_1.size ≤ 9223372036854775807 then (seedcornref01_Text.l0 k1 ((Int.tdiv x0_1 10) % 4294967296) ((strOfNums y316) ++ x3_1)) else (none)) = some r := by first | (rw [hy316]; with_reducible exact H) | (have H2_ := (Option.bind_some _ _).symm.trans H; rw [hy316]; with_reducible exact H2_) | (have H2_ := (Option.bind_some _ _).symm.trans H; with_reducible exact H2_) | with_reducible exact H | (rw [hy316]; exact H) | exact H
        have Ny316 := Aside0.mk hy316
        clear hy316
        by_cases c3 : (strOfNums y316).size + x3_1.size ≤ 9223372036854775807
        · rw [if_pos c3] at H
          have c3b0 := eq_true c3
          have c3b1 : decide ((strOfNums y316).size + x3_1.size ≤ 9223372036854775807) = true := decide_eq_true c3
          try have c3b2 : (9223372036854775807 < (strOfNums y316).size + x3_1.size) = False := eq_false (Nat.not_lt.2 c3)
          have H' := Aside0.mk H
          clear H
          go_wp2_with (first | ((with_reducible refine gate_dst (N := 10) rfl ?_); refine Kd.R_lit (Kd.int .u8) _ 5 ?hg (N := 10) ?hd (xs := ([((48 + (Int.tmod x0_1 10)) % 4294967296) % 256] : List Int)) (inner := [.int .u8 (((48 + (Int.tmod x0_1 10)) % 4294967296) % 256)]) (ok := fun _ => True) (okp := fun _ => True) ?hr ?hp (fun _ hk => hk) trivial (Below.refl _ _) (Nat.le_refl _) (by simp) ?_; (case hd => rfl); (case hg => rfl); (case hr => first | (go_simp; done) | (go_simp; rfl)); (case hp => exact (Reps.one (show Kd.M (Kd.int .u8) _ _ _ (((48 + (Int.tmod x0_1 10)) % 4294967296) % 256) [.int .u8 (((48 + (Int.tmod x0_1 10)) % 4294967296) % 256)] from rfl) (Reps.none _ _))); intro v317 w4 ho5 hb hg_ hnew_; clear hg_ hnew_; (first | rw [← Ny316.out] at ho5 | (simp only [Int.reduceToNat] at ho5; rw [← Ny316.out] at ho5)); have n0_ := Aside0.mk (Kd.R_lower ho5 (below_size (by repeat (first | (with_reducible first | exact HB.out | apply below_alloc | apply pw_below_drewN | apply below_drew1) | exact HB.out)))); have n1_ := Aside0.mk (below_step (by repeat (first | (with_reducible first | exact HB.out | apply below_alloc | apply pw_below_drewN | apply below_drew1) | exact HB.out)) hb); clear HB; have HO318 := n0_; have HB := n1_; clear n0_ n1_; clear hb ho5; have hcv6 := own_string (P := Tryd.prog) Tryd.underlying72 Tryd.underlying5 Tryd.underlying9 (Kd.own_of_R HO318.out)))
          go_roundg k1
          case measure => have := HK1.out; omega
          case rel => exact ⟨((Int.tdiv x0_1 10) % 4294967296), ((strOfNums y316) ++ x3_1), (by first | rfl | (simp; done) | (simp [*]; done)), (by first | rfl | (simp; done) | (simp [*]; done)), H', ⟨by have := HK1.out; omega⟩, ⟨by repeat (first | (with_reducible first | exact HB.out | apply below_alloc | apply pw_below_drewN | apply below_drew1) | exact HB.out)⟩⟩
        · rw [if_neg c3] at H
          exact absurd H (by simp)
      · rw [if_neg c2] at H
        have c2b0 : decide (9 < x0_1) = false := decide_eq_false c2
        clear c2
        obtain ⟨y319, hy319⟩ : ∃ y_ : List Int, y_ = (([((48 + x0_1) % 4294967296) % 256] : List Int)) := ⟨_, rfl⟩
        replace H : (if (strOfNums y319).size + x3_1.size ≤ 9223372036854775807 then (some ((strOfNums y319) ++ x3_1)) else (none)) = some r := by first | (rw [hy319]; with_reducible exact H) | (have H2_ := (Option.bind_some _ _).symm.trans H; rw [hy319]; with_reducible exact H2_) | (have H2_ := (Option.bind_some _ _).symm.trans H; with_reducible exact H2_) | with_reducible exact H | (rw [hy319]; exact H) | exact H
        have Ny319 := Aside0.mk hy319
        clear hy319
        by_cases c7 : (strOfNums y319).size + x3_1.size ≤ 9223372036854775807
        · rw [if_pos c7] at H
          have c7b0 := eq_true c7
          have c7b1 : decide ((strOfNums y319).size + x3_1.size ≤ 9223372036854775807) = true := decide_eq_true c7
          try have c7b2 : (9223372036854775807 < (strOfNums y319).size + x3_1.size) = False := eq_false (Nat.not_lt.2 c7)
          obtain rfl := Option.some.inj H
          go_wp2_with (first | ((with_reducible refine gate_dst (N := 19) rfl ?_); refine Kd.R_lit (Kd.int .u8) _ 5 ?hg (N := 19) ?hd (xs := ([((48 + x0_1) % 4294967296) % 256] : List Int)) (inner := [.int .u8 (((48 + x0_1) % 4294967296) % 256)]) (ok := fun _ => True) (okp := fun _ => True) ?hr ?hp (fun _ hk => hk) trivial (Below.refl _ _) (Nat.le_refl _) (by simp) ?_; (case hd => rfl); (case hg => rfl); (case hr => first | (go_simp; done) | (go_simp; rfl)); (case hp => exact (Reps.one (show Kd.M (Kd.int .u8) _ _ _ (((48 + x0_1) % 4294967296) % 256) [.int .u8 (((48 + x0_1) % 4294967296) % 256)] from rfl) (Reps.none _ _))); intro v320 w8 ho9 hb hg_ hnew_; clear hg_ hnew_; (first | rw [← Ny319.out] at ho9 | (simp only [Int.reduceToNat] at ho9; rw [← Ny319.out] at ho9)); have n0_ := Aside0.mk (Kd.R_lower ho9 (below_size (by repeat (first | (with_reducible first | exact HB.out | apply below_alloc | apply pw_below_drewN | apply below_drew1) | exact HB.out)))); have n1_ := Aside0.mk (below_step (by repeat (first | (with_reducible first | exact HB.out | apply below_alloc | apply pw_below_drewN | apply below_drew1) | exact HB.out)) hb); clear HB; have HO321 := n0_; have HB := n1_; clear n0_ n1_; clear hb ho9; have hcv10 := own_string (P := Tryd.prog) Tryd.underlying72 Tryd.underlying5 Tryd.underlying9 (Kd.own_of_R HO321.out)))
          go_ret
          exact ⟨by first | rfl | (simp [errW_none, errW_some] <;> rfl) | (simp [*, errW_none, errW_some] <;> rfl), by repeat (first | (with_reducible first | exact HB.out | apply below_alloc | apply pw_below_drewN | apply below_drew1) | exact HB.out)⟩
        · rw [if_neg c7] at H
          exact absurd H (by simp)
end Go.Proofs.YtdhkmdgieflioaaDoor.F
namespace Go.Proofs.YtdhkmdgieflioaaDoor.F
open Go.RowKit Go.Proofs.YtdhkmdgieflioaaDoorW.PrintWords Go.Proofs.YtdhkmdgieflioaaDoorW.PrintLast Go.Proofs.YtdhkmdgieflioaaDoorW.PrintMore
attribute [local go_sem] max2_int min2_int max_two min_two max_three min_three max_four min_four
set_option linter.unusedVariables false
set_option linter.unusedSimpArgs false
def seedcornref07_number.f (k : Nat) (a0 : Int) : Option (ByteArray) := (seedcornref01_Text.f k ((a0) % 4294967296)).bind fun t322 => (some t322)
theorem seedcornref07_number.mono : ∀ a0 k, LeO (seedcornref07_number.f k a0) (seedcornref07_number.f (k + 1) a0) := by
  intro a0 k
  unfold seedcornref07_number.f
  repeat' first
      | (with_reducible exact seedcornref01_Text.mono _ _)
      | (with_reducible exact LeO.refl _)
      | (with_reducible exact LeO.none _)
      | (with_reducible refine LeO.ite ?_ ?_)
      | (with_reducible refine LeO.bind ?_ (fun _ => ?_))
      | exact seedcornref01_Text.mono _ _
      | exact LeO.none _
      | refine LeO.ite ?_ ?_
      | refine LeO.bind ?_ (fun _ => ?_)
set_option maxHeartbeats 8000000 in
set_option maxRecDepth 100000 in
theorem seedcornref07_number.calls (k : Nat) (a0 : Int) (r : ByteArray) (w : World) (h : seedcornref07_number.f k a0 = some r) :
    Calls Tryd.prog 81 #[.int .i64 a0] w fun e w' => e = .returned (.string r) ∧ Below w.heap.size w w' := by
  have HB := Aside0.mk (Below.refl w.heap.size w)
  have H : ((seedcornref01_Text.f k ((a0) % 4294967296)).bind fun t322 => (some t322)) = some r := h
  clear h
  replace H := Option.bind_eq_some_iff.mp H
  obtain ⟨t322, A20, H⟩ := H
  replace H : (some t322) = some r := H
  have A2 := Aside0.mk A20
  clear A20
  obtain rfl := Option.some.inj H
  go_enter Tryd.func81, Tryd.ntmps81
  go_wp2_with (first | ((with_reducible refine gate_callee (f := 103) rfl ?_); refine goesL_ (some 5) rfl rfl Tryd.func103 (by kernel_rfl) rfl #[.int .u32 ((a0) % 4294967296)] rfl (by (try simp only [List.map_toArray, List.map_cons, List.map_nil]); first | done | rfl | (simp only [List.length_drop, List.length_take]; rfl)) ?_; (with_reducible refine (seedcornref01_Text.calls k ((a0) % 4294967296) t322 _ A2.out).mono ?_); rintro e w3 ⟨rfl, hb⟩; refine ⟨_, rfl, ?_⟩; have n0_ := Aside0.mk (below_step (by repeat (first | (with_reducible first | exact HB.out | apply below_alloc | apply pw_below_drewN | apply below_drew1) | exact HB.out)) hb); clear HB; have HB := n0_; clear n0_; (try clear hb); (try clear hb2); (try clear hk); (try clear hi)))
  go_ret
  exact ⟨by first | rfl | (simp [errW_none, errW_some] <;> rfl) | (simp [*, errW_none, errW_some] <;> rfl), by repeat (first | (with_reducible first | exact HB.out | apply below_alloc | apply pw_below_drewN | apply below_drew1) | exact HB.out)⟩
end Go.Proofs.YtdhkmdgieflioaaDoor.F
namespace Go.Proofs.YtdhkmdgieflioaaDoor.F
open Go.RowKit Go.Proofs.YtdhkmdgieflioaaDoorW.PrintWords Go.Proofs.YtdhkmdgieflioaaDoorW.PrintLast Go.Proofs.YtdhkmdgieflioaaDoorW.PrintMore
attribute [local go_sem] max2_int min2_int max_two min_two max_three min_three max_four min_four
set_option linter.unusedVariables false
set_option linter.unusedSimpArgs false
mutual
def seedcornref07_Text.l0 : Nat → ByteArray → ByteArray → Int → Int → Int → Int → Int → Option (ByteArray)
  | 0, _, _, _, _, _, _, _ => none
  | k + 1, x3, x4, x5, x324000, x324001, x324002, x324003 => if x5 < (x3.size : Int) then (if x5 = 0 then (if x4.size + 1 ≤ 9223372036854775807 then (seedcornref07_Text.j1 k x3 (x4 ++ (⟨#[32]⟩ : ByteArray)) x5 x324000 x324001 x324002 x324003) else (none)) else (if x4.size + 2 ≤ 9223372036854775807 then (seedcornref07_Text.j1 k x3 (x4 ++ (⟨#[44, 32]⟩ : ByteArray)) x5 x324000 x324001 x324002 x324003) else (none))) else (some x4)
def seedcornref07_Text.j1 : Nat → ByteArray → ByteArray → Int → Int → Int → Int → Int → Option (ByteArray)
  | 0, _, _, _, _, _, _, _ => none
  | k + 1, x3, x4, x5, x324000, x324001, x324002, x324003 => if 0 ≤ x5 then (if x5 < (x3.size : Int) then (if (bt x3 x5) = 97 then (if x4.size + 1 ≤ 9223372036854775807 then ((seedcornref07_number.f k x324001).bind fun t327 => (if (x4 ++ (⟨#[114]⟩ : ByteArray)).size + t327.size ≤ 9223372036854775807 then (seedcornref07_Text.l0 k x3 ((x4 ++ (⟨#[114]⟩ : ByteArray)) ++ t327) (wrap64 (x5 + 1)) x324000 x324001 x324002 x324003) else (none))) else (none)) else (if (bt x3 x5) = 98 then (if x4.size + 1 ≤ 9223372036854775807 then ((seedcornref07_number.f k x324002).bind fun t328 => (if (x4 ++ (⟨#[114]⟩ : ByteArray)).size + t328.size ≤ 9223372036854775807 then (seedcornref07_Text.l0 k x3 ((x4 ++ (⟨#[114]⟩ : ByteArray)) ++ t328) (wrap64 (x5 + 1)) x324000 x324001 x324002 x324003) else (none))) else (none)) else (if (bt x3 x5) = 114 then (if x4.size + 1 ≤ 9223372036854775807 then ((seedcornref07_number.f k x324003).bind fun t329 => (if (x4 ++ (⟨#[114]⟩ : ByteArray)).size + t329.size ≤ 9223372036854775807 then (seedcornref07_Text.l0 k x3 ((x4 ++ (⟨#[114]⟩ : ByteArray)) ++ t329) (wrap64 (x5 + 1)) x324000 x324001 x324002 x324003) else (none))) else (none)) else ((seedcornref07_number.f k x324003).bind fun t330 => (if x4.size + t330.size ≤ 9223372036854775807 then (seedcornref07_Text.l0 k x3 (x4 ++ t330) (wrap64 (x5 + 1)) x324000 x324001 x324002 x324003) else (none)))))) else (none)) else (none)
end
def seedcornref07_Text.f (k : Nat) (a0_0 : Int) (a0_1 : Int) (a0_2 : Int) (a0_3 : Int) : Option (ByteArray) := (seedcornref07_Right.f a0_0 a0_1 a0_2 a0_3).bind fun t324 => (if t324 = true then ((seedcornref07_Parts.f k a0_0).bind fun t325 => ((seedcornref07_Name.f a0_0).bind fun t326 => (seedcornref07_Text.l0 k t325 t326 0 a0_0 a0_1 a0_2 a0_3))) else (some (⟨#[]⟩ : ByteArray)))
theorem seedcornref07_Text.mono_l : ∀ k, (∀ y0 y1 y2 y3 y4 y5 y6, LeO (seedcornref07_Text.l0 k y0 y1 y2 y3 y4 y5 y6) (seedcornref07_Text.l0 (k + 1) y0 y1 y2 y3 y4 y5 y6)) ∧ (∀ y0 y1 y2 y3 y4 y5 y6, LeO (seedcornref07_Text.j1 k y0 y1 y2 y3 y4 y5 y6) (seedcornref07_Text.j1 (k + 1) y0 y1 y2 y3 y4 y5 y6))
  | 0 => ⟨fun _ _ _ _ _ _ _ r h => by simp [seedcornref07_Text.l0] at h, fun _ _ _ _ _ _ _ r h => by simp [seedcornref07_Text.j1] at h⟩
  | k + 1 => by
    obtain ⟨ih0, ih1⟩ := seedcornref07_Text.mono_l k
    refine ⟨?_, ?_⟩
    · intro y0 y1 y2 y3 y4 y5 y6
      unfold seedcornref07_Text.l0
      repeat' first
      | (with_reducible exact ih0 _ _ _ _ _ _ _)
      | (with_reducible exact ih1 _ _ _ _ _ _ _)
      | (with_reducible exact seedcornref07_Parts.mono _ _)
      | (with_reducible exact seedcornref07_number.mono _ _)
      | (with_reducible exact LeO.refl _)
      | (with_reducible exact LeO.none _)
      | (with_reducible refine LeO.ite ?_ ?_)
      | (with_reducible refine LeO.bind ?_ (fun _ => ?_))
      | exact ih0 _ _ _ _ _ _ _
      | exact ih1 _ _ _ _ _ _ _
      | exact seedcornref07_Parts.mono _ _
      | exact seedcornref07_number.mono _ _
      | exact LeO.none _
      | refine LeO.ite ?_ ?_
      | refine LeO.bind ?_ (fun _ => ?_)
    · intro y0 y1 y2 y3 y4 y5 y6
      unfold seedcornref07_Text.j1
      repeat' first
      | (with_reducible exact ih0 _ _ _ _ _ _ _)
      | (with_reducible exact ih1 _ _ _ _ _ _ _)
      | (with_reducible exact seedcornref07_Parts.mono _ _)
      | (with_reducible exact seedcornref07_number.mono _ _)
      | (with_reducible exact LeO.refl _)
      | (with_reducible exact LeO.none _)
      | (with_reducible refine LeO.ite ?_ ?_)
      | (with_reducible refine LeO.bind ?_ (fun _ => ?_))
      | exact ih0 _ _ _ _ _ _ _
      | exact ih1 _ _ _ _ _ _ _
      | exact seedcornref07_Parts.mono _ _
      | exact seedcornref07_number.mono _ _
      | exact LeO.none _
      | refine LeO.ite ?_ ?_
      | refine LeO.bind ?_ (fun _ => ?_)
theorem seedcornref07_Text.mono : ∀ a0 a1 a2 a3 k, LeO (seedcornref07_Text.f k a0 a1 a2 a3) (seedcornref07_Text.f (k + 1) a0 a1 a2 a3) := by
  intro a0 a1 a2 a3 k
  obtain ⟨ih0, ih1⟩ := seedcornref07_Text.mono_l k
  unfold seedcornref07_Text.f
  repeat' first
      | (with_reducible exact ih0 _ _ _ _ _ _ _)
      | (with_reducible exact ih1 _ _ _ _ _ _ _)
      | (with_reducible exact seedcornref07_Parts.mono _ _)
      | (with_reducible exact seedcornref07_number.mono _ _)
      | (with_reducible exact LeO.refl _)
      | (with_reducible exact LeO.none _)
      | (with_reducible refine LeO.ite ?_ ?_)
      | (with_reducible refine LeO.bind ?_ (fun _ => ?_))
      | exact ih0 _ _ _ _ _ _ _
      | exact ih1 _ _ _ _ _ _ _
      | exact seedcornref07_Parts.mono _ _
      | exact seedcornref07_number.mono _ _
      | exact LeO.none _
      | refine LeO.ite ?_ ?_
      | refine LeO.bind ?_ (fun _ => ?_)
set_option maxHeartbeats 8000000 in
set_option maxRecDepth 100000 in
theorem seedcornref07_Text.calls (k : Nat) (a0_0 : Int) (a0_1 : Int) (a0_2 : Int) (a0_3 : Int) (r : ByteArray) (w : World) (h : seedcornref07_Text.f k a0_0 a0_1 a0_2 a0_3 = some r) :
    Calls Tryd.prog 43 #[.agg #[.int .i64 a0_0, .int .i64 a0_1, .int .i64 a0_2, .int .i64 a0_3]] w fun e w' => e = .returned (.string r) ∧ Below w.heap.size w w' := by
  have hu46 := Tryd.underlying46
  have HB := Aside0.mk (Below.refl w.heap.size w)
  have H : ((seedcornref07_Right.f a0_0 a0_1 a0_2 a0_3).bind fun t324 => (if t324 = true then ((seedcornref07_Parts.f k a0_0).bind fun t325 => ((seedcornref07_Name.f a0_0).bind fun t326 => (seedcornref07_Text.l0 k t325 t326 0 a0_0 a0_1 a0_2 a0_3))) else (some (⟨#[]⟩ : ByteArray)))) = some r := h
  clear h
  replace H := Option.bind_eq_some_iff.mp H
  obtain ⟨t324, A20, H⟩ := H
  replace H : (if t324 = true then ((seedcornref07_Parts.f k a0_0).bind fun t325 => ((seedcornref07_Name.f a0_0).bind fun t326 => (seedcornref07_Text.l0 k t325 t326 0 a0_0 a0_1 a0_2 a0_3))) else (some (⟨#[]⟩ : ByteArray))) = some r := H
  have A2 := Aside0.mk A20
  clear A20
  by_cases c3 : t324 = true
  · subst c3
    have H1 : ((seedcornref07_Parts.f k a0_0).bind fun t325 => ((seedcornref07_Name.f a0_0).bind fun t326 => (seedcornref07_Text.l0 k t325 t326 0 a0_0 a0_1 a0_2 a0_3))) = some r := by rw [if_pos rfl] at H; exact H
    clear H
    have H := H1
    clear H1
    replace H := Option.bind_eq_some_iff.mp H
    obtain ⟨t325, A40, H⟩ := H
    replace H : ((seedcornref07_Name.f a0_0).bind fun t326 => (seedcornref07_Text.l0 k t325 t326 0 a0_0 a0_1 a0_2 a0_3)) = some r := H
    have A4 := Aside0.mk A40
    clear A40
    replace H := Option.bind_eq_some_iff.mp H
    obtain ⟨t326, A50, H⟩ := H
    replace H : (seedcornref07_Text.l0 k t325 t326 0 a0_0 a0_1 a0_2 a0_3) = some r := H
    have A5 := Aside0.mk A50
    clear A50
    have H' := Aside0.mk H
    clear H
    go_enter Tryd.func43, Tryd.ntmps43
    go_wp2_with (first | ((with_reducible refine gate_dst (N := 1) rfl ?_); refine box_event ?hg (N := 1) ?hd (cs := #[.int .i64 a0_0, .int .i64 a0_1, .int .i64 a0_2, .int .i64 a0_3]) (t := 46) ?hr ?_; (case hd => rfl); (case hg => rfl); (case hr => first | (go_simp; done) | (go_simp; rfl)); intro gb323 hg w6 hbox hb; have n0_ := Aside0.mk (below_step (by repeat (first | (with_reducible first | exact HB.out | apply below_alloc | apply pw_below_drewN | apply below_drew1) | exact HB.out)) hb); have n1_ := Aside0.mk (hbox); have n2_ := Aside0.mk ((by rw [hg]; exact (below_size (by repeat (first | (with_reducible first | exact HB.out | apply below_alloc | apply pw_below_drewN | apply below_drew1) | exact HB.out))) : w.heap.size ≤ gb323)); have n3_ := Aside0.mk ((by rw [hg]; exact (below_size (by repeat (first | (with_reducible first | exact HB.out | apply below_alloc | apply pw_below_drewN | apply below_drew1) | exact HB.out))) : w.heap.size ≤ gb323)); clear HB; have HB := n0_; have BK323 := n1_; have GW323 := n2_; have GE323 := n3_; clear n0_ n1_ n2_ n3_; clear hb hbox hg; have hcz7_0 : w6.cell? ⟨gb323, 0, none⟩ = some (.int .i64 a0_0) := (blk_cell BK323.out 0).trans rfl; have hcz7_1 : w6.cell? ⟨gb323, 1, none⟩ = some (.int .i64 a0_1) := (blk_cell BK323.out 1).trans rfl; have hcz7_2 : w6.cell? ⟨gb323, 2, none⟩ = some (.int .i64 a0_2) := (blk_cell BK323.out 2).trans rfl; have hcz7_3 : w6.cell? ⟨gb323, 3, none⟩ = some (.int .i64 a0_3) := (blk_cell BK323.out 3).trans rfl; have hfz7_0 := blk_frozen BK323.out 0; have hfz7_1 := blk_frozen BK323.out 1; have hfz7_2 := blk_frozen BK323.out 2; have hfz7_3 := blk_frozen BK323.out 3) | ((with_reducible refine gate_callee (f := 41) rfl ?_); refine goesL_ (some 7) rfl rfl Tryd.func41 (by kernel_rfl) rfl #[.agg #[.int .i64 a0_0, .int .i64 a0_1, .int .i64 a0_2, .int .i64 a0_3]] rfl (by (try simp only [List.map_toArray, List.map_cons, List.map_nil]); first | done | rfl | (simp only [List.length_drop, List.length_take]; rfl)) ?_; (with_reducible refine (seedcornref07_Right.calls a0_0 a0_1 a0_2 a0_3 true _ A2.out).mono ?_); rintro e w8 ⟨rfl, hb⟩; refine ⟨_, rfl, ?_⟩; have n0_ := Aside0.mk (blk_below (g := gb323) (o := .cells #[.int .i64 a0_0, .int .i64 a0_1, .int .i64 a0_2, .int .i64 a0_3] 46 (0, 0)) (by (with_reducible repeat (first | refine blk_drewN ?_ _ | refine blk_drew ?_ | refine blk_alloc ?_ _)); exact BK323.out) hb); have n1_ := Aside0.mk (below_step (by repeat (first | (with_reducible first | exact HB.out | apply below_alloc | apply pw_below_drewN | apply below_drew1 | refine below_set ?_ GE323.out) | exact HB.out)) hb); clear BK323; clear HB; have BK323 := n0_; have HB := n1_; clear n0_ n1_; (try clear hb); (try clear hb2); (try clear hk); (try clear hi); have hcz9_0 : w8.cell? ⟨gb323, 0, none⟩ = some (.int .i64 a0_0) := (blk_cell BK323.out 0).trans rfl; have hcz9_1 : w8.cell? ⟨gb323, 1, none⟩ = some (.int .i64 a0_1) := (blk_cell BK323.out 1).trans rfl; have hcz9_2 : w8.cell? ⟨gb323, 2, none⟩ = some (.int .i64 a0_2) := (blk_cell BK323.out 2).trans rfl; have hcz9_3 : w8.cell? ⟨gb323, 3, none⟩ = some (.int .i64 a0_3) := (blk_cell BK323.out 3).trans rfl; have hfz9_0 := blk_frozen BK323.out 0; have hfz9_1 := blk_frozen BK323.out 1; have hfz9_2 := blk_frozen BK323.out 2; have hfz9_3 := blk_frozen BK323.out 3) | ((with_reducible refine gate_callee (f := 48) rfl ?_); refine goesL_ (some 11) rfl rfl Tryd.func48 (by kernel_rfl) rfl #[.int .i64 a0_0] rfl (by (try simp only [List.map_toArray, List.map_cons, List.map_nil]); first | done | rfl | (simp only [List.length_drop, List.length_take]; rfl)) ?_; (with_reducible refine (seedcornref07_Parts.calls k a0_0 t325 _ A4.out).mono ?_); rintro e w' ⟨rfl, ⟨nd, rfl⟩⟩; refine ⟨_, rfl, ?_⟩) | ((with_reducible refine gate_callee (f := 51) rfl ?_); refine goesL_ (some 14) rfl rfl Tryd.func51 (by kernel_rfl) rfl #[.int .i64 a0_0] rfl (by (try simp only [List.map_toArray, List.map_cons, List.map_nil]); first | done | rfl | (simp only [List.length_drop, List.length_take]; rfl)) ?_; (with_reducible refine (seedcornref07_Name.calls a0_0 t326 _ A5.out).mono ?_); rintro e w' ⟨rfl, ⟨nd, rfl⟩⟩; refine ⟨_, rfl, ?_⟩))
    go_loopg [4, 5] k (fun kq v4 v5 w' => ∃ (x4_1 : ByteArray) (x5_1 : Int), v4 = .string x4_1 ∧ v5 = .int .i64 x5_1 ∧ Aside0 (seedcornref07_Text.l0 kq t325 x4_1 x5_1 a0_0 a0_1 a0_2 a0_3 = some r) ∧ Aside0 (kq ≤ k) ∧ Aside0 (w'.heap[gb323]? = some (.cells #[.int .i64 a0_0, .int .i64 a0_1, .int .i64 a0_2, .int .i64 a0_3] 46 (0, 0))) ∧ Aside0 (Below w.heap.size w w'))
    case atStart => exact ⟨(t326), (0), (by first | rfl | (simp; done) | (simp [*]; done)), (by first | rfl | (simp; done) | (simp [*]; done)), H', ⟨Nat.le_refl _⟩, ⟨by (with_reducible repeat (first | refine blk_drewN ?_ _ | refine blk_drew ?_ | refine blk_alloc ?_ _)); exact BK323.out⟩, ⟨by repeat (first | (with_reducible first | exact HB.out | apply below_alloc | apply pw_below_drewN | apply below_drew1 | refine below_set ?_ GE323.out) | exact HB.out)⟩⟩
    case round =>
      clear H'
      try clear p2
      try clear c3
      try clear c4
      try clear c5
      try clear hcz7_0
      try clear hcz7_1
      try clear hcz7_2
      try clear hcz7_3
      try clear hcz9_0
      try clear hcz9_1
      try clear hcz9_2
      try clear hcz9_3
      try clear hfz7_0
      try clear hfz7_1
      try clear hfz7_2
      try clear hfz7_3
      try clear hfz9_0
      try clear hfz9_1
      try clear hfz9_2
      try clear hfz9_3
      obtain ⟨x4_1, x5_1, rfl, rfl, HA, HK1, BK323, HB⟩ := hrel
      cases gk with
      | zero => exact absurd HA.out (by simp [seedcornref07_Text.l0])
      | succ k1 =>
        have H := HA.out
        clear HA
        simp only [seedcornref07_Text.l0] at H
        by_cases c10 : x5_1 < (t325.size : Int)
        · rw [if_pos c10] at H
          have c10b0 : decide (x5_1 < (t325.size : Int)) = true := decide_eq_true c10
          clear c10
          have HC11 := Aside0.mk H
          clear H
          go_upto_if 22 with (fail)
          go_cut [4] (fun v4 wc => ∃ (kq : Nat) (x4_10 : ByteArray), v4 = .string x4_10 ∧ Aside0 (seedcornref07_Text.j1 kq t325 x4_10 x5_1 a0_0 a0_1 a0_2 a0_3 = some r) ∧ Aside0 (kq ≤ k1) ∧ Aside0 (wc.heap[gb323]? = some (.cells #[.int .i64 a0_0, .int .i64 a0_1, .int .i64 a0_2, .int .i64 a0_3] 46 (0, 0))) ∧ Aside0 (Below w.heap.size w wc))
          case first =>
            have H := HC11.out
            clear HC11
            by_cases c12 : x5_1 = 0
            · rw [if_pos c12] at H
              have c12b0 : (x5_1 == 0) = true := beq_iff_eq.mpr c12
              have c12b1 : (x5_1 != 0) = false := bne_eq_false_iff_eq.mpr c12
              clear c12
              (first | rw [c12b0] | (simp only [i64_w, i32_w]; rw [c12b0]) | skip)
              by_cases c13 : x4_1.size + 1 ≤ 9223372036854775807
              · rw [if_pos c13] at H
                have c13b0 := eq_true c13
                have c13b1 : decide (x4_1.size + 1 ≤ 9223372036854775807) = true := decide_eq_true c13
                try have c13b2 : (9223372036854775807 < x4_1.size + 1) = False := eq_false (Nat.not_lt.2 c13)
                have H' := Aside0.mk H
                clear H
                go_wp2
                go_meet
                case rel => exact ⟨_, (x4_1 ++ (⟨#[32]⟩ : ByteArray)), (by first | rfl | (simp; done) | (simp [*]; done)), H', ⟨by have := HK1.out; first | omega | exact Nat.le_refl _⟩, ⟨by (with_reducible repeat (first | refine blk_drewN ?_ _ | refine blk_drew ?_ | refine blk_alloc ?_ _)); exact BK323.out⟩, ⟨by repeat (first | (with_reducible first | exact HB.out | apply below_alloc | apply pw_below_drewN | apply below_drew1 | refine below_set ?_ GE323.out) | exact HB.out)⟩⟩
              · rw [if_neg c13] at H
                exact absurd H (by simp)
            · rw [if_neg c12] at H
              have c12b0 : (x5_1 == 0) = false := beq_eq_false_iff_ne.mpr c12
              have c12b1 : (x5_1 != 0) = true := bne_iff_ne.mpr c12
              (first | rw [c12b0] | (simp only [i64_w, i32_w]; rw [c12b0]) | skip)
              by_cases c14 : x4_1.size + 2 ≤ 9223372036854775807
              · rw [if_pos c14] at H
                have c14b0 := eq_true c14
                have c14b1 : decide (x4_1.size + 2 ≤ 9223372036854775807) = true := decide_eq_true c14
                try have c14b2 : (9223372036854775807 < x4_1.size + 2) = False := eq_false (Nat.not_lt.2 c14)
                have H' := Aside0.mk H
                clear H
                go_wp2
                go_meet
                case rel => exact ⟨_, (x4_1 ++ (⟨#[44, 32]⟩ : ByteArray)), (by first | rfl | (simp; done) | (simp [*]; done)), H', ⟨by have := HK1.out; first | omega | exact Nat.le_refl _⟩, ⟨by (with_reducible repeat (first | refine blk_drewN ?_ _ | refine blk_drew ?_ | refine blk_alloc ?_ _)); exact BK323.out⟩, ⟨by repeat (first | (with_reducible first | exact HB.out | apply below_alloc | apply pw_below_drewN | apply below_drew1 | refine below_set ?_ GE323.out) | exact HB.out)⟩⟩
              · rw [if_neg c14] at H
                exact absurd H (by simp)
          case rest =>
            clear HC11
            try clear c1
            try clear p2
            try clear c3
            try clear c4
            try clear c5
            try clear c10
            try clear c10b0
            try clear c12
            try clear c12b0
            try clear c12b1
            try clear c13
            try clear c13b0
            try clear c13b1
            try clear c13b2
            try clear c14
            try clear c14b0
            try clear c14b1
            try clear c14b2
            try clear hcz7_0
            try clear hcz7_1
            try clear hcz7_2
            try clear hcz7_3
            try clear hcz9_0
            try clear hcz9_1
            try clear hcz9_2
            try clear hcz9_3
            try clear hfz7_0
            try clear hfz7_1
            try clear hfz7_2
            try clear hfz7_3
            try clear hfz9_0
            try clear hfz9_1
            try clear hfz9_2
            try clear hfz9_3
            try clear p2
            obtain ⟨kq, x4_10, rfl, HA, HJ10, BK323, HB⟩ := hcut
            cases kq with
            | zero => exact absurd HA.out (by simp [seedcornref07_Text.j1])
            | succ kj10 =>
              have H := HA.out
              clear HA
              simp only [seedcornref07_Text.j1] at H
              by_cases c15 : 0 ≤ x5_1
              · rw [if_pos c15] at H
                have c15b0 : decide (0 ≤ x5_1) = true := decide_eq_true c15
                clear c15
                by_cases c16 : x5_1 < (t325.size : Int)
                · rw [if_pos c16] at H
                  have c16b0 : decide (x5_1 < (t325.size : Int)) = true := decide_eq_true c16
                  clear c16
                  by_cases c18 : (bt t325 x5_1) = 97
                  · rw [if_pos c18] at H
                    have c18b0 : ((bt t325 x5_1) == 97) = true := beq_iff_eq.mpr c18
                    have c18b1 : ((bt t325 x5_1) != 97) = false := bne_eq_false_iff_eq.mpr c18
                    clear c18
                    by_cases c19 : x4_10.size + 1 ≤ 9223372036854775807
                    · rw [if_pos c19] at H
                      have c19b0 := eq_true c19
                      have c19b1 : decide (x4_10.size + 1 ≤ 9223372036854775807) = true := decide_eq_true c19
                      try have c19b2 : (9223372036854775807 < x4_10.size + 1) = False := eq_false (Nat.not_lt.2 c19)
                      replace H := Option.bind_eq_some_iff.mp H
                      obtain ⟨t327, A200, H⟩ := H
                      replace H : (if (x4_10 ++ (⟨#[114]⟩ : ByteArray)).size + t327.size ≤ 9223372036854775807 then (seedcornref07_Text.l0 kj10 t325 ((x4_10 ++ (⟨#[114]⟩ : ByteArray)) ++ t327) (wrap64 (x5_1 + 1)) a0_0 a0_1 a0_2 a0_3) else (none)) = some r := H
                      have A20 := Aside0.mk A200
                      clear A200
                      by_cases c21 : (x4_10 ++ (⟨#[114]⟩ : ByteArray)).size + t327.size ≤ 9223372036854775807
                      · rw [if_pos c21] at H
                        have c21b0 := eq_true c21
                        have c21b1 : decide ((x4_10 ++ (⟨#[114]⟩ : ByteArray)).size + t327.size ≤ 9223372036854775807) = true := decide_eq_true c21
                        try have c21b2 : (9223372036854775807 < (x4_10 ++ (⟨#[114]⟩ : ByteArray)).size + t327.size) = False := eq_false (Nat.not_lt.2 c21)
                        try have c21b3 : (9223372036854775807 < x4_10.size + 1 + t327.size) = False := eq_false (by have c21z := c21; simp only [ByteArray.size_append] at c21z; (try rw [show (⟨#[114]⟩ : ByteArray).size = 1 from rfl] at c21z); omega)
                        have H' := Aside0.mk H
                        clear H
                        have p17 : 0 ≤ (x5_1 : Int) := of_decide_eq_true (by first | (with_reducible assumption) | assumption)
                        have q17 : x5_1 < (t325.size : Int) := of_decide_eq_true (by first | (with_reducible assumption) | assumption)
                        have hx17 := bt_at t325 x5_1
                        replace p17 := eq_true p17
                        replace q17 := eq_true q17
                        have hcz22_0 : wc.cell? ⟨gb323, 0, none⟩ = some (.int .i64 a0_0) := (blk_cell BK323.out 0).trans rfl
                        have hcz22_1 : wc.cell? ⟨gb323, 1, none⟩ = some (.int .i64 a0_1) := (blk_cell BK323.out 1).trans rfl
                        have hcz22_2 : wc.cell? ⟨gb323, 2, none⟩ = some (.int .i64 a0_2) := (blk_cell BK323.out 2).trans rfl
                        have hcz22_3 : wc.cell? ⟨gb323, 3, none⟩ = some (.int .i64 a0_3) := (blk_cell BK323.out 3).trans rfl
                        have hfz22_0 := blk_frozen BK323.out 0
                        have hfz22_1 := blk_frozen BK323.out 1
                        have hfz22_2 := blk_frozen BK323.out 2
                        have hfz22_3 := blk_frozen BK323.out 3
                        go_wp2_with (first | ((with_reducible refine gate_callee (f := 81) rfl ?_); refine goesL_ (some 41) rfl rfl Tryd.func81 (by kernel_rfl) rfl #[.int .i64 a0_1] rfl (by (try simp only [List.map_toArray, List.map_cons, List.map_nil]); first | done | rfl | (simp only [List.length_drop, List.length_take]; rfl)) ?_; (with_reducible refine (seedcornref07_number.calls kj10 a0_1 t327 _ A20.out).mono ?_); rintro e w23 ⟨rfl, hb⟩; refine ⟨_, rfl, ?_⟩; have n0_ := Aside0.mk (blk_below (g := gb323) (o := .cells #[.int .i64 a0_0, .int .i64 a0_1, .int .i64 a0_2, .int .i64 a0_3] 46 (0, 0)) (by (with_reducible repeat (first | refine blk_drewN ?_ _ | refine blk_drew ?_ | refine blk_alloc ?_ _)); exact BK323.out) hb); have n1_ := Aside0.mk (below_step (by repeat (first | (with_reducible first | exact HB.out | apply below_alloc | apply pw_below_drewN | apply below_drew1 | refine below_set ?_ GE323.out) | exact HB.out)) hb); clear BK323; clear HB; have BK323 := n0_; have HB := n1_; clear n0_ n1_; (try clear hb); (try clear hb2); (try clear hk); (try clear hi)))
                        go_roundg kj10
                        case measure => have := HK1.out; have := HJ10.out; omega
                        case rel => exact ⟨((x4_10 ++ (⟨#[114]⟩ : ByteArray)) ++ t327), (wrap64 (x5_1 + 1)), (by first | rfl | (simp; done) | (simp [*]; done)), (by first | rfl | (simp; done) | (simp [*]; done)), H', ⟨by have := HK1.out; have := HJ10.out; omega⟩, ⟨by (with_reducible repeat (first | refine blk_drewN ?_ _ | refine blk_drew ?_ | refine blk_alloc ?_ _)); exact BK323.out⟩, ⟨by repeat (first | (with_reducible first | exact HB.out | apply below_alloc | apply pw_below_drewN | apply below_drew1 | refine below_set ?_ GE323.out) | exact HB.out)⟩⟩
                      · rw [if_neg c21] at H
                        exact absurd H (by simp)
                    · rw [if_neg c19] at H
                      exact absurd H (by simp)
                  · rw [if_neg c18] at H
                    have c18b0 : ((bt t325 x5_1) == 97) = false := beq_eq_false_iff_ne.mpr c18
                    have c18b1 : ((bt t325 x5_1) != 97) = true := bne_iff_ne.mpr c18
                    by_cases c24 : (bt t325 x5_1) = 98
                    · rw [if_pos c24] at H
                      have c24b0 : ((bt t325 x5_1) == 98) = true := beq_iff_eq.mpr c24
                      have c24b1 : ((bt t325 x5_1) != 98) = false := bne_eq_false_iff_eq.mpr c24
                      clear c24
                      by_cases c25 : x4_10.size + 1 ≤ 9223372036854775807
                      · rw [if_pos c25] at H
                        have c25b0 := eq_true c25
                        have c25b1 : decide (x4_10.size + 1 ≤ 9223372036854775807) = true := decide_eq_true c25
                        try have c25b2 : (9223372036854775807 < x4_10.size + 1) = False := eq_false (Nat.not_lt.2 c25)
                        replace H := Option.bind_eq_some_iff.mp H
                        obtain ⟨t328, A260, H⟩ := H
                        replace H : (if (x4_10 ++ (⟨#[114]⟩ : ByteArray)).size + t328.size ≤ 9223372036854775807 then (seedcornref07_Text.l0 kj10 t325 ((x4_10 ++ (⟨#[114]⟩ : ByteArray)) ++ t328) (wrap64 (x5_1 + 1)) a0_0 a0_1 a0_2 a0_3) else (none)) = some r := H
                        have A26 := Aside0.mk A260
                        clear A260
                        by_cases c27 : (x4_10 ++ (⟨#[114]⟩ : ByteArray)).size + t328.size ≤ 9223372036854775807
                        · rw [if_pos c27] at H
                          have c27b0 := eq_true c27
                          have c27b1 : decide ((x4_10 ++ (⟨#[114]⟩ : ByteArray)).size + t328.size ≤ 9223372036854775807) = true := decide_eq_true c27
                          try have c27b2 : (9223372036854775807 < (x4_10 ++ (⟨#[114]⟩ : ByteArray)).size + t328.size) = False := eq_false (Nat.not_lt.2 c27)
                          try have c27b3 : (9223372036854775807 < x4_10.size + 1 + t328.size) = False := eq_false (by have c27z := c27; simp only [ByteArray.size_append] at c27z; (try rw [show (⟨#[114]⟩ : ByteArray).size = 1 from rfl] at c27z); omega)
                          have H' := Aside0.mk H
                          clear H
                          have p17 : 0 ≤ (x5_1 : Int) := of_decide_eq_true (by first | (with_reducible assumption) | assumption)
                          have q17 : x5_1 < (t325.size : Int) := of_decide_eq_true (by first | (with_reducible assumption) | assumption)
                          have hx17 := bt_at t325 x5_1
                          replace p17 := eq_true p17
                          replace q17 := eq_true q17
                          have hcz28_0 : wc.cell? ⟨gb323, 0, none⟩ = some (.int .i64 a0_0) := (blk_cell BK323.out 0).trans rfl
                          have hcz28_1 : wc.cell? ⟨gb323, 1, none⟩ = some (.int .i64 a0_1) := (blk_cell BK323.out 1).trans rfl
                          have hcz28_2 : wc.cell? ⟨gb323, 2, none⟩ = some (.int .i64 a0_2) := (blk_cell BK323.out 2).trans rfl
                          have hcz28_3 : wc.cell? ⟨gb323, 3, none⟩ = some (.int .i64 a0_3) := (blk_cell BK323.out 3).trans rfl
                          have hfz28_0 := blk_frozen BK323.out 0
                          have hfz28_1 := blk_frozen BK323.out 1
                          have hfz28_2 := blk_frozen BK323.out 2
                          have hfz28_3 := blk_frozen BK323.out 3
                          go_wp2_with (first | ((with_reducible refine gate_callee (f := 81) rfl ?_); refine goesL_ (some 49) rfl rfl Tryd.func81 (by kernel_rfl) rfl #[.int .i64 a0_2] rfl (by (try simp only [List.map_toArray, List.map_cons, List.map_nil]); first | done | rfl | (simp only [List.length_drop, List.length_take]; rfl)) ?_; (with_reducible refine (seedcornref07_number.calls kj10 a0_2 t328 _ A26.out).mono ?_); rintro e w29 ⟨rfl, hb⟩; refine ⟨_, rfl, ?_⟩; have n0_ := Aside0.mk (blk_below (g := gb323) (o := .cells #[.int .i64 a0_0, .int .i64 a0_1, .int .i64 a0_2, .int .i64 a0_3] 46 (0, 0)) (by (with_reducible repeat (first | refine blk_drewN ?_ _ | refine blk_drew ?_ | refine blk_alloc ?_ _)); exact BK323.out) hb); have n1_ := Aside0.mk (below_step (by repeat (first | (with_reducible first | exact HB.out | apply below_alloc | apply pw_below_drewN | apply below_drew1 | refine below_set ?_ GE323.out) | exact HB.out)) hb); clear BK323; clear HB; have BK323 := n0_; have HB := n1_; clear n0_ n1_; (try clear hb); (try clear hb2); (try clear hk); (try clear hi)))
                          go_roundg kj10
                          case measure => have := HK1.out; have := HJ10.out; omega
                          case rel => exact ⟨((x4_10 ++ (⟨#[114]⟩ : ByteArray)) ++ t328), (wrap64 (x5_1 + 1)), (by first | rfl | (simp; done) | (simp [*]; done)), (by first | rfl | (simp; done) | (simp [*]; done)), H', ⟨by have := HK1.out; have := HJ10.out; omega⟩, ⟨by (with_reducible repeat (first | refine blk_drewN ?_ _ | refine blk_drew ?_ | refine blk_alloc ?_ _)); exact BK323.out⟩, ⟨by repeat (first | (with_reducible first | exact HB.out | apply below_alloc | apply pw_below_drewN | apply below_drew1 | refine below_set ?_ GE323.out) | exact HB.out)⟩⟩
                        · rw [if_neg c27] at H
                          exact absurd H (by simp)
                      · rw [if_neg c25] at H
                        exact absurd H (by simp)
                    · rw [if_neg c24] at H
                      have c24b0 : ((bt t325 x5_1) == 98) = false := beq_eq_false_iff_ne.mpr c24
                      have c24b1 : ((bt t325 x5_1) != 98) = true := bne_iff_ne.mpr c24
                      by_cases c30 : (bt t325 x5_1) = 114
                      · rw [if_pos c30] at H
                        have c30b0 : ((bt t325 x5_1) == 114) = true := beq_iff_eq.mpr c30
                        have c30b1 : ((bt t325 x5_1) != 114) = false := bne_eq_false_iff_eq.mpr c30
                        clear c30
                        by_cases c31 : x4_10.size + 1 ≤ 9223372036854775807
                        · rw [if_pos c31] at H
                          have c31b0 := eq_true c31
                          have c31b1 : decide (x4_10.size + 1 ≤ 9223372036854775807) = true := decide_eq_true c31
                          try have c31b2 : (9223372036854775807 < x4_10.size + 1) = False := eq_false (Nat.not_lt.2 c31)
                          replace H := Option.bind_eq_some_iff.mp H
                          obtain ⟨t329, A320, H⟩ := H
                          replace H : (if (x4_10 ++ (⟨#[114]⟩ : ByteArray)).size + t329.size ≤ 9223372036854775807 then (seedcornref07_Text.l0 kj10 t325 ((x4_10 ++ (⟨#[114]⟩ : ByteArray)) ++ t329) (wrap64 (x5_1 + 1)) a0_0 a0_1 a0_2 a0_3) else (none)) = some r := H
                          have A32 := Aside0.mk A320
                          clear A320
                          by_cases c33 : (x4_10 ++ (⟨#[114]⟩ : ByteArray)).size + t329.size ≤ 9223372036854775807
                          · rw [if_pos c33] at H
                            have c33b0 := eq_true c33
                            have c33b1 : decide ((x4_10 ++ (⟨#[114]⟩ : ByteArray)).size + t329.size ≤ 9223372036854775807) = true := decide_eq_true c33
                            try have c33b2 : (9223372036854775807 < (x4_10 ++ (⟨#[114]⟩ : ByteArray)).size + t329.size) = False := eq_false (Nat.not_lt.2 c33)
                            try have c33b3 : (9223372036854775807 < x4_10.size + 1 + t329.size) = False := eq_false (by have c33z := c33; simp only [ByteArray.size_append] at c33z; (try rw [show (⟨#[114]⟩ : ByteArray).size = 1 from rfl] at c33z); omega)
                            have H' := Aside0.mk H
                            clear H
                            have p17 : 0 ≤ (x5_1 : Int) := of_decide_eq_true (by first | (with_reducible assumption) | assumption)
                            have q17 : x5_1 < (t325.size : Int) := of_decide_eq_true (by first | (with_reducible assumption) | assumption)
                            have hx17 := bt_at t325 x5_1
                            replace p17 := eq_true p17
                            replace q17 := eq_true q17
                            have hcz34_0 : wc.cell? ⟨gb323, 0, none⟩ = some (.int .i64 a0_0) := (blk_cell BK323.out 0).trans rfl
                            have hcz34_1 : wc.cell? ⟨gb323, 1, none⟩ = some (.int .i64 a0_1) := (blk_cell BK323.out 1).trans rfl
                            have hcz34_2 : wc.cell? ⟨gb323, 2, none⟩ = some (.int .i64 a0_2) := (blk_cell BK323.out 2).trans rfl
                            have hcz34_3 : wc.cell? ⟨gb323, 3, none⟩ = some (.int .i64 a0_3) := (blk_cell BK323.out 3).trans rfl
                            have hfz34_0 := blk_frozen BK323.out 0
                            have hfz34_1 := blk_frozen BK323.out 1
                            have hfz34_2 := blk_frozen BK323.out 2
                            have hfz34_3 := blk_frozen BK323.out 3
                            go_wp2_with (first | ((with_reducible refine gate_callee (f := 81) rfl ?_); refine goesL_ (some 57) rfl rfl Tryd.func81 (by kernel_rfl) rfl #[.int .i64 a0_3] rfl (by (try simp only [List.map_toArray, List.map_cons, List.map_nil]); first | done | rfl | (simp only [List.length_drop, List.length_take]; rfl)) ?_; (with_reducible refine (seedcornref07_number.calls kj10 a0_3 t329 _ A32.out).mono ?_); rintro e w35 ⟨rfl, hb⟩; refine ⟨_, rfl, ?_⟩; have n0_ := Aside0.mk (blk_below (g := gb323) (o := .cells #[.int .i64 a0_0, .int .i64 a0_1, .int .i64 a0_2, .int .i64 a0_3] 46 (0, 0)) (by (with_reducible repeat (first | refine blk_drewN ?_ _ | refine blk_drew ?_ | refine blk_alloc ?_ _)); exact BK323.out) hb); have n1_ := Aside0.mk (below_step (by repeat (first | (with_reducible first | exact HB.out | apply below_alloc | apply pw_below_drewN | apply below_drew1 | refine below_set ?_ GE323.out) | exact HB.out)) hb); clear BK323; clear HB; have BK323 := n0_; have HB := n1_; clear n0_ n1_; (try clear hb); (try clear hb2); (try clear hk); (try clear hi)))
                            go_roundg kj10
                            case measure => have := HK1.out; have := HJ10.out; omega
                            case rel => exact ⟨((x4_10 ++ (⟨#[114]⟩ : ByteArray)) ++ t329), (wrap64 (x5_1 + 1)), (by first | rfl | (simp; done) | (simp [*]; done)), (by first | rfl | (simp; done) | (simp [*]; done)), H', ⟨by have := HK1.out; have := HJ10.out; omega⟩, ⟨by (with_reducible repeat (first | refine blk_drewN ?_ _ | refine blk_drew ?_ | refine blk_alloc ?_ _)); exact BK323.out⟩, ⟨by repeat (first | (with_reducible first | exact HB.out | apply below_alloc | apply pw_below_drewN | apply below_drew1 | refine below_set ?_ GE323.out) | exact HB.out)⟩⟩
                          · rw [if_neg c33] at H
                            exact absurd H (by simp)
                        · rw [if_neg c31] at H
                          exact absurd H (by simp)
                      · rw [if_neg c30] at H
                        have c30b0 : ((bt t325 x5_1) == 114) = false := beq_eq_false_iff_ne.mpr c30
                        have c30b1 : ((bt t325 x5_1) != 114) = true := bne_iff_ne.mpr c30
                        replace H := Option.bind_eq_some_iff.mp H
                        obtain ⟨t330, A360, H⟩ := H
                        replace H : (if x4_10.size + t330.size ≤ 9223372036854775807 then (seedcornref07_Text.l0 kj10 t325 (x4_10 ++ t330) (wrap64 (x5_1 + 1)) a0_0 a0_1 a0_2 a0_3) else (none)) = some r := H
                        have A36 := Aside0.mk A360
                        clear A360
                        by_cases c37 : x4_10.size + t330.size ≤ 9223372036854775807
                        · rw [if_pos c37] at H
                          have c37b0 := eq_true c37
                          have c37b1 : decide (x4_10.size + t330.size ≤ 9223372036854775807) = true := decide_eq_true c37
                          try have c37b2 : (9223372036854775807 < x4_10.size + t330.size) = False := eq_false (Nat.not_lt.2 c37)
                          have H' := Aside0.mk H
                          clear H
                          have p17 : 0 ≤ (x5_1 : Int) := of_decide_eq_true (by first | (with_reducible assumption) | assumption)
                          have q17 : x5_1 < (t325.size : Int) := of_decide_eq_true (by first | (with_reducible assumption) | assumption)
                          have hx17 := bt_at t325 x5_1
                          replace p17 := eq_true p17
                          replace q17 := eq_true q17
                          have hcz38_0 : wc.cell? ⟨gb323, 0, none⟩ = some (.int .i64 a0_0) := (blk_cell BK323.out 0).trans rfl
                          have hcz38_1 : wc.cell? ⟨gb323, 1, none⟩ = some (.int .i64 a0_1) := (blk_cell BK323.out 1).trans rfl
                          have hcz38_2 : wc.cell? ⟨gb323, 2, none⟩ = some (.int .i64 a0_2) := (blk_cell BK323.out 2).trans rfl
                          have hcz38_3 : wc.cell? ⟨gb323, 3, none⟩ = some (.int .i64 a0_3) := (blk_cell BK323.out 3).trans rfl
                          have hfz38_0 := blk_frozen BK323.out 0
                          have hfz38_1 := blk_frozen BK323.out 1
                          have hfz38_2 := blk_frozen BK323.out 2
                          have hfz38_3 := blk_frozen BK323.out 3
                          go_wp2_with (first | ((with_reducible refine gate_callee (f := 81) rfl ?_); refine goesL_ (some 33) rfl rfl Tryd.func81 (by kernel_rfl) rfl #[.int .i64 a0_3] rfl (by (try simp only [List.map_toArray, List.map_cons, List.map_nil]); first | done | rfl | (simp only [List.length_drop, List.length_take]; rfl)) ?_; (with_reducible refine (seedcornref07_number.calls kj10 a0_3 t330 _ A36.out).mono ?_); rintro e w39 ⟨rfl, hb⟩; refine ⟨_, rfl, ?_⟩; have n0_ := Aside0.mk (blk_below (g := gb323) (o := .cells #[.int .i64 a0_0, .int .i64 a0_1, .int .i64 a0_2, .int .i64 a0_3] 46 (0, 0)) (by (with_reducible repeat (first | refine blk_drewN ?_ _ | refine blk_drew ?_ | refine blk_alloc ?_ _)); exact BK323.out) hb); have n1_ := Aside0.mk (below_step (by repeat (first | (with_reducible first | exact HB.out | apply below_alloc | apply pw_below_drewN | apply below_drew1 | refine below_set ?_ GE323.out) | exact HB.out)) hb); clear BK323; clear HB; have BK323 := n0_; have HB := n1_; clear n0_ n1_; (try clear hb); (try clear hb2); (try clear hk); (try clear hi)))
                          go_roundg kj10
                          case measure => have := HK1.out; have := HJ10.out; omega
                          case rel => exact ⟨(x4_10 ++ t330), (wrap64 (x5_1 + 1)), (by first | rfl | (simp; done) | (simp [*]; done)), (by first | rfl | (simp; done) | (simp [*]; done)), H', ⟨by have := HK1.out; have := HJ10.out; omega⟩, ⟨by (with_reducible repeat (first | refine blk_drewN ?_ _ | refine blk_drew ?_ | refine blk_alloc ?_ _)); exact BK323.out⟩, ⟨by repeat (first | (with_reducible first | exact HB.out | apply below_alloc | apply pw_below_drewN | apply below_drew1 | refine below_set ?_ GE323.out) | exact HB.out)⟩⟩
                        · rw [if_neg c37] at H
                          exact absurd H (by simp)
                · rw [if_neg c16] at H
                  exact absurd H (by simp)
              · rw [if_neg c15] at H
                exact absurd H (by simp)
        · rw [if_neg c10] at H
          have c10b0 : decide (x5_1 < (t325.size : Int)) = false := decide_eq_false c10
          clear c10
          obtain rfl := Option.some.inj H
          go_wp2
          go_ret
          exact ⟨by first | rfl | (simp [errW_none, errW_some] <;> rfl) | (simp [*, errW_none, errW_some] <;> rfl), by repeat (first | (with_reducible first | exact HB.out | apply below_alloc | apply pw_below_drewN | apply below_drew1 | refine below_set ?_ GE323.out) | exact HB.out)⟩
  · replace c3 := Bool.eq_false_iff.mpr c3
    subst c3
    have H1 : (some (⟨#[]⟩ : ByteArray)) = some r := by rw [if_neg (show ¬ (false = true) by decide)] at H; exact H
    clear H
    have H := H1
    clear H1
    obtain rfl := Option.some.inj H
    go_enter Tryd.func43, Tryd.ntmps43
    go_wp2_with (first | ((with_reducible refine gate_dst (N := 1) rfl ?_); refine box_event ?hg (N := 1) ?hd (cs := #[.int .i64 a0_0, .int .i64 a0_1, .int .i64 a0_2, .int .i64 a0_3]) (t := 46) ?hr ?_; (case hd => rfl); (case hg => rfl); (case hr => first | (go_simp; done) | (go_simp; rfl)); intro gb323 hg w40 hbox hb; have n0_ := Aside0.mk (below_step (by repeat (first | (with_reducible first | exact HB.out | apply below_alloc | apply pw_below_drewN | apply below_drew1) | exact HB.out)) hb); have n1_ := Aside0.mk (hbox); have n2_ := Aside0.mk ((by rw [hg]; exact (below_size (by repeat (first | (with_reducible first | exact HB.out | apply below_alloc | apply pw_below_drewN | apply below_drew1) | exact HB.out))) : w.heap.size ≤ gb323)); have n3_ := Aside0.mk ((by rw [hg]; exact (below_size (by repeat (first | (with_reducible first | exact HB.out | apply below_alloc | apply pw_below_drewN | apply below_drew1) | exact HB.out))) : w.heap.size ≤ gb323)); clear HB; have HB := n0_; have BK323 := n1_; have GW323 := n2_; have GE323 := n3_; clear n0_ n1_ n2_ n3_; clear hb hbox hg; have hcz41_0 : w40.cell? ⟨gb323, 0, none⟩ = some (.int .i64 a0_0) := (blk_cell BK323.out 0).trans rfl; have hcz41_1 : w40.cell? ⟨gb323, 1, none⟩ = some (.int .i64 a0_1) := (blk_cell BK323.out 1).trans rfl; have hcz41_2 : w40.cell? ⟨gb323, 2, none⟩ = some (.int .i64 a0_2) := (blk_cell BK323.out 2).trans rfl; have hcz41_3 : w40.cell? ⟨gb323, 3, none⟩ = some (.int .i64 a0_3) := (blk_cell BK323.out 3).trans rfl; have hfz41_0 := blk_frozen BK323.out 0; have hfz41_1 := blk_frozen BK323.out 1; have hfz41_2 := blk_frozen BK323.out 2; have hfz41_3 := blk_frozen BK323.out 3) | ((with_reducible refine gate_callee (f := 41) rfl ?_); refine goesL_ (some 7) rfl rfl Tryd.func41 (by kernel_rfl) rfl #[.agg #[.int .i64 a0_0, .int .i64 a0_1, .int .i64 a0_2, .int .i64 a0_3]] rfl (by (try simp only [List.map_toArray, List.map_cons, List.map_nil]); first | done | rfl | (simp only [List.length_drop, List.length_take]; rfl)) ?_; (with_reducible refine (seedcornref07_Right.calls a0_0 a0_1 a0_2 a0_3 false _ A2.out).mono ?_); rintro e w42 ⟨rfl, hb⟩; refine ⟨_, rfl, ?_⟩; have n0_ := Aside0.mk (blk_below (g := gb323) (o := .cells #[.int .i64 a0_0, .int .i64 a0_1, .int .i64 a0_2, .int .i64 a0_3] 46 (0, 0)) (by (with_reducible repeat (first | refine blk_drewN ?_ _ | refine blk_drew ?_ | refine blk_alloc ?_ _)); exact BK323.out) hb); have n1_ := Aside0.mk (below_step (by repeat (first | (with_reducible first | exact HB.out | apply below_alloc | apply pw_below_drewN | apply below_drew1 | refine below_set ?_ GE323.out) | exact HB.out)) hb); clear BK323; clear HB; have BK323 := n0_; have HB := n1_; clear n0_ n1_; (try clear hb); (try clear hb2); (try clear hk); (try clear hi)))
    go_ret
    exact ⟨by first | rfl | (simp [errW_none, errW_some] <;> rfl) | (simp [*, errW_none, errW_some] <;> rfl), by repeat (first | (with_reducible first | exact HB.out | apply below_alloc | apply pw_below_drewN | apply below_drew1 | refine below_set ?_ GE323.out) | exact HB.out)⟩
end Go.Proofs.YtdhkmdgieflioaaDoor.F
namespace Go.Proofs.YtdhkmdgieflioaaDoor.F
open Go.RowKit Go.Proofs.YtdhkmdgieflioaaDoorW.PrintWords Go.Proofs.YtdhkmdgieflioaaDoorW.PrintLast Go.Proofs.YtdhkmdgieflioaaDoorW.PrintMore
set_option linter.unusedVariables false
set_option linter.unusedSimpArgs false
theorem ba_ext {a b : ByteArray} (h : a.data.toList = b.data.toList) : a = b := bytes_eq (by rw [ByteArray.toList_eq, ByteArray.toList_eq, h])
theorem ba_app (a b : ByteArray) : (a ++ b).data.toList = a.data.toList ++ b.data.toList := by rw [ByteArray.data_append, Array.toList_append]
theorem str_one (d : Int) : (strOfNums [d]).data.toList = [UInt8.ofNat d.toNat] := rfl
theorem num_l0 (n : Nat) : ∀ (acc : ByteArray), n ≤ 65535 → acc.size + n ≤ 100000 → Ev (fun k => seedcornref01_Text.l0 k (n : Int) acc) ((⟨(Lib.decDigits n).toArray⟩ : ByteArray) ++ acc) := by
  induction n using Nat.strongRecOn with
  | ind n ih =>
    intro acc hn ha
    have hs : ∀ d : Int, (strOfNums [d]).size = 1 := fun d => rfl
    by_cases h : n < 10
    · refine Ev.step (f := fun _ => some ((⟨(Lib.decDigits n).toArray⟩ : ByteArray) ++ acc)) (fun k => ?_) (Ev.now _)
      simp only [seedcornref01_Text.l0, Option.bind_some]
      rw [if_neg (by omega), if_pos (by rw [hs]; omega)]
      congr 1
      refine ba_ext ?_
      rw [ba_app, ba_app, str_one, Lib.decDigits, dif_pos h]
      congr 3
      omega
    · have e1 : (((48 + (Int.tmod (n : Int) 10)) % 4294967296) % 256).toNat = 48 + n % 10 := by rw [Int.tmod_eq_emod_of_nonneg (by omega)]; omega
      have e2 : (Int.tdiv (n : Int) 10) % 4294967296 = ((n / 10 : Nat) : Int) := by rw [Int.tdiv_eq_ediv_of_nonneg (by omega)]; omega
      have := ih (n / 10) (by omega) (strOfNums [((48 + (Int.tmod (n : Int) 10)) % 4294967296) % 256] ++ acc) (by omega) (by rw [ByteArray.size_append, hs]; omega)
      have e3 : ((⟨(Lib.decDigits (n / 10)).toArray⟩ : ByteArray) ++ (strOfNums [((48 + (Int.tmod (n : Int) 10)) % 4294967296) % 256] ++ acc)) = (⟨(Lib.decDigits n).toArray⟩ : ByteArray) ++ acc := by
        refine ba_ext ?_
        rw [ba_app, ba_app, ba_app, str_one, e1, Lib.decDigits.eq_1 n, dif_neg h]
        simp
      rw [e3] at this
      refine Ev.step (f := fun k => seedcornref01_Text.l0 k ((n / 10 : Nat) : Int) (strOfNums [((48 + (Int.tmod (n : Int) 10)) % 4294967296) % 256] ++ acc)) (fun k => ?_) this
      simp only [seedcornref01_Text.l0, Option.bind_some]
      rw [if_pos (by omega), if_pos (by rw [hs]; omega), e2]
def itoaB (n : Int) : ByteArray := ⟨(Lib.itoa n).toArray⟩
theorem number_ev (n : Int) (h0 : 0 ≤ n) (h1 : n ≤ 65535) : Ev (fun k => seedcornref07_number.f k n) (itoaB n) := by
  obtain ⟨m, rfl⟩ : ∃ m : Nat, n = m := ⟨n.toNat, by omega⟩
  have := num_l0 m ⟨#[]⟩ (by omega) (by have : (⟨#[]⟩ : ByteArray).size = 0 := rfl; omega)
  have e : ((⟨(Lib.decDigits m).toArray⟩ : ByteArray) ++ (⟨#[]⟩ : ByteArray)) = itoaB (m : Int) := by
    refine ba_ext ?_
    rw [ba_app]
    unfold itoaB Lib.itoa
    rw [if_neg (by omega)]
    simp
  rw [e] at this
  unfold seedcornref07_number.f seedcornref01_Text.f
  rw [show (m : Int) % 4294967296 = (m : Int) by omega]
  exact Ev.bind this (Ev.now _)
theorem itoaB_size (n : Int) (h0 : 0 ≤ n) (h1 : n ≤ 65535) : (itoaB n).size ≤ 21 := by
  have := Lib.itoa_length_le n (by omega) (by omega)
  simpa [itoaB, ByteArray.size] using this
def restOf (a b c : Int) : List UInt8 → List UInt8
  | [] => []
  | ch :: r => [44, 32] ++ (itemOf a b c ch).data.toList ++ restOf a b c r
theorem text_j1 (p : ByteArray) (op a b c : Int) (ha : 0 ≤ a ∧ a ≤ 65535) (hb : 0 ≤ b ∧ b ≤ 65535) (hc : 0 ≤ c ∧ c ≤ 65535) (i : Nat) (hi : i < p.size) (hp : p.size ≤ 100) (s t : ByteArray) (hs : s.size ≤ 1000000)
    (h : Ev (fun k => seedcornref07_Text.l0 k p (s ++ itemOf a b c p[i]) ((i + 1 : Nat) : Int) op a b c) t) : Ev (fun k => seedcornref07_Text.j1 k p s (i : Int) op a b c) t := by
  have hbt : bt p (i : Int) = (p[i].toNat : Int) := by
    unfold bt
    rw [dif_pos (by simpa using hi)]
    rfl
  generalize p[i] = ch at h hbt
  have hcl : ch.toNat < 256 := ch.toNat_lt
  have hr1 : (⟨#[114]⟩ : ByteArray).size = 1 := rfl
  have hw : wrap64 ((i : Int) + 1) = ((i + 1 : Nat) : Int) := by rw [wrapI (by omega) (by omega)]; omega
  have hsr : (s ++ (⟨#[114]⟩ : ByteArray)).size = s.size + 1 := by rw [ByteArray.size_append, hr1]
  have arm (n : Int) (hn : 0 ≤ n ∧ n ≤ 65535) (he : itemOf a b c ch = ⟨#[114]⟩ ++ itoaB n) :
      Ev (fun k => (seedcornref07_number.f k n).bind fun t327 => (if (s ++ (⟨#[114]⟩ : ByteArray)).size + t327.size ≤ 9223372036854775807 then (seedcornref07_Text.l0 k p ((s ++ (⟨#[114]⟩ : ByteArray)) ++ t327) (wrap64 ((i : Int) + 1)) op a b c) else (none))) t := by
    refine Ev.bind (number_ev n hn.1 hn.2) ?_
    have hz := itoaB_size n hn.1 hn.2
    rw [he, ← ByteArray.append_assoc] at h
    rw [hw]
    exact Ev.congr (fun k => by rw [if_pos (by omega)]) h
  by_cases k97 : ch = 97
  · have g : bt p (i : Int) = 97 := by rw [hbt, k97]; rfl
    refine Ev.step (fun k => ?_) (arm a ha (by unfold itemOf; rw [if_pos k97]; rfl))
    simp only [seedcornref07_Text.j1]
    rw [if_pos (by omega), if_pos (by omega), if_pos g, if_pos (by omega)]
  · have g : ¬ bt p (i : Int) = 97 := by rw [hbt]; exact fun x => k97 (UInt8.toNat_inj.1 (by have : (97 : UInt8).toNat = 97 := rfl; omega))
    by_cases k98 : ch = 98
    · have g2 : bt p (i : Int) = 98 := by rw [hbt, k98]; rfl
      refine Ev.step (fun k => ?_) (arm b hb (by unfold itemOf; rw [if_neg k97, if_pos k98]; rfl))
      simp only [seedcornref07_Text.j1]
      rw [if_pos (by omega), if_pos (by omega), if_neg g, if_pos g2, if_pos (by omega)]
    · have g2 : ¬ bt p (i : Int) = 98 := by rw [hbt]; exact fun x => k98 (UInt8.toNat_inj.1 (by have : (98 : UInt8).toNat = 98 := rfl; omega))
      by_cases k114 : ch = 114
      · have g3 : bt p (i : Int) = 114 := by rw [hbt, k114]; rfl
        refine Ev.step (fun k => ?_) (arm c hc (by unfold itemOf; rw [if_neg k97, if_neg k98, if_pos k114]; rfl))
        simp only [seedcornref07_Text.j1]
        rw [if_pos (by omega), if_pos (by omega), if_neg g, if_neg g2, if_pos g3, if_pos (by omega)]
      · have g3 : ¬ bt p (i : Int) = 114 := by rw [hbt]; exact fun x => k114 (UInt8.toNat_inj.1 (by have : (114 : UInt8).toNat = 114 := rfl; omega))
        have he : itemOf a b c ch = itoaB c := by unfold itemOf; rw [if_neg k97, if_neg k98, if_neg k114]; rfl
        have hz := itoaB_size c hc.1 hc.2
        rw [he] at h
        refine Ev.step (f := fun k => (seedcornref07_number.f k c).bind fun t330 => (if s.size + t330.size ≤ 9223372036854775807 then (seedcornref07_Text.l0 k p (s ++ t330) ((i + 1 : Nat) : Int) op a b c) else (none))) (fun k => ?_) (Ev.bind (number_ev c hc.1 hc.2) (Ev.congr (fun k => by rw [if_pos (by omega)]) h))
        simp only [seedcornref07_Text.j1]
        rw [if_pos (by omega), if_pos (by omega), if_neg g, if_neg g2, if_neg g3, hw]
theorem text_l0 (p : ByteArray) (op a b c : Int) (ha : 0 ≤ a ∧ a ≤ 65535) (hb : 0 ≤ b ∧ b ≤ 65535) (hc : 0 ≤ c ∧ c ≤ 65535) (hp : p.size ≤ 100) (d : Nat) : ∀ (i : Nat) (s : ByteArray), i + d = p.size → 1 ≤ i → s.size ≤ 1000 + 24 * i →
    Ev (fun k => seedcornref07_Text.l0 k p s (i : Int) op a b c) (s ++ ⟨(restOf a b c (p.data.toList.drop i)).toArray⟩) := by
  induction d with
  | zero =>
    intro i s hi h1 hs
    have hl : p.data.toList.length = p.size := rfl
    have e : s ++ (⟨(restOf a b c (p.data.toList.drop i)).toArray⟩ : ByteArray) = s := by
      rw [List.drop_of_length_le (by omega)]
      exact ba_ext (by rw [ba_app]; simp [restOf])
    rw [e]
    refine Ev.step (f := fun _ => some s) (fun k => ?_) (Ev.now _)
    simp only [seedcornref07_Text.l0]
    rw [if_neg (by omega)]
  | succ d ih =>
    intro i s hi h1 hs
    have hlt : i < p.size := by omega
    have h2 : (⟨#[44, 32]⟩ : ByteArray).size = 2 := rfl
    have hz := item_size a b c p[i] ha hb hc
    have hd : p.data.toList.drop i = p[i] :: p.data.toList.drop (i + 1) := List.drop_eq_getElem_cons (by simpa using hlt)
    have := ih (i + 1) ((s ++ (⟨#[44, 32]⟩ : ByteArray)) ++ itemOf a b c p[i]) (by omega) (by omega) (by rw [ByteArray.size_append, ByteArray.size_append, h2]; omega)
    have e : (s ++ (⟨#[44, 32]⟩ : ByteArray)) ++ itemOf a b c p[i] ++ (⟨(restOf a b c (p.data.toList.drop (i + 1))).toArray⟩ : ByteArray) = s ++ (⟨(restOf a b c (p.data.toList.drop i)).toArray⟩ : ByteArray) := by
      refine ba_ext ?_
      rw [hd]
      simp only [ba_app, restOf]
      simp
    rw [e] at this
    refine Ev.step (f := fun k => seedcornref07_Text.j1 k p (s ++ (⟨#[44, 32]⟩ : ByteArray)) (i : Int) op a b c) (fun k => ?_) (text_j1 p op a b c ha hb hc i hlt hp _ _ (by rw [ByteArray.size_append, h2]; omega) this)
    simp only [seedcornref07_Text.l0]
    rw [if_pos (by omega), if_neg (by omega), if_pos (by omega)]
theorem joinTail_rest (a b c : Int) : ∀ l : List UInt8, Lib.joinTail [44, 32] (l.map fun ch => (itemOf a b c ch).data.toList) = restOf a b c l
  | [] => rfl
  | ch :: r => by
    rw [List.map_cons, restOf, ← joinTail_rest a b c r]
    simp [Lib.joinTail]
theorem text_start (p : ByteArray) (op a b c : Int) (ha : 0 ≤ a ∧ a ≤ 65535) (hb : 0 ≤ b ∧ b ≤ 65535) (hc : 0 ≤ c ∧ c ≤ 65535) (hp : p.size ≤ 100) (s : ByteArray) (hs : s.size ≤ 100) :
    Ev (fun k => seedcornref07_Text.l0 k p s 0 op a b c) (if p.data.toList.map (itemOf a b c) = [] then s else s ++ (⟨#[32]⟩ : ByteArray) ++ ⟨(Lib.join ((p.data.toList.map (itemOf a b c)).map (·.data.toList)) [44, 32]).toArray⟩) := by
  have hl : p.data.toList.length = p.size := rfl
  by_cases h0 : p.size = 0
  · rw [List.eq_nil_of_length_eq_zero (hl.trans h0)]
    refine Ev.step (f := fun _ => some s) (fun k => ?_) (Ev.now _)
    simp only [seedcornref07_Text.l0]
    rw [if_neg (by omega)]
  · have hlt : 0 < p.size := by omega
    have h2 : (⟨#[32]⟩ : ByteArray).size = 1 := rfl
    have hz := item_size a b c p[0] ha hb hc
    have hd : p.data.toList = p[0] :: p.data.toList.drop 1 := List.drop_eq_getElem_cons (l := p.data.toList) (i := 0) (by simpa using hlt)
    have := text_l0 p op a b c ha hb hc hp (p.size - 1) 1 ((s ++ (⟨#[32]⟩ : ByteArray)) ++ itemOf a b c p[0]) (by omega) (by omega) (by rw [ByteArray.size_append, ByteArray.size_append, h2]; omega)
    have hne : p.data.toList.map (itemOf a b c) ≠ [] := by rw [hd]; simp
    rw [if_neg hne]
    have e : (s ++ (⟨#[32]⟩ : ByteArray)) ++ itemOf a b c p[0] ++ (⟨(restOf a b c (p.data.toList.drop 1)).toArray⟩ : ByteArray) = s ++ (⟨#[32]⟩ : ByteArray) ++ (⟨(Lib.join ((p.data.toList.map (itemOf a b c)).map (·.data.toList)) [44, 32]).toArray⟩ : ByteArray) := by
      refine ba_ext ?_
      rw [List.map_map, ← joinTail_rest]
      conv => rhs; rw [hd]
      rw [List.map_cons, Lib.join_cons]
      simp only [ba_app, Function.comp_def]
      simp
    rw [e] at this
    refine Ev.step (f := fun k => seedcornref07_Text.j1 k p (s ++ (⟨#[32]⟩ : ByteArray)) ((0 : Nat) : Int) op a b c) (fun k => ?_) (text_j1 p op a b c ha hb hc 0 hlt hp _ _ (by rw [ByteArray.size_append, h2]; omega) this)
    simp only [seedcornref07_Text.l0]
    simp only [if_true]
    rw [if_pos (by omega), if_pos (by omega)]
    rfl
theorem parts_all : ((List.range 28).all fun n => decide (n = 0) || ((seedcornref07_Parts.f 40 (n : Int)).map (·.data.toList) == some (partsOf (n : Int)).data.toList)) = true := by kernel_rfl
theorem parts_ev (op : Int) (h1 : 1 ≤ op) (h2 : op < 28) : Ev (fun k => seedcornref07_Parts.f k op) (partsOf op) := by
  obtain ⟨n, rfl⟩ : ∃ n : Nat, op = n := ⟨op.toNat, by omega⟩
  have h3 := List.all_eq_true.1 parts_all n (List.mem_range.2 (by omega))
  rw [decide_eq_false (show ¬ n = 0 by omega), Bool.false_or, beq_iff_eq] at h3
  have h4 : seedcornref07_Parts.f 40 (n : Int) = some (partsOf (n : Int)) := by
    obtain ⟨p, hp, hq⟩ := Option.map_eq_some_iff.1 h3
    rw [hp, ba_ext hq]
  refine ⟨40, fun k hk => ?_⟩
  obtain ⟨d, rfl⟩ : ∃ d, k = 40 + d := ⟨k - 40, by omega⟩
  clear hk
  induction d with
  | zero => exact h4
  | succ d ih => exact seedcornref07_Parts.mono _ (40 + d) _ ih
theorem refText_ev (op a b c : Int) : Ev (fun k => seedcornref07_Text.f k op a b c) (textOf op a b c) := by
  unfold seedcornref07_Text.f
  rw [refRight_f, refName_f]
  cases hr : rightB op a b c with
  | false =>
    unfold textOf
    rw [if_pos hr]
    refine Ev.congr (fun k => ?_) (Ev.now _)
    simp only [Option.bind_some, Bool.false_eq_true, if_false]
  | true =>
    obtain ⟨h1, h2, ha, hb, hc⟩ := right_facts _ _ _ _ hr
    have ht : textOf op a b c = if (partsOf op).data.toList.map (itemOf a b c) = [] then nameOf op else nameOf op ++ (⟨#[32]⟩ : ByteArray) ++ ⟨(Lib.join (((partsOf op).data.toList.map (itemOf a b c)).map (·.data.toList)) [44, 32]).toArray⟩ := by
      unfold textOf
      rw [hr, if_neg (by decide)]
      rfl
    rw [ht]
    refine Ev.congr (f := fun k => (seedcornref07_Parts.f k op).bind fun t325 => seedcornref07_Text.l0 k t325 (nameOf op) 0 op a b c) (fun k => ?_) (Ev.bind (parts_ev op h1 h2) (text_start (partsOf op) op a b c ha hb hc (parts_ascii op h1 h2).1 (nameOf op) (name_size op h1 h2)))
    simp only [Option.bind_some, if_true]
end Go.Proofs.YtdhkmdgieflioaaDoor.F
namespace Go.Proofs.YtdhkmdgieflioaaDoor.F
open Go.RowKit Go.Proofs.YtdhkmdgieflioaaDoorW.PrintWords Go.Proofs.YtdhkmdgieflioaaDoorW.PrintLast Go.Proofs.YtdhkmdgieflioaaDoorW.PrintMore
set_option linter.unusedVariables false
set_option linter.unusedSimpArgs false
def tx (x : UInt8) : Bool := x != 76 && x != 10 && x != 46
theorem trim_app (a b : List UInt8) : Lib.trimSuffix (a ++ b) b = a := by
  have h : Lib.hasSuffix (a ++ b) b = true := by
    unfold Lib.hasSuffix
    rw [List.isSuffixOf_iff_suffix]
    exact List.suffix_append a b
  unfold Lib.trimSuffix
  rw [if_pos h, List.length_append, Nat.add_sub_cancel, List.take_left]
end Go.Proofs.YtdhkmdgieflioaaDoor.F
namespace Go.Proofs.YtdhkmdgieflioaaDoor.F
open Go.RowKit Go.Proofs.YtdhkmdgieflioaaDoorW.PrintWords Go.Proofs.YtdhkmdgieflioaaDoorW.PrintLast Go.Proofs.YtdhkmdgieflioaaDoorW.PrintMore
attribute [local go_sem] max2_int min2_int max_two min_two max_three min_three max_four min_four
set_option linter.unusedVariables false
set_option linter.unusedSimpArgs false
def seedcornref08_Right.f (l0_0 : List Int) (a0_1 : Int) : Option (Bool) := if (l0_0.length : Int) ≤ 16384 then (if a0_1 ≥ 0 then (some (decide (a0_1 ≤ 32768))) else (some false)) else (some false)
set_option maxHeartbeats 8000000 in
set_option maxRecDepth 100000 in
theorem seedcornref08_Right.calls (A0_0 : Option Addr) (c0_0 : Nat) (l0_0 : List Int) (a0_1 : Int) (r : Bool) (w : World) (hr0_0 : Kd.C (Kd.int .u32) w A0_0 l0_0.length l0_0) (hc0_0 : l0_0.length ≤ c0_0) (h : seedcornref08_Right.f l0_0 a0_1 = some r) :
    Calls Tryd.prog 34 #[.agg #[.slice A0_0 l0_0.length c0_0, .int .i64 a0_1]] w fun e w' => e = .returned (.bool r) ∧ Below w.heap.size w w' := by
  have hu28 := Tryd.underlying28
  have HR0_0 := Aside0.mk hr0_0
  have HC0_0 := Aside0.mk hc0_0
  clear hr0_0 hc0_0
  have HB := Aside0.mk (Below.refl w.heap.size w)
  have H : (if (l0_0.length : Int) ≤ 16384 then (if a0_1 ≥ 0 then (some (decide (a0_1 ≤ 32768))) else (some false)) else (some false)) = some r := h
  clear h
  by_cases c2 : (l0_0.length : Int) ≤ 16384
  · rw [if_pos c2] at H
    have c2b0 : decide ((l0_0.length : Int) ≤ 16384) = true := decide_eq_true c2
    have c2b1 : decide (l0_0.length ≤ 16384) = true := decide_eq_true (by omega)
    clear c2
    by_cases c3 : a0_1 ≥ 0
    · rw [if_pos c3] at H
      have c3b0 : decide (0 ≤ a0_1) = true := decide_eq_true c3
      clear c3
      obtain rfl := Option.some.inj H
      go_enter Tryd.func34, Tryd.ntmps34
      go_wp2_with (first | ((with_reducible refine gate_dst (N := 1) rfl ?_); refine box_event ?hg (N := 1) ?hd (cs := #[.slice A0_0 l0_0.length c0_0, .int .i64 a0_1]) (t := 28) ?hr ?_; (case hd => rfl); (case hg => rfl); (case hr => first | (go_simp; done) | (go_simp; rfl)); intro gb198 hg w4 hbox hb; have n0_ := Aside0.mk (below_step (by repeat (first | (with_reducible first | exact HB.out | apply below_alloc | apply pw_below_drewN | apply below_drew1) | exact HB.out)) hb); have n1_ := Aside0.mk (hbox); have n2_ := Aside0.mk ((by rw [hg]; exact (below_size (by repeat (first | (with_reducible first | exact HB.out | apply below_alloc | apply pw_below_drewN | apply below_drew1) | exact HB.out))) : w.heap.size ≤ gb198)); have n3_ := Aside0.mk ((by rw [hg]; exact (below_size (by repeat (first | (with_reducible first | exact HB.out | apply below_alloc | apply pw_below_drewN | apply below_drew1) | exact HB.out))) : w.heap.size ≤ gb198)); clear HB; have HB := n0_; have BK198 := n1_; have GW198 := n2_; have GE198 := n3_; clear n0_ n1_ n2_ n3_; clear hb hbox hg; have hcz5_0 : w4.cell? ⟨gb198, 0, none⟩ = some (.slice A0_0 l0_0.length c0_0) := (blk_cell BK198.out 0).trans rfl; have hcz5_1 : w4.cell? ⟨gb198, 1, none⟩ = some (.int .i64 a0_1) := (blk_cell BK198.out 1).trans rfl; have hfz5_0 := blk_frozen BK198.out 0; have hfz5_1 := blk_frozen BK198.out 1))
      go_ret
      exact ⟨by first | rfl | (simp [errW_none, errW_some] <;> rfl) | (simp [*, errW_none, errW_some] <;> rfl), by repeat (first | (with_reducible first | exact HB.out | apply below_alloc | apply pw_below_drewN | apply below_drew1 | refine below_set ?_ GE198.out) | exact HB.out)⟩
    · rw [if_neg c3] at H
      have c3b0 : decide (0 ≤ a0_1) = false := decide_eq_false c3
      clear c3
      obtain rfl := Option.some.inj H
      go_enter Tryd.func34, Tryd.ntmps34
      go_wp2_with (first | ((with_reducible refine gate_dst (N := 1) rfl ?_); refine box_event ?hg (N := 1) ?hd (cs := #[.slice A0_0 l0_0.length c0_0, .int .i64 a0_1]) (t := 28) ?hr ?_; (case hd => rfl); (case hg => rfl); (case hr => first | (go_simp; done) | (go_simp; rfl)); intro gb198 hg w6 hbox hb; have n0_ := Aside0.mk (below_step (by repeat (first | (with_reducible first | exact HB.out | apply below_alloc | apply pw_below_drewN | apply below_drew1) | exact HB.out)) hb); have n1_ := Aside0.mk (hbox); have n2_ := Aside0.mk ((by rw [hg]; exact (below_size (by repeat (first | (with_reducible first | exact HB.out | apply below_alloc | apply pw_below_drewN | apply below_drew1) | exact HB.out))) : w.heap.size ≤ gb198)); have n3_ := Aside0.mk ((by rw [hg]; exact (below_size (by repeat (first | (with_reducible first | exact HB.out | apply below_alloc | apply pw_below_drewN | apply below_drew1) | exact HB.out))) : w.heap.size ≤ gb198)); clear HB; have HB := n0_; have BK198 := n1_; have GW198 := n2_; have GE198 := n3_; clear n0_ n1_ n2_ n3_; clear hb hbox hg; have hcz7_0 : w6.cell? ⟨gb198, 0, none⟩ = some (.slice A0_0 l0_0.length c0_0) := (blk_cell BK198.out 0).trans rfl; have hcz7_1 : w6.cell? ⟨gb198, 1, none⟩ = some (.int .i64 a0_1) := (blk_cell BK198.out 1).trans rfl; have hfz7_0 := blk_frozen BK198.out 0; have hfz7_1 := blk_frozen BK198.out 1))
      go_ret
      exact ⟨by first | rfl | (simp [errW_none, errW_some] <;> rfl) | (simp [*, errW_none, errW_some] <;> rfl), by repeat (first | (with_reducible first | exact HB.out | apply below_alloc | apply pw_below_drewN | apply below_drew1 | refine below_set ?_ GE198.out) | exact HB.out)⟩
  · rw [if_neg c2] at H
    have c2b0 : decide ((l0_0.length : Int) ≤ 16384) = false := decide_eq_false c2
    have c2b1 : decide (l0_0.length ≤ 16384) = false := decide_eq_false (by omega)
    clear c2
    obtain rfl := Option.some.inj H
    go_enter Tryd.func34, Tryd.ntmps34
    go_wp2_with (first | ((with_reducible refine gate_dst (N := 1) rfl ?_); refine box_event ?hg (N := 1) ?hd (cs := #[.slice A0_0 l0_0.length c0_0, .int .i64 a0_1]) (t := 28) ?hr ?_; (case hd => rfl); (case hg => rfl); (case hr => first | (go_simp; done) | (go_simp; rfl)); intro gb198 hg w8 hbox hb; have n0_ := Aside0.mk (below_step (by repeat (first | (with_reducible first | exact HB.out | apply below_alloc | apply pw_below_drewN | apply below_drew1) | exact HB.out)) hb); have n1_ := Aside0.mk (hbox); have n2_ := Aside0.mk ((by rw [hg]; exact (below_size (by repeat (first | (with_reducible first | exact HB.out | apply below_alloc | apply pw_below_drewN | apply below_drew1) | exact HB.out))) : w.heap.size ≤ gb198)); have n3_ := Aside0.mk ((by rw [hg]; exact (below_size (by repeat (first | (with_reducible first | exact HB.out | apply below_alloc | apply pw_below_drewN | apply below_drew1) | exact HB.out))) : w.heap.size ≤ gb198)); clear HB; have HB := n0_; have BK198 := n1_; have GW198 := n2_; have GE198 := n3_; clear n0_ n1_ n2_ n3_; clear hb hbox hg; have hcz9_0 : w8.cell? ⟨gb198, 0, none⟩ = some (.slice A0_0 l0_0.length c0_0) := (blk_cell BK198.out 0).trans rfl; have hcz9_1 : w8.cell? ⟨gb198, 1, none⟩ = some (.int .i64 a0_1) := (blk_cell BK198.out 1).trans rfl; have hfz9_0 := blk_frozen BK198.out 0; have hfz9_1 := blk_frozen BK198.out 1))
    go_ret
    exact ⟨by first | rfl | (simp [errW_none, errW_some] <;> rfl) | (simp [*, errW_none, errW_some] <;> rfl), by repeat (first | (with_reducible first | exact HB.out | apply below_alloc | apply pw_below_drewN | apply below_drew1 | refine below_set ?_ GE198.out) | exact HB.out)⟩
end Go.Proofs.YtdhkmdgieflioaaDoor.F
namespace Go.Proofs.YtdhkmdgieflioaaDoor.F
open Go.RowKit Go.Proofs.YtdhkmdgieflioaaDoorW.PrintWords Go.Proofs.YtdhkmdgieflioaaDoorW.PrintLast Go.Proofs.YtdhkmdgieflioaaDoorW.PrintMore
set_option linter.unusedVariables false
set_option linter.unusedSimpArgs false
theorem awake11 : seedcornlaw11_awake.f = some true := by kernel_rfl
def inR (l : List Int) : Prop := ∀ x ∈ l, (Lit.int .u32 x).wf = true
theorem inR_okL {l : List Int} (h : inR l) (hl : l.length ≤ 1000) : okL l = true := by
  refine okL_of hl (fun x hx => ?_)
  have h1 := (Lit.wf_int_iff .u32 x).1 (h x hx)
  have h0 : 0 ≤ x := h1.1
  have h2 : x ≤ 4294967295 := h1.2
  omega
theorem text_f (l : List Int) (d : Int) (h : okL l = true) (hd : 0 ≤ d ∧ d ≤ 32768) : listing_Text.f l d = some (⟨(listB l d).toArray⟩, 0) := by unfold listing_Text.f; rw [if_pos h, if_pos hd]
theorem text_no (l : List Int) (d : Int) (h : okL l = true) (hd : ¬ (0 ≤ d ∧ d ≤ 32768)) : listing_Text.f l d = some (⟨#[]⟩, 1) := by unfold listing_Text.f; rw [if_pos h, if_neg hd]
theorem right8_f (l : List Int) (d : Int) : seedcornref08_Right.f l d = some (decide (l.length ≤ 16384 ∧ 0 ≤ d ∧ d ≤ 32768)) := by
  unfold seedcornref08_Right.f
  by_cases h1 : (l.length : Int) ≤ 16384
  · rw [if_pos h1]
    by_cases h2 : d ≥ 0
    · rw [if_pos h2]
      congr 1
      rw [decide_eq_decide]
      omega
    · rw [if_neg h2]
      congr 1
      exact (decide_eq_false (by omega)).symm
  · rw [if_neg h1]
    congr 1
    exact (decide_eq_false (by omega)).symm
theorem ba_size (l : List UInt8) : (⟨l.toArray⟩ : ByteArray).size = l.length := by simp [ByteArray.size]
end Go.Proofs.YtdhkmdgieflioaaDoor.F
namespace Go.Proofs.YtdhkmdgieflioaaDoor.F
open Go.RowKit Go.Proofs.YtdhkmdgieflioaaDoorW.PrintWords Go.Proofs.YtdhkmdgieflioaaDoorW.PrintLast Go.Proofs.YtdhkmdgieflioaaDoorW.PrintMore
attribute [local go_sem] max2_int min2_int max_two min_two max_three min_three max_four min_four
set_option linter.unusedVariables false
set_option linter.unusedSimpArgs false
def seedcornref11_Jump.f (a0 : Int) : Option (Int × Bool) := (seedcornref07_Decode.f a0).bind fun bt583 => (if bt583.2.2.2.2 = 0 then (if bt583.1 < 18 then (some (0, false)) else (if bt583.1 > 21 then (some (0, false)) else (some (bt583.2.2.2.1, true)))) else (some (0, false)))
set_option maxHeartbeats 8000000 in
set_option maxRecDepth 100000 in
theorem seedcornref11_Jump.calls (a0 : Int) (r1 : Int) (r2 : Bool) (w : World) (h : seedcornref11_Jump.f a0 = some (r1, r2)) :
    Calls Tryd.prog 88 #[.int .u32 a0] w fun e w' => e = .returned (.tuple #[.int .i64 r1, .bool r2]) ∧ Below w.heap.size w w' := by
  have hu46 := Tryd.underlying46
  have HB := Aside0.mk (Below.refl w.heap.size w)
  have H : ((seedcornref07_Decode.f a0).bind fun bt583 => (if bt583.2.2.2.2 = 0 then (if bt583.1 < 18 then (some (0, false)) else (if bt583.1 > 21 then (some (0, false)) else (some (bt583.2.2.2.1, true)))) else (some (0, false)))) = some (r1, r2) := h
  clear h
  replace H := Option.bind_eq_some_iff.mp H
  obtain ⟨⟨t583, t584, t585, t586, t587⟩, A20, H⟩ := H
  replace H : (if t587 = 0 then (if t583 < 18 then (some (0, false)) else (if t583 > 21 then (some (0, false)) else (some (t586, true)))) else (some (0, false))) = some (r1, r2) := H
  have A2 := Aside0.mk A20
  clear A20
  by_cases c3 : t587 = 0
  · rw [if_pos c3] at H
    have c3b0 : (t587 == 0) = true := beq_iff_eq.mpr c3
    have c3b1 : (t587 != 0) = false := bne_eq_false_iff_eq.mpr c3
    clear c3
    by_cases c4 : t583 < 18
    · rw [if_pos c4] at H
      have c4b0 : decide (t583 < 18) = true := decide_eq_true c4
      clear c4
      simp only [Option.some.injEq, Prod.mk.injEq] at H
      obtain ⟨rfl, rfl⟩ := H
      go_enter Tryd.func88, Tryd.ntmps88
      go_wp2_with (first | ((with_reducible refine gate_callee (f := 46) rfl ?_); refine goesL_ (some 8) rfl rfl Tryd.func46 (by kernel_rfl) rfl #[.int .u32 a0] rfl (by (try simp only [List.map_toArray, List.map_cons, List.map_nil]); first | done | rfl | (simp only [List.length_drop, List.length_take]; rfl)) ?_; (with_reducible refine (seedcornref07_Decode.calls a0 t583 t584 t585 t586 t587 _ A2.out).mono ?_); rintro e w5 ⟨rfl, hb⟩; refine ⟨_, rfl, ?_⟩; have n0_ := Aside0.mk (below_step (by repeat (first | (with_reducible first | exact HB.out | apply below_alloc | apply pw_below_drewN | apply below_drew1) | exact HB.out)) hb); clear HB; have HB := n0_; clear n0_; (try clear hb); (try clear hb2); (try clear hk); (try clear hi)) | ((with_reducible refine gate_dst (N := 4) rfl ?_); refine box_event ?hg (N := 4) ?hd (cs := #[.int .i64 0, .int .i64 0, .int .i64 0, .int .i64 0]) (t := 46) ?hr ?_; (case hd => rfl); (case hg => rfl); (case hr => first | (go_simp; done) | (go_simp; rfl)); intro gb588 hg w6 hbox hb; have n0_ := Aside0.mk (below_step (by repeat (first | (with_reducible first | exact HB.out | apply below_alloc | apply pw_below_drewN | apply below_drew1) | exact HB.out)) hb); have n1_ := Aside0.mk (hbox); have n2_ := Aside0.mk ((by rw [hg]; exact (below_size (by repeat (first | (with_reducible first | exact HB.out | apply below_alloc | apply pw_below_drewN | apply below_drew1) | exact HB.out))) : w.heap.size ≤ gb588)); have n3_ := Aside0.mk ((by rw [hg]; exact (below_size (by repeat (first | (with_reducible first | exact HB.out | apply below_alloc | apply pw_below_drewN | apply below_drew1) | exact HB.out))) : w.heap.size ≤ gb588)); clear HB; have HB := n0_; have BK588 := n1_; have GW588 := n2_; have GE588 := n3_; clear n0_ n1_ n2_ n3_; clear hb hbox hg; have hcz7_0 : w6.cell? ⟨gb588, 0, none⟩ = some (.int .i64 0) := (blk_cell BK588.out 0).trans rfl; have hcz7_1 : w6.cell? ⟨gb588, 1, none⟩ = some (.int .i64 0) := (blk_cell BK588.out 1).trans rfl; have hcz7_2 : w6.cell? ⟨gb588, 2, none⟩ = some (.int .i64 0) := (blk_cell BK588.out 2).trans rfl; have hcz7_3 : w6.cell? ⟨gb588, 3, none⟩ = some (.int .i64 0) := (blk_cell BK588.out 3).trans rfl; have hfz7_0 := blk_frozen BK588.out 0; have hfz7_1 := blk_frozen BK588.out 1; have hfz7_2 := blk_frozen BK588.out 2; have hfz7_3 := blk_frozen BK588.out 3))
      go_ret2
      exact ⟨by first | rfl | (simp [errW_none, errW_some] <;> rfl) | (simp [*, errW_none, errW_some] <;> rfl), by repeat (first | (with_reducible first | exact HB.out | apply below_alloc | apply pw_below_drewN | apply below_drew1 | refine below_set ?_ GE588.out) | exact HB.out)⟩
    · rw [if_neg c4] at H
      have c4b0 : decide (t583 < 18) = false := decide_eq_false c4
      clear c4
      by_cases c8 : t583 > 21
      · rw [if_pos c8] at H
        have c8b0 : decide (21 < t583) = true := decide_eq_true c8
        clear c8
        simp only [Option.some.injEq, Prod.mk.injEq] at H
        obtain ⟨rfl, rfl⟩ := H
        go_enter Tryd.func88, Tryd.ntmps88
        go_wp2_with (first | ((with_reducible refine gate_callee (f := 46) rfl ?_); refine goesL_ (some 8) rfl rfl Tryd.func46 (by kernel_rfl) rfl #[.int .u32 a0] rfl (by (try simp only [List.map_toArray, List.map_cons, List.map_nil]); first | done | rfl | (simp only [List.length_drop, List.length_take]; rfl)) ?_; (with_reducible refine (seedcornref07_Decode.calls a0 t583 t584 t585 t586 t587 _ A2.out).mono ?_); rintro e w9 ⟨rfl, hb⟩; refine ⟨_, rfl, ?_⟩; have n0_ := Aside0.mk (below_step (by repeat (first | (with_reducible first | exact HB.out | apply below_alloc | apply pw_below_drewN | apply below_drew1) | exact HB.out)) hb); clear HB; have HB := n0_; clear n0_; (try clear hb); (try clear hb2); (try clear hk); (try clear hi)) | ((with_reducible refine gate_dst (N := 4) rfl ?_); refine box_event ?hg (N := 4) ?hd (cs := #[.int .i64 0, .int .i64 0, .int .i64 0, .int .i64 0]) (t := 46) ?hr ?_; (case hd => rfl); (case hg => rfl); (case hr => first | (go_simp; done) | (go_simp; rfl)); intro gb588 hg w10 hbox hb; have n0_ := Aside0.mk (below_step (by repeat (first | (with_reducible first | exact HB.out | apply below_alloc | apply pw_below_drewN | apply below_drew1) | exact HB.out)) hb); have n1_ := Aside0.mk (hbox); have n2_ := Aside0.mk ((by rw [hg]; exact (below_size (by repeat (first | (with_reducible first | exact HB.out | apply below_alloc | apply pw_below_drewN | apply below_drew1) | exact HB.out))) : w.heap.size ≤ gb588)); have n3_ := Aside0.mk ((by rw [hg]; exact (below_size (by repeat (first | (with_reducible first | exact HB.out | apply below_alloc | apply pw_below_drewN | apply below_drew1) | exact HB.out))) : w.heap.size ≤ gb588)); clear HB; have HB := n0_; have BK588 := n1_; have GW588 := n2_; have GE588 := n3_; clear n0_ n1_ n2_ n3_; clear hb hbox hg; have hcz11_0 : w10.cell? ⟨gb588, 0, none⟩ = some (.int .i64 0) := (blk_cell BK588.out 0).trans rfl; have hcz11_1 : w10.cell? ⟨gb588, 1, none⟩ = some (.int .i64 0) := (blk_cell BK588.out 1).trans rfl; have hcz11_2 : w10.cell? ⟨gb588, 2, none⟩ = some (.int .i64 0) := (blk_cell BK588.out 2).trans rfl; have hcz11_3 : w10.cell? ⟨gb588, 3, none⟩ = some (.int .i64 0) := (blk_cell BK588.out 3).trans rfl; have hfz11_0 := blk_frozen BK588.out 0; have hfz11_1 := blk_frozen BK588.out 1; have hfz11_2 := blk_frozen BK588.out 2; have hfz11_3 := blk_frozen BK588.out 3))
        go_ret2
        exact ⟨by first | rfl | (simp [errW_none, errW_some] <;> rfl) | (simp [*, errW_none, errW_some] <;> rfl), by repeat (first | (with_reducible first | exact HB.out | apply below_alloc | apply pw_below_drewN | apply below_drew1 | refine below_set ?_ GE588.out) | exact HB.out)⟩
      · rw [if_neg c8] at H
        have c8b0 : decide (21 < t583) = false := decide_eq_false c8
        clear c8
        simp only [Option.some.injEq, Prod.mk.injEq] at H
        obtain ⟨rfl, rfl⟩ := H
        go_enter Tryd.func88, Tryd.ntmps88
        go_wp2_with (first | ((with_reducible refine gate_callee (f := 46) rfl ?_); refine goesL_ (some 8) rfl rfl Tryd.func46 (by kernel_rfl) rfl #[.int .u32 a0] rfl (by (try simp only [List.map_toArray, List.map_cons, List.map_nil]); first | done | rfl | (simp only [List.length_drop, List.length_take]; rfl)) ?_; (with_reducible refine (seedcornref07_Decode.calls a0 t583 t584 t585 t586 t587 _ A2.out).mono ?_); rintro e w12 ⟨rfl, hb⟩; refine ⟨_, rfl, ?_⟩; have n0_ := Aside0.mk (below_step (by repeat (first | (with_reducible first | exact HB.out | apply below_alloc | apply pw_below_drewN | apply below_drew1) | exact HB.out)) hb); clear HB; have HB := n0_; clear n0_; (try clear hb); (try clear hb2); (try clear hk); (try clear hi)) | ((with_reducible refine gate_dst (N := 4) rfl ?_); refine box_event ?hg (N := 4) ?hd (cs := #[.int .i64 0, .int .i64 0, .int .i64 0, .int .i64 0]) (t := 46) ?hr ?_; (case hd => rfl); (case hg => rfl); (case hr => first | (go_simp; done) | (go_simp; rfl)); intro gb588 hg w13 hbox hb; have n0_ := Aside0.mk (below_step (by repeat (first | (with_reducible first | exact HB.out | apply below_alloc | apply pw_below_drewN | apply below_drew1) | exact HB.out)) hb); have n1_ := Aside0.mk (hbox); have n2_ := Aside0.mk ((by rw [hg]; exact (below_size (by repeat (first | (with_reducible first | exact HB.out | apply below_alloc | apply pw_below_drewN | apply below_drew1) | exact HB.out))) : w.heap.size ≤ gb588)); have n3_ := Aside0.mk ((by rw [hg]; exact (below_size (by repeat (first | (with_reducible first | exact HB.out | apply below_alloc | apply pw_below_drewN | apply below_drew1) | exact HB.out))) : w.heap.size ≤ gb588)); clear HB; have HB := n0_; have BK588 := n1_; have GW588 := n2_; have GE588 := n3_; clear n0_ n1_ n2_ n3_; clear hb hbox hg; have hcz14_0 : w13.cell? ⟨gb588, 0, none⟩ = some (.int .i64 0) := (blk_cell BK588.out 0).trans rfl; have hcz14_1 : w13.cell? ⟨gb588, 1, none⟩ = some (.int .i64 0) := (blk_cell BK588.out 1).trans rfl; have hcz14_2 : w13.cell? ⟨gb588, 2, none⟩ = some (.int .i64 0) := (blk_cell BK588.out 2).trans rfl; have hcz14_3 : w13.cell? ⟨gb588, 3, none⟩ = some (.int .i64 0) := (blk_cell BK588.out 3).trans rfl; have hfz14_0 := blk_frozen BK588.out 0; have hfz14_1 := blk_frozen BK588.out 1; have hfz14_2 := blk_frozen BK588.out 2; have hfz14_3 := blk_frozen BK588.out 3))
        go_ret2
        exact ⟨by first | rfl | (simp [errW_none, errW_some] <;> rfl) | (simp [*, errW_none, errW_some] <;> rfl), by repeat (first | (with_reducible first | exact HB.out | apply below_alloc | apply pw_below_drewN | apply below_drew1 | refine below_set ?_ GE588.out) | exact HB.out)⟩
  · rw [if_neg c3] at H
    have c3b0 : (t587 == 0) = false := beq_eq_false_iff_ne.mpr c3
    have c3b1 : (t587 != 0) = true := bne_iff_ne.mpr c3
    simp only [Option.some.injEq, Prod.mk.injEq] at H
    obtain ⟨rfl, rfl⟩ := H
    go_enter Tryd.func88, Tryd.ntmps88
    go_wp2_with (first | ((with_reducible refine gate_callee (f := 46) rfl ?_); refine goesL_ (some 8) rfl rfl Tryd.func46 (by kernel_rfl) rfl #[.int .u32 a0] rfl (by (try simp only [List.map_toArray, List.map_cons, List.map_nil]); first | done | rfl | (simp only [List.length_drop, List.length_take]; rfl)) ?_; (with_reducible refine (seedcornref07_Decode.calls a0 t583 t584 t585 t586 t587 _ A2.out).mono ?_); rintro e w15 ⟨rfl, hb⟩; refine ⟨_, rfl, ?_⟩; have n0_ := Aside0.mk (below_step (by repeat (first | (with_reducible first | exact HB.out | apply below_alloc | apply pw_below_drewN | apply below_drew1) | exact HB.out)) hb); clear HB; have HB := n0_; clear n0_; (try clear hb); (try clear hb2); (try clear hk); (try clear hi)) | ((with_reducible refine gate_dst (N := 4) rfl ?_); refine box_event ?hg (N := 4) ?hd (cs := #[.int .i64 0, .int .i64 0, .int .i64 0, .int .i64 0]) (t := 46) ?hr ?_; (case hd => rfl); (case hg => rfl); (case hr => first | (go_simp; done) | (go_simp; rfl)); intro gb588 hg w16 hbox hb; have n0_ := Aside0.mk (below_step (by repeat (first | (with_reducible first | exact HB.out | apply below_alloc | apply pw_below_drewN | apply below_drew1) | exact HB.out)) hb); have n1_ := Aside0.mk (hbox); have n2_ := Aside0.mk ((by rw [hg]; exact (below_size (by repeat (first | (with_reducible first | exact HB.out | apply below_alloc | apply pw_below_drewN | apply below_drew1) | exact HB.out))) : w.heap.size ≤ gb588)); have n3_ := Aside0.mk ((by rw [hg]; exact (below_size (by repeat (first | (with_reducible first | exact HB.out | apply below_alloc | apply pw_below_drewN | apply below_drew1) | exact HB.out))) : w.heap.size ≤ gb588)); clear HB; have HB := n0_; have BK588 := n1_; have GW588 := n2_; have GE588 := n3_; clear n0_ n1_ n2_ n3_; clear hb hbox hg; have hcz17_0 : w16.cell? ⟨gb588, 0, none⟩ = some (.int .i64 0) := (blk_cell BK588.out 0).trans rfl; have hcz17_1 : w16.cell? ⟨gb588, 1, none⟩ = some (.int .i64 0) := (blk_cell BK588.out 1).trans rfl; have hcz17_2 : w16.cell? ⟨gb588, 2, none⟩ = some (.int .i64 0) := (blk_cell BK588.out 2).trans rfl; have hcz17_3 : w16.cell? ⟨gb588, 3, none⟩ = some (.int .i64 0) := (blk_cell BK588.out 3).trans rfl; have hfz17_0 := blk_frozen BK588.out 0; have hfz17_1 := blk_frozen BK588.out 1; have hfz17_2 := blk_frozen BK588.out 2; have hfz17_3 := blk_frozen BK588.out 3))
    go_ret2
    exact ⟨by first | rfl | (simp [errW_none, errW_some] <;> rfl) | (simp [*, errW_none, errW_some] <;> rfl), by repeat (first | (with_reducible first | exact HB.out | apply below_alloc | apply pw_below_drewN | apply below_drew1 | refine below_set ?_ GE588.out) | exact HB.out)⟩
end Go.Proofs.YtdhkmdgieflioaaDoor.F
