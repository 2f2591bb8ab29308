/- Texts of this claim: contracts of functions that the law reaches, and plain lemmas. -/
import Derived.Test.YtdhkmdgieflioaaDoorRows
import Derived.JoinedOf
import Derived.KernelRfl
import Derived.SevenTiedAt
import Derived.Test.YtdhkmdgieflioaaDoorL1
import Derived.Test.YtdhkmdgieflioaaDoorL2
namespace Go.Proofs.YtdhkmdgieflioaaDoor.F
open Go.RowKit Go.Proofs.YtdhkmdgieflioaaDoorW.PrintWords Go.Proofs.YtdhkmdgieflioaaDoorW.PrintLast Go.Proofs.YtdhkmdgieflioaaDoorW.PrintMore
attribute [local go_sem] max2_int min2_int max_two min_two max_three min_three max_four min_four
set_option linter.unusedVariables false
set_option linter.unusedSimpArgs false
def seedcornref08_Right.f (l0_0 : List Int) (a0_1 : Int) : Option (Bool) := if (l0_0.length : Int) ≤ 16384 then (if a0_1 ≥ 0 then (some (decide (a0_1 ≤ 32768))) else (some false)) else (some false)
set_option maxHeartbeats 8000000 in
set_option maxRecDepth 100000 in
theorem seedcornref08_Right.calls (A0_0 : Option Addr) (c0_0 : Nat) (l0_0 : List Int) (a0_1 : Int) (r : Bool) (w : World) (hr0_0 : Kd.C (Kd.int .u32) w A0_0 l0_0.length l0_0) (hc0_0 : l0_0.length ≤ c0_0) (h : seedcornref08_Right.f l0_0 a0_1 = some r) :
    Calls Tryd.prog 34 #[.agg #[.slice A0_0 l0_0.length c0_0, .int .i64 a0_1]] w fun e w' => e = .returned (.bool r) ∧ Below w.heap.size w w' := by
  have hu28 := Tryd.underlying28
  have HR0_0 := Aside0.mk hr0_0
  have HC0_0 := Aside0.mk hc0_0
  clear hr0_0 hc0_0
  have HB := Aside0.mk (Below.refl w.heap.size w)
  have H : (if (l0_0.length : Int) ≤ 16384 then (if a0_1 ≥ 0 then (some (decide (a0_1 ≤ 32768))) else (some false)) else (some false)) = some r := h
  clear h
  by_cases c2 : (l0_0.length : Int) ≤ 16384
  · rw [if_pos c2] at H
    have c2b0 : decide ((l0_0.length : Int) ≤ 16384) = true := decide_eq_true c2
    have c2b1 : decide (l0_0.length ≤ 16384) = true := decide_eq_true (by omega)
    clear c2
    by_cases c3 : a0_1 ≥ 0
    · rw [if_pos c3] at H
      have c3b0 : decide (0 ≤ a0_1) = true := decide_eq_true c3
      clear c3
      obtain rfl := Option.some.inj H
      go_enter Tryd.func34, Tryd.ntmps34
      go_wp2_with (first | ((with_reducible refine gate_dst (N := 1) rfl ?_); refine box_event ?hg (N := 1) ?hd (cs := #[.slice A0_0 l0_0.length c0_0, .int .i64 a0_1]) (t := 28) ?hr ?_; (case hd => rfl); (case hg => rfl); (case hr => first | (go_simp; done) | (go_simp; rfl)); intro gb198 hg w4 hbox hb; have n0_ := Aside0.mk (below_step (by repeat (first | (with_reducible first | exact HB.out | apply below_alloc | apply pw_below_drewN | apply below_drew1) | exact HB.out)) hb); have n1_ := Aside0.mk (hbox); have n2_ := Aside0.mk ((by rw [hg]; exact (below_size (by repeat (first | (with_reducible first | exact HB.out | apply below_alloc | apply pw_below_drewN | apply below_drew1) | exact HB.out))) : w.heap.size ≤ gb198)); have n3_ := Aside0.mk ((by rw [hg]; exact (below_size (by repeat (first | (with_reducible first | exact HB.out | apply below_alloc | apply pw_below_drewN | apply below_drew1) | exact HB.out))) : w.heap.size ≤ gb198)); clear HB; have HB := n0_; have BK198 := n1_; have GW198 := n2_; have GE198 := n3_; clear n0_ n1_ n2_ n3_; clear hb hbox hg; have hcz5_0 : w4.cell? ⟨gb198, 0, none⟩ = some (.slice A0_0 l0_0.length c0_0) := (blk_cell BK198.out 0).trans rfl; have hcz5_1 : w4.cell? ⟨gb198, 1, none⟩ = some (.int .i64 a0_1) := (blk_cell BK198.out 1).trans rfl; have hfz5_0 := blk_frozen BK198.out 0; have hfz5_1 := blk_frozen BK198.out 1))
      go_ret
      exact ⟨by first | rfl | (simp [errW_none, errW_some] <;> rfl) | (simp [*, errW_none, errW_some] <;> rfl), by repeat (first | (with_reducible first | exact HB.out | apply below_alloc | apply pw_below_drewN | apply below_drew1 | refine below_set ?_ GE198.out) | exact HB.out)⟩
    · rw [if_neg c3] at H
      have c3b0 : decide (0 ≤ a0_1) = false := decide_eq_false c3
      clear c3
      obtain rfl := Option.some.inj H
      go_enter Tryd.func34, Tryd.ntmps34
      go_wp2_with (first | ((with_reducible refine gate_dst (N := 1) rfl ?_); refine box_event ?hg (N := 1) ?hd (cs := #[.slice A0_0 l0_0.length c0_0, .int .i64 a0_1]) (t := 28) ?hr ?_; (case hd => rfl); (case hg => rfl); (case hr => first | (go_simp; done) | (go_simp; rfl)); intro gb198 hg w6 hbox hb; have n0_ := Aside0.mk (below_step (by repeat (first | (with_reducible first | exact HB.out | apply below_alloc | apply pw_below_drewN | apply below_drew1) | exact HB.out)) hb); have n1_ := Aside0.mk (hbox); have n2_ := Aside0.mk ((by rw [hg]; exact (below_size (by repeat (first | (with_reducible first | exact HB.out | apply below_alloc | apply pw_below_drewN | apply below_drew1) | exact HB.out))) : w.heap.size ≤ gb198)); have n3_ := Aside0.mk ((by rw [hg]; exact (below_size (by repeat (first | (with_reducible first | exact HB.out | apply below_alloc | apply pw_below_drewN | apply below_drew1) | exact HB.out))) : w.heap.size ≤ gb198)); clear HB; have HB := n0_; have BK198 := n1_; have GW198 := n2_; have GE198 := n3_; clear n0_ n1_ n2_ n3_; clear hb hbox hg; have hcz7_0 : w6.cell? ⟨gb198, 0, none⟩ = some (.slice A0_0 l0_0.length c0_0) := (blk_cell BK198.out 0).trans rfl; have hcz7_1 : w6.cell? ⟨gb198, 1, none⟩ = some (.int .i64 a0_1) := (blk_cell BK198.out 1).trans rfl; have hfz7_0 := blk_frozen BK198.out 0; have hfz7_1 := blk_frozen BK198.out 1))
      go_ret
      exact ⟨by first | rfl | (simp [errW_none, errW_some] <;> rfl) | (simp [*, errW_none, errW_some] <;> rfl), by repeat (first | (with_reducible first | exact HB.out | apply below_alloc | apply pw_below_drewN | apply below_drew1 | refine below_set ?_ GE198.out) | exact HB.out)⟩
  · rw [if_neg c2] at H
    have c2b0 : decide ((l0_0.length : Int) ≤ 16384) = false := decide_eq_false c2
    have c2b1 : decide (l0_0.length ≤ 16384) = false := decide_eq_false (by omega)
    clear c2
    obtain rfl := Option.some.inj H
    go_enter Tryd.func34, Tryd.ntmps34
    go_wp2_with (first | ((with_reducible refine gate_dst (N := 1) rfl ?_); refine box_event ?hg (N := 1) ?hd (cs := #[.slice A0_0 l0_0.length c0_0, .int .i64 a0_1]) (t := 28) ?hr ?_; (case hd => rfl); (case hg => rfl); (case hr => first | (go_simp; done) | (go_simp; rfl)); intro gb198 hg w8 hbox hb; have n0_ := Aside0.mk (below_step (by repeat (first | (with_reducible first | exact HB.out | apply below_alloc | apply pw_below_drewN | apply below_drew1) | exact HB.out)) hb); have n1_ := Aside0.mk (hbox); have n2_ := Aside0.mk ((by rw [hg]; exact (below_size (by repeat (first | (with_reducible first | exact HB.out | apply below_alloc | apply pw_below_drewN | apply below_drew1) | exact HB.out))) : w.heap.size ≤ gb198)); have n3_ := Aside0.mk ((by rw [hg]; exact (below_size (by repeat (first | (with_reducible first | exact HB.out | apply below_alloc | apply pw_below_drewN | apply below_drew1) | exact HB.out))) : w.heap.size ≤ gb198)); clear HB; have HB := n0_; have BK198 := n1_; have GW198 := n2_; have GE198 := n3_; clear n0_ n1_ n2_ n3_; clear hb hbox hg; have hcz9_0 : w8.cell? ⟨gb198, 0, none⟩ = some (.slice A0_0 l0_0.length c0_0) := (blk_cell BK198.out 0).trans rfl; have hcz9_1 : w8.cell? ⟨gb198, 1, none⟩ = some (.int .i64 a0_1) := (blk_cell BK198.out 1).trans rfl; have hfz9_0 := blk_frozen BK198.out 0; have hfz9_1 := blk_frozen BK198.out 1))
    go_ret
    exact ⟨by first | rfl | (simp [errW_none, errW_some] <;> rfl) | (simp [*, errW_none, errW_some] <;> rfl), by repeat (first | (with_reducible first | exact HB.out | apply below_alloc | apply pw_below_drewN | apply below_drew1 | refine below_set ?_ GE198.out) | exact HB.out)⟩
end Go.Proofs.YtdhkmdgieflioaaDoor.F
namespace Go.Proofs.YtdhkmdgieflioaaDoor.F
open Go.RowKit Go.Proofs.YtdhkmdgieflioaaDoorW.PrintWords Go.Proofs.YtdhkmdgieflioaaDoorW.PrintLast Go.Proofs.YtdhkmdgieflioaaDoorW.PrintMore
set_option linter.unusedVariables false
set_option linter.unusedSimpArgs false
theorem awake11 : seedcornlaw11_awake.f = some true := by kernel_rfl
def inR (l : List Int) : Prop := ∀ x ∈ l, (Lit.int .u32 x).wf = true
theorem inR_okL {l : List Int} (h : inR l) (hl : l.length ≤ 1000) : okL l = true := by
  refine okL_of hl (fun x hx => ?_)
  have h1 := (Lit.wf_int_iff .u32 x).1 (h x hx)
  have h0 : 0 ≤ x := h1.1
  have h2 : x ≤ 4294967295 := h1.2
  omega
theorem tgts_f (l : List Int) (d : Int) (h : okL l = true) : listing_Targets.f l d = some (tgts l) := by unfold listing_Targets.f; rw [if_pos h]
theorem text_f (l : List Int) (d : Int) (h : okL l = true) (hd : 0 ≤ d ∧ d ≤ 32768) : listing_Text.f l d = some (⟨(listB l d).toArray⟩, 0) := by unfold listing_Text.f; rw [if_pos h, if_pos hd]
theorem right8_f (l : List Int) (d : Int) : seedcornref08_Right.f l d = some (decide (l.length ≤ 16384 ∧ 0 ≤ d ∧ d ≤ 32768)) := by
  unfold seedcornref08_Right.f
  by_cases h1 : (l.length : Int) ≤ 16384
  · rw [if_pos h1]
    by_cases h2 : d ≥ 0
    · rw [if_pos h2]
      congr 1
      rw [decide_eq_decide]
      omega
    · rw [if_neg h2]
      congr 1
      exact (decide_eq_false (by omega)).symm
  · rw [if_neg h1]
    congr 1
    exact (decide_eq_false (by omega)).symm
theorem tgts_len (l : List Int) : (tgts l).length ≤ l.length := by
  unfold tgts
  refine Nat.le_trans (List.length_filter_le _ _) ?_
  simp
theorem rd_get (xs : List Int) (i : Nat) (h : i < xs.length) : rd xs (i : Int) = xs[i] := by simp [rd, List.getD_eq_getElem?_getD, h]
theorem ba_list (l : List UInt8) : (⟨l.toArray⟩ : ByteArray).toList = l := by rw [ByteArray.toList_eq]
theorem ba_size (l : List UInt8) : (⟨l.toArray⟩ : ByteArray).size = l.length := by simp [ByteArray.size]
theorem head_length (d : Int) : (headB d).length = 7 + (num d).length := by unfold headB; simp; omega
theorem list_length_ge (l : List Int) (d : Int) : 7 + (num d).length ≤ (listB l d).length := by unfold listB; rw [List.length_append, head_length]; omega
end Go.Proofs.YtdhkmdgieflioaaDoor.F
namespace Go.Proofs.YtdhkmdgieflioaaDoor.F
open Go.RowKit Go.Proofs.YtdhkmdgieflioaaDoorW.PrintWords Go.Proofs.YtdhkmdgieflioaaDoorW.PrintLast Go.Proofs.YtdhkmdgieflioaaDoorW.PrintMore
set_option linter.unusedVariables false
set_option linter.unusedSimpArgs false
theorem jump11_f (v : Int) (h0 : 0 ≤ v) (h1 : v < 4294967296) : seedcornref11_Jump.f v = some (if jumpB v = true then (rcB v, true) else (0, false)) := by
  have hd : seedcornref07_Decode.f v = some (if decB v = true then (opB v, raB v, rbB v, rcB v, 0) else (0, 0, 0, 0, 7)) := by
    unfold seedcornref07_Decode.f
    rw [if_pos ⟨h0, h1⟩, refRight_f]
    simp only [Option.bind_some]
    unfold decB opB raB rbB rcB
    split <;> rfl
  unfold seedcornref11_Jump.f
  rw [hd]
  simp only [Option.bind_some]
  cases hdd : decB v with
  | false =>
    have hj : jumpB v = false := by unfold jumpB; rw [hdd]; rfl
    rw [hj]
    rfl
  | true =>
    simp only [if_true]
    by_cases hr : 18 ≤ opB v ∧ opB v ≤ 21
    · have hj : jumpB v = true := by unfold jumpB; rw [hdd, decide_eq_true hr]; rfl
      rw [hj, if_pos rfl, if_neg (by omega), if_neg (by omega)]
    · have hj : jumpB v = false := by unfold jumpB; rw [hdd, decide_eq_false hr]; rfl
      rw [hj]
      simp only [Bool.false_eq_true, if_false]
      by_cases h18 : opB v < 18
      · rw [if_pos h18]
      · rw [if_neg h18, if_pos (by omega)]
def isK (l : List Int) (k : Nat) : List Bool := (List.range l.length).map (fun i : Nat => tgtK l k (i : Int))
theorem isK_len (l : List Int) (k : Nat) : (isK l k).length = l.length := by unfold isK; simp
theorem isK_get (l : List Int) (k i : Nat) (h : i < (isK l k).length) : (isK l k)[i] = tgtK l k (i : Int) := by simp [isK]
theorem isK_zero (l : List Int) : isK l 0 = List.replicate l.length false := by
  unfold isK
  rw [tgtK_zero, List.map_const']
  simp
theorem isK_set (l : List Int) (k : Nat) (c : Nat) (hc : c < l.length) (h : tgtK l (k + 1) = fun i => tgtK l k i || ((c : Int) == i)) : (isK l k).set c true = isK l (k + 1) := by
  refine List.ext_getElem (by simp [isK]) (fun i h1 h2 => ?_)
  rw [List.getElem_set, isK_get, isK_get, h]
  by_cases e : c = i
  · subst e; simp
  · rw [if_neg e]
    have : ((c : Int) == (i : Int)) = false := beq_eq_false_iff_ne.2 (by omega)
    show tgtK l k (i : Int) = (tgtK l k (i : Int) || ((c : Int) == (i : Int)))
    rw [this, Bool.or_false]
theorem tgts_l1 (l : List Int) (d : Nat) (hl : l.length ≤ 1000) : ∀ (i : Nat), i + d = l.length → Ev (fun k => seedcornref11_Targets.l1 k (isK l l.length) (((List.range i).map (fun n : Nat => (n : Int))).filter (tgtB l)) (i : Int)) (tgts l) := by
  induction d with
  | zero =>
    intro i hi
    have e : i = l.length := by omega
    subst e
    refine Ev.step (f := fun _ => some (tgts l)) (fun k => ?_) (Ev.now _)
    simp only [seedcornref11_Targets.l1]
    rw [if_neg (by rw [isK_len]; omega)]
    rfl
  | succ d ih =>
    intro i hi
    have hw : wrap64 ((i : Int) + 1) = ((i + 1 : Nat) : Int) := by rw [wrapI (by omega) (by omega)]; omega
    have hrd : rdOf false (isK l l.length) (i : Int) = tgtB l (i : Int) := by
      have h1 : i < (isK l l.length).length := by rw [isK_len]; omega
      have h2 : rdOf false (isK l l.length) (i : Int) = (isK l l.length)[i] := by simp [rdOf, List.getD_eq_getElem?_getD, h1]
      rw [h2, isK_get, tgtK_all]
    have hr : (List.range (i + 1)).map (fun n : Nat => (n : Int)) = (List.range i).map (fun n : Nat => (n : Int)) ++ [(i : Int)] := by rw [List.range_succ, List.map_append]; rfl
    have hlen : ((((List.range i).map (fun n : Nat => (n : Int))).filter (tgtB l))).length ≤ 1000 := by
      refine Nat.le_trans (List.length_filter_le _ _) ?_
      simp
      omega
    have := ih (i + 1) (by omega)
    rw [hr, List.filter_append] at this
    refine Ev.step (f := fun k => seedcornref11_Targets.l1 k (isK l l.length) (((List.range i).map (fun n : Nat => (n : Int))).filter (tgtB l) ++ [(i : Int)].filter (tgtB l)) ((i + 1 : Nat) : Int)) (fun k => ?_) this
    simp only [seedcornref11_Targets.l1]
    rw [if_pos (by rw [isK_len]; omega), if_pos (by omega), hrd, hw]
    cases ht : tgtB l (i : Int) with
    | true => rw [if_pos rfl, if_pos (by omega)]; simp [ht]
    | false => rw [if_neg (by decide)]; simp [ht]
theorem tgts_l0 (l : List Int) (a : Int) (hok : okL l = true) (d : Nat) : ∀ (k0 : Nat), k0 + d = l.length → Ev (fun k => seedcornref11_Targets.l0 k (isK l k0) (k0 : Int) l a) (tgts l) := by
  have hl := okL_len hok
  induction d with
  | zero =>
    intro k0 hk
    have e : k0 = l.length := by omega
    subst e
    have := tgts_l1 l l.length hl 0 (by omega)
    refine Ev.step (f := fun k => seedcornref11_Targets.l1 k (isK l l.length) (((List.range 0).map (fun n : Nat => (n : Int))).filter (tgtB l)) ((0 : Nat) : Int)) (fun k => ?_) this
    simp only [seedcornref11_Targets.l0]
    rw [if_neg (by omega)]
    rfl
  | succ d ih =>
    intro k0 hk
    have hlt : k0 < l.length := by omega
    have hw : wrap64 ((k0 : Int) + 1) = ((k0 + 1 : Nat) : Int) := by rw [wrapI (by omega) (by omega)]; omega
    have hm := okL_mem hok _ (List.mem_of_getElem? (rd_at l k0 hlt))
    have hno := tgtK_no l k0 hlt
    have hyes := tgtK_yes l k0 hlt
    have hc : 0 ≤ rcB (rd l (k0 : Int)) := by unfold rcB; omega
    refine Ev.step (f := fun k => seedcornref11_Targets.l0 k (isK l (k0 + 1)) ((k0 + 1 : Nat) : Int) l a) (fun k => ?_) (ih (k0 + 1) (by omega))
    simp only [seedcornref11_Targets.l0]
    rw [if_pos (by omega), if_pos (by omega), jump11_f _ hm.1 hm.2, hw]
    simp only [Option.bind_some]
    cases hj : jumpB (rd l (k0 : Int)) with
    | false =>
      simp only [Bool.false_eq_true, if_false]
      rw [show isK l k0 = isK l (k0 + 1) by unfold isK; rw [hno (Or.inl hj)]]
    | true =>
      rw [if_pos rfl, if_pos rfl]
      by_cases hn : rcB (rd l (k0 : Int)) < (l.length : Int)
      · rw [if_pos hn, if_pos hc, if_pos (by rw [isK_len]; exact hn)]
        congr 1
        refine isK_set l k0 _ (by omega) ?_
        rw [hyes hj hn]
        funext i
        rw [Int.toNat_of_nonneg hc]
      · rw [if_neg hn]
        rw [show isK l k0 = isK l (k0 + 1) by unfold isK; rw [hno (Or.inr hn)]]
theorem tgts_ev (l : List Int) (a : Int) (hok : okL l = true) : Ev (fun k => seedcornref11_Targets.f k l a) (tgts l) := by
  have hl := okL_len hok
  have := tgts_l0 l a hok l.length 0 (by omega)
  rw [isK_zero] at this
  refine Ev.congr (fun k => ?_) this
  unfold seedcornref11_Targets.f
  rw [if_pos (by omega), if_pos (by omega)]
  rfl
theorem same_l0 (xs : List Int) (hl : xs.length ≤ 1000) (d : Nat) : ∀ i : Nat, i + d = xs.length → Ev (fun k => seedcornlaw11_ListingTargets.l0 k xs xs (i : Int)) true := by
  induction d with
  | zero =>
    intro i hi
    refine Ev.step (f := fun _ => some true) (fun k => ?_) (Ev.now _)
    simp only [seedcornlaw11_ListingTargets.l0]
    rw [if_neg (by omega)]
  | succ d ih =>
    intro i hi
    have hw : wrap64 ((i : Int) + 1) = ((i + 1 : Nat) : Int) := by rw [wrapI (by omega) (by omega)]; omega
    refine Ev.step (f := fun k => seedcornlaw11_ListingTargets.l0 k xs xs ((i + 1 : Nat) : Int)) (fun k => ?_) (ih (i + 1) (by omega))
    simp only [seedcornlaw11_ListingTargets.l0]
    rw [if_pos (by omega), if_pos (by omega), if_pos (by omega)]
    simp only [if_true, hw]
theorem listingTargets_pure (l : List Int) (d : Int) (h : inR l) {q : Prop} (_ : q) : ∃ k, seedcornlaw11_ListingTargets.f k l d = some true := by
  refine Ev.rounds (g := fun k => seedcornlaw11_ListingTargets.f k l d) ?_
  unfold seedcornlaw11_ListingTargets.f
  rw [awake11]
  simp only [Option.bind_some, if_true]
  by_cases hl : (l.length : Int) > 400
  · exact Ev.congr (fun k => by rw [if_pos hl]) (Ev.now true)
  · have hok := inR_okL h (by omega)
    have := tgts_len l
    refine Ev.congr (f := fun k => (seedcornref11_Targets.f k l d).bind fun t606 => (if ((tgts l).length : Int) = (t606.length : Int) then (seedcornlaw11_ListingTargets.l0 k (tgts l) t606 0) else (some false))) (fun k => by rw [if_neg hl, tgts_f l d hok]; rfl) ?_
    refine Ev.bind (tgts_ev l d hok) ?_
    exact Ev.congr (fun k => by rw [if_pos rfl]; rfl) (same_l0 (tgts l) (by omega) (tgts l).length 0 (by omega))
end Go.Proofs.YtdhkmdgieflioaaDoor.F
namespace Go.Proofs.YtdhkmdgieflioaaDoor.F
open Go.RowKit Go.Proofs.YtdhkmdgieflioaaDoorW.PrintWords Go.Proofs.YtdhkmdgieflioaaDoorW.PrintLast Go.Proofs.YtdhkmdgieflioaaDoorW.PrintMore
set_option linter.unusedVariables false
set_option linter.unusedSimpArgs false
def headW1 : List Nat := [104, 97, 114, 110, 101, 115, 115]
def headW2 : List Nat := [51, 50, 102, 55, 102, 55, 97, 101, 99, 55, 52, 52, 56, 51, 55, 56, 98, 52, 55, 102, 57, 52, 99, 49, 52, 97, 48, 50, 49, 98, 55, 100, 99, 53, 55, 49, 51, 48, 101, 52, 51, 98, 52, 52, 53, 48, 56, 49, 57, 98, 55, 57, 53, 56, 54, 51, 100, 98, 99, 98, 102, 102, 56, 55]
def headW3 : List Nat := [99, 117, 116]
def headRest : List Nat := [97, 116, 32, 115, 101, 101, 100, 99, 111, 114, 110, 47, 115, 101, 101, 100, 99, 111, 114, 110, 108, 97, 119, 53, 48, 46, 83, 101, 101, 100, 76, 111, 97, 100, 115, 32, 115, 101, 101, 100, 99, 111, 114, 110, 47, 115, 101, 101, 100, 99, 111, 114, 110, 108, 97, 119, 53, 48, 46, 83, 101, 101, 100, 83, 109, 97, 108, 108, 32, 115, 101, 101, 100, 99, 111, 114, 110, 47, 115, 101, 101, 100, 99, 111, 114, 110, 108, 97, 119, 53, 48, 46, 83, 101, 101, 100, 73, 109, 97, 103, 101, 115, 32, 115, 101, 101, 100, 99, 111, 114, 110, 47, 115, 101, 101, 100, 99, 111, 114, 110, 108, 97, 119, 53, 48, 46, 83, 101, 101, 100, 78, 111, 116, 101, 115, 32, 115, 101, 101, 100, 99, 111, 114, 110, 47, 115, 101, 101, 100, 99, 111, 114, 110, 108, 97, 119, 53, 48, 46, 83, 101, 101, 100, 84, 119, 111, 32, 115, 101, 101, 100, 99, 111, 114, 110, 47, 115, 101, 101, 100, 99, 111, 114, 110, 108, 97, 119, 49, 49, 46, 76, 105, 115, 116, 105, 110, 103, 71, 111, 101, 115, 79, 110, 32, 115, 101, 101, 100, 99, 111, 114, 110, 47, 115, 101, 101, 100, 99, 111, 114, 110, 108, 97, 119, 48, 55, 46, 73, 110, 115, 116, 67, 111, 100, 101, 115, 32, 115, 101, 101, 100, 99, 111, 114, 110, 47, 115, 101, 101, 100, 99, 111, 114, 110, 108, 97, 119, 49, 49, 46, 76, 105, 115, 116, 105, 110, 103, 68, 97, 116, 97, 32, 115, 101, 101, 100, 99, 111, 114, 110, 47, 115, 101, 101, 100, 99, 111, 114, 110, 108, 97, 119, 48, 55, 46, 73, 110, 115, 116, 82, 101, 97, 100, 115, 32, 115, 101, 101, 100, 99, 111, 114, 110, 47, 115, 101, 101, 100, 99, 111, 114, 110, 108, 97, 119, 48, 55, 46, 73, 110, 115, 116, 65, 112, 97, 114, 116, 32, 115, 101, 101, 100, 99, 111, 114, 110, 47, 115, 101, 101, 100, 99, 111, 114, 110, 108, 97, 119, 48, 55, 46, 73, 110, 115, 116, 70, 105, 101, 108, 100, 115, 32, 115, 101, 101, 100, 99, 111, 114, 110, 47, 115, 101, 101, 100, 99, 111, 114, 110, 108, 97, 119, 48, 55, 46, 73, 110, 115, 116, 67, 111, 117, 110, 116, 115, 32, 115, 101, 101, 100, 99, 111, 114, 110, 47, 115, 101, 101, 100, 99, 111, 114, 110, 108, 97, 119, 48, 55, 46, 73, 110, 115, 116, 78, 97, 109, 101, 115, 32, 115, 101, 101, 100, 99, 111, 114, 110, 47, 115, 101, 101, 100, 99, 111, 114, 110, 108, 97, 119, 53, 48, 46, 83, 101, 101, 100, 73, 116, 115, 101, 108, 102, 32, 115, 101, 101, 100, 99, 111, 114, 110, 47, 115, 101, 101, 100, 99, 111, 114, 110, 108, 97, 119, 49, 49, 46, 76, 105, 115, 116, 105, 110, 103, 84, 97, 114, 103, 101, 116, 115, 32, 115, 101, 101, 100, 99, 111, 114, 110, 47, 115, 101, 101, 100, 99, 111, 114, 110, 108, 97, 119, 49, 49, 46, 76, 105, 115, 116, 105, 110, 103, 84, 101, 120, 116, 32, 115, 101, 101, 100, 99, 111, 114, 110, 47, 115, 101, 101, 100, 99, 111, 114, 110, 108, 97, 119, 49, 49, 46, 76, 105, 115, 116, 105, 110, 103, 76, 105, 110, 101, 115, 32, 115, 101, 101, 100, 99, 111, 114, 110, 47, 115, 101, 101, 100, 99, 111, 114, 110, 108, 97, 119, 49, 49, 46, 76, 105, 115, 116, 105, 110, 103, 80, 108, 97, 99, 101, 115, 32, 115, 101, 101, 100, 99, 111, 114, 110, 47, 115, 101, 101, 100, 99, 111, 114, 110, 108, 97, 119, 49, 49, 46, 76, 105, 115, 116, 105, 110, 103, 65, 112, 97, 114, 116]
def chars (l : List Nat) : List Char := l.map Char.ofNat
theorem head_is : Tryd.prog.initOrder = String.ofList (chars headW1 ++ Char.ofNat 32 :: (chars headW2 ++ Char.ofNat 32 :: (chars headW3 ++ Char.ofNat 32 :: chars headRest))) := by kernel_rfl
theorem words_step : ∀ (w r : List Char), (∀ c ∈ w, c ≠ Char.ofNat 32) → wordsSigns (w ++ Char.ofNat 32 :: r) = w :: wordsSigns r
  | [], r, _ => rfl
  | c :: w, r, h => by
    have ih := words_step w r (fun d hd => h d (List.mem_cons_of_mem _ hd))
    have hc := h c (List.mem_cons_self ..)
    show wordsSigns (c :: (w ++ Char.ofNat 32 :: r)) = _
    rw [wordsSigns.eq_def]
    split
    · rename_i e; cases e
    · rename_i e; injection e with e1 e2; exact absurd e1 hc
    · rename_i c' r' hne e
      injection e with e1 e2
      subst e1 e2
      rw [ih]
theorem words_head : wordsSigns Tryd.prog.initOrder.toList = chars headW1 :: chars headW2 :: chars headW3 :: wordsSigns (chars headRest) := by
  rw [head_is, String.toList_ofList]
  rw [words_step _ _ (by decide +kernel), words_step _ _ (by decide +kernel), words_step _ _ (by decide +kernel)]
theorem head0 : behindMainWord (wordsSigns Tryd.prog.initOrder.toList) = chars headW3 :: wordsSigns (chars headRest) := by
  rw [words_head]
  unfold behindMainWord
  simp only
  rw [if_pos (by decide +kernel)]
section
variable {P : Program}
theorem mainIs_of {s : List Char} {R : List (List Char)} (h : wordsSigns P.initOrder.toList = chars headW1 :: s :: R) (hs : isSumSigns s = true) : P.mainIs = some (true, s) := by
  unfold Program.mainIs
  rw [h]
  simp only [hs, Bool.not_true]
  rw [if_neg (by decide), if_pos (by decide +kernel)]
theorem headLifts_of {R : List (List Char)} (h : behindMainWord (wordsSigns P.initOrder.toList) = chars headW3 :: R) : P.headLifts = [] := by
  unfold Program.headLifts
  rw [h]
  kernel_rfl
theorem liftsFinal_of {R : List (List Char)} (h : behindMainWord (wordsSigns P.initOrder.toList) = chars headW3 :: R) : P.liftsFinal = false := by
  unfold Program.liftsFinal
  rw [h, headLifts_of h]
  kernel_rfl
theorem make_of {R : List (List Char)} (h : behindMainWord (wordsSigns P.initOrder.toList) = chars headW3 :: R) : P.make = some .cut := by
  unfold Program.make
  rw [h, headLifts_of h]
  kernel_rfl
theorem strip_of {R : List (List Char)} : stripLifts liftWords (chars headW3 :: R) = ([], chars headW3 :: R) := by kernel_rfl
theorem mayEnter_of {R : List (List Char)} (h : behindMainWord (wordsSigns P.initOrder.toList) = chars headW3 :: R) (h1 : P.laysLater = false) (h2 : P.bearsReflect = false) (h3 : P.doorFits [] = true) : P.mayEnter = true := by
  unfold Program.mayEnter
  rw [h]
  simp only [strip_of, h1, h2, h3]
  kernel_rfl
end
theorem main_is : Tryd.prog.mainIs = some (true, chars headW2) := mainIs_of words_head (by kernel_rfl)
theorem lifts_final : Tryd.prog.liftsFinal = false := liftsFinal_of head0
theorem make_cut : Tryd.prog.make = some .cut := make_of head0
theorem lays_later : Tryd.prog.laysLater = false := by kernel_rfl
theorem bears_reflect : Tryd.prog.bearsReflect = false := by kernel_rfl
theorem door_fits : Tryd.prog.doorFits [] = true := by kernel_rfl
theorem may_enter : Tryd.prog.mayEnter = true := mayEnter_of head0 lays_later bears_reflect door_fits
def kindsOf (P : Program) (fn : Func) (c : OpenClaim) : List (Option IntKind) := if c.domain.isEmpty then [] else fn.params.toList.map fun t => match P.underlying t with | some (.int k) => some k | _ => none
theorem joined_of {P : Program} {f : FuncId} {fn : Func} {s : ChangeSpec} {c : OpenClaim}
    (k1 : c.wf (OpenSpec.ofChange s) = true) (k2 : laidOutB P = true) (k3 : mapsRowed P = true)
    (k4 : fn.params.all (P.readableRec ·) = true) (k5 : namedTie P c.named s.vars = true)
    (k6 : (c.stops == []) = true) (k7 : (P.stops == []) = true) (k8 : (c.knobs == []) = true) (k9 : (P.stopKnobs == []) = true)
    (k10 : (c.inPlace == P.inPlace f) = true) (k11 : (c.unfollowed == P.unfollowed f) = true) (k12 : (c.recurses == P.recurses f) = true) (k13 : (c.named == P.varsNamed f) = true)
    (k14 : (c.maps == (fn.params.toList ++ s.plain.varTypes P).any (P.mapsRec ·)) = true) (k15 : (c.ifaces == (fn.params.toList ++ s.plain.varTypes P).any (P.ifacesRec ·)) = true) (k16 : (c.mapsOut == P.mapsAmong fn.resultTypes.toList) = true)
    (k17 : (c.loops == (fn.params.toList ++ s.plain.varTypes P).any (P.loopsFrom ·)) = true) (k18 : (c.wideKeys == (fn.params.toList ++ s.plain.varTypes P ++ fn.resultTypes.toList).any (P.wideKeysFrom ·)) = true)
    (k19 : s.vars.all (P.varReadable ·) = true) (k20 : fn.resultTypes.all (fun t => P.readableRec t && decide (t < P.types.size)) = true) (k21 : (c.ifacesOut == fn.resultTypes.toList.any (P.ifacesRec ·)) = true) (k22 : (c.loopsOut == fn.resultTypes.toList.any (P.loopsFrom ·)) = true) (k23 : (c.plainKeys == P.plainKeys) = true)
    (k24 : c.shortTexts.isNone = true) (k25 : P.stopsHeard = true) (k26 : P.mayEnter = true) (k27 : (c.lifted == P.liftsFinal) = true) (k28 : (P.make == some c.make) = true)
    (k29 : (c.kinds == kindsOf P fn c) = true) (k30 : (c.pinned == c.pinnedBy) = true)
    (k31 : (c.veiled == (fn.params.toList ++ s.plain.varTypes P ++ fn.resultTypes.toList).any (P.veiledRec ·)) = true) (k32 : c.veiledFits P fn.params.toList (fn.params.toList ++ s.plain.varTypes P ++ fn.resultTypes.toList) = true) :
    joinedFacts P f fn s c = true := by
  have h2 : ∀ a b : Bool, a = true → b = true → (a && b) = true := fun a b ha hb => by rw [ha, hb]; rfl
  unfold joinedFacts
  exact h2 _ _ (h2 _ _ (h2 _ _ (h2 _ _ (h2 _ _ (h2 _ _ (h2 _ _ (h2 _ _ (h2 _ _ (h2 _ _ (h2 _ _ (h2 _ _ (h2 _ _ (h2 _ _ (h2 _ _ (h2 _ _ (h2 _ _ (h2 _ _ (h2 _ _ (h2 _ _ (h2 _ _ (h2 _ _ (h2 _ _ (h2 _ _ (h2 _ _ (h2 _ _ (h2 _ _ (h2 _ _ (h2 _ _ (h2 _ _ (h2 _ _ (k1) k2) k3) k4) k5) k6) k7) k8) k9) k10) k11) k12) k13) k14) k15) k16) k17) k18) k19) k20) k21) k22) k23) k24) k25) k26) k27) k28) k29) k30) k31) k32
theorem p_laid : laidOutB Tryd.prog = true := by kernel_rfl
theorem p_rowed : mapsRowed Tryd.prog = true := by kernel_rfl
theorem p_stops : (Tryd.prog.stops == []) = true := by kernel_rfl
theorem p_knobs : (Tryd.prog.stopKnobs == []) = true := by kernel_rfl
theorem p_heard : Tryd.prog.stopsHeard = true := by kernel_rfl
theorem p_looks : Tryd.prog.looks [] = false := by kernel_rfl
theorem head_sum : chars headW2 = "32f7f7aec7448378b47f94c14a021b7dc57130e43b4450819b795863dbcbff87".toList := by kernel_rfl
theorem main_sum : Tryd.prog.mainIs = some (true, "32f7f7aec7448378b47f94c14a021b7dc57130e43b4450819b795863dbcbff87".toList) := head_sum ▸ main_is
end Go.Proofs.YtdhkmdgieflioaaDoor.F
namespace Go.Proofs.YtdhkmdgieflioaaDoor.F
open Go.RowKit Go.Proofs.YtdhkmdgieflioaaDoorW.PrintWords Go.Proofs.YtdhkmdgieflioaaDoorW.PrintLast Go.Proofs.YtdhkmdgieflioaaDoorW.PrintMore
attribute [local go_sem] max2_int min2_int max_two min_two max_three min_three max_four min_four
set_option linter.unusedVariables false
set_option linter.unusedSimpArgs false
mutual
def seedcornref08_Same.j0 : Nat → Bool → List Int → Int → List Int → Int → Option (Bool)
  | 0, _, _, _, _, _ => none
  | k + 1, x19, x693000, x693001, x694000, x694001 => if x19 = true then (some false) else (seedcornref08_Same.l0 k 0 x693000 x693001 x694000 x694001)
def seedcornref08_Same.l0 : Nat → Int → List Int → Int → List Int → Int → Option (Bool)
  | 0, _, _, _, _, _ => none
  | k + 1, x5, x693000, x693001, x694000, x694001 => if x5 < (x693000.length : Int) then (if 0 ≤ x5 then (if x5 < (x694000.length : Int) then (if (rd x693000 x5) = (rd x694000 x5) then (seedcornref08_Same.l0 k (wrap64 (x5 + 1)) x693000 x693001 x694000 x694001) else (some false)) else (none)) else (none)) else (some true)
end
def seedcornref08_Same.f (k : Nat) (l0_0 : List Int) (a0_1 : Int) (l1_0 : List Int) (a1_1 : Int) : Option (Bool) := if a0_1 = a1_1 then (seedcornref08_Same.j0 k ((l0_0.length : Int) != (l1_0.length : Int)) l0_0 a0_1 l1_0 a1_1) else (seedcornref08_Same.j0 k true l0_0 a0_1 l1_0 a1_1)
theorem seedcornref08_Same.mono_l : ∀ k, (∀ y0 y1 y2 y3 y4, LeO (seedcornref08_Same.j0 k y0 y1 y2 y3 y4) (seedcornref08_Same.j0 (k + 1) y0 y1 y2 y3 y4)) ∧ (∀ y0 y1 y2 y3 y4, LeO (seedcornref08_Same.l0 k y0 y1 y2 y3 y4) (seedcornref08_Same.l0 (k + 1) y0 y1 y2 y3 y4))
  | 0 => ⟨fun _ _ _ _ _ r h => by simp [seedcornref08_Same.j0] at h, fun _ _ _ _ _ r h => by simp [seedcornref08_Same.l0] at h⟩
  | k + 1 => by
    obtain ⟨ih0, ih1⟩ := seedcornref08_Same.mono_l k
    refine ⟨?_, ?_⟩
    · intro y0 y1 y2 y3 y4
      unfold seedcornref08_Same.j0
      repeat' first
      | (with_reducible exact ih0 _ _ _ _ _)
      | (with_reducible exact ih1 _ _ _ _ _)
      | (with_reducible exact LeO.refl _)
      | (with_reducible exact LeO.none _)
      | (with_reducible refine LeO.ite ?_ ?_)
      | (with_reducible refine LeO.bind ?_ (fun _ => ?_))
      | exact ih0 _ _ _ _ _
      | exact ih1 _ _ _ _ _
      | exact LeO.none _
      | refine LeO.ite ?_ ?_
      | refine LeO.bind ?_ (fun _ => ?_)
    · intro y0 y1 y2 y3 y4
      unfold seedcornref08_Same.l0
      repeat' first
      | (with_reducible exact ih0 _ _ _ _ _)
      | (with_reducible exact ih1 _ _ _ _ _)
      | (with_reducible exact LeO.refl _)
      | (with_reducible exact LeO.none _)
      | (with_reducible refine LeO.ite ?_ ?_)
      | (with_reducible refine LeO.bind ?_ (fun _ => ?_))
      | exact ih0 _ _ _ _ _
      | exact ih1 _ _ _ _ _
      | exact LeO.none _
      | refine LeO.ite ?_ ?_
      | refine LeO.bind ?_ (fun _ => ?_)
theorem seedcornref08_Same.mono : ∀ a0 a1 a2 a3 k, LeO (seedcornref08_Same.f k a0 a1 a2 a3) (seedcornref08_Same.f (k + 1) a0 a1 a2 a3) := by
  intro a0 a1 a2 a3 k
  obtain ⟨ih0, ih1⟩ := seedcornref08_Same.mono_l k
  unfold seedcornref08_Same.f
  repeat' first
      | (with_reducible exact ih0 _ _ _ _ _)
      | (with_reducible exact ih1 _ _ _ _ _)
      | (with_reducible exact LeO.refl _)
      | (with_reducible exact LeO.none _)
      | (with_reducible refine LeO.ite ?_ ?_)
      | (with_reducible refine LeO.bind ?_ (fun _ => ?_))
      | exact ih0 _ _ _ _ _
      | exact ih1 _ _ _ _ _
      | exact LeO.none _
      | refine LeO.ite ?_ ?_
      | refine LeO.bind ?_ (fun _ => ?_)
set_option maxHeartbeats 8000000 in
set_option maxRecDepth 100000 in
theorem seedcornref08_Same.calls (k : Nat) (A0_0 : Option Addr) (c0_0 : Nat) (l0_0 : List Int) (a0_1 : Int) (A1_0 : Option Addr) (c1_0 : Nat) (l1_0 : List Int) (a1_1 : Int) (r : Bool) (w : World) (hr0_0 : Kd.C (Kd.int .u32) w A0_0 l0_0.length l0_0) (hc0_0 : l0_0.length ≤ c0_0) (hr1_0 : Kd.C (Kd.int .u32) w A1_0 l1_0.length l1_0) (hc1_0 : l1_0.length ≤ c1_0) (h : seedcornref08_Same.f k l0_0 a0_1 l1_0 a1_1 = some r) :
    Calls Tryd.prog 57 #[.agg #[.slice A0_0 l0_0.length c0_0, .int .i64 a0_1], .agg #[.slice A1_0 l1_0.length c1_0, .int .i64 a1_1]] w fun e w' => e = .returned (.bool r) ∧ Below w.heap.size w w' := by
  have hu28 := Tryd.underlying28
  have HR0_0 := Aside0.mk hr0_0
  have HC0_0 := Aside0.mk hc0_0
  clear hr0_0 hc0_0
  have HR1_0 := Aside0.mk hr1_0
  have HC1_0 := Aside0.mk hc1_0
  clear hr1_0 hc1_0
  have HB := Aside0.mk (Below.refl w.heap.size w)
  have H : (if a0_1 = a1_1 then (seedcornref08_Same.j0 k ((l0_0.length : Int) != (l1_0.length : Int)) l0_0 a0_1 l1_0 a1_1) else (seedcornref08_Same.j0 k true l0_0 a0_1 l1_0 a1_1)) = some r := h
  clear h
  have HC3 := Aside0.mk H
  clear H
  go_enter Tryd.func57, Tryd.ntmps57
  go_upto_region 1 with (first | ((with_reducible refine gate_dst (N := 2) rfl ?_); (try (refine gate_guard (by rfl) ?_; dsimp only)); refine box_event ?hg (N := 2) ?hd (cs := #[.slice A0_0 l0_0.length c0_0, .int .i64 a0_1]) (t := 28) ?hr ?_; (case hd => rfl); (case hg => rfl); (case hr => first | (go_simp; done) | (go_simp; rfl)); intro gb692 hg w4 hbox hb; have n0_ := Aside0.mk (below_step (by repeat (first | (with_reducible first | exact HB.out | apply below_alloc | apply pw_below_drewN | apply below_drew1) | exact HB.out)) hb); have n1_ := Aside0.mk (hbox); have n2_ := Aside0.mk ((by rw [hg]; exact (below_size (by repeat (first | (with_reducible first | exact HB.out | apply below_alloc | apply pw_below_drewN | apply below_drew1) | exact HB.out))) : w.heap.size ≤ gb692)); have n3_ := Aside0.mk ((by rw [hg]; exact (below_size (by repeat (first | (with_reducible first | exact HB.out | apply below_alloc | apply pw_below_drewN | apply below_drew1) | exact HB.out))) : w.heap.size ≤ gb692)); clear HB; have HB := n0_; have BK692 := n1_; have GW692 := n2_; have GE692 := n3_; clear n0_ n1_ n2_ n3_; clear hb hbox hg) | ((with_reducible refine gate_dst (N := 3) rfl ?_); (try (refine gate_guard (by rfl) ?_; dsimp only)); refine box_event ?hg (N := 3) ?hd (cs := #[.slice A1_0 l1_0.length c1_0, .int .i64 a1_1]) (t := 28) ?hr ?_; (case hd => rfl); (case hg => rfl); (case hr => first | (go_simp; done) | (go_simp; rfl)); intro gb693 hg w5 hbox hb; have n0_ := Aside0.mk (blk_below (g := gb692) (o := .cells #[.slice A0_0 l0_0.length c0_0, .int .i64 a0_1] 28 (0, 0)) (by (with_reducible repeat (first | refine blk_drewN ?_ _ | refine blk_drew ?_ | refine blk_alloc ?_ _)); exact BK692.out) hb); have n1_ := Aside0.mk (below_step (by repeat (first | (with_reducible first | exact HB.out | apply below_alloc | apply pw_below_drewN | apply below_drew1 | refine below_set ?_ GE692.out) | exact HB.out)) hb); have n2_ := Aside0.mk (hbox); have n3_ := Aside0.mk ((by rw [hg]; exact (below_size (by repeat (first | (with_reducible first | exact HB.out | apply below_alloc | apply pw_below_drewN | apply below_drew1 | refine below_set ?_ GE692.out) | exact HB.out))) : w.heap.size ≤ gb693)); have n4_ := Aside0.mk ((by rw [hg]; exact (below_size (by repeat (first | (with_reducible first | exact HB.out | apply below_alloc | apply pw_below_drewN | apply below_drew1 | refine below_set ?_ GE692.out) | exact HB.out))) : w.heap.size ≤ gb693)); have n5_ := Aside0.mk ((by rw [hg]; exact Nat.ne_of_lt (blk_lt (g := gb692) (o := .cells #[.slice A0_0 l0_0.length c0_0, .int .i64 a0_1] 28 (0, 0)) (by (with_reducible repeat (first | refine blk_drewN ?_ _ | refine blk_drew ?_ | refine blk_alloc ?_ _)); exact BK692.out)) : gb692 ≠ gb693)); have n6_ := Aside0.mk ((by rw [hg]; exact Nat.ne_of_gt (blk_lt (g := gb692) (o := .cells #[.slice A0_0 l0_0.length c0_0, .int .i64 a0_1] 28 (0, 0)) (by (with_reducible repeat (first | refine blk_drewN ?_ _ | refine blk_drew ?_ | refine blk_alloc ?_ _)); exact BK692.out)) : gb693 ≠ gb692)); clear BK692; clear HB; have BK692 := n0_; have HB := n1_; have BK693 := n2_; have GW693 := n3_; have GE693 := n4_; have NB692_693 := n5_; have NB693_692 := n6_; clear n0_ n1_ n2_ n3_ n4_ n5_ n6_; clear hb hbox hg))
  repeat (go_quiet (first | ((with_reducible refine gate_dst (N := 2) rfl ?_); (try (refine gate_guard (by rfl) ?_; dsimp only)); refine box_event ?hg (N := 2) ?hd (cs := #[.slice A0_0 l0_0.length c0_0, .int .i64 a0_1]) (t := 28) ?hr ?_; (case hd => rfl); (case hg => rfl); (case hr => first | (go_simp; done) | (go_simp; rfl)); intro gb692 hg w4 hbox hb; have n0_ := Aside0.mk (below_step (by repeat (first | (with_reducible first | exact HB.out | apply below_alloc | apply pw_below_drewN | apply below_drew1) | exact HB.out)) hb); have n1_ := Aside0.mk (hbox); have n2_ := Aside0.mk ((by rw [hg]; exact (below_size (by repeat (first | (with_reducible first | exact HB.out | apply below_alloc | apply pw_below_drewN | apply below_drew1) | exact HB.out))) : w.heap.size ≤ gb692)); have n3_ := Aside0.mk ((by rw [hg]; exact (below_size (by repeat (first | (with_reducible first | exact HB.out | apply below_alloc | apply pw_below_drewN | apply below_drew1) | exact HB.out))) : w.heap.size ≤ gb692)); clear HB; have HB := n0_; have BK692 := n1_; have GW692 := n2_; have GE692 := n3_; clear n0_ n1_ n2_ n3_; clear hb hbox hg) | ((with_reducible refine gate_dst (N := 3) rfl ?_); (try (refine gate_guard (by rfl) ?_; dsimp only)); refine box_event ?hg (N := 3) ?hd (cs := #[.slice A1_0 l1_0.length c1_0, .int .i64 a1_1]) (t := 28) ?hr ?_; (case hd => rfl); (case hg => rfl); (case hr => first | (go_simp; done) | (go_simp; rfl)); intro gb693 hg w5 hbox hb; have n0_ := Aside0.mk (blk_below (g := gb692) (o := .cells #[.slice A0_0 l0_0.length c0_0, .int .i64 a0_1] 28 (0, 0)) (by (with_reducible repeat (first | refine blk_drewN ?_ _ | refine blk_drew ?_ | refine blk_alloc ?_ _)); exact BK692.out) hb); have n1_ := Aside0.mk (below_step (by repeat (first | (with_reducible first | exact HB.out | apply below_alloc | apply pw_below_drewN | apply below_drew1 | refine below_set ?_ GE692.out) | exact HB.out)) hb); have n2_ := Aside0.mk (hbox); have n3_ := Aside0.mk ((by rw [hg]; exact (below_size (by repeat (first | (with_reducible first | exact HB.out | apply below_alloc | apply pw_below_drewN | apply below_drew1 | refine below_set ?_ GE692.out) | exact HB.out))) : w.heap.size ≤ gb693)); have n4_ := Aside0.mk ((by rw [hg]; exact (below_size (by repeat (first | (with_reducible first | exact HB.out | apply below_alloc | apply pw_below_drewN | apply below_drew1 | refine below_set ?_ GE692.out) | exact HB.out))) : w.heap.size ≤ gb693)); have n5_ := Aside0.mk ((by rw [hg]; exact Nat.ne_of_lt (blk_lt (g := gb692) (o := .cells #[.slice A0_0 l0_0.length c0_0, .int .i64 a0_1] 28 (0, 0)) (by (with_reducible repeat (first | refine blk_drewN ?_ _ | refine blk_drew ?_ | refine blk_alloc ?_ _)); exact BK692.out)) : gb692 ≠ gb693)); have n6_ := Aside0.mk ((by rw [hg]; exact Nat.ne_of_gt (blk_lt (g := gb692) (o := .cells #[.slice A0_0 l0_0.length c0_0, .int .i64 a0_1] 28 (0, 0)) (by (with_reducible repeat (first | refine blk_drewN ?_ _ | refine blk_drew ?_ | refine blk_alloc ?_ _)); exact BK692.out)) : gb693 ≠ gb692)); clear BK692; clear HB; have BK692 := n0_; have HB := n1_; have BK693 := n2_; have GW693 := n3_; have GE693 := n4_; have NB692_693 := n5_; have NB693_692 := n6_; clear n0_ n1_ n2_ n3_ n4_ n5_ n6_; clear hb hbox hg)); go_upto_region 1 with (first | ((with_reducible refine gate_dst (N := 2) rfl ?_); (try (refine gate_guard (by rfl) ?_; dsimp only)); refine box_event ?hg (N := 2) ?hd (cs := #[.slice A0_0 l0_0.length c0_0, .int .i64 a0_1]) (t := 28) ?hr ?_; (case hd => rfl); (case hg => rfl); (case hr => first | (go_simp; done) | (go_simp; rfl)); intro gb692 hg w4 hbox hb; have n0_ := Aside0.mk (below_step (by repeat (first | (with_reducible first | exact HB.out | apply below_alloc | apply pw_below_drewN | apply below_drew1) | exact HB.out)) hb); have n1_ := Aside0.mk (hbox); have n2_ := Aside0.mk ((by rw [hg]; exact (below_size (by repeat (first | (with_reducible first | exact HB.out | apply below_alloc | apply pw_below_drewN | apply below_drew1) | exact HB.out))) : w.heap.size ≤ gb692)); have n3_ := Aside0.mk ((by rw [hg]; exact (below_size (by repeat (first | (with_reducible first | exact HB.out | apply below_alloc | apply pw_below_drewN | apply below_drew1) | exact HB.out))) : w.heap.size ≤ gb692)); clear HB; have HB := n0_; have BK692 := n1_; have GW692 := n2_; have GE692 := n3_; clear n0_ n1_ n2_ n3_; clear hb hbox hg) | ((with_reducible refine gate_dst (N := 3) rfl ?_); (try (refine gate_guard (by rfl) ?_; dsimp only)); refine box_event ?hg (N := 3) ?hd (cs := #[.slice A1_0 l1_0.length c1_0, .int .i64 a1_1]) (t := 28) ?hr ?_; (case hd => rfl); (case hg => rfl); (case hr => first | (go_simp; done) | (go_simp; rfl)); intro gb693 hg w5 hbox hb; have n0_ := Aside0.mk (blk_below (g := gb692) (o := .cells #[.slice A0_0 l0_0.length c0_0, .int .i64 a0_1] 28 (0, 0)) (by (with_reducible repeat (first | refine blk_drewN ?_ _ | refine blk_drew ?_ | refine blk_alloc ?_ _)); exact BK692.out) hb); have n1_ := Aside0.mk (below_step (by repeat (first | (with_reducible first | exact HB.out | apply below_alloc | apply pw_below_drewN | apply below_drew1 | refine below_set ?_ GE692.out) | exact HB.out)) hb); have n2_ := Aside0.mk (hbox); have n3_ := Aside0.mk ((by rw [hg]; exact (below_size (by repeat (first | (with_reducible first | exact HB.out | apply below_alloc | apply pw_below_drewN | apply below_drew1 | refine below_set ?_ GE692.out) | exact HB.out))) : w.heap.size ≤ gb693)); have n4_ := Aside0.mk ((by rw [hg]; exact (below_size (by repeat (first | (with_reducible first | exact HB.out | apply below_alloc | apply pw_below_drewN | apply below_drew1 | refine below_set ?_ GE692.out) | exact HB.out))) : w.heap.size ≤ gb693)); have n5_ := Aside0.mk ((by rw [hg]; exact Nat.ne_of_lt (blk_lt (g := gb692) (o := .cells #[.slice A0_0 l0_0.length c0_0, .int .i64 a0_1] 28 (0, 0)) (by (with_reducible repeat (first | refine blk_drewN ?_ _ | refine blk_drew ?_ | refine blk_alloc ?_ _)); exact BK692.out)) : gb692 ≠ gb693)); have n6_ := Aside0.mk ((by rw [hg]; exact Nat.ne_of_gt (blk_lt (g := gb692) (o := .cells #[.slice A0_0 l0_0.length c0_0, .int .i64 a0_1] 28 (0, 0)) (by (with_reducible repeat (first | refine blk_drewN ?_ _ | refine blk_drew ?_ | refine blk_alloc ?_ _)); exact BK692.out)) : gb693 ≠ gb692)); clear BK692; clear HB; have BK692 := n0_; have HB := n1_; have BK693 := n2_; have GW693 := n3_; have GE693 := n4_; have NB692_693 := n5_; have NB693_692 := n6_; clear n0_ n1_ n2_ n3_ n4_ n5_ n6_; clear hb hbox hg)))
  (try simp only [Act.put, List.setIfInBounds_toArray, List.set_cons_zero, List.set_cons_succ])
  go_cut [19] (fun v19 wc => ∃ (kq : Nat) (x19_2 : Bool), v19 = .bool x19_2 ∧ Aside0 (seedcornref08_Same.j0 kq x19_2 l0_0 a0_1 l1_0 a1_1 = some r) ∧ Aside0 (kq ≤ k) ∧ Aside0 (wc.heap[gb692]? = some (.cells #[(.slice A0_0 l0_0.length c0_0), .int .i64 a0_1] 28 (0, 0))) ∧ Aside0 (wc.heap[gb693]? = some (.cells #[(.slice A1_0 l1_0.length c1_0), .int .i64 a1_1] 28 (0, 0))) ∧ Aside0 (Below w.heap.size w wc))
  case first =>
    have H := HC3.out
    clear HC3
    by_cases c6 : a0_1 = a1_1
    · rw [if_pos c6] at H
      have c6b0 : (a0_1 == a1_1) = true := beq_iff_eq.mpr c6
      have c6b1 : (a0_1 != a1_1) = false := bne_eq_false_iff_eq.mpr c6
      clear c6
      (first | rw [c6b0] | (simp only [i64_w, i32_w]; rw [c6b0]) | skip)
      have H' := Aside0.mk H
      clear H
      have hnb7 := NB692_693.out
      have hnc7 := NB693_692.out
      have hcz8_0 : w5.cell? ⟨gb692, 0, none⟩ = some (.slice A0_0 l0_0.length c0_0) := (blk_cell BK692.out 0).trans rfl
      have hcz8_1 : w5.cell? ⟨gb692, 1, none⟩ = some (.int .i64 a0_1) := (blk_cell BK692.out 1).trans rfl
      have hfz8_0 := blk_frozen BK692.out 0
      have hfz8_1 := blk_frozen BK692.out 1
      have hcz9_0 : w5.cell? ⟨gb693, 0, none⟩ = some (.slice A1_0 l1_0.length c1_0) := (blk_cell BK693.out 0).trans rfl
      have hcz9_1 : w5.cell? ⟨gb693, 1, none⟩ = some (.int .i64 a1_1) := (blk_cell BK693.out 1).trans rfl
      have hfz9_0 := blk_frozen BK693.out 0
      have hfz9_1 := blk_frozen BK693.out 1
      go_wp2
      repeat (go_quiet (fail); try go_wp2)
      go_meet
      case rel => exact ⟨_, (((l0_0.length : Int) != (l1_0.length : Int))), (by first | rfl | (simp; done) | (simp [*]; done)), H', ⟨by first | omega | exact Nat.le_refl _⟩, ⟨by (with_reducible repeat (first | refine blk_drewN ?_ _ | refine blk_drew ?_ | refine blk_alloc ?_ _)); exact BK692.out⟩, ⟨by (with_reducible repeat (first | refine blk_drewN ?_ _ | refine blk_drew ?_ | refine blk_alloc ?_ _)); exact BK693.out⟩, ⟨by repeat (first | (with_reducible first | exact HB.out | apply below_alloc | apply pw_below_drewN | apply below_drew1 | refine below_set ?_ GE692.out | refine below_set ?_ GE693.out) | exact HB.out)⟩⟩
    · rw [if_neg c6] at H
      have c6b0 : (a0_1 == a1_1) = false := beq_eq_false_iff_ne.mpr c6
      have c6b1 : (a0_1 != a1_1) = true := bne_iff_ne.mpr c6
      (first | rw [c6b0] | (simp only [i64_w, i32_w]; rw [c6b0]) | skip)
      have H' := Aside0.mk H
      clear H
      have hnb10 := NB692_693.out
      have hnc10 := NB693_692.out
      have hcz11_0 : w5.cell? ⟨gb692, 0, none⟩ = some (.slice A0_0 l0_0.length c0_0) := (blk_cell BK692.out 0).trans rfl
      have hcz11_1 : w5.cell? ⟨gb692, 1, none⟩ = some (.int .i64 a0_1) := (blk_cell BK692.out 1).trans rfl
      have hfz11_0 := blk_frozen BK692.out 0
      have hfz11_1 := blk_frozen BK692.out 1
      have hcz12_0 : w5.cell? ⟨gb693, 0, none⟩ = some (.slice A1_0 l1_0.length c1_0) := (blk_cell BK693.out 0).trans rfl
      have hcz12_1 : w5.cell? ⟨gb693, 1, none⟩ = some (.int .i64 a1_1) := (blk_cell BK693.out 1).trans rfl
      have hfz12_0 := blk_frozen BK693.out 0
      have hfz12_1 := blk_frozen BK693.out 1
      go_wp2
      repeat (go_quiet (fail); try go_wp2)
      go_meet
      case rel => exact ⟨_, (true), (by first | rfl | (simp; done) | (simp [*]; done)), H', ⟨by first | omega | exact Nat.le_refl _⟩, ⟨by (with_reducible repeat (first | refine blk_drewN ?_ _ | refine blk_drew ?_ | refine blk_alloc ?_ _)); exact BK692.out⟩, ⟨by (with_reducible repeat (first | refine blk_drewN ?_ _ | refine blk_drew ?_ | refine blk_alloc ?_ _)); exact BK693.out⟩, ⟨by repeat (first | (with_reducible first | exact HB.out | apply below_alloc | apply pw_below_drewN | apply below_drew1 | refine below_set ?_ GE692.out | refine below_set ?_ GE693.out) | exact HB.out)⟩⟩
  case rest =>
    clear HC3
    try clear c1
    try clear p2
    try clear c5
    try clear c6
    try clear c6b0
    try clear c6b1
    try clear c7
    try clear c10
    try clear hcz11_0
    try clear hcz11_1
    try clear hcz12_0
    try clear hcz12_1
    try clear hcz8_0
    try clear hcz8_1
    try clear hcz9_0
    try clear hcz9_1
    try clear hfz11_0
    try clear hfz11_1
    try clear hfz12_0
    try clear hfz12_1
    try clear hfz8_0
    try clear hfz8_1
    try clear hfz9_0
    try clear hfz9_1
    obtain ⟨kq, x19_2, rfl, HA, HJ2, BK692, BK693, HB⟩ := hcut
    cases kq with
    | zero => exact absurd HA.out (by simp [seedcornref08_Same.j0])
    | succ kj2 =>
      have H := HA.out
      clear HA
      simp only [seedcornref08_Same.j0] at H
      by_cases c13 : x19_2 = true
      · subst c13
        have H1 : (some false) = some r := by rw [if_pos rfl] at H; exact H
        clear H
        have H := H1
        clear H1
        obtain rfl := Option.some.inj H
        go_wp2
        repeat (go_quiet (fail); try go_wp2)
        go_ret
        exact ⟨by first | rfl | (simp [errW_none, errW_some] <;> rfl) | (simp [*, errW_none, errW_some] <;> rfl), by repeat (first | (with_reducible first | exact HB.out | apply below_alloc | apply pw_below_drewN | apply below_drew1 | refine below_set ?_ GE692.out | refine below_set ?_ GE693.out) | exact HB.out)⟩
      · replace c13 := Bool.eq_false_iff.mpr c13
        subst c13
        have H1 : (seedcornref08_Same.l0 kj2 0 l0_0 a0_1 l1_0 a1_1) = some r := by rw [if_neg (show ¬ (false = true) by decide)] at H; exact H
        clear H
        have H := H1
        clear H1
        have H' := Aside0.mk H
        clear H
        go_wp2
        repeat (go_quiet (fail); try go_wp2)
        go_loopg [5] kj2 (fun kq v5 w' => ∃ (x5_2 : Int), v5 = .int .i64 x5_2 ∧ Aside0 (seedcornref08_Same.l0 kq x5_2 l0_0 a0_1 l1_0 a1_1 = some r) ∧ Aside0 (kq ≤ kj2) ∧ Aside0 (w'.heap[gb692]? = some (.cells #[(.slice A0_0 l0_0.length c0_0), .int .i64 a0_1] 28 (0, 0))) ∧ Aside0 (w'.heap[gb693]? = some (.cells #[(.slice A1_0 l1_0.length c1_0), .int .i64 a1_1] 28 (0, 0))) ∧ Aside0 (Below w.heap.size w w'))
        case atStart => exact ⟨(0), (by first | rfl | (simp; done) | (simp [*]; done)), H', ⟨Nat.le_refl _⟩, ⟨by (with_reducible repeat (first | refine blk_drewN ?_ _ | refine blk_drew ?_ | refine blk_alloc ?_ _)); exact BK692.out⟩, ⟨by (with_reducible repeat (first | refine blk_drewN ?_ _ | refine blk_drew ?_ | refine blk_alloc ?_ _)); exact BK693.out⟩, ⟨by repeat (first | (with_reducible first | exact HB.out | apply below_alloc | apply pw_below_drewN | apply below_drew1 | refine below_set ?_ GE692.out | refine below_set ?_ GE693.out) | exact HB.out)⟩⟩
        case round =>
          clear H'
          try clear c1
          try clear p2
          try clear c5
          try clear c6
          try clear c6b0
          try clear c6b1
          try clear c7
          try clear c10
          try clear c13
          try clear hcz11_0
          try clear hcz11_1
          try clear hcz12_0
          try clear hcz12_1
          try clear hcz8_0
          try clear hcz8_1
          try clear hcz9_0
          try clear hcz9_1
          try clear hfz11_0
          try clear hfz11_1
          try clear hfz12_0
          try clear hfz12_1
          try clear hfz8_0
          try clear hfz8_1
          try clear hfz9_0
          try clear hfz9_1
          try clear p2
          obtain ⟨x5_2, rfl, HA, HK2, BK692, BK693, HB⟩ := hrel
          cases gk with
          | zero => exact absurd HA.out (by simp [seedcornref08_Same.l0])
          | succ k2 =>
            have H := HA.out
            clear HA
            simp only [seedcornref08_Same.l0] at H
            by_cases c14 : x5_2 < (l0_0.length : Int)
            · rw [if_pos c14] at H
              have c14b0 : decide (x5_2 < (l0_0.length : Int)) = true := decide_eq_true c14
              clear c14
              by_cases c15 : 0 ≤ x5_2
              · rw [if_pos c15] at H
                have c15b0 : decide (0 ≤ x5_2) = true := decide_eq_true c15
                clear c15
                by_cases c16 : x5_2 < (l1_0.length : Int)
                · rw [if_pos c16] at H
                  have c16b0 : decide (x5_2 < (l1_0.length : Int)) = true := decide_eq_true c16
                  clear c16
                  by_cases c17 : (rd l0_0 x5_2) = (rd l1_0 x5_2)
                  · rw [if_pos c17] at H
                    have c17b0 : ((rd l0_0 x5_2) == (rd l1_0 x5_2)) = true := beq_iff_eq.mpr c17
                    have c17b1 : ((rd l0_0 x5_2) != (rd l1_0 x5_2)) = false := bne_eq_false_iff_eq.mpr c17
                    clear c17
                    have H' := Aside0.mk H
                    clear H
                    have hnb18 := NB692_693.out
                    have hnc18 := NB693_692.out
                    have hcz19_0 : wr.cell? ⟨gb692, 0, none⟩ = some (.slice A0_0 l0_0.length c0_0) := (blk_cell BK692.out 0).trans rfl
                    have hcz19_1 : wr.cell? ⟨gb692, 1, none⟩ = some (.int .i64 a0_1) := (blk_cell BK692.out 1).trans rfl
                    have hfz19_0 := blk_frozen BK692.out 0
                    have hfz19_1 := blk_frozen BK692.out 1
                    have p694 : 0 ≤ (x5_2 : Int) := of_decide_eq_true (by first | (with_reducible assumption) | assumption)
                    have q694 : x5_2 < (l0_0.length : Int) := of_decide_eq_true (by first | (with_reducible assumption) | assumption)
                    obtain ⟨ad694, e694, hx694_0⟩ := Kd.at_int HR0_0.out x5_2 p694 q694
                    cases e694
                    replace hx694_0 := (HB.out.cell (World.block_lt_of_cell? w _ hx694_0)).trans hx694_0
                    replace p694 := eq_true p694
                    replace q694 := eq_true q694
                    have hcz20_0 : wr.cell? ⟨gb693, 0, none⟩ = some (.slice A1_0 l1_0.length c1_0) := (blk_cell BK693.out 0).trans rfl
                    have hcz20_1 : wr.cell? ⟨gb693, 1, none⟩ = some (.int .i64 a1_1) := (blk_cell BK693.out 1).trans rfl
                    have hfz20_0 := blk_frozen BK693.out 0
                    have hfz20_1 := blk_frozen BK693.out 1
                    have p695 : 0 ≤ (x5_2 : Int) := of_decide_eq_true (by first | (with_reducible assumption) | assumption)
                    have q695 : x5_2 < (l1_0.length : Int) := of_decide_eq_true (by first | (with_reducible assumption) | assumption)
                    obtain ⟨ad695, e695, hx695_0⟩ := Kd.at_int HR1_0.out x5_2 p695 q695
                    cases e695
                    replace hx695_0 := (HB.out.cell (World.block_lt_of_cell? w _ hx695_0)).trans hx695_0
                    replace p695 := eq_true p695
                    replace q695 := eq_true q695
                    go_wp2
                    repeat (go_quiet (fail); try go_wp2)
                    go_roundg k2
                    case measure => have := HJ2.out; have := HK2.out; omega
                    case rel => exact ⟨(wrap64 (x5_2 + 1)), (by first | rfl | (simp; done) | (simp [*]; done)), H', ⟨by have := HJ2.out; have := HK2.out; omega⟩, ⟨by (with_reducible repeat (first | refine blk_drewN ?_ _ | refine blk_drew ?_ | refine blk_alloc ?_ _)); exact BK692.out⟩, ⟨by (with_reducible repeat (first | refine blk_drewN ?_ _ | refine blk_drew ?_ | refine blk_alloc ?_ _)); exact BK693.out⟩, ⟨by repeat (first | (with_reducible first | exact HB.out | apply below_alloc | apply pw_below_drewN | apply below_drew1 | refine below_set ?_ GE692.out | refine below_set ?_ GE693.out) | exact HB.out)⟩⟩
                  · rw [if_neg c17] at H
                    have c17b0 : ((rd l0_0 x5_2) == (rd l1_0 x5_2)) = false := beq_eq_false_iff_ne.mpr c17
                    have c17b1 : ((rd l0_0 x5_2) != (rd l1_0 x5_2)) = true := bne_iff_ne.mpr c17
                    obtain rfl := Option.some.inj H
                    have hnb21 := NB692_693.out
                    have hnc21 := NB693_692.out
                    have hcz22_0 : wr.cell? ⟨gb692, 0, none⟩ = some (.slice A0_0 l0_0.length c0_0) := (blk_cell BK692.out 0).trans rfl
                    have hcz22_1 : wr.cell? ⟨gb692, 1, none⟩ = some (.int .i64 a0_1) := (blk_cell BK692.out 1).trans rfl
                    have hfz22_0 := blk_frozen BK692.out 0
                    have hfz22_1 := blk_frozen BK692.out 1
                    have p694 : 0 ≤ (x5_2 : Int) := of_decide_eq_true (by first | (with_reducible assumption) | assumption)
                    have q694 : x5_2 < (l0_0.length : Int) := of_decide_eq_true (by first | (with_reducible assumption) | assumption)
                    obtain ⟨ad694, e694, hx694_0⟩ := Kd.at_int HR0_0.out x5_2 p694 q694
                    cases e694
                    replace hx694_0 := (HB.out.cell (World.block_lt_of_cell? w _ hx694_0)).trans hx694_0
                    replace p694 := eq_true p694
                    replace q694 := eq_true q694
                    have hcz23_0 : wr.cell? ⟨gb693, 0, none⟩ = some (.slice A1_0 l1_0.length c1_0) := (blk_cell BK693.out 0).trans rfl
                    have hcz23_1 : wr.cell? ⟨gb693, 1, none⟩ = some (.int .i64 a1_1) := (blk_cell BK693.out 1).trans rfl
                    have hfz23_0 := blk_frozen BK693.out 0
                    have hfz23_1 := blk_frozen BK693.out 1
                    have p695 : 0 ≤ (x5_2 : Int) := of_decide_eq_true (by first | (with_reducible assumption) | assumption)
                    have q695 : x5_2 < (l1_0.length : Int) := of_decide_eq_true (by first | (with_reducible assumption) | assumption)
                    obtain ⟨ad695, e695, hx695_0⟩ := Kd.at_int HR1_0.out x5_2 p695 q695
                    cases e695
                    replace hx695_0 := (HB.out.cell (World.block_lt_of_cell? w _ hx695_0)).trans hx695_0
                    replace p695 := eq_true p695
                    replace q695 := eq_true q695
                    go_wp2
                    repeat (go_quiet (fail); try go_wp2)
                    go_ret
                    exact ⟨by first | rfl | (simp [errW_none, errW_some] <;> rfl) | (simp [*, errW_none, errW_some] <;> rfl), by repeat (first | (with_reducible first | exact HB.out | apply below_alloc | apply pw_below_drewN | apply below_drew1 | refine below_set ?_ GE692.out | refine below_set ?_ GE693.out) | exact HB.out)⟩
                · rw [if_neg c16] at H
                  exact absurd H (by simp)
              · rw [if_neg c15] at H
                exact absurd H (by simp)
            · rw [if_neg c14] at H
              have c14b0 : decide (x5_2 < (l0_0.length : Int)) = false := decide_eq_false c14
              clear c14
              obtain rfl := Option.some.inj H
              have hnb24 := NB692_693.out
              have hnc24 := NB693_692.out
              have hcz25_0 : wr.cell? ⟨gb692, 0, none⟩ = some (.slice A0_0 l0_0.length c0_0) := (blk_cell BK692.out 0).trans rfl
              have hcz25_1 : wr.cell? ⟨gb692, 1, none⟩ = some (.int .i64 a0_1) := (blk_cell BK692.out 1).trans rfl
              have hfz25_0 := blk_frozen BK692.out 0
              have hfz25_1 := blk_frozen BK692.out 1
              go_wp2
              repeat (go_quiet (fail); try go_wp2)
              go_ret
              exact ⟨by first | rfl | (simp [errW_none, errW_some] <;> rfl) | (simp [*, errW_none, errW_some] <;> rfl), by repeat (first | (with_reducible first | exact HB.out | apply below_alloc | apply pw_below_drewN | apply below_drew1 | refine below_set ?_ GE692.out | refine below_set ?_ GE693.out) | exact HB.out)⟩
end Go.Proofs.YtdhkmdgieflioaaDoor.F
namespace Go.Proofs.YtdhkmdgieflioaaDoor.F
open Go.RowKit Go.Proofs.YtdhkmdgieflioaaDoorW.PrintWords Go.Proofs.YtdhkmdgieflioaaDoorW.PrintLast Go.Proofs.YtdhkmdgieflioaaDoorW.PrintMore
attribute [local go_sem] max2_int min2_int max_two min_two max_three min_three max_four min_four
set_option linter.unusedVariables false
set_option linter.unusedSimpArgs false
def seedcornlaw11_ListingApart.j0 : Nat → Bool → List Int → Int → List Int → Int → Option (Bool)
  | 0, _, _, _, _, _ => none
  | k + 1, x30, x697000, x697001, x698000, x698001 => if x30 = true then (some true) else ((listing_Text.f x697000 x697001).bind fun bt701 => ((listing_Text.f x698000 x698001).bind fun bt703 => (if bt701.2 = 0 then (if bt703.2 = 0 then ((seedcornref08_Same.f k x697000 x697001 x698000 x698001).bind fun t705 => (some ((bt701.1.toList == bt703.1.toList) == t705))) else (some false)) else (some false))))
def seedcornlaw11_ListingApart.f (k : Nat) (l0_0 : List Int) (a0_1 : Int) (l1_0 : List Int) (a1_1 : Int) : Option (Bool) := (seedcornlaw11_awake.f).bind fun t698 => (if t698 = true then (if (l0_0.length : Int) > 100 then (seedcornlaw11_ListingApart.j0 k true l0_0 a0_1 l1_0 a1_1) else (if (l1_0.length : Int) > 100 then (seedcornlaw11_ListingApart.j0 k true l0_0 a0_1 l1_0 a1_1) else ((seedcornref08_Right.f l0_0 a0_1).bind fun t699 => (if t699 = true then ((seedcornref08_Right.f l1_0 a1_1).bind fun t700 => (seedcornlaw11_ListingApart.j0 k (!t700) l0_0 a0_1 l1_0 a1_1)) else (seedcornlaw11_ListingApart.j0 k true l0_0 a0_1 l1_0 a1_1))))) else (some false))
theorem seedcornlaw11_ListingApart.mono_l : ∀ k, (∀ y0 y1 y2 y3 y4, LeO (seedcornlaw11_ListingApart.j0 k y0 y1 y2 y3 y4) (seedcornlaw11_ListingApart.j0 (k + 1) y0 y1 y2 y3 y4))
  | 0 => fun _ _ _ _ _ r h => by simp [seedcornlaw11_ListingApart.j0] at h
  | k + 1 => by
    have ih0 := seedcornlaw11_ListingApart.mono_l k
    · intro y0 y1 y2 y3 y4
      unfold seedcornlaw11_ListingApart.j0
      repeat' first
      | (with_reducible exact ih0 _ _ _ _ _)
      | (with_reducible exact seedcornref08_Same.mono _ _ _ _ _)
      | (with_reducible exact LeO.refl _)
      | (with_reducible exact LeO.none _)
      | (with_reducible refine LeO.ite ?_ ?_)
      | (with_reducible refine LeO.bind ?_ (fun _ => ?_))
      | exact ih0 _ _ _ _ _
      | exact seedcornref08_Same.mono _ _ _ _ _
      | exact LeO.none _
      | refine LeO.ite ?_ ?_
      | refine LeO.bind ?_ (fun _ => ?_)
theorem seedcornlaw11_ListingApart.mono : ∀ a0 a1 a2 a3 k, LeO (seedcornlaw11_ListingApart.f k a0 a1 a2 a3) (seedcornlaw11_ListingApart.f (k + 1) a0 a1 a2 a3) := by
  intro a0 a1 a2 a3 k
  have ih0 := seedcornlaw11_ListingApart.mono_l k
  unfold seedcornlaw11_ListingApart.f
  repeat' first
      | (with_reducible exact ih0 _ _ _ _ _)
      | (with_reducible exact seedcornref08_Same.mono _ _ _ _ _)
      | (with_reducible exact LeO.refl _)
      | (with_reducible exact LeO.none _)
      | (with_reducible refine LeO.ite ?_ ?_)
      | (with_reducible refine LeO.bind ?_ (fun _ => ?_))
      | exact ih0 _ _ _ _ _
      | exact seedcornref08_Same.mono _ _ _ _ _
      | exact LeO.none _
      | refine LeO.ite ?_ ?_
      | refine LeO.bind ?_ (fun _ => ?_)
set_option maxHeartbeats 8000000 in
set_option maxRecDepth 100000 in
theorem seedcornlaw11_ListingApart.calls (k : Nat) (A0_0 : Option Addr) (c0_0 : Nat) (l0_0 : List Int) (a0_1 : Int) (A1_0 : Option Addr) (c1_0 : Nat) (l1_0 : List Int) (a1_1 : Int) (r : Bool) (w : World) (hGK : GK w) (hGT : GT w) (hr0_0 : Kd.C (Kd.int .u32) w A0_0 l0_0.length l0_0) (hc0_0 : l0_0.length ≤ c0_0) (hr1_0 : Kd.C (Kd.int .u32) w A1_0 l1_0.length l1_0) (hc1_0 : l1_0.length ≤ c1_0) (h : seedcornlaw11_ListingApart.f k l0_0 a0_1 l1_0 a1_1 = some r) :
    Calls Tryd.prog 21 #[.agg #[.slice A0_0 l0_0.length c0_0, .int .i64 a0_1], .agg #[.slice A1_0 l1_0.length c1_0, .int .i64 a1_1]] w fun e w' => e = .returned (.bool r) ∧ Below w.heap.size w w' := by
  have hu28 := Tryd.underlying28
  have HR0_0 := Aside0.mk hr0_0
  have HC0_0 := Aside0.mk hc0_0
  clear hr0_0 hc0_0
  have HR1_0 := Aside0.mk hr1_0
  have HC1_0 := Aside0.mk hc1_0
  clear hr1_0 hc1_0
  have HGK := Aside0.mk hGK
  clear hGK
  have HGT := Aside0.mk hGT
  clear hGT
  have HB := Aside0.mk (Below.refl w.heap.size w)
  have H : ((seedcornlaw11_awake.f).bind fun t698 => (if t698 = true then (if (l0_0.length : Int) > 100 then (seedcornlaw11_ListingApart.j0 k true l0_0 a0_1 l1_0 a1_1) else (if (l1_0.length : Int) > 100 then (seedcornlaw11_ListingApart.j0 k true l0_0 a0_1 l1_0 a1_1) else ((seedcornref08_Right.f l0_0 a0_1).bind fun t699 => (if t699 = true then ((seedcornref08_Right.f l1_0 a1_1).bind fun t700 => (seedcornlaw11_ListingApart.j0 k (!t700) l0_0 a0_1 l1_0 a1_1)) else (seedcornlaw11_ListingApart.j0 k true l0_0 a0_1 l1_0 a1_1))))) else (some false))) = some r := h
  clear h
  replace H := Option.bind_eq_some_iff.mp H
  obtain ⟨t698, A30, H⟩ := H
  replace H : (if t698 = true then (if (l0_0.length : Int) > 100 then (seedcornlaw11_ListingApart.j0 k true l0_0 a0_1 l1_0 a1_1) else (if (l1_0.length : Int) > 100 then (seedcornlaw11_ListingApart.j0 k true l0_0 a0_1 l1_0 a1_1) else ((seedcornref08_Right.f l0_0 a0_1).bind fun t699 => (if t699 = true then ((seedcornref08_Right.f l1_0 a1_1).bind fun t700 => (seedcornlaw11_ListingApart.j0 k (!t700) l0_0 a0_1 l1_0 a1_1)) else (seedcornlaw11_ListingApart.j0 k true l0_0 a0_1 l1_0 a1_1))))) else (some false)) = some r := H
  have A3 := Aside0.mk A30
  clear A30
  by_cases c4 : t698 = true
  · subst c4
    have H1 : (if (l0_0.length : Int) > 100 then (seedcornlaw11_ListingApart.j0 k true l0_0 a0_1 l1_0 a1_1) else (if (l1_0.length : Int) > 100 then (seedcornlaw11_ListingApart.j0 k true l0_0 a0_1 l1_0 a1_1) else ((seedcornref08_Right.f l0_0 a0_1).bind fun t699 => (if t699 = true then ((seedcornref08_Right.f l1_0 a1_1).bind fun t700 => (seedcornlaw11_ListingApart.j0 k (!t700) l0_0 a0_1 l1_0 a1_1)) else (seedcornlaw11_ListingApart.j0 k true l0_0 a0_1 l1_0 a1_1))))) = some r := by rw [if_pos rfl] at H; exact H
    clear H
    have H := H1
    clear H1
    have HC5 := Aside0.mk H
    clear H
    go_enter Tryd.func21, Tryd.ntmps21
    go_upto_region 3 with (first | ((with_reducible refine gate_dst (N := 2) rfl ?_); (try (refine gate_guard (by rfl) ?_; dsimp only)); refine box_event ?hg (N := 2) ?hd (cs := #[.slice A0_0 l0_0.length c0_0, .int .i64 a0_1]) (t := 28) ?hr ?_; (case hd => rfl); (case hg => rfl); (case hr => first | (go_simp; done) | (go_simp; rfl)); intro gb696 hg w6 hbox hb; have n0_ := Aside0.mk (below_step (by repeat (first | (with_reducible first | exact HB.out | apply below_alloc | apply pw_below_drewN | apply below_drew1) | exact HB.out)) hb); have n1_ := Aside0.mk (hbox); have n2_ := Aside0.mk ((by rw [hg]; exact (below_size (by repeat (first | (with_reducible first | exact HB.out | apply below_alloc | apply pw_below_drewN | apply below_drew1) | exact HB.out))) : w.heap.size ≤ gb696)); have n3_ := Aside0.mk ((by rw [hg]; exact (below_size (by repeat (first | (with_reducible first | exact HB.out | apply below_alloc | apply pw_below_drewN | apply below_drew1) | exact HB.out))) : w.heap.size ≤ gb696)); clear HB; have HB := n0_; have BK696 := n1_; have GW696 := n2_; have GE696 := n3_; clear n0_ n1_ n2_ n3_; clear hb hbox hg) | ((with_reducible refine gate_dst (N := 3) rfl ?_); (try (refine gate_guard (by rfl) ?_; dsimp only)); refine box_event ?hg (N := 3) ?hd (cs := #[.slice A1_0 l1_0.length c1_0, .int .i64 a1_1]) (t := 28) ?hr ?_; (case hd => rfl); (case hg => rfl); (case hr => first | (go_simp; done) | (go_simp; rfl)); intro gb697 hg w7 hbox hb; have n0_ := Aside0.mk (blk_below (g := gb696) (o := .cells #[.slice A0_0 l0_0.length c0_0, .int .i64 a0_1] 28 (0, 0)) (by (with_reducible repeat (first | refine blk_drewN ?_ _ | refine blk_drew ?_ | refine blk_alloc ?_ _)); exact BK696.out) hb); have n1_ := Aside0.mk (below_step (by repeat (first | (with_reducible first | exact HB.out | apply below_alloc | apply pw_below_drewN | apply below_drew1 | refine below_set ?_ GE696.out) | exact HB.out)) hb); have n2_ := Aside0.mk (hbox); have n3_ := Aside0.mk ((by rw [hg]; exact (below_size (by repeat (first | (with_reducible first | exact HB.out | apply below_alloc | apply pw_below_drewN | apply below_drew1 | refine below_set ?_ GE696.out) | exact HB.out))) : w.heap.size ≤ gb697)); have n4_ := Aside0.mk ((by rw [hg]; exact (below_size (by repeat (first | (with_reducible first | exact HB.out | apply below_alloc | apply pw_below_drewN | apply below_drew1 | refine below_set ?_ GE696.out) | exact HB.out))) : w.heap.size ≤ gb697)); have n5_ := Aside0.mk ((by rw [hg]; exact Nat.ne_of_lt (blk_lt (g := gb696) (o := .cells #[.slice A0_0 l0_0.length c0_0, .int .i64 a0_1] 28 (0, 0)) (by (with_reducible repeat (first | refine blk_drewN ?_ _ | refine blk_drew ?_ | refine blk_alloc ?_ _)); exact BK696.out)) : gb696 ≠ gb697)); have n6_ := Aside0.mk ((by rw [hg]; exact Nat.ne_of_gt (blk_lt (g := gb696) (o := .cells #[.slice A0_0 l0_0.length c0_0, .int .i64 a0_1] 28 (0, 0)) (by (with_reducible repeat (first | refine blk_drewN ?_ _ | refine blk_drew ?_ | refine blk_alloc ?_ _)); exact BK696.out)) : gb697 ≠ gb696)); clear BK696; clear HB; have BK696 := n0_; have HB := n1_; have BK697 := n2_; have GW697 := n3_; have GE697 := n4_; have NB696_697 := n5_; have NB697_696 := n6_; clear n0_ n1_ n2_ n3_ n4_ n5_ n6_; clear hb hbox hg) | ((with_reducible refine gate_callee (f := 33) rfl ?_); refine goesL_ (some 9) rfl rfl Tryd.func33 (by kernel_rfl) rfl #[] rfl (by (try simp only [List.map_toArray, List.map_cons, List.map_nil]); first | done | rfl | (simp only [List.length_drop, List.length_take]; rfl)) ?_; (with_reducible refine (seedcornlaw11_awake.calls  true _ ?side1 ?side2 A3.out).mono ?_); (case side1 => exact GK.below HGK.out (by repeat (first | (with_reducible first | exact HB.out | apply below_alloc | apply pw_below_drewN | apply below_drew1 | refine below_set ?_ GE696.out | refine below_set ?_ GE697.out) | exact HB.out))); (case side2 => exact GT.below HGT.out (by repeat (first | (with_reducible first | exact HB.out | apply below_alloc | apply pw_below_drewN | apply below_drew1 | refine below_set ?_ GE696.out | refine below_set ?_ GE697.out) | exact HB.out))); rintro e w8 ⟨rfl, hb⟩; refine ⟨_, rfl, ?_⟩; have n0_ := Aside0.mk (blk_below (g := gb696) (o := .cells #[.slice A0_0 l0_0.length c0_0, .int .i64 a0_1] 28 (0, 0)) (by (with_reducible repeat (first | refine blk_drewN ?_ _ | refine blk_drew ?_ | refine blk_alloc ?_ _)); exact BK696.out) hb); have n1_ := Aside0.mk (blk_below (g := gb697) (o := .cells #[.slice A1_0 l1_0.length c1_0, .int .i64 a1_1] 28 (0, 0)) (by (with_reducible repeat (first | refine blk_drewN ?_ _ | refine blk_drew ?_ | refine blk_alloc ?_ _)); exact BK697.out) hb); have n2_ := Aside0.mk (below_step (by repeat (first | (with_reducible first | exact HB.out | apply below_alloc | apply pw_below_drewN | apply below_drew1 | refine below_set ?_ GE696.out | refine below_set ?_ GE697.out) | exact HB.out)) hb); clear BK696; clear BK697; clear HB; have BK696 := n0_; have BK697 := n1_; have HB := n2_; clear n0_ n1_ n2_; (try clear hb); (try clear hb2); (try clear hk); (try clear hi)))
    (try simp only [Act.put, List.setIfInBounds_toArray, List.set_cons_zero, List.set_cons_succ])
    go_cut [30] (fun v30 wc => ∃ (kq : Nat) (x30_4 : Bool), v30 = .bool x30_4 ∧ Aside0 (seedcornlaw11_ListingApart.j0 kq x30_4 l0_0 a0_1 l1_0 a1_1 = some r) ∧ Aside0 (kq ≤ k) ∧ Aside0 (wc.heap[gb696]? = some (.cells #[(.slice A0_0 l0_0.length c0_0), .int .i64 a0_1] 28 (0, 0))) ∧ Aside0 (wc.heap[gb697]? = some (.cells #[(.slice A1_0 l1_0.length c1_0), .int .i64 a1_1] 28 (0, 0))) ∧ Aside0 (Below w.heap.size w wc))
    case first =>
      have H := HC5.out
      clear HC5
      by_cases c9 : (l0_0.length : Int) > 100
      · rw [if_pos c9] at H
        have c9b0 : decide (100 < (l0_0.length : Int)) = true := decide_eq_true c9
        have c9b1 : decide (100 < l0_0.length) = true := decide_eq_true (by omega)
        clear c9
        (first | rw [c9b0] | (simp only [i64_w, i32_w]; rw [c9b0]) | skip)
        have H' := Aside0.mk H
        clear H
        have hnb10 := NB696_697.out
        have hnc10 := NB697_696.out
        have hcz11_0 : w8.cell? ⟨gb696, 0, none⟩ = some (.slice A0_0 l0_0.length c0_0) := (blk_cell BK696.out 0).trans rfl
        have hcz11_1 : w8.cell? ⟨gb696, 1, none⟩ = some (.int .i64 a0_1) := (blk_cell BK696.out 1).trans rfl
        have hfz11_0 := blk_frozen BK696.out 0
        have hfz11_1 := blk_frozen BK696.out 1
        go_wp2
        go_meet
        case rel => exact ⟨_, (true), (by first | rfl | (simp; done) | (simp [*]; done)), H', ⟨by first | omega | exact Nat.le_refl _⟩, ⟨by (with_reducible repeat (first | refine blk_drewN ?_ _ | refine blk_drew ?_ | refine blk_alloc ?_ _)); exact BK696.out⟩, ⟨by (with_reducible repeat (first | refine blk_drewN ?_ _ | refine blk_drew ?_ | refine blk_alloc ?_ _)); exact BK697.out⟩, ⟨by repeat (first | (with_reducible first | exact HB.out | apply below_alloc | apply pw_below_drewN | apply below_drew1 | refine below_set ?_ GE696.out | refine below_set ?_ GE697.out) | exact HB.out)⟩⟩
      · rw [if_neg c9] at H
        have c9b0 : decide (100 < (l0_0.length : Int)) = false := decide_eq_false c9
        have c9b1 : decide (100 < l0_0.length) = false := decide_eq_false (by omega)
        clear c9
        (first | rw [c9b0] | (simp only [i64_w, i32_w]; rw [c9b0]) | skip)
        by_cases c12 : (l1_0.length : Int) > 100
        · rw [if_pos c12] at H
          have c12b0 : decide (100 < (l1_0.length : Int)) = true := decide_eq_true c12
          have c12b1 : decide (100 < l1_0.length) = true := decide_eq_true (by omega)
          clear c12
          have H' := Aside0.mk H
          clear H
          have hnb13 := NB696_697.out
          have hnc13 := NB697_696.out
          have hcz14_0 : w8.cell? ⟨gb696, 0, none⟩ = some (.slice A0_0 l0_0.length c0_0) := (blk_cell BK696.out 0).trans rfl
          have hcz14_1 : w8.cell? ⟨gb696, 1, none⟩ = some (.int .i64 a0_1) := (blk_cell BK696.out 1).trans rfl
          have hfz14_0 := blk_frozen BK696.out 0
          have hfz14_1 := blk_frozen BK696.out 1
          have hcz15_0 : w8.cell? ⟨gb697, 0, none⟩ = some (.slice A1_0 l1_0.length c1_0) := (blk_cell BK697.out 0).trans rfl
          have hcz15_1 : w8.cell? ⟨gb697, 1, none⟩ = some (.int .i64 a1_1) := (blk_cell BK697.out 1).trans rfl
          have hfz15_0 := blk_frozen BK697.out 0
          have hfz15_1 := blk_frozen BK697.out 1
          go_wp2
          go_meet
          case rel => exact ⟨_, (true), (by first | rfl | (simp; done) | (simp [*]; done)), H', ⟨by first | omega | exact Nat.le_refl _⟩, ⟨by (with_reducible repeat (first | refine blk_drewN ?_ _ | refine blk_drew ?_ | refine blk_alloc ?_ _)); exact BK696.out⟩, ⟨by (with_reducible repeat (first | refine blk_drewN ?_ _ | refine blk_drew ?_ | refine blk_alloc ?_ _)); exact BK697.out⟩, ⟨by repeat (first | (with_reducible first | exact HB.out | apply below_alloc | apply pw_below_drewN | apply below_drew1 | refine below_set ?_ GE696.out | refine below_set ?_ GE697.out) | exact HB.out)⟩⟩
        · rw [if_neg c12] at H
          have c12b0 : decide (100 < (l1_0.length : Int)) = false := decide_eq_false c12
          have c12b1 : decide (100 < l1_0.length) = false := decide_eq_false (by omega)
          clear c12
          replace H := Option.bind_eq_some_iff.mp H
          obtain ⟨t699, A160, H⟩ := H
          replace H : (if t699 = true then ((seedcornref08_Right.f l1_0 a1_1).bind fun t700 => (seedcornlaw11_ListingApart.j0 k (!t700) l0_0 a0_1 l1_0 a1_1)) else (seedcornlaw11_ListingApart.j0 k true l0_0 a0_1 l1_0 a1_1)) = some r := H
          have A16 := Aside0.mk A160
          clear A160
          by_cases c17 : t699 = true
          · subst c17
            have H1 : ((seedcornref08_Right.f l1_0 a1_1).bind fun t700 => (seedcornlaw11_ListingApart.j0 k (!t700) l0_0 a0_1 l1_0 a1_1)) = some r := by rw [if_pos rfl] at H; exact H
            clear H
            have H := H1
            clear H1
            replace H := Option.bind_eq_some_iff.mp H
            obtain ⟨t700, A180, H⟩ := H
            replace H : (seedcornlaw11_ListingApart.j0 k (!t700) l0_0 a0_1 l1_0 a1_1) = some r := H
            have A18 := Aside0.mk A180
            clear A180
            have H' := Aside0.mk H
            clear H
            have hnb19 := NB696_697.out
            have hnc19 := NB697_696.out
            have hcz20_0 : w8.cell? ⟨gb696, 0, none⟩ = some (.slice A0_0 l0_0.length c0_0) := (blk_cell BK696.out 0).trans rfl
            have hcz20_1 : w8.cell? ⟨gb696, 1, none⟩ = some (.int .i64 a0_1) := (blk_cell BK696.out 1).trans rfl
            have hfz20_0 := blk_frozen BK696.out 0
            have hfz20_1 := blk_frozen BK696.out 1
            have hcz21_0 : w8.cell? ⟨gb697, 0, none⟩ = some (.slice A1_0 l1_0.length c1_0) := (blk_cell BK697.out 0).trans rfl
            have hcz21_1 : w8.cell? ⟨gb697, 1, none⟩ = some (.int .i64 a1_1) := (blk_cell BK697.out 1).trans rfl
            have hfz21_0 := blk_frozen BK697.out 0
            have hfz21_1 := blk_frozen BK697.out 1
            go_wp2_with (first | (go_at_call 34; (with_reducible refine (seedcornref08_Right.calls _ _ l0_0 a0_1 true _ ?side1 ?side2 A16.out).mono ?_); (case side1 => repeat (first | exact (Kd.C_below HR0_0.out HB.out) | (with_reducible refine Kd.C_alloc ?_ _) | (with_reducible refine Kd.C_drewN ?_ _) | (with_reducible refine Kd.C_drew ?_))); (case side2 => exact HC0_0.out); rintro e w22 ⟨rfl, hb⟩; have n0_ := Aside0.mk (blk_below (g := gb696) (o := .cells #[.slice A0_0 l0_0.length c0_0, .int .i64 a0_1] 28 (0, 0)) (by (with_reducible repeat (first | refine blk_drewN ?_ _ | refine blk_drew ?_ | refine blk_alloc ?_ _)); exact BK696.out) hb); have n1_ := Aside0.mk (blk_below (g := gb697) (o := .cells #[.slice A1_0 l1_0.length c1_0, .int .i64 a1_1] 28 (0, 0)) (by (with_reducible repeat (first | refine blk_drewN ?_ _ | refine blk_drew ?_ | refine blk_alloc ?_ _)); exact BK697.out) hb); have n2_ := Aside0.mk (below_step (by repeat (first | (with_reducible first | exact HB.out | apply below_alloc | apply pw_below_drewN | apply below_drew1 | refine below_set ?_ GE696.out | refine below_set ?_ GE697.out) | exact HB.out)) hb); clear BK696; clear BK697; clear HB; have BK696 := n0_; have BK697 := n1_; have HB := n2_; clear n0_ n1_ n2_; (try clear hb); (try clear hb2); (try clear hk); (try clear hi); have hcz23_0 : w22.cell? ⟨gb697, 0, none⟩ = some (.slice A1_0 l1_0.length c1_0) := (blk_cell BK697.out 0).trans rfl; have hcz23_1 : w22.cell? ⟨gb697, 1, none⟩ = some (.int .i64 a1_1) := (blk_cell BK697.out 1).trans rfl; have hfz23_0 := blk_frozen BK697.out 0; have hfz23_1 := blk_frozen BK697.out 1) | (go_at_call 34; (with_reducible refine (seedcornref08_Right.calls _ _ l1_0 a1_1 t700 _ ?side1 ?side2 A18.out).mono ?_); (case side1 => repeat (first | exact (Kd.C_below HR1_0.out HB.out) | (with_reducible refine Kd.C_alloc ?_ _) | (with_reducible refine Kd.C_drewN ?_ _) | (with_reducible refine Kd.C_drew ?_))); (case side2 => exact HC1_0.out); rintro e w24 ⟨rfl, hb⟩; have n0_ := Aside0.mk (blk_below (g := gb696) (o := .cells #[.slice A0_0 l0_0.length c0_0, .int .i64 a0_1] 28 (0, 0)) (by (with_reducible repeat (first | refine blk_drewN ?_ _ | refine blk_drew ?_ | refine blk_alloc ?_ _)); exact BK696.out) hb); have n1_ := Aside0.mk (blk_below (g := gb697) (o := .cells #[.slice A1_0 l1_0.length c1_0, .int .i64 a1_1] 28 (0, 0)) (by (with_reducible repeat (first | refine blk_drewN ?_ _ | refine blk_drew ?_ | refine blk_alloc ?_ _)); exact BK697.out) hb); have n2_ := Aside0.mk (below_step (by repeat (first | (with_reducible first | exact HB.out | apply below_alloc | apply pw_below_drewN | apply below_drew1 | refine below_set ?_ GE696.out | refine below_set ?_ GE697.out) | exact HB.out)) hb); clear BK696; clear BK697; clear HB; have BK696 := n0_; have BK697 := n1_; have HB := n2_; clear n0_ n1_ n2_; (try clear hb); (try clear hb2); (try clear hk); (try clear hi)))
            go_meet
            case rel => exact ⟨_, (!t700), (by first | rfl | (simp; done) | (simp [*]; done)), H', ⟨by first | omega | exact Nat.le_refl _⟩, ⟨by (with_reducible repeat (first | refine blk_drewN ?_ _ | refine blk_drew ?_ | refine blk_alloc ?_ _)); exact BK696.out⟩, ⟨by (with_reducible repeat (first | refine blk_drewN ?_ _ | refine blk_drew ?_ | refine blk_alloc ?_ _)); exact BK697.out⟩, ⟨by repeat (first | (with_reducible first | exact HB.out | apply below_alloc | apply pw_below_drewN | apply below_drew1 | refine below_set ?_ GE696.out | refine below_set ?_ GE697.out) | exact HB.out)⟩⟩
          · replace c17 := Bool.eq_false_iff.mpr c17
            subst c17
            have H1 : (seedcornlaw11_ListingApart.j0 k true l0_0 a0_1 l1_0 a1_1) = some r := by rw [if_neg (show ¬ (false = true) by decide)] at H; exact H
            clear H
            have H := H1
            clear H1
            have H' := Aside0.mk H
            clear H
            have hnb25 := NB696_697.out
            have hnc25 := NB697_696.out
            have hcz26_0 : w8.cell? ⟨gb696, 0, none⟩ = some (.slice A0_0 l0_0.length c0_0) := (blk_cell BK696.out 0).trans rfl
            have hcz26_1 : w8.cell? ⟨gb696, 1, none⟩ = some (.int .i64 a0_1) := (blk_cell BK696.out 1).trans rfl
            have hfz26_0 := blk_frozen BK696.out 0
            have hfz26_1 := blk_frozen BK696.out 1
            have hcz27_0 : w8.cell? ⟨gb697, 0, none⟩ = some (.slice A1_0 l1_0.length c1_0) := (blk_cell BK697.out 0).trans rfl
            have hcz27_1 : w8.cell? ⟨gb697, 1, none⟩ = some (.int .i64 a1_1) := (blk_cell BK697.out 1).trans rfl
            have hfz27_0 := blk_frozen BK697.out 0
            have hfz27_1 := blk_frozen BK697.out 1
            go_wp2_with (first | (go_at_call 34; (with_reducible refine (seedcornref08_Right.calls _ _ l0_0 a0_1 false _ ?side1 ?side2 A16.out).mono ?_); (case side1 => repeat (first | exact (Kd.C_below HR0_0.out HB.out) | (with_reducible refine Kd.C_alloc ?_ _) | (with_reducible refine Kd.C_drewN ?_ _) | (with_reducible refine Kd.C_drew ?_))); (case side2 => exact HC0_0.out); rintro e w28 ⟨rfl, hb⟩; have n0_ := Aside0.mk (blk_below (g := gb696) (o := .cells #[.slice A0_0 l0_0.length c0_0, .int .i64 a0_1] 28 (0, 0)) (by (with_reducible repeat (first | refine blk_drewN ?_ _ | refine blk_drew ?_ | refine blk_alloc ?_ _)); exact BK696.out) hb); have n1_ := Aside0.mk (blk_below (g := gb697) (o := .cells #[.slice A1_0 l1_0.length c1_0, .int .i64 a1_1] 28 (0, 0)) (by (with_reducible repeat (first | refine blk_drewN ?_ _ | refine blk_drew ?_ | refine blk_alloc ?_ _)); exact BK697.out) hb); have n2_ := Aside0.mk (below_step (by repeat (first | (with_reducible first | exact HB.out | apply below_alloc | apply pw_below_drewN | apply below_drew1 | refine below_set ?_ GE696.out | refine below_set ?_ GE697.out) | exact HB.out)) hb); clear BK696; clear BK697; clear HB; have BK696 := n0_; have BK697 := n1_; have HB := n2_; clear n0_ n1_ n2_; (try clear hb); (try clear hb2); (try clear hk); (try clear hi)))
            go_meet
            case rel => exact ⟨_, (true), (by first | rfl | (simp; done) | (simp [*]; done)), H', ⟨by first | omega | exact Nat.le_refl _⟩, ⟨by (with_reducible repeat (first | refine blk_drewN ?_ _ | refine blk_drew ?_ | refine blk_alloc ?_ _)); exact BK696.out⟩, ⟨by (with_reducible repeat (first | refine blk_drewN ?_ _ | refine blk_drew ?_ | refine blk_alloc ?_ _)); exact BK697.out⟩, ⟨by repeat (first | (with_reducible first | exact HB.out | apply below_alloc | apply pw_below_drewN | apply below_drew1 | refine below_set ?_ GE696.out | refine below_set ?_ GE697.out) | exact HB.out)⟩⟩
    case rest =>
      clear HC5
      try clear c1
      try clear c2
      try clear p2
      try clear c3
      try clear c4
      try clear c9
      try clear c9b0
      try clear c9b1
      try clear c10
      try clear c12
      try clear c12b0
      try clear c12b1
      try clear c13
      try clear c17
      try clear c19
      try clear c21
      try clear c25
      try clear hcz11_0
      try clear hcz11_1
      try clear hcz14_0
      try clear hcz14_1
      try clear hcz15_0
      try clear hcz15_1
      try clear hcz20_0
      try clear hcz20_1
      try clear hcz21_0
      try clear hcz21_1
      try clear hcz23_0
      try clear hcz23_1
      try clear hcz26_0
      try clear hcz26_1
      try clear hcz27_0
      try clear hcz27_1
      try clear hfz11_0
      try clear hfz11_1
      try clear hfz14_0
      try clear hfz14_1
      try clear hfz15_0
      try clear hfz15_1
      try clear hfz20_0
      try clear hfz20_1
      try clear hfz21_0
      try clear hfz21_1
      try clear hfz23_0
      try clear hfz23_1
      try clear hfz26_0
      try clear hfz26_1
      try clear hfz27_0
      try clear hfz27_1
      obtain ⟨kq, x30_4, rfl, HA, HJ4, BK696, BK697, HB⟩ := hcut
      cases kq with
      | zero => exact absurd HA.out (by simp [seedcornlaw11_ListingApart.j0])
      | succ kj4 =>
        have H := HA.out
        clear HA
        simp only [seedcornlaw11_ListingApart.j0] at H
        by_cases c29 : x30_4 = true
        · subst c29
          have H1 : (some true) = some r := by rw [if_pos rfl] at H; exact H
          clear H
          have H := H1
          clear H1
          obtain rfl := Option.some.inj H
          go_wp2
          go_ret
          exact ⟨by first | rfl | (simp [errW_none, errW_some] <;> rfl) | (simp [*, errW_none, errW_some] <;> rfl), by repeat (first | (with_reducible first | exact HB.out | apply below_alloc | apply pw_below_drewN | apply below_drew1 | refine below_set ?_ GE696.out | refine below_set ?_ GE697.out) | exact HB.out)⟩
        · replace c29 := Bool.eq_false_iff.mpr c29
          subst c29
          have H1 : ((listing_Text.f l0_0 a0_1).bind fun bt701 => ((listing_Text.f l1_0 a1_1).bind fun bt703 => (if bt701.2 = 0 then (if bt703.2 = 0 then ((seedcornref08_Same.f kj4 l0_0 a0_1 l1_0 a1_1).bind fun t705 => (some ((bt701.1.toList == bt703.1.toList) == t705))) else (some false)) else (some false)))) = some r := by rw [if_neg (show ¬ (false = true) by decide)] at H; exact H
          clear H
          have H := H1
          clear H1
          replace H := Option.bind_eq_some_iff.mp H
          obtain ⟨⟨t701, t702⟩, A300, H⟩ := H
          replace H : ((listing_Text.f l1_0 a1_1).bind fun bt703 => (if t702 = 0 then (if bt703.2 = 0 then ((seedcornref08_Same.f kj4 l0_0 a0_1 l1_0 a1_1).bind fun t705 => (some ((t701.toList == bt703.1.toList) == t705))) else (some false)) else (some false))) = some r := H
          have A30 := Aside0.mk A300
          clear A300
          replace H := Option.bind_eq_some_iff.mp H
          obtain ⟨⟨t703, t704⟩, A310, H⟩ := H
          replace H : (if t702 = 0 then (if t704 = 0 then ((seedcornref08_Same.f kj4 l0_0 a0_1 l1_0 a1_1).bind fun t705 => (some ((t701.toList == t703.toList) == t705))) else (some false)) else (some false)) = some r := H
          have A31 := Aside0.mk A310
          clear A310
          by_cases c32 : t702 = 0
          · rw [if_pos c32] at H
            have c32b0 : (t702 == 0) = true := beq_iff_eq.mpr c32
            have c32b1 : (t702 != 0) = false := bne_eq_false_iff_eq.mpr c32
            clear c32
            by_cases c33 : t704 = 0
            · rw [if_pos c33] at H
              have c33b0 : (t704 == 0) = true := beq_iff_eq.mpr c33
              have c33b1 : (t704 != 0) = false := bne_eq_false_iff_eq.mpr c33
              clear c33
              replace H := Option.bind_eq_some_iff.mp H
              obtain ⟨t705, A340, H⟩ := H
              replace H : (some ((t701.toList == t703.toList) == t705)) = some r := H
              have A34 := Aside0.mk A340
              clear A340
              obtain rfl := Option.some.inj H
              have hnb35 := NB696_697.out
              have hnc35 := NB697_696.out
              have hcz36_0 : wc.cell? ⟨gb696, 0, none⟩ = some (.slice A0_0 l0_0.length c0_0) := (blk_cell BK696.out 0).trans rfl
              have hcz36_1 : wc.cell? ⟨gb696, 1, none⟩ = some (.int .i64 a0_1) := (blk_cell BK696.out 1).trans rfl
              have hfz36_0 := blk_frozen BK696.out 0
              have hfz36_1 := blk_frozen BK696.out 1
              go_wp2_with (first | ((with_reducible refine gate_callee (f := 36) rfl ?_); refine goesL_ (some 33) rfl rfl Tryd.func36 (by kernel_rfl) rfl #[.agg #[.slice A0_0 l0_0.length c0_0, .int .i64 a0_1]] rfl (by (try simp only [List.map_toArray, List.map_cons, List.map_nil]); first | done | rfl | (simp only [List.length_drop, List.length_take]; rfl)) ?_; (with_reducible refine (listing_Text.calls _ _ l0_0 a0_1 t701 t702 _ ?side1 ?side2 ?side3 ?side4 A30.out).mono ?_); (case side1 => exact GK.below HGK.out (by repeat (first | (with_reducible first | exact HB.out | apply below_alloc | apply pw_below_drewN | apply below_drew1 | refine below_set ?_ GE696.out | refine below_set ?_ GE697.out) | exact HB.out))); (case side2 => exact GT.below HGT.out (by repeat (first | (with_reducible first | exact HB.out | apply below_alloc | apply pw_below_drewN | apply below_drew1 | refine below_set ?_ GE696.out | refine below_set ?_ GE697.out) | exact HB.out))); (case side3 => repeat (first | exact (Kd.C_below HR0_0.out HB.out) | (with_reducible refine Kd.C_alloc ?_ _) | (with_reducible refine Kd.C_drewN ?_ _) | (with_reducible refine Kd.C_drew ?_))); (case side4 => exact HC0_0.out); rintro e w37 ⟨rfl, hb⟩; refine ⟨_, rfl, ?_⟩; have n0_ := Aside0.mk (blk_below (g := gb696) (o := .cells #[.slice A0_0 l0_0.length c0_0, .int .i64 a0_1] 28 (0, 0)) (by (with_reducible repeat (first | refine blk_drewN ?_ _ | refine blk_drew ?_ | refine blk_alloc ?_ _)); exact BK696.out) hb); have n1_ := Aside0.mk (blk_below (g := gb697) (o := .cells #[.slice A1_0 l1_0.length c1_0, .int .i64 a1_1] 28 (0, 0)) (by (with_reducible repeat (first | refine blk_drewN ?_ _ | refine blk_drew ?_ | refine blk_alloc ?_ _)); exact BK697.out) hb); have n2_ := Aside0.mk (below_step (by repeat (first | (with_reducible first | exact HB.out | apply below_alloc | apply pw_below_drewN | apply below_drew1 | refine below_set ?_ GE696.out | refine below_set ?_ GE697.out) | exact HB.out)) hb); clear BK696; clear BK697; clear HB; have BK696 := n0_; have BK697 := n1_; have HB := n2_; clear n0_ n1_ n2_; (try clear hb); (try clear hb2); (try clear hk); (try clear hi); have hcz38_0 : w37.cell? ⟨gb697, 0, none⟩ = some (.slice A1_0 l1_0.length c1_0) := (blk_cell BK697.out 0).trans rfl; have hcz38_1 : w37.cell? ⟨gb697, 1, none⟩ = some (.int .i64 a1_1) := (blk_cell BK697.out 1).trans rfl; have hfz38_0 := blk_frozen BK697.out 0; have hfz38_1 := blk_frozen BK697.out 1) | ((with_reducible refine gate_callee (f := 36) rfl ?_); refine goesL_ (some 38) rfl rfl Tryd.func36 (by kernel_rfl) rfl #[.agg #[.slice A1_0 l1_0.length c1_0, .int .i64 a1_1]] rfl (by (try simp only [List.map_toArray, List.map_cons, List.map_nil]); first | done | rfl | (simp only [List.length_drop, List.length_take]; rfl)) ?_; (with_reducible refine (listing_Text.calls _ _ l1_0 a1_1 t703 t704 _ ?side1 ?side2 ?side3 ?side4 A31.out).mono ?_); (case side1 => exact GK.below HGK.out (by repeat (first | (with_reducible first | exact HB.out | apply below_alloc | apply pw_below_drewN | apply below_drew1 | refine below_set ?_ GE696.out | refine below_set ?_ GE697.out) | exact HB.out))); (case side2 => exact GT.below HGT.out (by repeat (first | (with_reducible first | exact HB.out | apply below_alloc | apply pw_below_drewN | apply below_drew1 | refine below_set ?_ GE696.out | refine below_set ?_ GE697.out) | exact HB.out))); (case side3 => repeat (first | exact (Kd.C_below HR1_0.out HB.out) | (with_reducible refine Kd.C_alloc ?_ _) | (with_reducible refine Kd.C_drewN ?_ _) | (with_reducible refine Kd.C_drew ?_))); (case side4 => exact HC1_0.out); rintro e w39 ⟨rfl, hb⟩; refine ⟨_, rfl, ?_⟩; have n0_ := Aside0.mk (blk_below (g := gb696) (o := .cells #[.slice A0_0 l0_0.length c0_0, .int .i64 a0_1] 28 (0, 0)) (by (with_reducible repeat (first | refine blk_drewN ?_ _ | refine blk_drew ?_ | refine blk_alloc ?_ _)); exact BK696.out) hb); have n1_ := Aside0.mk (blk_below (g := gb697) (o := .cells #[.slice A1_0 l1_0.length c1_0, .int .i64 a1_1] 28 (0, 0)) (by (with_reducible repeat (first | refine blk_drewN ?_ _ | refine blk_drew ?_ | refine blk_alloc ?_ _)); exact BK697.out) hb); have n2_ := Aside0.mk (below_step (by repeat (first | (with_reducible first | exact HB.out | apply below_alloc | apply pw_below_drewN | apply below_drew1 | refine below_set ?_ GE696.out | refine below_set ?_ GE697.out) | exact HB.out)) hb); clear BK696; clear BK697; clear HB; have BK696 := n0_; have BK697 := n1_; have HB := n2_; clear n0_ n1_ n2_; (try clear hb); (try clear hb2); (try clear hk); (try clear hi); have hcz40_0 : w39.cell? ⟨gb696, 0, none⟩ = some (.slice A0_0 l0_0.length c0_0) := (blk_cell BK696.out 0).trans rfl; have hcz40_1 : w39.cell? ⟨gb696, 1, none⟩ = some (.int .i64 a0_1) := (blk_cell BK696.out 1).trans rfl; have hfz40_0 := blk_frozen BK696.out 0; have hfz40_1 := blk_frozen BK696.out 1; have hcz41_0 : w39.cell? ⟨gb697, 0, none⟩ = some (.slice A1_0 l1_0.length c1_0) := (blk_cell BK697.out 0).trans rfl; have hcz41_1 : w39.cell? ⟨gb697, 1, none⟩ = some (.int .i64 a1_1) := (blk_cell BK697.out 1).trans rfl; have hfz41_0 := blk_frozen BK697.out 0; have hfz41_1 := blk_frozen BK697.out 1) | (go_at_call 57; (with_reducible refine (seedcornref08_Same.calls kj4 _ _ l0_0 a0_1 _ _ l1_0 a1_1 t705 _ ?side1 ?side2 ?side3 ?side4 A34.out).mono ?_); (case side1 => repeat (first | exact (Kd.C_below HR0_0.out HB.out) | (with_reducible refine Kd.C_alloc ?_ _) | (with_reducible refine Kd.C_drewN ?_ _) | (with_reducible refine Kd.C_drew ?_))); (case side2 => exact HC0_0.out); (case side3 => repeat (first | exact (Kd.C_below HR1_0.out HB.out) | (with_reducible refine Kd.C_alloc ?_ _) | (with_reducible refine Kd.C_drewN ?_ _) | (with_reducible refine Kd.C_drew ?_))); (case side4 => exact HC1_0.out); rintro e w42 ⟨rfl, hb⟩; have n0_ := Aside0.mk (blk_below (g := gb696) (o := .cells #[.slice A0_0 l0_0.length c0_0, .int .i64 a0_1] 28 (0, 0)) (by (with_reducible repeat (first | refine blk_drewN ?_ _ | refine blk_drew ?_ | refine blk_alloc ?_ _)); exact BK696.out) hb); have n1_ := Aside0.mk (blk_below (g := gb697) (o := .cells #[.slice A1_0 l1_0.length c1_0, .int .i64 a1_1] 28 (0, 0)) (by (with_reducible repeat (first | refine blk_drewN ?_ _ | refine blk_drew ?_ | refine blk_alloc ?_ _)); exact BK697.out) hb); have n2_ := Aside0.mk (below_step (by repeat (first | (with_reducible first | exact HB.out | apply below_alloc | apply pw_below_drewN | apply below_drew1 | refine below_set ?_ GE696.out | refine below_set ?_ GE697.out) | exact HB.out)) hb); clear BK696; clear BK697; clear HB; have BK696 := n0_; have BK697 := n1_; have HB := n2_; clear n0_ n1_ n2_; (try clear hb); (try clear hb2); (try clear hk); (try clear hi)))
              go_ret
              exact ⟨by first | rfl | (simp [errW_none, errW_some] <;> rfl) | (simp [*, errW_none, errW_some] <;> rfl), by repeat (first | (with_reducible first | exact HB.out | apply below_alloc | apply pw_below_drewN | apply below_drew1 | refine below_set ?_ GE696.out | refine below_set ?_ GE697.out) | exact HB.out)⟩
            · rw [if_neg c33] at H
              have c33b0 : (t704 == 0) = false := beq_eq_false_iff_ne.mpr c33
              have c33b1 : (t704 != 0) = true := bne_iff_ne.mpr c33
              obtain rfl := Option.some.inj H
              have hnb43 := NB696_697.out
              have hnc43 := NB697_696.out
              have hcz44_0 : wc.cell? ⟨gb696, 0, none⟩ = some (.slice A0_0 l0_0.length c0_0) := (blk_cell BK696.out 0).trans rfl
              have hcz44_1 : wc.cell? ⟨gb696, 1, none⟩ = some (.int .i64 a0_1) := (blk_cell BK696.out 1).trans rfl
              have hfz44_0 := blk_frozen BK696.out 0
              have hfz44_1 := blk_frozen BK696.out 1
              go_wp2_with (first | ((with_reducible refine gate_callee (f := 36) rfl ?_); refine goesL_ (some 33) rfl rfl Tryd.func36 (by kernel_rfl) rfl #[.agg #[.slice A0_0 l0_0.length c0_0, .int .i64 a0_1]] rfl (by (try simp only [List.map_toArray, List.map_cons, List.map_nil]); first | done | rfl | (simp only [List.length_drop, List.length_take]; rfl)) ?_; (with_reducible refine (listing_Text.calls _ _ l0_0 a0_1 t701 t702 _ ?side1 ?side2 ?side3 ?side4 A30.out).mono ?_); (case side1 => exact GK.below HGK.out (by repeat (first | (with_reducible first | exact HB.out | apply below_alloc | apply pw_below_drewN | apply below_drew1 | refine below_set ?_ GE696.out | refine below_set ?_ GE697.out) | exact HB.out))); (case side2 => exact GT.below HGT.out (by repeat (first | (with_reducible first | exact HB.out | apply below_alloc | apply pw_below_drewN | apply below_drew1 | refine below_set ?_ GE696.out | refine below_set ?_ GE697.out) | exact HB.out))); (case side3 => repeat (first | exact (Kd.C_below HR0_0.out HB.out) | (with_reducible refine Kd.C_alloc ?_ _) | (with_reducible refine Kd.C_drewN ?_ _) | (with_reducible refine Kd.C_drew ?_))); (case side4 => exact HC0_0.out); rintro e w45 ⟨rfl, hb⟩; refine ⟨_, rfl, ?_⟩; have n0_ := Aside0.mk (blk_below (g := gb696) (o := .cells #[.slice A0_0 l0_0.length c0_0, .int .i64 a0_1] 28 (0, 0)) (by (with_reducible repeat (first | refine blk_drewN ?_ _ | refine blk_drew ?_ | refine blk_alloc ?_ _)); exact BK696.out) hb); have n1_ := Aside0.mk (blk_below (g := gb697) (o := .cells #[.slice A1_0 l1_0.length c1_0, .int .i64 a1_1] 28 (0, 0)) (by (with_reducible repeat (first | refine blk_drewN ?_ _ | refine blk_drew ?_ | refine blk_alloc ?_ _)); exact BK697.out) hb); have n2_ := Aside0.mk (below_step (by repeat (first | (with_reducible first | exact HB.out | apply below_alloc | apply pw_below_drewN | apply below_drew1 | refine below_set ?_ GE696.out | refine below_set ?_ GE697.out) | exact HB.out)) hb); clear BK696; clear BK697; clear HB; have BK696 := n0_; have BK697 := n1_; have HB := n2_; clear n0_ n1_ n2_; (try clear hb); (try clear hb2); (try clear hk); (try clear hi); have hcz46_0 : w45.cell? ⟨gb697, 0, none⟩ = some (.slice A1_0 l1_0.length c1_0) := (blk_cell BK697.out 0).trans rfl; have hcz46_1 : w45.cell? ⟨gb697, 1, none⟩ = some (.int .i64 a1_1) := (blk_cell BK697.out 1).trans rfl; have hfz46_0 := blk_frozen BK697.out 0; have hfz46_1 := blk_frozen BK697.out 1) | ((with_reducible refine gate_callee (f := 36) rfl ?_); refine goesL_ (some 38) rfl rfl Tryd.func36 (by kernel_rfl) rfl #[.agg #[.slice A1_0 l1_0.length c1_0, .int .i64 a1_1]] rfl (by (try simp only [List.map_toArray, List.map_cons, List.map_nil]); first | done | rfl | (simp only [List.length_drop, List.length_take]; rfl)) ?_; (with_reducible refine (listing_Text.calls _ _ l1_0 a1_1 t703 t704 _ ?side1 ?side2 ?side3 ?side4 A31.out).mono ?_); (case side1 => exact GK.below HGK.out (by repeat (first | (with_reducible first | exact HB.out | apply below_alloc | apply pw_below_drewN | apply below_drew1 | refine below_set ?_ GE696.out | refine below_set ?_ GE697.out) | exact HB.out))); (case side2 => exact GT.below HGT.out (by repeat (first | (with_reducible first | exact HB.out | apply below_alloc | apply pw_below_drewN | apply below_drew1 | refine below_set ?_ GE696.out | refine below_set ?_ GE697.out) | exact HB.out))); (case side3 => repeat (first | exact (Kd.C_below HR1_0.out HB.out) | (with_reducible refine Kd.C_alloc ?_ _) | (with_reducible refine Kd.C_drewN ?_ _) | (with_reducible refine Kd.C_drew ?_))); (case side4 => exact HC1_0.out); rintro e w47 ⟨rfl, hb⟩; refine ⟨_, rfl, ?_⟩; have n0_ := Aside0.mk (blk_below (g := gb696) (o := .cells #[.slice A0_0 l0_0.length c0_0, .int .i64 a0_1] 28 (0, 0)) (by (with_reducible repeat (first | refine blk_drewN ?_ _ | refine blk_drew ?_ | refine blk_alloc ?_ _)); exact BK696.out) hb); have n1_ := Aside0.mk (blk_below (g := gb697) (o := .cells #[.slice A1_0 l1_0.length c1_0, .int .i64 a1_1] 28 (0, 0)) (by (with_reducible repeat (first | refine blk_drewN ?_ _ | refine blk_drew ?_ | refine blk_alloc ?_ _)); exact BK697.out) hb); have n2_ := Aside0.mk (below_step (by repeat (first | (with_reducible first | exact HB.out | apply below_alloc | apply pw_below_drewN | apply below_drew1 | refine below_set ?_ GE696.out | refine below_set ?_ GE697.out) | exact HB.out)) hb); clear BK696; clear BK697; clear HB; have BK696 := n0_; have BK697 := n1_; have HB := n2_; clear n0_ n1_ n2_; (try clear hb); (try clear hb2); (try clear hk); (try clear hi)))
              go_ret
              exact ⟨by first | rfl | (simp [errW_none, errW_some] <;> rfl) | (simp [*, errW_none, errW_some] <;> rfl), by repeat (first | (with_reducible first | exact HB.out | apply below_alloc | apply pw_below_drewN | apply below_drew1 | refine below_set ?_ GE696.out | refine below_set ?_ GE697.out) | exact HB.out)⟩
          · rw [if_neg c32] at H
            have c32b0 : (t702 == 0) = false := beq_eq_false_iff_ne.mpr c32
            have c32b1 : (t702 != 0) = true := bne_iff_ne.mpr c32
            obtain rfl := Option.some.inj H
            have hnb48 := NB696_697.out
            have hnc48 := NB697_696.out
            have hcz49_0 : wc.cell? ⟨gb696, 0, none⟩ = some (.slice A0_0 l0_0.length c0_0) := (blk_cell BK696.out 0).trans rfl
            have hcz49_1 : wc.cell? ⟨gb696, 1, none⟩ = some (.int .i64 a0_1) := (blk_cell BK696.out 1).trans rfl
            have hfz49_0 := blk_frozen BK696.out 0
            have hfz49_1 := blk_frozen BK696.out 1
            go_wp2_with (first | ((with_reducible refine gate_callee (f := 36) rfl ?_); refine goesL_ (some 33) rfl rfl Tryd.func36 (by kernel_rfl) rfl #[.agg #[.slice A0_0 l0_0.length c0_0, .int .i64 a0_1]] rfl (by (try simp only [List.map_toArray, List.map_cons, List.map_nil]); first | done | rfl | (simp only [List.length_drop, List.length_take]; rfl)) ?_; (with_reducible refine (listing_Text.calls _ _ l0_0 a0_1 t701 t702 _ ?side1 ?side2 ?side3 ?side4 A30.out).mono ?_); (case side1 => exact GK.below HGK.out (by repeat (first | (with_reducible first | exact HB.out | apply below_alloc | apply pw_below_drewN | apply below_drew1 | refine below_set ?_ GE696.out | refine below_set ?_ GE697.out) | exact HB.out))); (case side2 => exact GT.below HGT.out (by repeat (first | (with_reducible first | exact HB.out | apply below_alloc | apply pw_below_drewN | apply below_drew1 | refine below_set ?_ GE696.out | refine below_set ?_ GE697.out) | exact HB.out))); (case side3 => repeat (first | exact (Kd.C_below HR0_0.out HB.out) | (with_reducible refine Kd.C_alloc ?_ _) | (with_reducible refine Kd.C_drewN ?_ _) | (with_reducible refine Kd.C_drew ?_))); (case side4 => exact HC0_0.out); rintro e w50 ⟨rfl, hb⟩; refine ⟨_, rfl, ?_⟩; have n0_ := Aside0.mk (blk_below (g := gb696) (o := .cells #[.slice A0_0 l0_0.length c0_0, .int .i64 a0_1] 28 (0, 0)) (by (with_reducible repeat (first | refine blk_drewN ?_ _ | refine blk_drew ?_ | refine blk_alloc ?_ _)); exact BK696.out) hb); have n1_ := Aside0.mk (blk_below (g := gb697) (o := .cells #[.slice A1_0 l1_0.length c1_0, .int .i64 a1_1] 28 (0, 0)) (by (with_reducible repeat (first | refine blk_drewN ?_ _ | refine blk_drew ?_ | refine blk_alloc ?_ _)); exact BK697.out) hb); have n2_ := Aside0.mk (below_step (by repeat (first | (with_reducible first | exact HB.out | apply below_alloc | apply pw_below_drewN | apply below_drew1 | refine below_set ?_ GE696.out | refine below_set ?_ GE697.out) | exact HB.out)) hb); clear BK696; clear BK697; clear HB; have BK696 := n0_; have BK697 := n1_; have HB := n2_; clear n0_ n1_ n2_; (try clear hb); (try clear hb2); (try clear hk); (try clear hi); have hcz51_0 : w50.cell? ⟨gb697, 0, none⟩ = some (.slice A1_0 l1_0.length c1_0) := (blk_cell BK697.out 0).trans rfl; have hcz51_1 : w50.cell? ⟨gb697, 1, none⟩ = some (.int .i64 a1_1) := (blk_cell BK697.out 1).trans rfl; have hfz51_0 := blk_frozen BK697.out 0; have hfz51_1 := blk_frozen BK697.out 1) | ((with_reducible refine gate_callee (f := 36) rfl ?_); refine goesL_ (some 38) rfl rfl Tryd.func36 (by kernel_rfl) rfl #[.agg #[.slice A1_0 l1_0.length c1_0, .int .i64 a1_1]] rfl (by (try simp only [List.map_toArray, List.map_cons, List.map_nil]); first | done | rfl | (simp only [List.length_drop, List.length_take]; rfl)) ?_; (with_reducible refine (listing_Text.calls _ _ l1_0 a1_1 t703 t704 _ ?side1 ?side2 ?side3 ?side4 A31.out).mono ?_); (case side1 => exact GK.below HGK.out (by repeat (first | (with_reducible first | exact HB.out | apply below_alloc | apply pw_below_drewN | apply below_drew1 | refine below_set ?_ GE696.out | refine below_set ?_ GE697.out) | exact HB.out))); (case side2 => exact GT.below HGT.out (by repeat (first | (with_reducible first | exact HB.out | apply below_alloc | apply pw_below_drewN | apply below_drew1 | refine below_set ?_ GE696.out | refine below_set ?_ GE697.out) | exact HB.out))); (case side3 => repeat (first | exact (Kd.C_below HR1_0.out HB.out) | (with_reducible refine Kd.C_alloc ?_ _) | (with_reducible refine Kd.C_drewN ?_ _) | (with_reducible refine Kd.C_drew ?_))); (case side4 => exact HC1_0.out); rintro e w52 ⟨rfl, hb⟩; refine ⟨_, rfl, ?_⟩; have n0_ := Aside0.mk (blk_below (g := gb696) (o := .cells #[.slice A0_0 l0_0.length c0_0, .int .i64 a0_1] 28 (0, 0)) (by (with_reducible repeat (first | refine blk_drewN ?_ _ | refine blk_drew ?_ | refine blk_alloc ?_ _)); exact BK696.out) hb); have n1_ := Aside0.mk (blk_below (g := gb697) (o := .cells #[.slice A1_0 l1_0.length c1_0, .int .i64 a1_1] 28 (0, 0)) (by (with_reducible repeat (first | refine blk_drewN ?_ _ | refine blk_drew ?_ | refine blk_alloc ?_ _)); exact BK697.out) hb); have n2_ := Aside0.mk (below_step (by repeat (first | (with_reducible first | exact HB.out | apply below_alloc | apply pw_below_drewN | apply below_drew1 | refine below_set ?_ GE696.out | refine below_set ?_ GE697.out) | exact HB.out)) hb); clear BK696; clear BK697; clear HB; have BK696 := n0_; have BK697 := n1_; have HB := n2_; clear n0_ n1_ n2_; (try clear hb); (try clear hb2); (try clear hk); (try clear hi)))
            go_ret
            exact ⟨by first | rfl | (simp [errW_none, errW_some] <;> rfl) | (simp [*, errW_none, errW_some] <;> rfl), by repeat (first | (with_reducible first | exact HB.out | apply below_alloc | apply pw_below_drewN | apply below_drew1 | refine below_set ?_ GE696.out | refine below_set ?_ GE697.out) | exact HB.out)⟩
  · replace c4 := Bool.eq_false_iff.mpr c4
    subst c4
    have H1 : (some false) = some r := by rw [if_neg (show ¬ (false = true) by decide)] at H; exact H
    clear H
    have H := H1
    clear H1
    obtain rfl := Option.some.inj H
    go_enter Tryd.func21, Tryd.ntmps21
    go_wp2_with (first | ((with_reducible refine gate_dst (N := 2) rfl ?_); (try (refine gate_guard (by rfl) ?_; dsimp only)); refine box_event ?hg (N := 2) ?hd (cs := #[.slice A0_0 l0_0.length c0_0, .int .i64 a0_1]) (t := 28) ?hr ?_; (case hd => rfl); (case hg => rfl); (case hr => first | (go_simp; done) | (go_simp; rfl)); intro gb696 hg w53 hbox hb; have n0_ := Aside0.mk (below_step (by repeat (first | (with_reducible first | exact HB.out | apply below_alloc | apply pw_below_drewN | apply below_drew1) | exact HB.out)) hb); have n1_ := Aside0.mk (hbox); have n2_ := Aside0.mk ((by rw [hg]; exact (below_size (by repeat (first | (with_reducible first | exact HB.out | apply below_alloc | apply pw_below_drewN | apply below_drew1) | exact HB.out))) : w.heap.size ≤ gb696)); have n3_ := Aside0.mk ((by rw [hg]; exact (below_size (by repeat (first | (with_reducible first | exact HB.out | apply below_alloc | apply pw_below_drewN | apply below_drew1) | exact HB.out))) : w.heap.size ≤ gb696)); clear HB; have HB := n0_; have BK696 := n1_; have GW696 := n2_; have GE696 := n3_; clear n0_ n1_ n2_ n3_; clear hb hbox hg) | ((with_reducible refine gate_dst (N := 3) rfl ?_); (try (refine gate_guard (by rfl) ?_; dsimp only)); refine box_event ?hg (N := 3) ?hd (cs := #[.slice A1_0 l1_0.length c1_0, .int .i64 a1_1]) (t := 28) ?hr ?_; (case hd => rfl); (case hg => rfl); (case hr => first | (go_simp; done) | (go_simp; rfl)); intro gb697 hg w54 hbox hb; have n0_ := Aside0.mk (blk_below (g := gb696) (o := .cells #[.slice A0_0 l0_0.length c0_0, .int .i64 a0_1] 28 (0, 0)) (by (with_reducible repeat (first | refine blk_drewN ?_ _ | refine blk_drew ?_ | refine blk_alloc ?_ _)); exact BK696.out) hb); have n1_ := Aside0.mk (below_step (by repeat (first | (with_reducible first | exact HB.out | apply below_alloc | apply pw_below_drewN | apply below_drew1 | refine below_set ?_ GE696.out) | exact HB.out)) hb); have n2_ := Aside0.mk (hbox); have n3_ := Aside0.mk ((by rw [hg]; exact (below_size (by repeat (first | (with_reducible first | exact HB.out | apply below_alloc | apply pw_below_drewN | apply below_drew1 | refine below_set ?_ GE696.out) | exact HB.out))) : w.heap.size ≤ gb697)); have n4_ := Aside0.mk ((by rw [hg]; exact (below_size (by repeat (first | (with_reducible first | exact HB.out | apply below_alloc | apply pw_below_drewN | apply below_drew1 | refine below_set ?_ GE696.out) | exact HB.out))) : w.heap.size ≤ gb697)); have n5_ := Aside0.mk ((by rw [hg]; exact Nat.ne_of_lt (blk_lt (g := gb696) (o := .cells #[.slice A0_0 l0_0.length c0_0, .int .i64 a0_1] 28 (0, 0)) (by (with_reducible repeat (first | refine blk_drewN ?_ _ | refine blk_drew ?_ | refine blk_alloc ?_ _)); exact BK696.out)) : gb696 ≠ gb697)); have n6_ := Aside0.mk ((by rw [hg]; exact Nat.ne_of_gt (blk_lt (g := gb696) (o := .cells #[.slice A0_0 l0_0.length c0_0, .int .i64 a0_1] 28 (0, 0)) (by (with_reducible repeat (first | refine blk_drewN ?_ _ | refine blk_drew ?_ | refine blk_alloc ?_ _)); exact BK696.out)) : gb697 ≠ gb696)); clear BK696; clear HB; have BK696 := n0_; have HB := n1_; have BK697 := n2_; have GW697 := n3_; have GE697 := n4_; have NB696_697 := n5_; have NB697_696 := n6_; clear n0_ n1_ n2_ n3_ n4_ n5_ n6_; clear hb hbox hg) | ((with_reducible refine gate_callee (f := 33) rfl ?_); refine goesL_ (some 9) rfl rfl Tryd.func33 (by kernel_rfl) rfl #[] rfl (by (try simp only [List.map_toArray, List.map_cons, List.map_nil]); first | done | rfl | (simp only [List.length_drop, List.length_take]; rfl)) ?_; (with_reducible refine (seedcornlaw11_awake.calls  false _ ?side1 ?side2 A3.out).mono ?_); (case side1 => exact GK.below HGK.out (by repeat (first | (with_reducible first | exact HB.out | apply below_alloc | apply pw_below_drewN | apply below_drew1 | refine below_set ?_ GE696.out | refine below_set ?_ GE697.out) | exact HB.out))); (case side2 => exact GT.below HGT.out (by repeat (first | (with_reducible first | exact HB.out | apply below_alloc | apply pw_below_drewN | apply below_drew1 | refine below_set ?_ GE696.out | refine below_set ?_ GE697.out) | exact HB.out))); rintro e w55 ⟨rfl, hb⟩; refine ⟨_, rfl, ?_⟩; have n0_ := Aside0.mk (blk_below (g := gb696) (o := .cells #[.slice A0_0 l0_0.length c0_0, .int .i64 a0_1] 28 (0, 0)) (by (with_reducible repeat (first | refine blk_drewN ?_ _ | refine blk_drew ?_ | refine blk_alloc ?_ _)); exact BK696.out) hb); have n1_ := Aside0.mk (blk_below (g := gb697) (o := .cells #[.slice A1_0 l1_0.length c1_0, .int .i64 a1_1] 28 (0, 0)) (by (with_reducible repeat (first | refine blk_drewN ?_ _ | refine blk_drew ?_ | refine blk_alloc ?_ _)); exact BK697.out) hb); have n2_ := Aside0.mk (below_step (by repeat (first | (with_reducible first | exact HB.out | apply below_alloc | apply pw_below_drewN | apply below_drew1 | refine below_set ?_ GE696.out | refine below_set ?_ GE697.out) | exact HB.out)) hb); clear BK696; clear BK697; clear HB; have BK696 := n0_; have BK697 := n1_; have HB := n2_; clear n0_ n1_ n2_; (try clear hb); (try clear hb2); (try clear hk); (try clear hi)))
    go_ret
    exact ⟨by first | rfl | (simp [errW_none, errW_some] <;> rfl) | (simp [*, errW_none, errW_some] <;> rfl), by repeat (first | (with_reducible first | exact HB.out | apply below_alloc | apply pw_below_drewN | apply below_drew1 | refine below_set ?_ GE696.out | refine below_set ?_ GE697.out) | exact HB.out)⟩
end Go.Proofs.YtdhkmdgieflioaaDoor.F
namespace Go.Proofs.YtdhkmdgieflioaaDoor.F
open Go.RowKit Go.Proofs.YtdhkmdgieflioaaDoorW.PrintWords Go.Proofs.YtdhkmdgieflioaaDoorW.PrintLast Go.Proofs.YtdhkmdgieflioaaDoorW.PrintMore
set_option linter.unusedVariables false
set_option linter.unusedSimpArgs false
theorem same_l (xs ys : List Int) (a b : Int) (hl : xs.length = ys.length) (hx : xs.length ≤ 1000) (d : Nat) : ∀ i : Nat, i + d = xs.length → xs.take i = ys.take i → Ev (fun k => seedcornref08_Same.l0 k (i : Int) xs a ys b) (decide (xs = ys)) := by
  induction d with
  | zero =>
    intro i hi ht
    have e : xs = ys := by
      rw [List.take_of_length_le (by omega), List.take_of_length_le (by omega)] at ht
      exact ht
    refine Ev.step (f := fun _ => some (decide (xs = ys))) (fun k => ?_) (Ev.now _)
    simp only [seedcornref08_Same.l0]
    rw [if_neg (by omega), decide_eq_true e]
  | succ d ih =>
    intro i hi ht
    have hlt : i < xs.length := by omega
    have hlt2 : i < ys.length := by omega
    have hw : wrap64 ((i : Int) + 1) = ((i + 1 : Nat) : Int) := by rw [wrapI (by omega) (by omega)]; omega
    by_cases he : rd xs (i : Int) = rd ys (i : Int)
    · refine Ev.step (f := fun k => seedcornref08_Same.l0 k ((i + 1 : Nat) : Int) xs a ys b) (fun k => ?_) (ih (i + 1) (by omega) ?_)
      · simp only [seedcornref08_Same.l0]
        rw [if_pos (by omega), if_pos (by omega), if_pos (by omega), if_pos he, hw]
      · rw [List.take_add_one, List.take_add_one, ht, rd_at xs i hlt, rd_at ys i hlt2, he]
    · have hne : ¬ xs = ys := by intro e; rw [e] at he; exact he rfl
      refine Ev.step (f := fun _ => some (decide (xs = ys))) (fun k => ?_) (Ev.now _)
      simp only [seedcornref08_Same.l0]
      rw [if_pos (by omega), if_pos (by omega), if_pos (by omega), if_neg he, decide_eq_false hne]
theorem same_ev (xs ys : List Int) (a b : Int) (hx : xs.length ≤ 1000) : Ev (fun k => seedcornref08_Same.f k xs a ys b) (decide (a = b ∧ xs = ys)) := by
  unfold seedcornref08_Same.f
  by_cases hab : a = b
  · refine Ev.congr (fun k => by rw [if_pos hab]) ?_
    by_cases hl : xs.length = ys.length
    · have hb : ((xs.length : Int) != (ys.length : Int)) = false := by rw [bne_eq_false_iff_eq]; omega
      rw [hb]
      have e : decide (a = b ∧ xs = ys) = decide (xs = ys) := by rw [decide_eq_decide]; exact ⟨fun h => h.2, fun h => ⟨hab, h⟩⟩
      rw [e]
      refine Ev.step (f := fun k => seedcornref08_Same.l0 k ((0 : Nat) : Int) xs a ys b) (fun k => ?_) (same_l xs ys a b hl hx xs.length 0 (by omega) rfl)
      simp only [seedcornref08_Same.j0]
      rw [if_neg (by decide)]
      rfl
    · have hb : ((xs.length : Int) != (ys.length : Int)) = true := by rw [bne_iff_ne]; omega
      rw [hb]
      refine Ev.step (f := fun _ => some (decide (a = b ∧ xs = ys))) (fun k => ?_) (Ev.now _)
      simp only [seedcornref08_Same.j0, if_true]
      rw [decide_eq_false (fun h => hl (by rw [h.2]))]
  · refine Ev.congr (fun k => by rw [if_neg hab]) ?_
    refine Ev.step (f := fun _ => some (decide (a = b ∧ xs = ys))) (fun k => ?_) (Ev.now _)
    simp only [seedcornref08_Same.j0, if_true]
    rw [decide_eq_false (fun h => hab h.1)]
theorem apart_j0 (l m : List Int) (a b : Int) (x : Bool) (h1 : okL l = true) (h2 : okL m = true) (h : x = false → (0 ≤ a ∧ a ≤ 32768) ∧ (0 ≤ b ∧ b ≤ 32768)) : Ev (fun k => seedcornlaw11_ListingApart.j0 k x l a m b) true := by
  cases x with
  | true =>
    refine Ev.step (f := fun _ => some true) (fun k => ?_) (Ev.now _)
    simp only [seedcornlaw11_ListingApart.j0, if_true]
  | false =>
    obtain ⟨ha, hb⟩ := h rfl
    refine Ev.step (f := fun k => (seedcornref08_Same.f k l a m b).bind fun t705 => some (((listB l a) == (listB m b)) == t705)) (fun k => ?_) ?_
    · simp only [seedcornlaw11_ListingApart.j0]
      rw [if_neg (by decide), text_f l a h1 ha, text_f m b h2 hb]
      simp only [Option.bind_some, if_true, ba_list]
    · refine Ev.bind (same_ev l m a b (okL_len h1)) ?_
      have e : ((listB l a) == (listB m b)) = decide (a = b ∧ l = m) := by
        by_cases he : a = b ∧ l = m
        · rw [decide_eq_true he, he.1, he.2]; simp
        · rw [decide_eq_false he, beq_eq_false_iff_ne]
          intro hq
          exact he (list_inj (tgtB l) (tgtB m) l m a b (fun x hx => (okL_mem h1 x hx).1) (fun x hx => (okL_mem h2 x hx).1) ha.1 hb.1 hq)
      rw [e]
      simp only [beq_self_eq_true]
      exact Ev.now true
theorem apart_true (l m : List Int) (a b : Int) : Ev (fun k => seedcornlaw11_ListingApart.j0 k true l a m b) true := by
  refine Ev.step (f := fun _ => some true) (fun k => ?_) (Ev.now _)
  simp only [seedcornlaw11_ListingApart.j0, if_true]
theorem listingApart_pure (l : List Int) (a : Int) (m : List Int) (b : Int) (h1 : inR l) {q1 : Prop} (_ : q1) (h2 : inR m) {q2 : Prop} (_ : q2) : ∃ k, seedcornlaw11_ListingApart.f k l a m b = some true := by
  refine Ev.rounds (g := fun k => seedcornlaw11_ListingApart.f k l a m b) ?_
  unfold seedcornlaw11_ListingApart.f
  rw [awake11, right8_f, right8_f]
  simp only [Option.bind_some, if_true]
  by_cases hl : (l.length : Int) > 100
  · exact Ev.congr (fun k => by rw [if_pos hl]) (apart_true l m a b)
  · refine Ev.congr (fun k => by rw [if_neg hl]) ?_
    by_cases hm : (m.length : Int) > 100
    · exact Ev.congr (fun k => by rw [if_pos hm]) (apart_true l m a b)
    · refine Ev.congr (fun k => by rw [if_neg hm]) ?_
      by_cases hr : l.length ≤ 16384 ∧ 0 ≤ a ∧ a ≤ 32768
      · refine Ev.congr (fun k => by rw [decide_eq_true hr, if_pos rfl]) ?_
        exact apart_j0 l m a b _ (inR_okL h1 (by omega)) (inR_okL h2 (by omega)) (fun hx => ⟨hr.2, by
          have : decide (m.length ≤ 16384 ∧ 0 ≤ b ∧ b ≤ 32768) = true := by simpa using hx
          exact (of_decide_eq_true this).2⟩)
      · exact Ev.congr (fun k => by rw [decide_eq_false hr, if_neg (by decide)]) (apart_true l m a b)
end Go.Proofs.YtdhkmdgieflioaaDoor.F
namespace Go.Proofs.YtdhkmdgieflioaaDoor.F
open Go.RowKit Go.Proofs.YtdhkmdgieflioaaDoorW.PrintWords Go.Proofs.YtdhkmdgieflioaaDoorW.PrintLast Go.Proofs.YtdhkmdgieflioaaDoorW.PrintMore
attribute [local go_sem] max2_int min2_int max_two min_two max_three min_three max_four min_four
set_option linter.unusedVariables false
set_option linter.unusedSimpArgs false
def seedcornlaw11_ListingData.j0 : Nat → Int → Bool → List Int → Int → Option (Bool)
  | 0, _, _, _, _ => none
  | k + 1, x1, x25, x575000, x575001 => if x25 = true then (some true) else ((listing_Text.f x575000 x575001).bind fun bt577 => ((listing_Text.f x575000 (wrap64 (x1))).bind fun bt579 => ((word_Text.f ((x575001) % 4294967296)).bind fun t581 => ((word_Text.f ((x1) % 4294967296)).bind fun t582 => (if bt577.2 = 0 then (if bt579.2 = 0 then (if (bt577.1.size : Int) ≥ (wrap64 (7 + (t581.size : Int))) then (if (bt579.1.size : Int) ≥ (wrap64 (7 + (t582.size : Int))) then (if 0 ≤ (wrap64 (7 + (t581.size : Int))) then (if (wrap64 (7 + (t581.size : Int))) ≤ (bt577.1.size : Int) then (if 0 ≤ (wrap64 (7 + (t582.size : Int))) then (if (wrap64 (7 + (t582.size : Int))) ≤ (bt579.1.size : Int) then (some ((bt577.1.extract ((wrap64 (7 + (t581.size : Int))) : Int).toNat bt577.1.size).toList == (bt579.1.extract ((wrap64 (7 + (t582.size : Int))) : Int).toNat bt579.1.size).toList)) else (none)) else (none)) else (none)) else (none)) else (some false)) else (some false)) else (some false)) else (some false))))))
def seedcornlaw11_ListingData.f (k : Nat) (l0_0 : List Int) (a0_1 : Int) (a1 : Int) : Option (Bool) := (seedcornlaw11_awake.f).bind fun t575 => (if t575 = true then (if (l0_0.length : Int) > 100 then (seedcornlaw11_ListingData.j0 k a1 true l0_0 a0_1) else ((seedcornref08_Right.f l0_0 a0_1).bind fun t576 => (if t576 = true then (seedcornlaw11_ListingData.j0 k a1 (decide (a1 > 32768)) l0_0 a0_1) else (seedcornlaw11_ListingData.j0 k a1 true l0_0 a0_1)))) else (some false))
theorem seedcornlaw11_ListingData.mono_l : ∀ k, (∀ y0 y1 y2 y3, LeO (seedcornlaw11_ListingData.j0 k y0 y1 y2 y3) (seedcornlaw11_ListingData.j0 (k + 1) y0 y1 y2 y3))
  | 0 => fun _ _ _ _ r h => by simp [seedcornlaw11_ListingData.j0] at h
  | k + 1 => by
    have ih0 := seedcornlaw11_ListingData.mono_l k
    · intro y0 y1 y2 y3
      unfold seedcornlaw11_ListingData.j0
      repeat' first
      | (with_reducible exact ih0 _ _ _ _)
      | (with_reducible exact LeO.refl _)
      | (with_reducible exact LeO.none _)
      | (with_reducible refine LeO.ite ?_ ?_)
      | (with_reducible refine LeO.bind ?_ (fun _ => ?_))
      | exact ih0 _ _ _ _
      | exact LeO.none _
      | refine LeO.ite ?_ ?_
      | refine LeO.bind ?_ (fun _ => ?_)
theorem seedcornlaw11_ListingData.mono : ∀ a0 a1 a2 k, LeO (seedcornlaw11_ListingData.f k a0 a1 a2) (seedcornlaw11_ListingData.f (k + 1) a0 a1 a2) := by
  intro a0 a1 a2 k
  have ih0 := seedcornlaw11_ListingData.mono_l k
  unfold seedcornlaw11_ListingData.f
  repeat' first
      | (with_reducible exact ih0 _ _ _ _)
      | (with_reducible exact LeO.refl _)
      | (with_reducible exact LeO.none _)
      | (with_reducible refine LeO.ite ?_ ?_)
      | (with_reducible refine LeO.bind ?_ (fun _ => ?_))
      | exact ih0 _ _ _ _
      | exact LeO.none _
      | refine LeO.ite ?_ ?_
      | refine LeO.bind ?_ (fun _ => ?_)
set_option maxHeartbeats 8000000 in
set_option maxRecDepth 100000 in
theorem seedcornlaw11_ListingData.calls (k : Nat) (A0_0 : Option Addr) (c0_0 : Nat) (l0_0 : List Int) (a0_1 : Int) (a1 : Int) (r : Bool) (w : World) (hGK : GK w) (hGT : GT w) (hr0_0 : Kd.C (Kd.int .u32) w A0_0 l0_0.length l0_0) (hc0_0 : l0_0.length ≤ c0_0) (h : seedcornlaw11_ListingData.f k l0_0 a0_1 a1 = some r) :
    Calls Tryd.prog 10 #[.agg #[.slice A0_0 l0_0.length c0_0, .int .i64 a0_1], .int .u16 a1] w fun e w' => e = .returned (.bool r) ∧ Below w.heap.size w w' := by
  have hu28 := Tryd.underlying28
  have HR0_0 := Aside0.mk hr0_0
  have HC0_0 := Aside0.mk hc0_0
  clear hr0_0 hc0_0
  have HGK := Aside0.mk hGK
  clear hGK
  have HGT := Aside0.mk hGT
  clear hGT
  have HB := Aside0.mk (Below.refl w.heap.size w)
  have H : ((seedcornlaw11_awake.f).bind fun t575 => (if t575 = true then (if (l0_0.length : Int) > 100 then (seedcornlaw11_ListingData.j0 k a1 true l0_0 a0_1) else ((seedcornref08_Right.f l0_0 a0_1).bind fun t576 => (if t576 = true then (seedcornlaw11_ListingData.j0 k a1 (decide (a1 > 32768)) l0_0 a0_1) else (seedcornlaw11_ListingData.j0 k a1 true l0_0 a0_1)))) else (some false))) = some r := h
  clear h
  replace H := Option.bind_eq_some_iff.mp H
  obtain ⟨t575, A30, H⟩ := H
  replace H : (if t575 = true then (if (l0_0.length : Int) > 100 then (seedcornlaw11_ListingData.j0 k a1 true l0_0 a0_1) else ((seedcornref08_Right.f l0_0 a0_1).bind fun t576 => (if t576 = true then (seedcornlaw11_ListingData.j0 k a1 (decide (a1 > 32768)) l0_0 a0_1) else (seedcornlaw11_ListingData.j0 k a1 true l0_0 a0_1)))) else (some false)) = some r := H
  have A3 := Aside0.mk A30
  clear A30
  by_cases c4 : t575 = true
  · subst c4
    have H1 : (if (l0_0.length : Int) > 100 then (seedcornlaw11_ListingData.j0 k a1 true l0_0 a0_1) else ((seedcornref08_Right.f l0_0 a0_1).bind fun t576 => (if t576 = true then (seedcornlaw11_ListingData.j0 k a1 (decide (a1 > 32768)) l0_0 a0_1) else (seedcornlaw11_ListingData.j0 k a1 true l0_0 a0_1)))) = some r := by rw [if_pos rfl] at H; exact H
    clear H
    have H := H1
    clear H1
    have HC5 := Aside0.mk H
    clear H
    go_enter Tryd.func10, Tryd.ntmps10
    go_upto_region 3 with (first | ((with_reducible refine gate_dst (N := 2) rfl ?_); (try (refine gate_guard (by rfl) ?_; dsimp only)); refine box_event ?hg (N := 2) ?hd (cs := #[.slice A0_0 l0_0.length c0_0, .int .i64 a0_1]) (t := 28) ?hr ?_; (case hd => rfl); (case hg => rfl); (case hr => first | (go_simp; done) | (go_simp; rfl)); intro gb574 hg w6 hbox hb; have n0_ := Aside0.mk (below_step (by repeat (first | (with_reducible first | exact HB.out | apply below_alloc | apply pw_below_drewN | apply below_drew1) | exact HB.out)) hb); have n1_ := Aside0.mk (hbox); have n2_ := Aside0.mk ((by rw [hg]; exact (below_size (by repeat (first | (with_reducible first | exact HB.out | apply below_alloc | apply pw_below_drewN | apply below_drew1) | exact HB.out))) : w.heap.size ≤ gb574)); have n3_ := Aside0.mk ((by rw [hg]; exact (below_size (by repeat (first | (with_reducible first | exact HB.out | apply below_alloc | apply pw_below_drewN | apply below_drew1) | exact HB.out))) : w.heap.size ≤ gb574)); clear HB; have HB := n0_; have BK574 := n1_; have GW574 := n2_; have GE574 := n3_; clear n0_ n1_ n2_ n3_; clear hb hbox hg) | (go_at_call 33; (with_reducible refine (seedcornlaw11_awake.calls  true _ ?side1 ?side2 A3.out).mono ?_); (case side1 => exact GK.below HGK.out (by repeat (first | (with_reducible first | exact HB.out | apply below_alloc | apply pw_below_drewN | apply below_drew1 | refine below_set ?_ GE574.out) | exact HB.out))); (case side2 => exact GT.below HGT.out (by repeat (first | (with_reducible first | exact HB.out | apply below_alloc | apply pw_below_drewN | apply below_drew1 | refine below_set ?_ GE574.out) | exact HB.out))); rintro e w7 ⟨rfl, hb⟩; have n0_ := Aside0.mk (blk_below (g := gb574) (o := .cells #[.slice A0_0 l0_0.length c0_0, .int .i64 a0_1] 28 (0, 0)) (by (with_reducible repeat (first | refine blk_drewN ?_ _ | refine blk_drew ?_ | refine blk_alloc ?_ _)); exact BK574.out) hb); have n1_ := Aside0.mk (below_step (by repeat (first | (with_reducible first | exact HB.out | apply below_alloc | apply pw_below_drewN | apply below_drew1 | refine below_set ?_ GE574.out) | exact HB.out)) hb); clear BK574; clear HB; have BK574 := n0_; have HB := n1_; clear n0_ n1_; (try clear hb); (try clear hb2); (try clear hk); (try clear hi)))
    repeat (go_quiet (first | ((with_reducible refine gate_dst (N := 2) rfl ?_); (try (refine gate_guard (by rfl) ?_; dsimp only)); refine box_event ?hg (N := 2) ?hd (cs := #[.slice A0_0 l0_0.length c0_0, .int .i64 a0_1]) (t := 28) ?hr ?_; (case hd => rfl); (case hg => rfl); (case hr => first | (go_simp; done) | (go_simp; rfl)); intro gb574 hg w6 hbox hb; have n0_ := Aside0.mk (below_step (by repeat (first | (with_reducible first | exact HB.out | apply below_alloc | apply pw_below_drewN | apply below_drew1) | exact HB.out)) hb); have n1_ := Aside0.mk (hbox); have n2_ := Aside0.mk ((by rw [hg]; exact (below_size (by repeat (first | (with_reducible first | exact HB.out | apply below_alloc | apply pw_below_drewN | apply below_drew1) | exact HB.out))) : w.heap.size ≤ gb574)); have n3_ := Aside0.mk ((by rw [hg]; exact (below_size (by repeat (first | (with_reducible first | exact HB.out | apply below_alloc | apply pw_below_drewN | apply below_drew1) | exact HB.out))) : w.heap.size ≤ gb574)); clear HB; have HB := n0_; have BK574 := n1_; have GW574 := n2_; have GE574 := n3_; clear n0_ n1_ n2_ n3_; clear hb hbox hg) | (go_at_call 33; (with_reducible refine (seedcornlaw11_awake.calls  true _ ?side1 ?side2 A3.out).mono ?_); (case side1 => exact GK.below HGK.out (by repeat (first | (with_reducible first | exact HB.out | apply below_alloc | apply pw_below_drewN | apply below_drew1 | refine below_set ?_ GE574.out) | exact HB.out))); (case side2 => exact GT.below HGT.out (by repeat (first | (with_reducible first | exact HB.out | apply below_alloc | apply pw_below_drewN | apply below_drew1 | refine below_set ?_ GE574.out) | exact HB.out))); rintro e w7 ⟨rfl, hb⟩; have n0_ := Aside0.mk (blk_below (g := gb574) (o := .cells #[.slice A0_0 l0_0.length c0_0, .int .i64 a0_1] 28 (0, 0)) (by (with_reducible repeat (first | refine blk_drewN ?_ _ | refine blk_drew ?_ | refine blk_alloc ?_ _)); exact BK574.out) hb); have n1_ := Aside0.mk (below_step (by repeat (first | (with_reducible first | exact HB.out | apply below_alloc | apply pw_below_drewN | apply below_drew1 | refine below_set ?_ GE574.out) | exact HB.out)) hb); clear BK574; clear HB; have BK574 := n0_; have HB := n1_; clear n0_ n1_; (try clear hb); (try clear hb2); (try clear hk); (try clear hi))); go_upto_region 3 with (first | ((with_reducible refine gate_dst (N := 2) rfl ?_); (try (refine gate_guard (by rfl) ?_; dsimp only)); refine box_event ?hg (N := 2) ?hd (cs := #[.slice A0_0 l0_0.length c0_0, .int .i64 a0_1]) (t := 28) ?hr ?_; (case hd => rfl); (case hg => rfl); (case hr => first | (go_simp; done) | (go_simp; rfl)); intro gb574 hg w6 hbox hb; have n0_ := Aside0.mk (below_step (by repeat (first | (with_reducible first | exact HB.out | apply below_alloc | apply pw_below_drewN | apply below_drew1) | exact HB.out)) hb); have n1_ := Aside0.mk (hbox); have n2_ := Aside0.mk ((by rw [hg]; exact (below_size (by repeat (first | (with_reducible first | exact HB.out | apply below_alloc | apply pw_below_drewN | apply below_drew1) | exact HB.out))) : w.heap.size ≤ gb574)); have n3_ := Aside0.mk ((by rw [hg]; exact (below_size (by repeat (first | (with_reducible first | exact HB.out | apply below_alloc | apply pw_below_drewN | apply below_drew1) | exact HB.out))) : w.heap.size ≤ gb574)); clear HB; have HB := n0_; have BK574 := n1_; have GW574 := n2_; have GE574 := n3_; clear n0_ n1_ n2_ n3_; clear hb hbox hg) | (go_at_call 33; (with_reducible refine (seedcornlaw11_awake.calls  true _ ?side1 ?side2 A3.out).mono ?_); (case side1 => exact GK.below HGK.out (by repeat (first | (with_reducible first | exact HB.out | apply below_alloc | apply pw_below_drewN | apply below_drew1 | refine below_set ?_ GE574.out) | exact HB.out))); (case side2 => exact GT.below HGT.out (by repeat (first | (with_reducible first | exact HB.out | apply below_alloc | apply pw_below_drewN | apply below_drew1 | refine below_set ?_ GE574.out) | exact HB.out))); rintro e w7 ⟨rfl, hb⟩; have n0_ := Aside0.mk (blk_below (g := gb574) (o := .cells #[.slice A0_0 l0_0.length c0_0, .int .i64 a0_1] 28 (0, 0)) (by (with_reducible repeat (first | refine blk_drewN ?_ _ | refine blk_drew ?_ | refine blk_alloc ?_ _)); exact BK574.out) hb); have n1_ := Aside0.mk (below_step (by repeat (first | (with_reducible first | exact HB.out | apply below_alloc | apply pw_below_drewN | apply below_drew1 | refine below_set ?_ GE574.out) | exact HB.out)) hb); clear BK574; clear HB; have BK574 := n0_; have HB := n1_; clear n0_ n1_; (try clear hb); (try clear hb2); (try clear hk); (try clear hi))))
    (try simp only [Act.put, List.setIfInBounds_toArray, List.set_cons_zero, List.set_cons_succ])
    go_cut [25] (fun v25 wc => ∃ (kq : Nat) (x25_4 : Bool), v25 = .bool x25_4 ∧ Aside0 (seedcornlaw11_ListingData.j0 kq a1 x25_4 l0_0 a0_1 = some r) ∧ Aside0 (kq ≤ k) ∧ Aside0 (wc.heap[gb574]? = some (.cells #[(.slice A0_0 l0_0.length c0_0), .int .i64 a0_1] 28 (0, 0))) ∧ Aside0 (Below w.heap.size w wc))
    case first =>
      have H := HC5.out
      clear HC5
      by_cases c8 : (l0_0.length : Int) > 100
      · rw [if_pos c8] at H
        have c8b0 : decide (100 < (l0_0.length : Int)) = true := decide_eq_true c8
        have c8b1 : decide (100 < l0_0.length) = true := decide_eq_true (by omega)
        clear c8
        (first | rw [c8b0] | (simp only [i64_w, i32_w]; rw [c8b0]) | skip)
        have H' := Aside0.mk H
        clear H
        have hcz9_0 : w7.cell? ⟨gb574, 0, none⟩ = some (.slice A0_0 l0_0.length c0_0) := (blk_cell BK574.out 0).trans rfl
        have hcz9_1 : w7.cell? ⟨gb574, 1, none⟩ = some (.int .i64 a0_1) := (blk_cell BK574.out 1).trans rfl
        have hfz9_0 := blk_frozen BK574.out 0
        have hfz9_1 := blk_frozen BK574.out 1
        go_wp2
        repeat (go_quiet (fail); try go_wp2)
        go_meet
        case rel => exact ⟨_, (true), (by first | rfl | (simp; done) | (simp [*]; done)), H', ⟨by first | omega | exact Nat.le_refl _⟩, ⟨by (with_reducible repeat (first | refine blk_drewN ?_ _ | refine blk_drew ?_ | refine blk_alloc ?_ _)); exact BK574.out⟩, ⟨by repeat (first | (with_reducible first | exact HB.out | apply below_alloc | apply pw_below_drewN | apply below_drew1 | refine below_set ?_ GE574.out) | exact HB.out)⟩⟩
      · rw [if_neg c8] at H
        have c8b0 : decide (100 < (l0_0.length : Int)) = false := decide_eq_false c8
        have c8b1 : decide (100 < l0_0.length) = false := decide_eq_false (by omega)
        clear c8
        (first | rw [c8b0] | (simp only [i64_w, i32_w]; rw [c8b0]) | skip)
        replace H := Option.bind_eq_some_iff.mp H
        obtain ⟨t576, A100, H⟩ := H
        replace H : (if t576 = true then (seedcornlaw11_ListingData.j0 k a1 (decide (a1 > 32768)) l0_0 a0_1) else (seedcornlaw11_ListingData.j0 k a1 true l0_0 a0_1)) = some r := H
        have A10 := Aside0.mk A100
        clear A100
        by_cases c11 : t576 = true
        · subst c11
          have H1 : (seedcornlaw11_ListingData.j0 k a1 (decide (a1 > 32768)) l0_0 a0_1) = some r := by rw [if_pos rfl] at H; exact H
          clear H
          have H := H1
          clear H1
          have H' := Aside0.mk H
          clear H
          have hcz12_0 : w7.cell? ⟨gb574, 0, none⟩ = some (.slice A0_0 l0_0.length c0_0) := (blk_cell BK574.out 0).trans rfl
          have hcz12_1 : w7.cell? ⟨gb574, 1, none⟩ = some (.int .i64 a0_1) := (blk_cell BK574.out 1).trans rfl
          have hfz12_0 := blk_frozen BK574.out 0
          have hfz12_1 := blk_frozen BK574.out 1
          go_wp2_with (first | (go_at_call 34; (with_reducible refine (seedcornref08_Right.calls _ _ l0_0 a0_1 true _ ?side1 ?side2 A10.out).mono ?_); (case side1 => repeat (first | exact (Kd.C_below HR0_0.out HB.out) | (with_reducible refine Kd.C_alloc ?_ _) | (with_reducible refine Kd.C_drewN ?_ _) | (with_reducible refine Kd.C_drew ?_))); (case side2 => exact HC0_0.out); rintro e w13 ⟨rfl, hb⟩; have n0_ := Aside0.mk (blk_below (g := gb574) (o := .cells #[.slice A0_0 l0_0.length c0_0, .int .i64 a0_1] 28 (0, 0)) (by (with_reducible repeat (first | refine blk_drewN ?_ _ | refine blk_drew ?_ | refine blk_alloc ?_ _)); exact BK574.out) hb); have n1_ := Aside0.mk (below_step (by repeat (first | (with_reducible first | exact HB.out | apply below_alloc | apply pw_below_drewN | apply below_drew1 | refine below_set ?_ GE574.out) | exact HB.out)) hb); clear BK574; clear HB; have BK574 := n0_; have HB := n1_; clear n0_ n1_; (try clear hb); (try clear hb2); (try clear hk); (try clear hi)))
          repeat (go_quiet (first | (go_at_call 34; (with_reducible refine (seedcornref08_Right.calls _ _ l0_0 a0_1 true _ ?side1 ?side2 A10.out).mono ?_); (case side1 => repeat (first | exact (Kd.C_below HR0_0.out HB.out) | (with_reducible refine Kd.C_alloc ?_ _) | (with_reducible refine Kd.C_drewN ?_ _) | (with_reducible refine Kd.C_drew ?_))); (case side2 => exact HC0_0.out); rintro e w13 ⟨rfl, hb⟩; have n0_ := Aside0.mk (blk_below (g := gb574) (o := .cells #[.slice A0_0 l0_0.length c0_0, .int .i64 a0_1] 28 (0, 0)) (by (with_reducible repeat (first | refine blk_drewN ?_ _ | refine blk_drew ?_ | refine blk_alloc ?_ _)); exact BK574.out) hb); have n1_ := Aside0.mk (below_step (by repeat (first | (with_reducible first | exact HB.out | apply below_alloc | apply pw_below_drewN | apply below_drew1 | refine below_set ?_ GE574.out) | exact HB.out)) hb); clear BK574; clear HB; have BK574 := n0_; have HB := n1_; clear n0_ n1_; (try clear hb); (try clear hb2); (try clear hk); (try clear hi))); try go_wp2_with (first | (go_at_call 34; (with_reducible refine (seedcornref08_Right.calls _ _ l0_0 a0_1 true _ ?side1 ?side2 A10.out).mono ?_); (case side1 => repeat (first | exact (Kd.C_below HR0_0.out HB.out) | (with_reducible refine Kd.C_alloc ?_ _) | (with_reducible refine Kd.C_drewN ?_ _) | (with_reducible refine Kd.C_drew ?_))); (case side2 => exact HC0_0.out); rintro e w13 ⟨rfl, hb⟩; have n0_ := Aside0.mk (blk_below (g := gb574) (o := .cells #[.slice A0_0 l0_0.length c0_0, .int .i64 a0_1] 28 (0, 0)) (by (with_reducible repeat (first | refine blk_drewN ?_ _ | refine blk_drew ?_ | refine blk_alloc ?_ _)); exact BK574.out) hb); have n1_ := Aside0.mk (below_step (by repeat (first | (with_reducible first | exact HB.out | apply below_alloc | apply pw_below_drewN | apply below_drew1 | refine below_set ?_ GE574.out) | exact HB.out)) hb); clear BK574; clear HB; have BK574 := n0_; have HB := n1_; clear n0_ n1_; (try clear hb); (try clear hb2); (try clear hk); (try clear hi))))
          go_meet
          case rel => exact ⟨_, (decide (a1 > 32768)), (by first | rfl | (simp; done) | (simp [*]; done)), H', ⟨by first | omega | exact Nat.le_refl _⟩, ⟨by (with_reducible repeat (first | refine blk_drewN ?_ _ | refine blk_drew ?_ | refine blk_alloc ?_ _)); exact BK574.out⟩, ⟨by repeat (first | (with_reducible first | exact HB.out | apply below_alloc | apply pw_below_drewN | apply below_drew1 | refine below_set ?_ GE574.out) | exact HB.out)⟩⟩
        · replace c11 := Bool.eq_false_iff.mpr c11
          subst c11
          have H1 : (seedcornlaw11_ListingData.j0 k a1 true l0_0 a0_1) = some r := by rw [if_neg (show ¬ (false = true) by decide)] at H; exact H
          clear H
          have H := H1
          clear H1
          have H' := Aside0.mk H
          clear H
          have hcz14_0 : w7.cell? ⟨gb574, 0, none⟩ = some (.slice A0_0 l0_0.length c0_0) := (blk_cell BK574.out 0).trans rfl
          have hcz14_1 : w7.cell? ⟨gb574, 1, none⟩ = some (.int .i64 a0_1) := (blk_cell BK574.out 1).trans rfl
          have hfz14_0 := blk_frozen BK574.out 0
          have hfz14_1 := blk_frozen BK574.out 1
          go_wp2_with (first | (go_at_call 34; (with_reducible refine (seedcornref08_Right.calls _ _ l0_0 a0_1 false _ ?side1 ?side2 A10.out).mono ?_); (case side1 => repeat (first | exact (Kd.C_below HR0_0.out HB.out) | (with_reducible refine Kd.C_alloc ?_ _) | (with_reducible refine Kd.C_drewN ?_ _) | (with_reducible refine Kd.C_drew ?_))); (case side2 => exact HC0_0.out); rintro e w15 ⟨rfl, hb⟩; have n0_ := Aside0.mk (blk_below (g := gb574) (o := .cells #[.slice A0_0 l0_0.length c0_0, .int .i64 a0_1] 28 (0, 0)) (by (with_reducible repeat (first | refine blk_drewN ?_ _ | refine blk_drew ?_ | refine blk_alloc ?_ _)); exact BK574.out) hb); have n1_ := Aside0.mk (below_step (by repeat (first | (with_reducible first | exact HB.out | apply below_alloc | apply pw_below_drewN | apply below_drew1 | refine below_set ?_ GE574.out) | exact HB.out)) hb); clear BK574; clear HB; have BK574 := n0_; have HB := n1_; clear n0_ n1_; (try clear hb); (try clear hb2); (try clear hk); (try clear hi)))
          repeat (go_quiet (first | (go_at_call 34; (with_reducible refine (seedcornref08_Right.calls _ _ l0_0 a0_1 false _ ?side1 ?side2 A10.out).mono ?_); (case side1 => repeat (first | exact (Kd.C_below HR0_0.out HB.out) | (with_reducible refine Kd.C_alloc ?_ _) | (with_reducible refine Kd.C_drewN ?_ _) | (with_reducible refine Kd.C_drew ?_))); (case side2 => exact HC0_0.out); rintro e w15 ⟨rfl, hb⟩; have n0_ := Aside0.mk (blk_below (g := gb574) (o := .cells #[.slice A0_0 l0_0.length c0_0, .int .i64 a0_1] 28 (0, 0)) (by (with_reducible repeat (first | refine blk_drewN ?_ _ | refine blk_drew ?_ | refine blk_alloc ?_ _)); exact BK574.out) hb); have n1_ := Aside0.mk (below_step (by repeat (first | (with_reducible first | exact HB.out | apply below_alloc | apply pw_below_drewN | apply below_drew1 | refine below_set ?_ GE574.out) | exact HB.out)) hb); clear BK574; clear HB; have BK574 := n0_; have HB := n1_; clear n0_ n1_; (try clear hb); (try clear hb2); (try clear hk); (try clear hi))); try go_wp2_with (first | (go_at_call 34; (with_reducible refine (seedcornref08_Right.calls _ _ l0_0 a0_1 false _ ?side1 ?side2 A10.out).mono ?_); (case side1 => repeat (first | exact (Kd.C_below HR0_0.out HB.out) | (with_reducible refine Kd.C_alloc ?_ _) | (with_reducible refine Kd.C_drewN ?_ _) | (with_reducible refine Kd.C_drew ?_))); (case side2 => exact HC0_0.out); rintro e w15 ⟨rfl, hb⟩; have n0_ := Aside0.mk (blk_below (g := gb574) (o := .cells #[.slice A0_0 l0_0.length c0_0, .int .i64 a0_1] 28 (0, 0)) (by (with_reducible repeat (first | refine blk_drewN ?_ _ | refine blk_drew ?_ | refine blk_alloc ?_ _)); exact BK574.out) hb); have n1_ := Aside0.mk (below_step (by repeat (first | (with_reducible first | exact HB.out | apply below_alloc | apply pw_below_drewN | apply below_drew1 | refine below_set ?_ GE574.out) | exact HB.out)) hb); clear BK574; clear HB; have BK574 := n0_; have HB := n1_; clear n0_ n1_; (try clear hb); (try clear hb2); (try clear hk); (try clear hi))))
          go_meet
          case rel => exact ⟨_, (true), (by first | rfl | (simp; done) | (simp [*]; done)), H', ⟨by first | omega | exact Nat.le_refl _⟩, ⟨by (with_reducible repeat (first | refine blk_drewN ?_ _ | refine blk_drew ?_ | refine blk_alloc ?_ _)); exact BK574.out⟩, ⟨by repeat (first | (with_reducible first | exact HB.out | apply below_alloc | apply pw_below_drewN | apply below_drew1 | refine below_set ?_ GE574.out) | exact HB.out)⟩⟩
    case rest =>
      clear HC5
      try clear c1
      try clear p2
      try clear c4
      try clear c8
      try clear c8b0
      try clear c8b1
      try clear c10
      try clear c11
      try clear hcz12_0
      try clear hcz12_1
      try clear hcz14_0
      try clear hcz14_1
      try clear hcz9_0
      try clear hcz9_1
      try clear hfz12_0
      try clear hfz12_1
      try clear hfz14_0
      try clear hfz14_1
      try clear hfz9_0
      try clear hfz9_1
      obtain ⟨kq, x25_4, rfl, HA, HJ4, BK574, HB⟩ := hcut
      cases kq with
      | zero => exact absurd HA.out (by simp [seedcornlaw11_ListingData.j0])
      | succ kj4 =>
        have H := HA.out
        clear HA
        simp only [seedcornlaw11_ListingData.j0] at H
        by_cases c16 : x25_4 = true
        · subst c16
          have H1 : (some true) = some r := by rw [if_pos rfl] at H; exact H
          clear H
          have H := H1
          clear H1
          obtain rfl := Option.some.inj H
          go_wp2
          repeat (go_quiet (fail); try go_wp2)
          go_ret
          exact ⟨by first | rfl | (simp [errW_none, errW_some] <;> rfl) | (simp [*, errW_none, errW_some] <;> rfl), by repeat (first | (with_reducible first | exact HB.out | apply below_alloc | apply pw_below_drewN | apply below_drew1 | refine below_set ?_ GE574.out) | exact HB.out)⟩
        · replace c16 := Bool.eq_false_iff.mpr c16
          subst c16
          have H1 : ((listing_Text.f l0_0 a0_1).bind fun bt577 => ((listing_Text.f l0_0 (wrap64 (a1))).bind fun bt579 => ((word_Text.f ((a0_1) % 4294967296)).bind fun t581 => ((word_Text.f ((a1) % 4294967296)).bind fun t582 => (if bt577.2 = 0 then (if bt579.2 = 0 then (if (bt577.1.size : Int) ≥ (wrap64 (7 + (t581.size : Int))) then (if (bt579.1.size : Int) ≥ (wrap64 (7 + (t582.size : Int))) then (if 0 ≤ (wrap64 (7 + (t581.size : Int))) then (if (wrap64 (7 + (t581.size : Int))) ≤ (bt577.1.size : Int) then (if 0 ≤ (wrap64 (7 + (t582.size : Int))) then (if (wrap64 (7 + (t582.size : Int))) ≤ (bt579.1.size : Int) then (some ((bt577.1.extract ((wrap64 (7 + (t581.size : Int))) : Int).toNat bt577.1.size).toList == (bt579.1.extract ((wrap64 (7 + (t582.size : Int))) : Int).toNat bt579.1.size).toList)) else (none)) else (none)) else (none)) else (none)) else (some false)) else (some false)) else (some false)) else (some false)))))) = some r := by rw [if_neg (show ¬ (false = true) by decide)] at H; exact H
          clear H
          have H := H1
          clear H1
          replace H := Option.bind_eq_some_iff.mp H
          obtain ⟨⟨t577, t578⟩, A170, H⟩ := H
          replace H : ((listing_Text.f l0_0 (wrap64 (a1))).bind fun bt579 => ((word_Text.f ((a0_1) % 4294967296)).bind fun t581 => ((word_Text.f ((a1) % 4294967296)).bind fun t582 => (if t578 = 0 then (if bt579.2 = 0 then (if (t577.size : Int) ≥ (wrap64 (7 + (t581.size : Int))) then (if (bt579.1.size : Int) ≥ (wrap64 (7 + (t582.size : Int))) then (if 0 ≤ (wrap64 (7 + (t581.size : Int))) then (if (wrap64 (7 + (t581.size : Int))) ≤ (t577.size : Int) then (if 0 ≤ (wrap64 (7 + (t582.size : Int))) then (if (wrap64 (7 + (t582.size : Int))) ≤ (bt579.1.size : Int) then (some ((t577.extract ((wrap64 (7 + (t581.size : Int))) : Int).toNat t577.size).toList == (bt579.1.extract ((wrap64 (7 + (t582.size : Int))) : Int).toNat bt579.1.size).toList)) else (none)) else (none)) else (none)) else (none)) else (some false)) else (some false)) else (some false)) else (some false))))) = some r := H
          have A17 := Aside0.mk A170
          clear A170
          replace H := Option.bind_eq_some_iff.mp H
          obtain ⟨⟨t579, t580⟩, A180, H⟩ := H
          replace H : ((word_Text.f ((a0_1) % 4294967296)).bind fun t581 => ((word_Text.f ((a1) % 4294967296)).bind fun t582 => (if t578 = 0 then (if t580 = 0 then (if (t577.size : Int) ≥ (wrap64 (7 + (t581.size : Int))) then (if (t579.size : Int) ≥ (wrap64 (7 + (t582.size : Int))) then (if 0 ≤ (wrap64 (7 + (t581.size : Int))) then (if (wrap64 (7 + (t581.size : Int))) ≤ (t577.size : Int) then (if 0 ≤ (wrap64 (7 + (t582.size : Int))) then (if (wrap64 (7 + (t582.size : Int))) ≤ (t579.size : Int) then (some ((t577.extract ((wrap64 (7 + (t581.size : Int))) : Int).toNat t577.size).toList == (t579.extract ((wrap64 (7 + (t582.size : Int))) : Int).toNat t579.size).toList)) else (none)) else (none)) else (none)) else (none)) else (some false)) else (some false)) else (some false)) else (some false)))) = some r := H
          have A18 := Aside0.mk A180
          clear A180
          replace H := Option.bind_eq_some_iff.mp H
          obtain ⟨t581, A190, H⟩ := H
          replace H : ((word_Text.f ((a1) % 4294967296)).bind fun t582 => (if t578 = 0 then (if t580 = 0 then (if (t577.size : Int) ≥ (wrap64 (7 + (t581.size : Int))) then (if (t579.size : Int) ≥ (wrap64 (7 + (t582.size : Int))) then (if 0 ≤ (wrap64 (7 + (t581.size : Int))) then (if (wrap64 (7 + (t581.size : Int))) ≤ (t577.size : Int) then (if 0 ≤ (wrap64 (7 + (t582.size : Int))) then (if (wrap64 (7 + (t582.size : Int))) ≤ (t579.size : Int) then (some ((t577.extract ((wrap64 (7 + (t581.size : Int))) : Int).toNat t577.size).toList == (t579.extract ((wrap64 (7 + (t582.size : Int))) : Int).toNat t579.size).toList)) else (none)) else (none)) else (none)) else (none)) else (some false)) else (some false)) else (some false)) else (some false))) = some r := H
          have A19 := Aside0.mk A190
          clear A190
          replace H := Option.bind_eq_some_iff.mp H
          obtain ⟨t582, A200, H⟩ := H
          replace H : (if t578 = 0 then (if t580 = 0 then (if (t577.size : Int) ≥ (wrap64 (7 + (t581.size : Int))) then (if (t579.size : Int) ≥ (wrap64 (7 + (t582.size : Int))) then (if 0 ≤ (wrap64 (7 + (t581.size : Int))) then (if (wrap64 (7 + (t581.size : Int))) ≤ (t577.size : Int) then (if 0 ≤ (wrap64 (7 + (t582.size : Int))) then (if (wrap64 (7 + (t582.size : Int))) ≤ (t579.size : Int) then (some ((t577.extract ((wrap64 (7 + (t581.size : Int))) : Int).toNat t577.size).toList == (t579.extract ((wrap64 (7 + (t582.size : Int))) : Int).toNat t579.size).toList)) else (none)) else (none)) else (none)) else (none)) else (some false)) else (some false)) else (some false)) else (some false)) = some r := H
          have A20 := Aside0.mk A200
          clear A200
          by_cases c21 : t578 = 0
          · rw [if_pos c21] at H
            have c21b0 : (t578 == 0) = true := beq_iff_eq.mpr c21
            have c21b1 : (t578 != 0) = false := bne_eq_false_iff_eq.mpr c21
            clear c21
            by_cases c22 : t580 = 0
            · rw [if_pos c22] at H
              have c22b0 : (t580 == 0) = true := beq_iff_eq.mpr c22
              have c22b1 : (t580 != 0) = false := bne_eq_false_iff_eq.mpr c22
              clear c22
              by_cases c23 : (t577.size : Int) ≥ (wrap64 (7 + (t581.size : Int)))
              · rw [if_pos c23] at H
                have c23b0 : decide ((wrap64 (7 + (t581.size : Int))) ≤ (t577.size : Int)) = true := decide_eq_true c23
                clear c23
                by_cases c24 : (t579.size : Int) ≥ (wrap64 (7 + (t582.size : Int)))
                · rw [if_pos c24] at H
                  have c24b0 : decide ((wrap64 (7 + (t582.size : Int))) ≤ (t579.size : Int)) = true := decide_eq_true c24
                  clear c24
                  obtain ⟨ji25, hji25⟩ : ∃ j_ : Int, (wrap64 (7 + (t581.size : Int))) = j_ := ⟨_, rfl⟩
                  replace H : (if 0 ≤ (ji25) then (if (ji25) ≤ (t577.size : Int) then (if 0 ≤ (wrap64 (7 + (t582.size : Int))) then (if (wrap64 (7 + (t582.size : Int))) ≤ (t579.size : Int) then (some ((t577.extract ((ji25) : Int).toNat t577.size).toList == (t579.extract ((wrap64 (7 + (t582.size : Int))) : Int).toNat t579.size).toList)) else (none)) else (none)) else (none)) else (none)) = some r := by first | (rw [hji25] at H; exact H) | (simp only [hji25] at H ⊢; exact H)
                  (try rw [hji25] at c23b0)
                  (try rw [hji25] at A17)
                  (try rw [hji25] at A18)
                  (try rw [hji25] at A19)
                  (try rw [hji25] at A20)
                  have hji25w : (IntKind.i64.wrap (7 + (t581.size : Int))) = ji25 := (i64_w _).trans hji25
                  by_cases c26 : 0 ≤ (ji25)
                  · rw [if_pos c26] at H
                    have c26b0 := eq_true c26
                    have c26b1 : decide (0 ≤ (ji25)) = true := decide_eq_true c26
                    clear c26
                    by_cases c27 : (ji25) ≤ (t577.size : Int)
                    · rw [if_pos c27] at H
                      have c27b0 := eq_true c27
                      have c27b1 : decide ((ji25) ≤ (t577.size : Int)) = true := decide_eq_true c27
                      clear c27
                      obtain ⟨ji28, hji28⟩ : ∃ j_ : Int, (wrap64 (7 + (t582.size : Int))) = j_ := ⟨_, rfl⟩
                      replace H : (if 0 ≤ (ji28) then (if (ji28) ≤ (t579.size : Int) then (some ((t577.extract ((ji25) : Int).toNat t577.size).toList == (t579.extract ((ji28) : Int).toNat t579.size).toList)) else (none)) else (none)) = some r := by first | (rw [hji28] at H; exact H) | (simp only [hji28] at H ⊢; exact H)
                      (try rw [hji28] at c24b0)
                      (try rw [hji28] at A17)
                      (try rw [hji28] at A18)
                      (try rw [hji28] at A19)
                      (try rw [hji28] at A20)
                      have hji28w : (IntKind.i64.wrap (7 + (t582.size : Int))) = ji28 := (i64_w _).trans hji28
                      by_cases c29 : 0 ≤ (ji28)
                      · rw [if_pos c29] at H
                        have c29b0 := eq_true c29
                        have c29b1 : decide (0 ≤ (ji28)) = true := decide_eq_true c29
                        clear c29
                        by_cases c30 : (ji28) ≤ (t579.size : Int)
                        · rw [if_pos c30] at H
                          have c30b0 := eq_true c30
                          have c30b1 : decide ((ji28) ≤ (t579.size : Int)) = true := decide_eq_true c30
                          clear c30
                          obtain rfl := Option.some.inj H
                          have hcz31_0 : wc.cell? ⟨gb574, 0, none⟩ = some (.slice A0_0 l0_0.length c0_0) := (blk_cell BK574.out 0).trans rfl
                          have hcz31_1 : wc.cell? ⟨gb574, 1, none⟩ = some (.int .i64 a0_1) := (blk_cell BK574.out 1).trans rfl
                          have hfz31_0 := blk_frozen BK574.out 0
                          have hfz31_1 := blk_frozen BK574.out 1
                          go_wp2_with (first | (go_at_call 36; (with_reducible refine (listing_Text.calls _ _ l0_0 a0_1 t577 t578 _ ?side1 ?side2 ?side3 ?side4 A17.out).mono ?_); (case side1 => exact GK.below HGK.out (by repeat (first | (with_reducible first | exact HB.out | apply below_alloc | apply pw_below_drewN | apply below_drew1 | refine below_set ?_ GE574.out) | exact HB.out))); (case side2 => exact GT.below HGT.out (by repeat (first | (with_reducible first | exact HB.out | apply below_alloc | apply pw_below_drewN | apply below_drew1 | refine below_set ?_ GE574.out) | exact HB.out))); (case side3 => repeat (first | exact (Kd.C_below HR0_0.out HB.out) | (with_reducible refine Kd.C_alloc ?_ _) | (with_reducible refine Kd.C_drewN ?_ _) | (with_reducible refine Kd.C_drew ?_))); (case side4 => exact HC0_0.out); rintro e w32 ⟨rfl, hb⟩; have n0_ := Aside0.mk (blk_below (g := gb574) (o := .cells #[.slice A0_0 l0_0.length c0_0, .int .i64 a0_1] 28 (0, 0)) (by (with_reducible repeat (first | refine blk_drewN ?_ _ | refine blk_drew ?_ | refine blk_alloc ?_ _)); exact BK574.out) hb); have n1_ := Aside0.mk (below_step (by repeat (first | (with_reducible first | exact HB.out | apply below_alloc | apply pw_below_drewN | apply below_drew1 | refine below_set ?_ GE574.out) | exact HB.out)) hb); clear BK574; clear HB; have BK574 := n0_; have HB := n1_; clear n0_ n1_; (try clear hb); (try clear hb2); (try clear hk); (try clear hi); have hcz33_0 : w32.cell? ⟨gb574, 0, none⟩ = some (.slice A0_0 l0_0.length c0_0) := (blk_cell BK574.out 0).trans rfl; have hcz33_1 : w32.cell? ⟨gb574, 1, none⟩ = some (.int .i64 a0_1) := (blk_cell BK574.out 1).trans rfl; have hfz33_0 := blk_frozen BK574.out 0; have hfz33_1 := blk_frozen BK574.out 1) | (go_at_call 36; (with_reducible refine (listing_Text.calls _ _ l0_0 (wrap64 (a1)) t579 t580 _ ?side1 ?side2 ?side3 ?side4 A18.out).mono ?_); (case side1 => exact GK.below HGK.out (by repeat (first | (with_reducible first | exact HB.out | apply below_alloc | apply pw_below_drewN | apply below_drew1 | refine below_set ?_ GE574.out) | exact HB.out))); (case side2 => exact GT.below HGT.out (by repeat (first | (with_reducible first | exact HB.out | apply below_alloc | apply pw_below_drewN | apply below_drew1 | refine below_set ?_ GE574.out) | exact HB.out))); (case side3 => repeat (first | exact (Kd.C_below HR0_0.out HB.out) | (with_reducible refine Kd.C_alloc ?_ _) | (with_reducible refine Kd.C_drewN ?_ _) | (with_reducible refine Kd.C_drew ?_))); (case side4 => exact HC0_0.out); rintro e w34 ⟨rfl, hb⟩; have n0_ := Aside0.mk (blk_below (g := gb574) (o := .cells #[.slice A0_0 l0_0.length c0_0, .int .i64 a0_1] 28 (0, 0)) (by (with_reducible repeat (first | refine blk_drewN ?_ _ | refine blk_drew ?_ | refine blk_alloc ?_ _)); exact BK574.out) hb); have n1_ := Aside0.mk (below_step (by repeat (first | (with_reducible first | exact HB.out | apply below_alloc | apply pw_below_drewN | apply below_drew1 | refine below_set ?_ GE574.out) | exact HB.out)) hb); clear BK574; clear HB; have BK574 := n0_; have HB := n1_; clear n0_ n1_; (try clear hb); (try clear hb2); (try clear hk); (try clear hi); have hcz35_0 : w34.cell? ⟨gb574, 0, none⟩ = some (.slice A0_0 l0_0.length c0_0) := (blk_cell BK574.out 0).trans rfl; have hcz35_1 : w34.cell? ⟨gb574, 1, none⟩ = some (.int .i64 a0_1) := (blk_cell BK574.out 1).trans rfl; have hfz35_0 := blk_frozen BK574.out 0; have hfz35_1 := blk_frozen BK574.out 1) | (go_at_call 45; (with_reducible refine (word_Text.calls ((a0_1) % 4294967296) t581 _ ?side1 A19.out).mono ?_); (case side1 => exact GT.below HGT.out (by repeat (first | (with_reducible first | exact HB.out | apply below_alloc | apply pw_below_drewN | apply below_drew1 | refine below_set ?_ GE574.out) | exact HB.out))); rintro e w36 ⟨rfl, hb⟩; have n0_ := Aside0.mk (blk_below (g := gb574) (o := .cells #[.slice A0_0 l0_0.length c0_0, .int .i64 a0_1] 28 (0, 0)) (by (with_reducible repeat (first | refine blk_drewN ?_ _ | refine blk_drew ?_ | refine blk_alloc ?_ _)); exact BK574.out) hb); have n1_ := Aside0.mk (below_step (by repeat (first | (with_reducible first | exact HB.out | apply below_alloc | apply pw_below_drewN | apply below_drew1 | refine below_set ?_ GE574.out) | exact HB.out)) hb); clear BK574; clear HB; have BK574 := n0_; have HB := n1_; clear n0_ n1_; (try clear hb); (try clear hb2); (try clear hk); (try clear hi)) | (go_at_call 45; (with_reducible refine (word_Text.calls ((a1) % 4294967296) t582 _ ?side1 A20.out).mono ?_); (case side1 => exact GT.below HGT.out (by repeat (first | (with_reducible first | exact HB.out | apply below_alloc | apply pw_below_drewN | apply below_drew1 | refine below_set ?_ GE574.out) | exact HB.out))); rintro e w37 ⟨rfl, hb⟩; have n0_ := Aside0.mk (blk_below (g := gb574) (o := .cells #[.slice A0_0 l0_0.length c0_0, .int .i64 a0_1] 28 (0, 0)) (by (with_reducible repeat (first | refine blk_drewN ?_ _ | refine blk_drew ?_ | refine blk_alloc ?_ _)); exact BK574.out) hb); have n1_ := Aside0.mk (below_step (by repeat (first | (with_reducible first | exact HB.out | apply below_alloc | apply pw_below_drewN | apply below_drew1 | refine below_set ?_ GE574.out) | exact HB.out)) hb); clear BK574; clear HB; have BK574 := n0_; have HB := n1_; clear n0_ n1_; (try clear hb); (try clear hb2); (try clear hk); (try clear hi)))
                          repeat (go_quiet (first | (go_at_call 36; (with_reducible refine (listing_Text.calls _ _ l0_0 a0_1 t577 t578 _ ?side1 ?side2 ?side3 ?side4 A17.out).mono ?_); (case side1 => exact GK.below HGK.out (by repeat (first | (with_reducible first | exact HB.out | apply below_alloc | apply pw_below_drewN | apply below_drew1 | refine below_set ?_ GE574.out) | exact HB.out))); (case side2 => exact GT.below HGT.out (by repeat (first | (with_reducible first | exact HB.out | apply below_alloc | apply pw_below_drewN | apply below_drew1 | refine below_set ?_ GE574.out) | exact HB.out))); (case side3 => repeat (first | exact (Kd.C_below HR0_0.out HB.out) | (with_reducible refine Kd.C_alloc ?_ _) | (with_reducible refine Kd.C_drewN ?_ _) | (with_reducible refine Kd.C_drew ?_))); (case side4 => exact HC0_0.out); rintro e w32 ⟨rfl, hb⟩; have n0_ := Aside0.mk (blk_below (g := gb574) (o := .cells #[.slice A0_0 l0_0.length c0_0, .int .i64 a0_1] 28 (0, 0)) (by (with_reducible repeat (first | refine blk_drewN ?_ _ | refine blk_drew ?_ | refine blk_alloc ?_ _)); exact BK574.out) hb); have n1_ := Aside0.mk (below_step (by repeat (first | (with_reducible first | exact HB.out | apply below_alloc | apply pw_below_drewN | apply below_drew1 | refine below_set ?_ GE574.out) | exact HB.out)) hb); clear BK574; clear HB; have BK574 := n0_; have HB := n1_; clear n0_ n1_; (try clear hb); (try clear hb2); (try clear hk); (try clear hi); have hcz33_0 : w32.cell? ⟨gb574, 0, none⟩ = some (.slice A0_0 l0_0.length c0_0) := (blk_cell BK574.out 0).trans rfl; have hcz33_1 : w32.cell? ⟨gb574, 1, none⟩ = some (.int .i64 a0_1) := (blk_cell BK574.out 1).trans rfl; have hfz33_0 := blk_frozen BK574.out 0; have hfz33_1 := blk_frozen BK574.out 1) | (go_at_call 36; (with_reducible refine (listing_Text.calls _ _ l0_0 (wrap64 (a1)) t579 t580 _ ?side1 ?side2 ?side3 ?side4 A18.out).mono ?_); (case side1 => exact GK.below HGK.out (by repeat (first | (with_reducible first | exact HB.out | apply below_alloc | apply pw_below_drewN | apply below_drew1 | refine below_set ?_ GE574.out) | exact HB.out))); (case side2 => exact GT.below HGT.out (by repeat (first | (with_reducible first | exact HB.out | apply below_alloc | apply pw_below_drewN | apply below_drew1 | refine below_set ?_ GE574.out) | exact HB.out))); (case side3 => repeat (first | exact (Kd.C_below HR0_0.out HB.out) | (with_reducible refine Kd.C_alloc ?_ _) | (with_reducible refine Kd.C_drewN ?_ _) | (with_reducible refine Kd.C_drew ?_))); (case side4 => exact HC0_0.out); rintro e w34 ⟨rfl, hb⟩; have n0_ := Aside0.mk (blk_below (g := gb574) (o := .cells #[.slice A0_0 l0_0.length c0_0, .int .i64 a0_1] 28 (0, 0)) (by (with_reducible repeat (first | refine blk_drewN ?_ _ | refine blk_drew ?_ | refine blk_alloc ?_ _)); exact BK574.out) hb); have n1_ := Aside0.mk (below_step (by repeat (first | (with_reducible first | exact HB.out | apply below_alloc | apply pw_below_drewN | apply below_drew1 | refine below_set ?_ GE574.out) | exact HB.out)) hb); clear BK574; clear HB; have BK574 := n0_; have HB := n1_; clear n0_ n1_; (try clear hb); (try clear hb2); (try clear hk); (try clear hi); have hcz35_0 : w34.cell? ⟨gb574, 0, none⟩ = some (.slice A0_0 l0_0.length c0_0) := (blk_cell BK574.out 0).trans rfl; have hcz35_1 : w34.cell? ⟨gb574, 1, none⟩ = some (.int .i64 a0_1) := (blk_cell BK574.out 1).trans rfl; have hfz35_0 := blk_frozen BK574.out 0; have hfz35_1 := blk_frozen BK574.out 1) | (go_at_call 45; (with_reducible refine (word_Text.calls ((a0_1) % 4294967296) t581 _ ?side1 A19.out).mono ?_); (case side1 => exact GT.below HGT.out (by repeat (first | (with_reducible first | exact HB.out | apply below_alloc | apply pw_below_drewN | apply below_drew1 | refine below_set ?_ GE574.out) | exact HB.out))); rintro e w36 ⟨rfl, hb⟩; have n0_ := Aside0.mk (blk_below (g := gb574) (o := .cells #[.slice A0_0 l0_0.length c0_0, .int .i64 a0_1] 28 (0, 0)) (by (with_reducible repeat (first | refine blk_drewN ?_ _ | refine blk_drew ?_ | refine blk_alloc ?_ _)); exact BK574.out) hb); have n1_ := Aside0.mk (below_step (by repeat (first | (with_reducible first | exact HB.out | apply below_alloc | apply pw_below_drewN | apply below_drew1 | refine below_set ?_ GE574.out) | exact HB.out)) hb); clear BK574; clear HB; have BK574 := n0_; have HB := n1_; clear n0_ n1_; (try clear hb); (try clear hb2); (try clear hk); (try clear hi)) | (go_at_call 45; (with_reducible refine (word_Text.calls ((a1) % 4294967296) t582 _ ?side1 A20.out).mono ?_); (case side1 => exact GT.below HGT.out (by repeat (first | (with_reducible first | exact HB.out | apply below_alloc | apply pw_below_drewN | apply below_drew1 | refine below_set ?_ GE574.out) | exact HB.out))); rintro e w37 ⟨rfl, hb⟩; have n0_ := Aside0.mk (blk_below (g := gb574) (o := .cells #[.slice A0_0 l0_0.length c0_0, .int .i64 a0_1] 28 (0, 0)) (by (with_reducible repeat (first | refine blk_drewN ?_ _ | refine blk_drew ?_ | refine blk_alloc ?_ _)); exact BK574.out) hb); have n1_ := Aside0.mk (below_step (by repeat (first | (with_reducible first | exact HB.out | apply below_alloc | apply pw_below_drewN | apply below_drew1 | refine below_set ?_ GE574.out) | exact HB.out)) hb); clear BK574; clear HB; have BK574 := n0_; have HB := n1_; clear n0_ n1_; (try clear hb); (try clear hb2); (try clear hk); (try clear hi))); try go_wp2_with (first | (go_at_call 36; (with_reducible refine (listing_Text.calls _ _ l0_0 a0_1 t577 t578 _ ?side1 ?side2 ?side3 ?side4 A17.out).mono ?_); (case side1 => exact GK.below HGK.out (by repeat (first | (with_reducible first | exact HB.out | apply below_alloc | apply pw_below_drewN | apply below_drew1 | refine below_set ?_ GE574.out) | exact HB.out))); (case side2 => exact GT.below HGT.out (by repeat (first | (with_reducible first | exact HB.out | apply below_alloc | apply pw_below_drewN | apply below_drew1 | refine below_set ?_ GE574.out) | exact HB.out))); (case side3 => repeat (first | exact (Kd.C_below HR0_0.out HB.out) | (with_reducible refine Kd.C_alloc ?_ _) | (with_reducible refine Kd.C_drewN ?_ _) | (with_reducible refine Kd.C_drew ?_))); (case side4 => exact HC0_0.out); rintro e w32 ⟨rfl, hb⟩; have n0_ := Aside0.mk (blk_below (g := gb574) (o := .cells #[.slice A0_0 l0_0.length c0_0, .int .i64 a0_1] 28 (0, 0)) (by (with_reducible repeat (first | refine blk_drewN ?_ _ | refine blk_drew ?_ | refine blk_alloc ?_ _)); exact BK574.out) hb); have n1_ := Aside0.mk (below_step (by repeat (first | (with_reducible first | exact HB.out | apply below_alloc | apply pw_below_drewN | apply below_drew1 | refine below_set ?_ GE574.out) | exact HB.out)) hb); clear BK574; clear HB; have BK574 := n0_; have HB := n1_; clear n0_ n1_; (try clear hb); (try clear hb2); (try clear hk); (try clear hi); have hcz33_0 : w32.cell? ⟨gb574, 0, none⟩ = some (.slice A0_0 l0_0.length c0_0) := (blk_cell BK574.out 0).trans rfl; have hcz33_1 : w32.cell? ⟨gb574, 1, none⟩ = some (.int .i64 a0_1) := (blk_cell BK574.out 1).trans rfl; have hfz33_0 := blk_frozen BK574.out 0; have hfz33_1 := blk_frozen BK574.out 1) | (go_at_call 36; (with_reducible refine (listing_Text.calls _ _ l0_0 (wrap64 (a1)) t579 t580 _ ?side1 ?side2 ?side3 ?side4 A18.out).mono ?_); (case side1 => exact GK.below HGK.out (by repeat (first | (with_reducible first | exact HB.out | apply below_alloc | apply pw_below_drewN | apply below_drew1 | refine below_set ?_ GE574.out) | exact HB.out))); (case side2 => exact GT.below HGT.out (by repeat (first | (with_reducible first | exact HB.out | apply below_alloc | apply pw_below_drewN | apply below_drew1 | refine below_set ?_ GE574.out) | exact HB.out))); (case side3 => repeat (first | exact (Kd.C_below HR0_0.out HB.out) | (with_reducible refine Kd.C_alloc ?_ _) | (with_reducible refine Kd.C_drewN ?_ _) | (with_reducible refine Kd.C_drew ?_))); (case side4 => exact HC0_0.out); rintro e w34 ⟨rfl, hb⟩; have n0_ := Aside0.mk (blk_below (g := gb574) (o := .cells #[.slice A0_0 l0_0.length c0_0, .int .i64 a0_1] 28 (0, 0)) (by (with_reducible repeat (first | refine blk_drewN ?_ _ | refine blk_drew ?_ | refine blk_alloc ?_ _)); exact BK574.out) hb); have n1_ := Aside0.mk (below_step (by repeat (first | (with_reducible first | exact HB.out | apply below_alloc | apply pw_below_drewN | apply below_drew1 | refine below_set ?_ GE574.out) | exact HB.out)) hb); clear BK574; clear HB; have BK574 := n0_; have HB := n1_; clear n0_ n1_; (try clear hb); (try clear hb2); (try clear hk); (try clear hi); have hcz35_0 : w34.cell? ⟨gb574, 0, none⟩ = some (.slice A0_0 l0_0.length c0_0) := (blk_cell BK574.out 0).trans rfl; have hcz35_1 : w34.cell? ⟨gb574, 1, none⟩ = some (.int .i64 a0_1) := (blk_cell BK574.out 1).trans rfl; have hfz35_0 := blk_frozen BK574.out 0; have hfz35_1 := blk_frozen BK574.out 1) | (go_at_call 45; (with_reducible refine (word_Text.calls ((a0_1) % 4294967296) t581 _ ?side1 A19.out).mono ?_); (case side1 => exact GT.below HGT.out (by repeat (first | (with_reducible first | exact HB.out | apply below_alloc | apply pw_below_drewN | apply below_drew1 | refine below_set ?_ GE574.out) | exact HB.out))); rintro e w36 ⟨rfl, hb⟩; have n0_ := Aside0.mk (blk_below (g := gb574) (o := .cells #[.slice A0_0 l0_0.length c0_0, .int .i64 a0_1] 28 (0, 0)) (by (with_reducible repeat (first | refine blk_drewN ?_ _ | refine blk_drew ?_ | refine blk_alloc ?_ _)); exact BK574.out) hb); have n1_ := Aside0.mk (below_step (by repeat (first | (with_reducible first | exact HB.out | apply below_alloc | apply pw_below_drewN | apply below_drew1 | refine below_set ?_ GE574.out) | exact HB.out)) hb); clear BK574; clear HB; have BK574 := n0_; have HB := n1_; clear n0_ n1_; (try clear hb); (try clear hb2); (try clear hk); (try clear hi)) | (go_at_call 45; (with_reducible refine (word_Text.calls ((a1) % 4294967296) t582 _ ?side1 A20.out).mono ?_); (case side1 => exact GT.below HGT.out (by repeat (first | (with_reducible first | exact HB.out | apply below_alloc | apply pw_below_drewN | apply below_drew1 | refine below_set ?_ GE574.out) | exact HB.out))); rintro e w37 ⟨rfl, hb⟩; have n0_ := Aside0.mk (blk_below (g := gb574) (o := .cells #[.slice A0_0 l0_0.length c0_0, .int .i64 a0_1] 28 (0, 0)) (by (with_reducible repeat (first | refine blk_drewN ?_ _ | refine blk_drew ?_ | refine blk_alloc ?_ _)); exact BK574.out) hb); have n1_ := Aside0.mk (below_step (by repeat (first | (with_reducible first | exact HB.out | apply below_alloc | apply pw_below_drewN | apply below_drew1 | refine below_set ?_ GE574.out) | exact HB.out)) hb); clear BK574; clear HB; have BK574 := n0_; have HB := n1_; clear n0_ n1_; (try clear hb); (try clear hb2); (try clear hk); (try clear hi))))
                          go_ret
                          exact ⟨by first | rfl | (simp [errW_none, errW_some] <;> rfl) | (simp only [← hji25, ← hji28]; first | rfl | (simp [errW_none, errW_some] <;> rfl)) | (simp [*, errW_none, errW_some] <;> rfl), by repeat (first | (with_reducible first | exact HB.out | apply below_alloc | apply pw_below_drewN | apply below_drew1 | refine below_set ?_ GE574.out) | exact HB.out)⟩
                        · rw [if_neg c30] at H
                          exact absurd H (by simp)
                      · rw [if_neg c29] at H
                        exact absurd H (by simp)
                    · rw [if_neg c27] at H
                      exact absurd H (by simp)
                  · rw [if_neg c26] at H
                    exact absurd H (by simp)
                · rw [if_neg c24] at H
                  have c24b0 : decide ((wrap64 (7 + (t582.size : Int))) ≤ (t579.size : Int)) = false := decide_eq_false c24
                  clear c24
                  obtain rfl := Option.some.inj H
                  have hcz38_0 : wc.cell? ⟨gb574, 0, none⟩ = some (.slice A0_0 l0_0.length c0_0) := (blk_cell BK574.out 0).trans rfl
                  have hcz38_1 : wc.cell? ⟨gb574, 1, none⟩ = some (.int .i64 a0_1) := (blk_cell BK574.out 1).trans rfl
                  have hfz38_0 := blk_frozen BK574.out 0
                  have hfz38_1 := blk_frozen BK574.out 1
                  go_wp2_with (first | (go_at_call 36; (with_reducible refine (listing_Text.calls _ _ l0_0 a0_1 t577 t578 _ ?side1 ?side2 ?side3 ?side4 A17.out).mono ?_); (case side1 => exact GK.below HGK.out (by repeat (first | (with_reducible first | exact HB.out | apply below_alloc | apply pw_below_drewN | apply below_drew1 | refine below_set ?_ GE574.out) | exact HB.out))); (case side2 => exact GT.below HGT.out (by repeat (first | (with_reducible first | exact HB.out | apply below_alloc | apply pw_below_drewN | apply below_drew1 | refine below_set ?_ GE574.out) | exact HB.out))); (case side3 => repeat (first | exact (Kd.C_below HR0_0.out HB.out) | (with_reducible refine Kd.C_alloc ?_ _) | (with_reducible refine Kd.C_drewN ?_ _) | (with_reducible refine Kd.C_drew ?_))); (case side4 => exact HC0_0.out); rintro e w39 ⟨rfl, hb⟩; have n0_ := Aside0.mk (blk_below (g := gb574) (o := .cells #[.slice A0_0 l0_0.length c0_0, .int .i64 a0_1] 28 (0, 0)) (by (with_reducible repeat (first | refine blk_drewN ?_ _ | refine blk_drew ?_ | refine blk_alloc ?_ _)); exact BK574.out) hb); have n1_ := Aside0.mk (below_step (by repeat (first | (with_reducible first | exact HB.out | apply below_alloc | apply pw_below_drewN | apply below_drew1 | refine below_set ?_ GE574.out) | exact HB.out)) hb); clear BK574; clear HB; have BK574 := n0_; have HB := n1_; clear n0_ n1_; (try clear hb); (try clear hb2); (try clear hk); (try clear hi); have hcz40_0 : w39.cell? ⟨gb574, 0, none⟩ = some (.slice A0_0 l0_0.length c0_0) := (blk_cell BK574.out 0).trans rfl; have hcz40_1 : w39.cell? ⟨gb574, 1, none⟩ = some (.int .i64 a0_1) := (blk_cell BK574.out 1).trans rfl; have hfz40_0 := blk_frozen BK574.out 0; have hfz40_1 := blk_frozen BK574.out 1) | (go_at_call 36; (with_reducible refine (listing_Text.calls _ _ l0_0 (wrap64 (a1)) t579 t580 _ ?side1 ?side2 ?side3 ?side4 A18.out).mono ?_); (case side1 => exact GK.below HGK.out (by repeat (first | (with_reducible first | exact HB.out | apply below_alloc | apply pw_below_drewN | apply below_drew1 | refine below_set ?_ GE574.out) | exact HB.out))); (case side2 => exact GT.below HGT.out (by repeat (first | (with_reducible first | exact HB.out | apply below_alloc | apply pw_below_drewN | apply below_drew1 | refine below_set ?_ GE574.out) | exact HB.out))); (case side3 => repeat (first | exact (Kd.C_below HR0_0.out HB.out) | (with_reducible refine Kd.C_alloc ?_ _) | (with_reducible refine Kd.C_drewN ?_ _) | (with_reducible refine Kd.C_drew ?_))); (case side4 => exact HC0_0.out); rintro e w41 ⟨rfl, hb⟩; have n0_ := Aside0.mk (blk_below (g := gb574) (o := .cells #[.slice A0_0 l0_0.length c0_0, .int .i64 a0_1] 28 (0, 0)) (by (with_reducible repeat (first | refine blk_drewN ?_ _ | refine blk_drew ?_ | refine blk_alloc ?_ _)); exact BK574.out) hb); have n1_ := Aside0.mk (below_step (by repeat (first | (with_reducible first | exact HB.out | apply below_alloc | apply pw_below_drewN | apply below_drew1 | refine below_set ?_ GE574.out) | exact HB.out)) hb); clear BK574; clear HB; have BK574 := n0_; have HB := n1_; clear n0_ n1_; (try clear hb); (try clear hb2); (try clear hk); (try clear hi); have hcz42_0 : w41.cell? ⟨gb574, 0, none⟩ = some (.slice A0_0 l0_0.length c0_0) := (blk_cell BK574.out 0).trans rfl; have hcz42_1 : w41.cell? ⟨gb574, 1, none⟩ = some (.int .i64 a0_1) := (blk_cell BK574.out 1).trans rfl; have hfz42_0 := blk_frozen BK574.out 0; have hfz42_1 := blk_frozen BK574.out 1) | (go_at_call 45; (with_reducible refine (word_Text.calls ((a0_1) % 4294967296) t581 _ ?side1 A19.out).mono ?_); (case side1 => exact GT.below HGT.out (by repeat (first | (with_reducible first | exact HB.out | apply below_alloc | apply pw_below_drewN | apply below_drew1 | refine below_set ?_ GE574.out) | exact HB.out))); rintro e w43 ⟨rfl, hb⟩; have n0_ := Aside0.mk (blk_below (g := gb574) (o := .cells #[.slice A0_0 l0_0.length c0_0, .int .i64 a0_1] 28 (0, 0)) (by (with_reducible repeat (first | refine blk_drewN ?_ _ | refine blk_drew ?_ | refine blk_alloc ?_ _)); exact BK574.out) hb); have n1_ := Aside0.mk (below_step (by repeat (first | (with_reducible first | exact HB.out | apply below_alloc | apply pw_below_drewN | apply below_drew1 | refine below_set ?_ GE574.out) | exact HB.out)) hb); clear BK574; clear HB; have BK574 := n0_; have HB := n1_; clear n0_ n1_; (try clear hb); (try clear hb2); (try clear hk); (try clear hi)) | (go_at_call 45; (with_reducible refine (word_Text.calls ((a1) % 4294967296) t582 _ ?side1 A20.out).mono ?_); (case side1 => exact GT.below HGT.out (by repeat (first | (with_reducible first | exact HB.out | apply below_alloc | apply pw_below_drewN | apply below_drew1 | refine below_set ?_ GE574.out) | exact HB.out))); rintro e w44 ⟨rfl, hb⟩; have n0_ := Aside0.mk (blk_below (g := gb574) (o := .cells #[.slice A0_0 l0_0.length c0_0, .int .i64 a0_1] 28 (0, 0)) (by (with_reducible repeat (first | refine blk_drewN ?_ _ | refine blk_drew ?_ | refine blk_alloc ?_ _)); exact BK574.out) hb); have n1_ := Aside0.mk (below_step (by repeat (first | (with_reducible first | exact HB.out | apply below_alloc | apply pw_below_drewN | apply below_drew1 | refine below_set ?_ GE574.out) | exact HB.out)) hb); clear BK574; clear HB; have BK574 := n0_; have HB := n1_; clear n0_ n1_; (try clear hb); (try clear hb2); (try clear hk); (try clear hi)))
                  repeat (go_quiet (first | (go_at_call 36; (with_reducible refine (listing_Text.calls _ _ l0_0 a0_1 t577 t578 _ ?side1 ?side2 ?side3 ?side4 A17.out).mono ?_); (case side1 => exact GK.below HGK.out (by repeat (first | (with_reducible first | exact HB.out | apply below_alloc | apply pw_below_drewN | apply below_drew1 | refine below_set ?_ GE574.out) | exact HB.out))); (case side2 => exact GT.below HGT.out (by repeat (first | (with_reducible first | exact HB.out | apply below_alloc | apply pw_below_drewN | apply below_drew1 | refine below_set ?_ GE574.out) | exact HB.out))); (case side3 => repeat (first | exact (Kd.C_below HR0_0.out HB.out) | (with_reducible refine Kd.C_alloc ?_ _) | (with_reducible refine Kd.C_drewN ?_ _) | (with_reducible refine Kd.C_drew ?_))); (case side4 => exact HC0_0.out); rintro e w39 ⟨rfl, hb⟩; have n0_ := Aside0.mk (blk_below (g := gb574) (o := .cells #[.slice A0_0 l0_0.length c0_0, .int .i64 a0_1] 28 (0, 0)) (by (with_reducible repeat (first | refine blk_drewN ?_ _ | refine blk_drew ?_ | refine blk_alloc ?_ _)); exact BK574.out) hb); have n1_ := Aside0.mk (below_step (by repeat (first | (with_reducible first | exact HB.out | apply below_alloc | apply pw_below_drewN | apply below_drew1 | refine below_set ?_ GE574.out) | exact HB.out)) hb); clear BK574; clear HB; have BK574 := n0_; have HB := n1_; clear n0_ n1_; (try clear hb); (try clear hb2); (try clear hk); (try clear hi); have hcz40_0 : w39.cell? ⟨gb574, 0, none⟩ = some (.slice A0_0 l0_0.length c0_0) := (blk_cell BK574.out 0).trans rfl; have hcz40_1 : w39.cell? ⟨gb574, 1, none⟩ = some (.int .i64 a0_1) := (blk_cell BK574.out 1).trans rfl; have hfz40_0 := blk_frozen BK574.out 0; have hfz40_1 := blk_frozen BK574.out 1) | (go_at_call 36; (with_reducible refine (listing_Text.calls _ _ l0_0 (wrap64 (a1)) t579 t580 _ ?side1 ?side2 ?side3 ?side4 A18.out).mono ?_); (case side1 => exact GK.below HGK.out (by repeat (first | (with_reducible first | exact HB.out | apply below_alloc | apply pw_below_drewN | apply below_drew1 | refine below_set ?_ GE574.out) | exact HB.out))); (case side2 => exact GT.below HGT.out (by repeat (first | (with_reducible first | exact HB.out | apply below_alloc | apply pw_below_drewN | apply below_drew1 | refine below_set ?_ GE574.out) | exact HB.out))); (case side3 => repeat (first | exact (Kd.C_below HR0_0.out HB.out) | (with_reducible refine Kd.C_alloc ?_ _) | (with_reducible refine Kd.C_drewN ?_ _) | (with_reducible refine Kd.C_drew ?_))); (case side4 => exact HC0_0.out); rintro e w41 ⟨rfl, hb⟩; have n0_ := Aside0.mk (blk_below (g := gb574) (o := .cells #[.slice A0_0 l0_0.length c0_0, .int .i64 a0_1] 28 (0, 0)) (by (with_reducible repeat (first | refine blk_drewN ?_ _ | refine blk_drew ?_ | refine blk_alloc ?_ _)); exact BK574.out) hb); have n1_ := Aside0.mk (below_step (by repeat (first | (with_reducible first | exact HB.out | apply below_alloc | apply pw_below_drewN | apply below_drew1 | refine below_set ?_ GE574.out) | exact HB.out)) hb); clear BK574; clear HB; have BK574 := n0_; have HB := n1_; clear n0_ n1_; (try clear hb); (try clear hb2); (try clear hk); (try clear hi); have hcz42_0 : w41.cell? ⟨gb574, 0, none⟩ = some (.slice A0_0 l0_0.length c0_0) := (blk_cell BK574.out 0).trans rfl; have hcz42_1 : w41.cell? ⟨gb574, 1, none⟩ = some (.int .i64 a0_1) := (blk_cell BK574.out 1).trans rfl; have hfz42_0 := blk_frozen BK574.out 0; have hfz42_1 := blk_frozen BK574.out 1) | (go_at_call 45; (with_reducible refine (word_Text.calls ((a0_1) % 4294967296) t581 _ ?side1 A19.out).mono ?_); (case side1 => exact GT.below HGT.out (by repeat (first | (with_reducible first | exact HB.out | apply below_alloc | apply pw_below_drewN | apply below_drew1 | refine below_set ?_ GE574.out) | exact HB.out))); rintro e w43 ⟨rfl, hb⟩; have n0_ := Aside0.mk (blk_below (g := gb574) (o := .cells #[.slice A0_0 l0_0.length c0_0, .int .i64 a0_1] 28 (0, 0)) (by (with_reducible repeat (first | refine blk_drewN ?_ _ | refine blk_drew ?_ | refine blk_alloc ?_ _)); exact BK574.out) hb); have n1_ := Aside0.mk (below_step (by repeat (first | (with_reducible first | exact HB.out | apply below_alloc | apply pw_below_drewN | apply below_drew1 | refine below_set ?_ GE574.out) | exact HB.out)) hb); clear BK574; clear HB; have BK574 := n0_; have HB := n1_; clear n0_ n1_; (try clear hb); (try clear hb2); (try clear hk); (try clear hi)) | (go_at_call 45; (with_reducible refine (word_Text.calls ((a1) % 4294967296) t582 _ ?side1 A20.out).mono ?_); (case side1 => exact GT.below HGT.out (by repeat (first | (with_reducible first | exact HB.out | apply below_alloc | apply pw_below_drewN | apply below_drew1 | refine below_set ?_ GE574.out) | exact HB.out))); rintro e w44 ⟨rfl, hb⟩; have n0_ := Aside0.mk (blk_below (g := gb574) (o := .cells #[.slice A0_0 l0_0.length c0_0, .int .i64 a0_1] 28 (0, 0)) (by (with_reducible repeat (first | refine blk_drewN ?_ _ | refine blk_drew ?_ | refine blk_alloc ?_ _)); exact BK574.out) hb); have n1_ := Aside0.mk (below_step (by repeat (first | (with_reducible first | exact HB.out | apply below_alloc | apply pw_below_drewN | apply below_drew1 | refine below_set ?_ GE574.out) | exact HB.out)) hb); clear BK574; clear HB; have BK574 := n0_; have HB := n1_; clear n0_ n1_; (try clear hb); (try clear hb2); (try clear hk); (try clear hi))); try go_wp2_with (first | (go_at_call 36; (with_reducible refine (listing_Text.calls _ _ l0_0 a0_1 t577 t578 _ ?side1 ?side2 ?side3 ?side4 A17.out).mono ?_); (case side1 => exact GK.below HGK.out (by repeat (first | (with_reducible first | exact HB.out | apply below_alloc | apply pw_below_drewN | apply below_drew1 | refine below_set ?_ GE574.out) | exact HB.out))); (case side2 => exact GT.below HGT.out (by repeat (first | (with_reducible first | exact HB.out | apply below_alloc | apply pw_below_drewN | apply below_drew1 | refine below_set ?_ GE574.out) | exact HB.out))); (case side3 => repeat (first | exact (Kd.C_below HR0_0.out HB.out) | (with_reducible refine Kd.C_alloc ?_ _) | (with_reducible refine Kd.C_drewN ?_ _) | (with_reducible refine Kd.C_drew ?_))); (case side4 => exact HC0_0.out); rintro e w39 ⟨rfl, hb⟩; have n0_ := Aside0.mk (blk_below (g := gb574) (o := .cells #[.slice A0_0 l0_0.length c0_0, .int .i64 a0_1] 28 (0, 0)) (by (with_reducible repeat (first | refine blk_drewN ?_ _ | refine blk_drew ?_ | refine blk_alloc ?_ _)); exact BK574.out) hb); have n1_ := Aside0.mk (below_step (by repeat (first | (with_reducible first | exact HB.out | apply below_alloc | apply pw_below_drewN | apply below_drew1 | refine below_set ?_ GE574.out) | exact HB.out)) hb); clear BK574; clear HB; have BK574 := n0_; have HB := n1_; clear n0_ n1_; (try clear hb); (try clear hb2); (try clear hk); (try clear hi); have hcz40_0 : w39.cell? ⟨gb574, 0, none⟩ = some (.slice A0_0 l0_0.length c0_0) := (blk_cell BK574.out 0).trans rfl; have hcz40_1 : w39.cell? ⟨gb574, 1, none⟩ = some (.int .i64 a0_1) := (blk_cell BK574.out 1).trans rfl; have hfz40_0 := blk_frozen BK574.out 0; have hfz40_1 := blk_frozen BK574.out 1) | (go_at_call 36; (with_reducible refine (listing_Text.calls _ _ l0_0 (wrap64 (a1)) t579 t580 _ ?side1 ?side2 ?side3 ?side4 A18.out).mono ?_); (case side1 => exact GK.below HGK.out (by repeat (first | (with_reducible first | exact HB.out | apply below_alloc | apply pw_below_drewN | apply below_drew1 | refine below_set ?_ GE574.out) | exact HB.out))); (case side2 => exact GT.below HGT.out (by repeat (first | (with_reducible first | exact HB.out | apply below_alloc | apply pw_below_drewN | apply below_drew1 | refine below_set ?_ GE574.out) | exact HB.out))); (case side3 => repeat (first | exact (Kd.C_below HR0_0.out HB.out) | (with_reducible refine Kd.C_alloc ?_ _) | (with_reducible refine Kd.C_drewN ?_ _) | (with_reducible refine Kd.C_drew ?_))); (case side4 => exact HC0_0.out); rintro e w41 ⟨rfl, hb⟩; have n0_ := Aside0.mk (blk_below (g := gb574) (o := .cells #[.slice A0_0 l0_0.length c0_0, .int .i64 a0_1] 28 (0, 0)) (by (with_reducible repeat (first | refine blk_drewN ?_ _ | refine blk_drew ?_ | refine blk_alloc ?_ _)); exact BK574.out) hb); have n1_ := Aside0.mk (below_step (by repeat (first | (with_reducible first | exact HB.out | apply below_alloc | apply pw_below_drewN | apply below_drew1 | refine below_set ?_ GE574.out) | exact HB.out)) hb); clear BK574; clear HB; have BK574 := n0_; have HB := n1_; clear n0_ n1_; (try clear hb); (try clear hb2); (try clear hk); (try clear hi); have hcz42_0 : w41.cell? ⟨gb574, 0, none⟩ = some (.slice A0_0 l0_0.length c0_0) := (blk_cell BK574.out 0).trans rfl; have hcz42_1 : w41.cell? ⟨gb574, 1, none⟩ = some (.int .i64 a0_1) := (blk_cell BK574.out 1).trans rfl; have hfz42_0 := blk_frozen BK574.out 0; have hfz42_1 := blk_frozen BK574.out 1) | (go_at_call 45; (with_reducible refine (word_Text.calls ((a0_1) % 4294967296) t581 _ ?side1 A19.out).mono ?_); (case side1 => exact GT.below HGT.out (by repeat (first | (with_reducible first | exact HB.out | apply below_alloc | apply pw_below_drewN | apply below_drew1 | refine below_set ?_ GE574.out) | exact HB.out))); rintro e w43 ⟨rfl, hb⟩; have n0_ := Aside0.mk (blk_below (g := gb574) (o := .cells #[.slice A0_0 l0_0.length c0_0, .int .i64 a0_1] 28 (0, 0)) (by (with_reducible repeat (first | refine blk_drewN ?_ _ | refine blk_drew ?_ | refine blk_alloc ?_ _)); exact BK574.out) hb); have n1_ := Aside0.mk (below_step (by repeat (first | (with_reducible first | exact HB.out | apply below_alloc | apply pw_below_drewN | apply below_drew1 | refine below_set ?_ GE574.out) | exact HB.out)) hb); clear BK574; clear HB; have BK574 := n0_; have HB := n1_; clear n0_ n1_; (try clear hb); (try clear hb2); (try clear hk); (try clear hi)) | (go_at_call 45; (with_reducible refine (word_Text.calls ((a1) % 4294967296) t582 _ ?side1 A20.out).mono ?_); (case side1 => exact GT.below HGT.out (by repeat (first | (with_reducible first | exact HB.out | apply below_alloc | apply pw_below_drewN | apply below_drew1 | refine below_set ?_ GE574.out) | exact HB.out))); rintro e w44 ⟨rfl, hb⟩; have n0_ := Aside0.mk (blk_below (g := gb574) (o := .cells #[.slice A0_0 l0_0.length c0_0, .int .i64 a0_1] 28 (0, 0)) (by (with_reducible repeat (first | refine blk_drewN ?_ _ | refine blk_drew ?_ | refine blk_alloc ?_ _)); exact BK574.out) hb); have n1_ := Aside0.mk (below_step (by repeat (first | (with_reducible first | exact HB.out | apply below_alloc | apply pw_below_drewN | apply below_drew1 | refine below_set ?_ GE574.out) | exact HB.out)) hb); clear BK574; clear HB; have BK574 := n0_; have HB := n1_; clear n0_ n1_; (try clear hb); (try clear hb2); (try clear hk); (try clear hi))))
                  go_ret
                  exact ⟨by first | rfl | (simp [errW_none, errW_some] <;> rfl) | (simp [*, errW_none, errW_some] <;> rfl), by repeat (first | (with_reducible first | exact HB.out | apply below_alloc | apply pw_below_drewN | apply below_drew1 | refine below_set ?_ GE574.out) | exact HB.out)⟩
              · rw [if_neg c23] at H
                have c23b0 : decide ((wrap64 (7 + (t581.size : Int))) ≤ (t577.size : Int)) = false := decide_eq_false c23
                clear c23
                obtain rfl := Option.some.inj H
                have hcz45_0 : wc.cell? ⟨gb574, 0, none⟩ = some (.slice A0_0 l0_0.length c0_0) := (blk_cell BK574.out 0).trans rfl
                have hcz45_1 : wc.cell? ⟨gb574, 1, none⟩ = some (.int .i64 a0_1) := (blk_cell BK574.out 1).trans rfl
                have hfz45_0 := blk_frozen BK574.out 0
                have hfz45_1 := blk_frozen BK574.out 1
                go_wp2_with (first | (go_at_call 36; (with_reducible refine (listing_Text.calls _ _ l0_0 a0_1 t577 t578 _ ?side1 ?side2 ?side3 ?side4 A17.out).mono ?_); (case side1 => exact GK.below HGK.out (by repeat (first | (with_reducible first | exact HB.out | apply below_alloc | apply pw_below_drewN | apply below_drew1 | refine below_set ?_ GE574.out) | exact HB.out))); (case side2 => exact GT.below HGT.out (by repeat (first | (with_reducible first | exact HB.out | apply below_alloc | apply pw_below_drewN | apply below_drew1 | refine below_set ?_ GE574.out) | exact HB.out))); (case side3 => repeat (first | exact (Kd.C_below HR0_0.out HB.out) | (with_reducible refine Kd.C_alloc ?_ _) | (with_reducible refine Kd.C_drewN ?_ _) | (with_reducible refine Kd.C_drew ?_))); (case side4 => exact HC0_0.out); rintro e w46 ⟨rfl, hb⟩; have n0_ := Aside0.mk (blk_below (g := gb574) (o := .cells #[.slice A0_0 l0_0.length c0_0, .int .i64 a0_1] 28 (0, 0)) (by (with_reducible repeat (first | refine blk_drewN ?_ _ | refine blk_drew ?_ | refine blk_alloc ?_ _)); exact BK574.out) hb); have n1_ := Aside0.mk (below_step (by repeat (first | (with_reducible first | exact HB.out | apply below_alloc | apply pw_below_drewN | apply below_drew1 | refine below_set ?_ GE574.out) | exact HB.out)) hb); clear BK574; clear HB; have BK574 := n0_; have HB := n1_; clear n0_ n1_; (try clear hb); (try clear hb2); (try clear hk); (try clear hi); have hcz47_0 : w46.cell? ⟨gb574, 0, none⟩ = some (.slice A0_0 l0_0.length c0_0) := (blk_cell BK574.out 0).trans rfl; have hcz47_1 : w46.cell? ⟨gb574, 1, none⟩ = some (.int .i64 a0_1) := (blk_cell BK574.out 1).trans rfl; have hfz47_0 := blk_frozen BK574.out 0; have hfz47_1 := blk_frozen BK574.out 1) | (go_at_call 36; (with_reducible refine (listing_Text.calls _ _ l0_0 (wrap64 (a1)) t579 t580 _ ?side1 ?side2 ?side3 ?side4 A18.out).mono ?_); (case side1 => exact GK.below HGK.out (by repeat (first | (with_reducible first | exact HB.out | apply below_alloc | apply pw_below_drewN | apply below_drew1 | refine below_set ?_ GE574.out) | exact HB.out))); (case side2 => exact GT.below HGT.out (by repeat (first | (with_reducible first | exact HB.out | apply below_alloc | apply pw_below_drewN | apply below_drew1 | refine below_set ?_ GE574.out) | exact HB.out))); (case side3 => repeat (first | exact (Kd.C_below HR0_0.out HB.out) | (with_reducible refine Kd.C_alloc ?_ _) | (with_reducible refine Kd.C_drewN ?_ _) | (with_reducible refine Kd.C_drew ?_))); (case side4 => exact HC0_0.out); rintro e w48 ⟨rfl, hb⟩; have n0_ := Aside0.mk (blk_below (g := gb574) (o := .cells #[.slice A0_0 l0_0.length c0_0, .int .i64 a0_1] 28 (0, 0)) (by (with_reducible repeat (first | refine blk_drewN ?_ _ | refine blk_drew ?_ | refine blk_alloc ?_ _)); exact BK574.out) hb); have n1_ := Aside0.mk (below_step (by repeat (first | (with_reducible first | exact HB.out | apply below_alloc | apply pw_below_drewN | apply below_drew1 | refine below_set ?_ GE574.out) | exact HB.out)) hb); clear BK574; clear HB; have BK574 := n0_; have HB := n1_; clear n0_ n1_; (try clear hb); (try clear hb2); (try clear hk); (try clear hi); have hcz49_0 : w48.cell? ⟨gb574, 0, none⟩ = some (.slice A0_0 l0_0.length c0_0) := (blk_cell BK574.out 0).trans rfl; have hcz49_1 : w48.cell? ⟨gb574, 1, none⟩ = some (.int .i64 a0_1) := (blk_cell BK574.out 1).trans rfl; have hfz49_0 := blk_frozen BK574.out 0; have hfz49_1 := blk_frozen BK574.out 1) | (go_at_call 45; (with_reducible refine (word_Text.calls ((a0_1) % 4294967296) t581 _ ?side1 A19.out).mono ?_); (case side1 => exact GT.below HGT.out (by repeat (first | (with_reducible first | exact HB.out | apply below_alloc | apply pw_below_drewN | apply below_drew1 | refine below_set ?_ GE574.out) | exact HB.out))); rintro e w50 ⟨rfl, hb⟩; have n0_ := Aside0.mk (blk_below (g := gb574) (o := .cells #[.slice A0_0 l0_0.length c0_0, .int .i64 a0_1] 28 (0, 0)) (by (with_reducible repeat (first | refine blk_drewN ?_ _ | refine blk_drew ?_ | refine blk_alloc ?_ _)); exact BK574.out) hb); have n1_ := Aside0.mk (below_step (by repeat (first | (with_reducible first | exact HB.out | apply below_alloc | apply pw_below_drewN | apply below_drew1 | refine below_set ?_ GE574.out) | exact HB.out)) hb); clear BK574; clear HB; have BK574 := n0_; have HB := n1_; clear n0_ n1_; (try clear hb); (try clear hb2); (try clear hk); (try clear hi)) | (go_at_call 45; (with_reducible refine (word_Text.calls ((a1) % 4294967296) t582 _ ?side1 A20.out).mono ?_); (case side1 => exact GT.below HGT.out (by repeat (first | (with_reducible first | exact HB.out | apply below_alloc | apply pw_below_drewN | apply below_drew1 | refine below_set ?_ GE574.out) | exact HB.out))); rintro e w51 ⟨rfl, hb⟩; have n0_ := Aside0.mk (blk_below (g := gb574) (o := .cells #[.slice A0_0 l0_0.length c0_0, .int .i64 a0_1] 28 (0, 0)) (by (with_reducible repeat (first | refine blk_drewN ?_ _ | refine blk_drew ?_ | refine blk_alloc ?_ _)); exact BK574.out) hb); have n1_ := Aside0.mk (below_step (by repeat (first | (with_reducible first | exact HB.out | apply below_alloc | apply pw_below_drewN | apply below_drew1 | refine below_set ?_ GE574.out) | exact HB.out)) hb); clear BK574; clear HB; have BK574 := n0_; have HB := n1_; clear n0_ n1_; (try clear hb); (try clear hb2); (try clear hk); (try clear hi)))
                repeat (go_quiet (first | (go_at_call 36; (with_reducible refine (listing_Text.calls _ _ l0_0 a0_1 t577 t578 _ ?side1 ?side2 ?side3 ?side4 A17.out).mono ?_); (case side1 => exact GK.below HGK.out (by repeat (first | (with_reducible first | exact HB.out | apply below_alloc | apply pw_below_drewN | apply below_drew1 | refine below_set ?_ GE574.out) | exact HB.out))); (case side2 => exact GT.below HGT.out (by repeat (first | (with_reducible first | exact HB.out | apply below_alloc | apply pw_below_drewN | apply below_drew1 | refine below_set ?_ GE574.out) | exact HB.out))); (case side3 => repeat (first | exact (Kd.C_below HR0_0.out HB.out) | (with_reducible refine Kd.C_alloc ?_ _) | (with_reducible refine Kd.C_drewN ?_ _) | (with_reducible refine Kd.C_drew ?_))); (case side4 => exact HC0_0.out); rintro e w46 ⟨rfl, hb⟩; have n0_ := Aside0.mk (blk_below (g := gb574) (o := .cells #[.slice A0_0 l0_0.length c0_0, .int .i64 a0_1] 28 (0, 0)) (by (with_reducible repeat (first | refine blk_drewN ?_ _ | refine blk_drew ?_ | refine blk_alloc ?_ _)); exact BK574.out) hb); have n1_ := Aside0.mk (below_step (by repeat (first | (with_reducible first | exact HB.out | apply below_alloc | apply pw_below_drewN | apply below_drew1 | refine below_set ?_ GE574.out) | exact HB.out)) hb); clear BK574; clear HB; have BK574 := n0_; have HB := n1_; clear n0_ n1_; (try clear hb); (try clear hb2); (try clear hk); (try clear hi); have hcz47_0 : w46.cell? ⟨gb574, 0, none⟩ = some (.slice A0_0 l0_0.length c0_0) := (blk_cell BK574.out 0).trans rfl; have hcz47_1 : w46.cell? ⟨gb574, 1, none⟩ = some (.int .i64 a0_1) := (blk_cell BK574.out 1).trans rfl; have hfz47_0 := blk_frozen BK574.out 0; have hfz47_1 := blk_frozen BK574.out 1) | (go_at_call 36; (with_reducible refine (listing_Text.calls _ _ l0_0 (wrap64 (a1)) t579 t580 _ ?side1 ?side2 ?side3 ?side4 A18.out).mono ?_); (case side1 => exact GK.below HGK.out (by repeat (first | (with_reducible first | exact HB.out | apply below_alloc | apply pw_below_drewN | apply below_drew1 | refine below_set ?_ GE574.out) | exact HB.out))); (case side2 => exact GT.below HGT.out (by repeat (first | (with_reducible first | exact HB.out | apply below_alloc | apply pw_below_drewN | apply below_drew1 | refine below_set ?_ GE574.out) | exact HB.out))); (case side3 => repeat (first | exact (Kd.C_below HR0_0.out HB.out) | (with_reducible refine Kd.C_alloc ?_ _) | (with_reducible refine Kd.C_drewN ?_ _) | (with_reducible refine Kd.C_drew ?_))); (case side4 => exact HC0_0.out); rintro e w48 ⟨rfl, hb⟩; have n0_ := Aside0.mk (blk_below (g := gb574) (o := .cells #[.slice A0_0 l0_0.length c0_0, .int .i64 a0_1] 28 (0, 0)) (by (with_reducible repeat (first | refine blk_drewN ?_ _ | refine blk_drew ?_ | refine blk_alloc ?_ _)); exact BK574.out) hb); have n1_ := Aside0.mk (below_step (by repeat (first | (with_reducible first | exact HB.out | apply below_alloc | apply pw_below_drewN | apply below_drew1 | refine below_set ?_ GE574.out) | exact HB.out)) hb); clear BK574; clear HB; have BK574 := n0_; have HB := n1_; clear n0_ n1_; (try clear hb); (try clear hb2); (try clear hk); (try clear hi); have hcz49_0 : w48.cell? ⟨gb574, 0, none⟩ = some (.slice A0_0 l0_0.length c0_0) := (blk_cell BK574.out 0).trans rfl; have hcz49_1 : w48.cell? ⟨gb574, 1, none⟩ = some (.int .i64 a0_1) := (blk_cell BK574.out 1).trans rfl; have hfz49_0 := blk_frozen BK574.out 0; have hfz49_1 := blk_frozen BK574.out 1) | (go_at_call 45; (with_reducible refine (word_Text.calls ((a0_1) % 4294967296) t581 _ ?side1 A19.out).mono ?_); (case side1 => exact GT.below HGT.out (by repeat (first | (with_reducible first | exact HB.out | apply below_alloc | apply pw_below_drewN | apply below_drew1 | refine below_set ?_ GE574.out) | exact HB.out))); rintro e w50 ⟨rfl, hb⟩; have n0_ := Aside0.mk (blk_below (g := gb574) (o := .cells #[.slice A0_0 l0_0.length c0_0, .int .i64 a0_1] 28 (0, 0)) (by (with_reducible repeat (first | refine blk_drewN ?_ _ | refine blk_drew ?_ | refine blk_alloc ?_ _)); exact BK574.out) hb); have n1_ := Aside0.mk (below_step (by repeat (first | (with_reducible first | exact HB.out | apply below_alloc | apply pw_below_drewN | apply below_drew1 | refine below_set ?_ GE574.out) | exact HB.out)) hb); clear BK574; clear HB; have BK574 := n0_; have HB := n1_; clear n0_ n1_; (try clear hb); (try clear hb2); (try clear hk); (try clear hi)) | (go_at_call 45; (with_reducible refine (word_Text.calls ((a1) % 4294967296) t582 _ ?side1 A20.out).mono ?_); (case side1 => exact GT.below HGT.out (by repeat (first | (with_reducible first | exact HB.out | apply below_alloc | apply pw_below_drewN | apply below_drew1 | refine below_set ?_ GE574.out) | exact HB.out))); rintro e w51 ⟨rfl, hb⟩; have n0_ := Aside0.mk (blk_below (g := gb574) (o := .cells #[.slice A0_0 l0_0.length c0_0, .int .i64 a0_1] 28 (0, 0)) (by (with_reducible repeat (first | refine blk_drewN ?_ _ | refine blk_drew ?_ | refine blk_alloc ?_ _)); exact BK574.out) hb); have n1_ := Aside0.mk (below_step (by repeat (first | (with_reducible first | exact HB.out | apply below_alloc | apply pw_below_drewN | apply below_drew1 | refine below_set ?_ GE574.out) | exact HB.out)) hb); clear BK574; clear HB; have BK574 := n0_; have HB := n1_; clear n0_ n1_; (try clear hb); (try clear hb2); (try clear hk); (try clear hi))); try go_wp2_with (first | (go_at_call 36; (with_reducible refine (listing_Text.calls _ _ l0_0 a0_1 t577 t578 _ ?side1 ?side2 ?side3 ?side4 A17.out).mono ?_); (case side1 => exact GK.below HGK.out (by repeat (first | (with_reducible first | exact HB.out | apply below_alloc | apply pw_below_drewN | apply below_drew1 | refine below_set ?_ GE574.out) | exact HB.out))); (case side2 => exact GT.below HGT.out (by repeat (first | (with_reducible first | exact HB.out | apply below_alloc | apply pw_below_drewN | apply below_drew1 | refine below_set ?_ GE574.out) | exact HB.out))); (case side3 => repeat (first | exact (Kd.C_below HR0_0.out HB.out) | (with_reducible refine Kd.C_alloc ?_ _) | (with_reducible refine Kd.C_drewN ?_ _) | (with_reducible refine Kd.C_drew ?_))); (case side4 => exact HC0_0.out); rintro e w46 ⟨rfl, hb⟩; have n0_ := Aside0.mk (blk_below (g := gb574) (o := .cells #[.slice A0_0 l0_0.length c0_0, .int .i64 a0_1] 28 (0, 0)) (by (with_reducible repeat (first | refine blk_drewN ?_ _ | refine blk_drew ?_ | refine blk_alloc ?_ _)); exact BK574.out) hb); have n1_ := Aside0.mk (below_step (by repeat (first | (with_reducible first | exact HB.out | apply below_alloc | apply pw_below_drewN | apply below_drew1 | refine below_set ?_ GE574.out) | exact HB.out)) hb); clear BK574; clear HB; have BK574 := n0_; have HB := n1_; clear n0_ n1_; (try clear hb); (try clear hb2); (try clear hk); (try clear hi); have hcz47_0 : w46.cell? ⟨gb574, 0, none⟩ = some (.slice A0_0 l0_0.length c0_0) := (blk_cell BK574.out 0).trans rfl; have hcz47_1 : w46.cell? ⟨gb574, 1, none⟩ = some (.int .i64 a0_1) := (blk_cell BK574.out 1).trans rfl; have hfz47_0 := blk_frozen BK574.out 0; have hfz47_1 := blk_frozen BK574.out 1) | (go_at_call 36; (with_reducible refine (listing_Text.calls _ _ l0_0 (wrap64 (a1)) t579 t580 _ ?side1 ?side2 ?side3 ?side4 A18.out).mono ?_); (case side1 => exact GK.below HGK.out (by repeat (first | (with_reducible first | exact HB.out | apply below_alloc | apply pw_below_drewN | apply below_drew1 | refine below_set ?_ GE574.out) | exact HB.out))); (case side2 => exact GT.below HGT.out (by repeat (first | (with_reducible first | exact HB.out | apply below_alloc | apply pw_below_drewN | apply below_drew1 | refine below_set ?_ GE574.out) | exact HB.out))); (case side3 => repeat (first | exact (Kd.C_below HR0_0.out HB.out) | (with_reducible refine Kd.C_alloc ?_ _) | (with_reducible refine Kd.C_drewN ?_ _) | (with_reducible refine Kd.C_drew ?_))); (case side4 => exact HC0_0.out); rintro e w48 ⟨rfl, hb⟩; have n0_ := Aside0.mk (blk_below (g := gb574) (o := .cells #[.slice A0_0 l0_0.length c0_0, .int .i64 a0_1] 28 (0, 0)) (by (with_reducible repeat (first | refine blk_drewN ?_ _ | refine blk_drew ?_ | refine blk_alloc ?_ _)); exact BK574.out) hb); have n1_ := Aside0.mk (below_step (by repeat (first | (with_reducible first | exact HB.out | apply below_alloc | apply pw_below_drewN | apply below_drew1 | refine below_set ?_ GE574.out) | exact HB.out)) hb); clear BK574; clear HB; have BK574 := n0_; have HB := n1_; clear n0_ n1_; (try clear hb); (try clear hb2); (try clear hk); (try clear hi); have hcz49_0 : w48.cell? ⟨gb574, 0, none⟩ = some (.slice A0_0 l0_0.length c0_0) := (blk_cell BK574.out 0).trans rfl; have hcz49_1 : w48.cell? ⟨gb574, 1, none⟩ = some (.int .i64 a0_1) := (blk_cell BK574.out 1).trans rfl; have hfz49_0 := blk_frozen BK574.out 0; have hfz49_1 := blk_frozen BK574.out 1) | (go_at_call 45; (with_reducible refine (word_Text.calls ((a0_1) % 4294967296) t581 _ ?side1 A19.out).mono ?_); (case side1 => exact GT.below HGT.out (by repeat (first | (with_reducible first | exact HB.out | apply below_alloc | apply pw_below_drewN | apply below_drew1 | refine below_set ?_ GE574.out) | exact HB.out))); rintro e w50 ⟨rfl, hb⟩; have n0_ := Aside0.mk (blk_below (g := gb574) (o := .cells #[.slice A0_0 l0_0.length c0_0, .int .i64 a0_1] 28 (0, 0)) (by (with_reducible repeat (first | refine blk_drewN ?_ _ | refine blk_drew ?_ | refine blk_alloc ?_ _)); exact BK574.out) hb); have n1_ := Aside0.mk (below_step (by repeat (first | (with_reducible first | exact HB.out | apply below_alloc | apply pw_below_drewN | apply below_drew1 | refine below_set ?_ GE574.out) | exact HB.out)) hb); clear BK574; clear HB; have BK574 := n0_; have HB := n1_; clear n0_ n1_; (try clear hb); (try clear hb2); (try clear hk); (try clear hi)) | (go_at_call 45; (with_reducible refine (word_Text.calls ((a1) % 4294967296) t582 _ ?side1 A20.out).mono ?_); (case side1 => exact GT.below HGT.out (by repeat (first | (with_reducible first | exact HB.out | apply below_alloc | apply pw_below_drewN | apply below_drew1 | refine below_set ?_ GE574.out) | exact HB.out))); rintro e w51 ⟨rfl, hb⟩; have n0_ := Aside0.mk (blk_below (g := gb574) (o := .cells #[.slice A0_0 l0_0.length c0_0, .int .i64 a0_1] 28 (0, 0)) (by (with_reducible repeat (first | refine blk_drewN ?_ _ | refine blk_drew ?_ | refine blk_alloc ?_ _)); exact BK574.out) hb); have n1_ := Aside0.mk (below_step (by repeat (first | (with_reducible first | exact HB.out | apply below_alloc | apply pw_below_drewN | apply below_drew1 | refine below_set ?_ GE574.out) | exact HB.out)) hb); clear BK574; clear HB; have BK574 := n0_; have HB := n1_; clear n0_ n1_; (try clear hb); (try clear hb2); (try clear hk); (try clear hi))))
                go_ret
                exact ⟨by first | rfl | (simp [errW_none, errW_some] <;> rfl) | (simp [*, errW_none, errW_some] <;> rfl), by repeat (first | (with_reducible first | exact HB.out | apply below_alloc | apply pw_below_drewN | apply below_drew1 | refine below_set ?_ GE574.out) | exact HB.out)⟩
            · rw [if_neg c22] at H
              have c22b0 : (t580 == 0) = false := beq_eq_false_iff_ne.mpr c22
              have c22b1 : (t580 != 0) = true := bne_iff_ne.mpr c22
              obtain rfl := Option.some.inj H
              have hcz52_0 : wc.cell? ⟨gb574, 0, none⟩ = some (.slice A0_0 l0_0.length c0_0) := (blk_cell BK574.out 0).trans rfl
              have hcz52_1 : wc.cell? ⟨gb574, 1, none⟩ = some (.int .i64 a0_1) := (blk_cell BK574.out 1).trans rfl
              have hfz52_0 := blk_frozen BK574.out 0
              have hfz52_1 := blk_frozen BK574.out 1
              go_wp2_with (first | (go_at_call 36; (with_reducible refine (listing_Text.calls _ _ l0_0 a0_1 t577 t578 _ ?side1 ?side2 ?side3 ?side4 A17.out).mono ?_); (case side1 => exact GK.below HGK.out (by repeat (first | (with_reducible first | exact HB.out | apply below_alloc | apply pw_below_drewN | apply below_drew1 | refine below_set ?_ GE574.out) | exact HB.out))); (case side2 => exact GT.below HGT.out (by repeat (first | (with_reducible first | exact HB.out | apply below_alloc | apply pw_below_drewN | apply below_drew1 | refine below_set ?_ GE574.out) | exact HB.out))); (case side3 => repeat (first | exact (Kd.C_below HR0_0.out HB.out) | (with_reducible refine Kd.C_alloc ?_ _) | (with_reducible refine Kd.C_drewN ?_ _) | (with_reducible refine Kd.C_drew ?_))); (case side4 => exact HC0_0.out); rintro e w53 ⟨rfl, hb⟩; have n0_ := Aside0.mk (blk_below (g := gb574) (o := .cells #[.slice A0_0 l0_0.length c0_0, .int .i64 a0_1] 28 (0, 0)) (by (with_reducible repeat (first | refine blk_drewN ?_ _ | refine blk_drew ?_ | refine blk_alloc ?_ _)); exact BK574.out) hb); have n1_ := Aside0.mk (below_step (by repeat (first | (with_reducible first | exact HB.out | apply below_alloc | apply pw_below_drewN | apply below_drew1 | refine below_set ?_ GE574.out) | exact HB.out)) hb); clear BK574; clear HB; have BK574 := n0_; have HB := n1_; clear n0_ n1_; (try clear hb); (try clear hb2); (try clear hk); (try clear hi); have hcz54_0 : w53.cell? ⟨gb574, 0, none⟩ = some (.slice A0_0 l0_0.length c0_0) := (blk_cell BK574.out 0).trans rfl; have hcz54_1 : w53.cell? ⟨gb574, 1, none⟩ = some (.int .i64 a0_1) := (blk_cell BK574.out 1).trans rfl; have hfz54_0 := blk_frozen BK574.out 0; have hfz54_1 := blk_frozen BK574.out 1) | (go_at_call 36; (with_reducible refine (listing_Text.calls _ _ l0_0 (wrap64 (a1)) t579 t580 _ ?side1 ?side2 ?side3 ?side4 A18.out).mono ?_); (case side1 => exact GK.below HGK.out (by repeat (first | (with_reducible first | exact HB.out | apply below_alloc | apply pw_below_drewN | apply below_drew1 | refine below_set ?_ GE574.out) | exact HB.out))); (case side2 => exact GT.below HGT.out (by repeat (first | (with_reducible first | exact HB.out | apply below_alloc | apply pw_below_drewN | apply below_drew1 | refine below_set ?_ GE574.out) | exact HB.out))); (case side3 => repeat (first | exact (Kd.C_below HR0_0.out HB.out) | (with_reducible refine Kd.C_alloc ?_ _) | (with_reducible refine Kd.C_drewN ?_ _) | (with_reducible refine Kd.C_drew ?_))); (case side4 => exact HC0_0.out); rintro e w55 ⟨rfl, hb⟩; have n0_ := Aside0.mk (blk_below (g := gb574) (o := .cells #[.slice A0_0 l0_0.length c0_0, .int .i64 a0_1] 28 (0, 0)) (by (with_reducible repeat (first | refine blk_drewN ?_ _ | refine blk_drew ?_ | refine blk_alloc ?_ _)); exact BK574.out) hb); have n1_ := Aside0.mk (below_step (by repeat (first | (with_reducible first | exact HB.out | apply below_alloc | apply pw_below_drewN | apply below_drew1 | refine below_set ?_ GE574.out) | exact HB.out)) hb); clear BK574; clear HB; have BK574 := n0_; have HB := n1_; clear n0_ n1_; (try clear hb); (try clear hb2); (try clear hk); (try clear hi); have hcz56_0 : w55.cell? ⟨gb574, 0, none⟩ = some (.slice A0_0 l0_0.length c0_0) := (blk_cell BK574.out 0).trans rfl; have hcz56_1 : w55.cell? ⟨gb574, 1, none⟩ = some (.int .i64 a0_1) := (blk_cell BK574.out 1).trans rfl; have hfz56_0 := blk_frozen BK574.out 0; have hfz56_1 := blk_frozen BK574.out 1) | (go_at_call 45; (with_reducible refine (word_Text.calls ((a0_1) % 4294967296) t581 _ ?side1 A19.out).mono ?_); (case side1 => exact GT.below HGT.out (by repeat (first | (with_reducible first | exact HB.out | apply below_alloc | apply pw_below_drewN | apply below_drew1 | refine below_set ?_ GE574.out) | exact HB.out))); rintro e w57 ⟨rfl, hb⟩; have n0_ := Aside0.mk (blk_below (g := gb574) (o := .cells #[.slice A0_0 l0_0.length c0_0, .int .i64 a0_1] 28 (0, 0)) (by (with_reducible repeat (first | refine blk_drewN ?_ _ | refine blk_drew ?_ | refine blk_alloc ?_ _)); exact BK574.out) hb); have n1_ := Aside0.mk (below_step (by repeat (first | (with_reducible first | exact HB.out | apply below_alloc | apply pw_below_drewN | apply below_drew1 | refine below_set ?_ GE574.out) | exact HB.out)) hb); clear BK574; clear HB; have BK574 := n0_; have HB := n1_; clear n0_ n1_; (try clear hb); (try clear hb2); (try clear hk); (try clear hi)) | (go_at_call 45; (with_reducible refine (word_Text.calls ((a1) % 4294967296) t582 _ ?side1 A20.out).mono ?_); (case side1 => exact GT.below HGT.out (by repeat (first | (with_reducible first | exact HB.out | apply below_alloc | apply pw_below_drewN | apply below_drew1 | refine below_set ?_ GE574.out) | exact HB.out))); rintro e w58 ⟨rfl, hb⟩; have n0_ := Aside0.mk (blk_below (g := gb574) (o := .cells #[.slice A0_0 l0_0.length c0_0, .int .i64 a0_1] 28 (0, 0)) (by (with_reducible repeat (first | refine blk_drewN ?_ _ | refine blk_drew ?_ | refine blk_alloc ?_ _)); exact BK574.out) hb); have n1_ := Aside0.mk (below_step (by repeat (first | (with_reducible first | exact HB.out | apply below_alloc | apply pw_below_drewN | apply below_drew1 | refine below_set ?_ GE574.out) | exact HB.out)) hb); clear BK574; clear HB; have BK574 := n0_; have HB := n1_; clear n0_ n1_; (try clear hb); (try clear hb2); (try clear hk); (try clear hi)))
              repeat (go_quiet (first | (go_at_call 36; (with_reducible refine (listing_Text.calls _ _ l0_0 a0_1 t577 t578 _ ?side1 ?side2 ?side3 ?side4 A17.out).mono ?_); (case side1 => exact GK.below HGK.out (by repeat (first | (with_reducible first | exact HB.out | apply below_alloc | apply pw_below_drewN | apply below_drew1 | refine below_set ?_ GE574.out) | exact HB.out))); (case side2 => exact GT.below HGT.out (by repeat (first | (with_reducible first | exact HB.out | apply below_alloc | apply pw_below_drewN | apply below_drew1 | refine below_set ?_ GE574.out) | exact HB.out))); (case side3 => repeat (first | exact (Kd.C_below HR0_0.out HB.out) | (with_reducible refine Kd.C_alloc ?_ _) | (with_reducible refine Kd.C_drewN ?_ _) | (with_reducible refine Kd.C_drew ?_))); (case side4 => exact HC0_0.out); rintro e w53 ⟨rfl, hb⟩; have n0_ := Aside0.mk (blk_below (g := gb574) (o := .cells #[.slice A0_0 l0_0.length c0_0, .int .i64 a0_1] 28 (0, 0)) (by (with_reducible repeat (first | refine blk_drewN ?_ _ | refine blk_drew ?_ | refine blk_alloc ?_ _)); exact BK574.out) hb); have n1_ := Aside0.mk (below_step (by repeat (first | (with_reducible first | exact HB.out | apply below_alloc | apply pw_below_drewN | apply below_drew1 | refine below_set ?_ GE574.out) | exact HB.out)) hb); clear BK574; clear HB; have BK574 := n0_; have HB := n1_; clear n0_ n1_; (try clear hb); (try clear hb2); (try clear hk); (try clear hi); have hcz54_0 : w53.cell? ⟨gb574, 0, none⟩ = some (.slice A0_0 l0_0.length c0_0) := (blk_cell BK574.out 0).trans rfl; have hcz54_1 : w53.cell? ⟨gb574, 1, none⟩ = some (.int .i64 a0_1) := (blk_cell BK574.out 1).trans rfl; have hfz54_0 := blk_frozen BK574.out 0; have hfz54_1 := blk_frozen BK574.out 1) | (go_at_call 36; (with_reducible refine (listing_Text.calls _ _ l0_0 (wrap64 (a1)) t579 t580 _ ?side1 ?side2 ?side3 ?side4 A18.out).mono ?_); (case side1 => exact GK.below HGK.out (by repeat (first | (with_reducible first | exact HB.out | apply below_alloc | apply pw_below_drewN | apply below_drew1 | refine below_set ?_ GE574.out) | exact HB.out))); (case side2 => exact GT.below HGT.out (by repeat (first | (with_reducible first | exact HB.out | apply below_alloc | apply pw_below_drewN | apply below_drew1 | refine below_set ?_ GE574.out) | exact HB.out))); (case side3 => repeat (first | exact (Kd.C_below HR0_0.out HB.out) | (with_reducible refine Kd.C_alloc ?_ _) | (with_reducible refine Kd.C_drewN ?_ _) | (with_reducible refine Kd.C_drew ?_))); (case side4 => exact HC0_0.out); rintro e w55 ⟨rfl, hb⟩; have n0_ := Aside0.mk (blk_below (g := gb574) (o := .cells #[.slice A0_0 l0_0.length c0_0, .int .i64 a0_1] 28 (0, 0)) (by (with_reducible repeat (first | refine blk_drewN ?_ _ | refine blk_drew ?_ | refine blk_alloc ?_ _)); exact BK574.out) hb); have n1_ := Aside0.mk (below_step (by repeat (first | (with_reducible first | exact HB.out | apply below_alloc | apply pw_below_drewN | apply below_drew1 | refine below_set ?_ GE574.out) | exact HB.out)) hb); clear BK574; clear HB; have BK574 := n0_; have HB := n1_; clear n0_ n1_; (try clear hb); (try clear hb2); (try clear hk); (try clear hi); have hcz56_0 : w55.cell? ⟨gb574, 0, none⟩ = some (.slice A0_0 l0_0.length c0_0) := (blk_cell BK574.out 0).trans rfl; have hcz56_1 : w55.cell? ⟨gb574, 1, none⟩ = some (.int .i64 a0_1) := (blk_cell BK574.out 1).trans rfl; have hfz56_0 := blk_frozen BK574.out 0; have hfz56_1 := blk_frozen BK574.out 1) | (go_at_call 45; (with_reducible refine (word_Text.calls ((a0_1) % 4294967296) t581 _ ?side1 A19.out).mono ?_); (case side1 => exact GT.below HGT.out (by repeat (first | (with_reducible first | exact HB.out | apply below_alloc | apply pw_below_drewN | apply below_drew1 | refine below_set ?_ GE574.out) | exact HB.out))); rintro e w57 ⟨rfl, hb⟩; have n0_ := Aside0.mk (blk_below (g := gb574) (o := .cells #[.slice A0_0 l0_0.length c0_0, .int .i64 a0_1] 28 (0, 0)) (by (with_reducible repeat (first | refine blk_drewN ?_ _ | refine blk_drew ?_ | refine blk_alloc ?_ _)); exact BK574.out) hb); have n1_ := Aside0.mk (below_step (by repeat (first | (with_reducible first | exact HB.out | apply below_alloc | apply pw_below_drewN | apply below_drew1 | refine below_set ?_ GE574.out) | exact HB.out)) hb); clear BK574; clear HB; have BK574 := n0_; have HB := n1_; clear n0_ n1_; (try clear hb); (try clear hb2); (try clear hk); (try clear hi)) | (go_at_call 45; (with_reducible refine (word_Text.calls ((a1) % 4294967296) t582 _ ?side1 A20.out).mono ?_); (case side1 => exact GT.below HGT.out (by repeat (first | (with_reducible first | exact HB.out | apply below_alloc | apply pw_below_drewN | apply below_drew1 | refine below_set ?_ GE574.out) | exact HB.out))); rintro e w58 ⟨rfl, hb⟩; have n0_ := Aside0.mk (blk_below (g := gb574) (o := .cells #[.slice A0_0 l0_0.length c0_0, .int .i64 a0_1] 28 (0, 0)) (by (with_reducible repeat (first | refine blk_drewN ?_ _ | refine blk_drew ?_ | refine blk_alloc ?_ _)); exact BK574.out) hb); have n1_ := Aside0.mk (below_step (by repeat (first | (with_reducible first | exact HB.out | apply below_alloc | apply pw_below_drewN | apply below_drew1 | refine below_set ?_ GE574.out) | exact HB.out)) hb); clear BK574; clear HB; have BK574 := n0_; have HB := n1_; clear n0_ n1_; (try clear hb); (try clear hb2); (try clear hk); (try clear hi))); try go_wp2_with (first | (go_at_call 36; (with_reducible refine (listing_Text.calls _ _ l0_0 a0_1 t577 t578 _ ?side1 ?side2 ?side3 ?side4 A17.out).mono ?_); (case side1 => exact GK.below HGK.out (by repeat (first | (with_reducible first | exact HB.out | apply below_alloc | apply pw_below_drewN | apply below_drew1 | refine below_set ?_ GE574.out) | exact HB.out))); (case side2 => exact GT.below HGT.out (by repeat (first | (with_reducible first | exact HB.out | apply below_alloc | apply pw_below_drewN | apply below_drew1 | refine below_set ?_ GE574.out) | exact HB.out))); (case side3 => repeat (first | exact (Kd.C_below HR0_0.out HB.out) | (with_reducible refine Kd.C_alloc ?_ _) | (with_reducible refine Kd.C_drewN ?_ _) | (with_reducible refine Kd.C_drew ?_))); (case side4 => exact HC0_0.out); rintro e w53 ⟨rfl, hb⟩; have n0_ := Aside0.mk (blk_below (g := gb574) (o := .cells #[.slice A0_0 l0_0.length c0_0, .int .i64 a0_1] 28 (0, 0)) (by (with_reducible repeat (first | refine blk_drewN ?_ _ | refine blk_drew ?_ | refine blk_alloc ?_ _)); exact BK574.out) hb); have n1_ := Aside0.mk (below_step (by repeat (first | (with_reducible first | exact HB.out | apply below_alloc | apply pw_below_drewN | apply below_drew1 | refine below_set ?_ GE574.out) | exact HB.out)) hb); clear BK574; clear HB; have BK574 := n0_; have HB := n1_; clear n0_ n1_; (try clear hb); (try clear hb2); (try clear hk); (try clear hi); have hcz54_0 : w53.cell? ⟨gb574, 0, none⟩ = some (.slice A0_0 l0_0.length c0_0) := (blk_cell BK574.out 0).trans rfl; have hcz54_1 : w53.cell? ⟨gb574, 1, none⟩ = some (.int .i64 a0_1) := (blk_cell BK574.out 1).trans rfl; have hfz54_0 := blk_frozen BK574.out 0; have hfz54_1 := blk_frozen BK574.out 1) | (go_at_call 36; (with_reducible refine (listing_Text.calls _ _ l0_0 (wrap64 (a1)) t579 t580 _ ?side1 ?side2 ?side3 ?side4 A18.out).mono ?_); (case side1 => exact GK.below HGK.out (by repeat (first | (with_reducible first | exact HB.out | apply below_alloc | apply pw_below_drewN | apply below_drew1 | refine below_set ?_ GE574.out) | exact HB.out))); (case side2 => exact GT.below HGT.out (by repeat (first | (with_reducible first | exact HB.out | apply below_alloc | apply pw_below_drewN | apply below_drew1 | refine below_set ?_ GE574.out) | exact HB.out))); (case side3 => repeat (first | exact (Kd.C_below HR0_0.out HB.out) | (with_reducible refine Kd.C_alloc ?_ _) | (with_reducible refine Kd.C_drewN ?_ _) | (with_reducible refine Kd.C_drew ?_))); (case side4 => exact HC0_0.out); rintro e w55 ⟨rfl, hb⟩; have n0_ := Aside0.mk (blk_below (g := gb574) (o := .cells #[.slice A0_0 l0_0.length c0_0, .int .i64 a0_1] 28 (0, 0)) (by (with_reducible repeat (first | refine blk_drewN ?_ _ | refine blk_drew ?_ | refine blk_alloc ?_ _)); exact BK574.out) hb); have n1_ := Aside0.mk (below_step (by repeat (first | (with_reducible first | exact HB.out | apply below_alloc | apply pw_below_drewN | apply below_drew1 | refine below_set ?_ GE574.out) | exact HB.out)) hb); clear BK574; clear HB; have BK574 := n0_; have HB := n1_; clear n0_ n1_; (try clear hb); (try clear hb2); (try clear hk); (try clear hi); have hcz56_0 : w55.cell? ⟨gb574, 0, none⟩ = some (.slice A0_0 l0_0.length c0_0) := (blk_cell BK574.out 0).trans rfl; have hcz56_1 : w55.cell? ⟨gb574, 1, none⟩ = some (.int .i64 a0_1) := (blk_cell BK574.out 1).trans rfl; have hfz56_0 := blk_frozen BK574.out 0; have hfz56_1 := blk_frozen BK574.out 1) | (go_at_call 45; (with_reducible refine (word_Text.calls ((a0_1) % 4294967296) t581 _ ?side1 A19.out).mono ?_); (case side1 => exact GT.below HGT.out (by repeat (first | (with_reducible first | exact HB.out | apply below_alloc | apply pw_below_drewN | apply below_drew1 | refine below_set ?_ GE574.out) | exact HB.out))); rintro e w57 ⟨rfl, hb⟩; have n0_ := Aside0.mk (blk_below (g := gb574) (o := .cells #[.slice A0_0 l0_0.length c0_0, .int .i64 a0_1] 28 (0, 0)) (by (with_reducible repeat (first | refine blk_drewN ?_ _ | refine blk_drew ?_ | refine blk_alloc ?_ _)); exact BK574.out) hb); have n1_ := Aside0.mk (below_step (by repeat (first | (with_reducible first | exact HB.out | apply below_alloc | apply pw_below_drewN | apply below_drew1 | refine below_set ?_ GE574.out) | exact HB.out)) hb); clear BK574; clear HB; have BK574 := n0_; have HB := n1_; clear n0_ n1_; (try clear hb); (try clear hb2); (try clear hk); (try clear hi)) | (go_at_call 45; (with_reducible refine (word_Text.calls ((a1) % 4294967296) t582 _ ?side1 A20.out).mono ?_); (case side1 => exact GT.below HGT.out (by repeat (first | (with_reducible first | exact HB.out | apply below_alloc | apply pw_below_drewN | apply below_drew1 | refine below_set ?_ GE574.out) | exact HB.out))); rintro e w58 ⟨rfl, hb⟩; have n0_ := Aside0.mk (blk_below (g := gb574) (o := .cells #[.slice A0_0 l0_0.length c0_0, .int .i64 a0_1] 28 (0, 0)) (by (with_reducible repeat (first | refine blk_drewN ?_ _ | refine blk_drew ?_ | refine blk_alloc ?_ _)); exact BK574.out) hb); have n1_ := Aside0.mk (below_step (by repeat (first | (with_reducible first | exact HB.out | apply below_alloc | apply pw_below_drewN | apply below_drew1 | refine below_set ?_ GE574.out) | exact HB.out)) hb); clear BK574; clear HB; have BK574 := n0_; have HB := n1_; clear n0_ n1_; (try clear hb); (try clear hb2); (try clear hk); (try clear hi))))
              go_ret
              exact ⟨by first | rfl | (simp [errW_none, errW_some] <;> rfl) | (simp [*, errW_none, errW_some] <;> rfl), by repeat (first | (with_reducible first | exact HB.out | apply below_alloc | apply pw_below_drewN | apply below_drew1 | refine below_set ?_ GE574.out) | exact HB.out)⟩
          · rw [if_neg c21] at H
            have c21b0 : (t578 == 0) = false := beq_eq_false_iff_ne.mpr c21
            have c21b1 : (t578 != 0) = true := bne_iff_ne.mpr c21
            obtain rfl := Option.some.inj H
            have hcz59_0 : wc.cell? ⟨gb574, 0, none⟩ = some (.slice A0_0 l0_0.length c0_0) := (blk_cell BK574.out 0).trans rfl
            have hcz59_1 : wc.cell? ⟨gb574, 1, none⟩ = some (.int .i64 a0_1) := (blk_cell BK574.out 1).trans rfl
            have hfz59_0 := blk_frozen BK574.out 0
            have hfz59_1 := blk_frozen BK574.out 1
            go_wp2_with (first | (go_at_call 36; (with_reducible refine (listing_Text.calls _ _ l0_0 a0_1 t577 t578 _ ?side1 ?side2 ?side3 ?side4 A17.out).mono ?_); (case side1 => exact GK.below HGK.out (by repeat (first | (with_reducible first | exact HB.out | apply below_alloc | apply pw_below_drewN | apply below_drew1 | refine below_set ?_ GE574.out) | exact HB.out))); (case side2 => exact GT.below HGT.out (by repeat (first | (with_reducible first | exact HB.out | apply below_alloc | apply pw_below_drewN | apply below_drew1 | refine below_set ?_ GE574.out) | exact HB.out))); (case side3 => repeat (first | exact (Kd.C_below HR0_0.out HB.out) | (with_reducible refine Kd.C_alloc ?_ _) | (with_reducible refine Kd.C_drewN ?_ _) | (with_reducible refine Kd.C_drew ?_))); (case side4 => exact HC0_0.out); rintro e w60 ⟨rfl, hb⟩; have n0_ := Aside0.mk (blk_below (g := gb574) (o := .cells #[.slice A0_0 l0_0.length c0_0, .int .i64 a0_1] 28 (0, 0)) (by (with_reducible repeat (first | refine blk_drewN ?_ _ | refine blk_drew ?_ | refine blk_alloc ?_ _)); exact BK574.out) hb); have n1_ := Aside0.mk (below_step (by repeat (first | (with_reducible first | exact HB.out | apply below_alloc | apply pw_below_drewN | apply below_drew1 | refine below_set ?_ GE574.out) | exact HB.out)) hb); clear BK574; clear HB; have BK574 := n0_; have HB := n1_; clear n0_ n1_; (try clear hb); (try clear hb2); (try clear hk); (try clear hi); have hcz61_0 : w60.cell? ⟨gb574, 0, none⟩ = some (.slice A0_0 l0_0.length c0_0) := (blk_cell BK574.out 0).trans rfl; have hcz61_1 : w60.cell? ⟨gb574, 1, none⟩ = some (.int .i64 a0_1) := (blk_cell BK574.out 1).trans rfl; have hfz61_0 := blk_frozen BK574.out 0; have hfz61_1 := blk_frozen BK574.out 1) | (go_at_call 36; (with_reducible refine (listing_Text.calls _ _ l0_0 (wrap64 (a1)) t579 t580 _ ?side1 ?side2 ?side3 ?side4 A18.out).mono ?_); (case side1 => exact GK.below HGK.out (by repeat (first | (with_reducible first | exact HB.out | apply below_alloc | apply pw_below_drewN | apply below_drew1 | refine below_set ?_ GE574.out) | exact HB.out))); (case side2 => exact GT.below HGT.out (by repeat (first | (with_reducible first | exact HB.out | apply below_alloc | apply pw_below_drewN | apply below_drew1 | refine below_set ?_ GE574.out) | exact HB.out))); (case side3 => repeat (first | exact (Kd.C_below HR0_0.out HB.out) | (with_reducible refine Kd.C_alloc ?_ _) | (with_reducible refine Kd.C_drewN ?_ _) | (with_reducible refine Kd.C_drew ?_))); (case side4 => exact HC0_0.out); rintro e w62 ⟨rfl, hb⟩; have n0_ := Aside0.mk (blk_below (g := gb574) (o := .cells #[.slice A0_0 l0_0.length c0_0, .int .i64 a0_1] 28 (0, 0)) (by (with_reducible repeat (first | refine blk_drewN ?_ _ | refine blk_drew ?_ | refine blk_alloc ?_ _)); exact BK574.out) hb); have n1_ := Aside0.mk (below_step (by repeat (first | (with_reducible first | exact HB.out | apply below_alloc | apply pw_below_drewN | apply below_drew1 | refine below_set ?_ GE574.out) | exact HB.out)) hb); clear BK574; clear HB; have BK574 := n0_; have HB := n1_; clear n0_ n1_; (try clear hb); (try clear hb2); (try clear hk); (try clear hi); have hcz63_0 : w62.cell? ⟨gb574, 0, none⟩ = some (.slice A0_0 l0_0.length c0_0) := (blk_cell BK574.out 0).trans rfl; have hcz63_1 : w62.cell? ⟨gb574, 1, none⟩ = some (.int .i64 a0_1) := (blk_cell BK574.out 1).trans rfl; have hfz63_0 := blk_frozen BK574.out 0; have hfz63_1 := blk_frozen BK574.out 1) | (go_at_call 45; (with_reducible refine (word_Text.calls ((a0_1) % 4294967296) t581 _ ?side1 A19.out).mono ?_); (case side1 => exact GT.below HGT.out (by repeat (first | (with_reducible first | exact HB.out | apply below_alloc | apply pw_below_drewN | apply below_drew1 | refine below_set ?_ GE574.out) | exact HB.out))); rintro e w64 ⟨rfl, hb⟩; have n0_ := Aside0.mk (blk_below (g := gb574) (o := .cells #[.slice A0_0 l0_0.length c0_0, .int .i64 a0_1] 28 (0, 0)) (by (with_reducible repeat (first | refine blk_drewN ?_ _ | refine blk_drew ?_ | refine blk_alloc ?_ _)); exact BK574.out) hb); have n1_ := Aside0.mk (below_step (by repeat (first | (with_reducible first | exact HB.out | apply below_alloc | apply pw_below_drewN | apply below_drew1 | refine below_set ?_ GE574.out) | exact HB.out)) hb); clear BK574; clear HB; have BK574 := n0_; have HB := n1_; clear n0_ n1_; (try clear hb); (try clear hb2); (try clear hk); (try clear hi)) | (go_at_call 45; (with_reducible refine (word_Text.calls ((a1) % 4294967296) t582 _ ?side1 A20.out).mono ?_); (case side1 => exact GT.below HGT.out (by repeat (first | (with_reducible first | exact HB.out | apply below_alloc | apply pw_below_drewN | apply below_drew1 | refine below_set ?_ GE574.out) | exact HB.out))); rintro e w65 ⟨rfl, hb⟩; have n0_ := Aside0.mk (blk_below (g := gb574) (o := .cells #[.slice A0_0 l0_0.length c0_0, .int .i64 a0_1] 28 (0, 0)) (by (with_reducible repeat (first | refine blk_drewN ?_ _ | refine blk_drew ?_ | refine blk_alloc ?_ _)); exact BK574.out) hb); have n1_ := Aside0.mk (below_step (by repeat (first | (with_reducible first | exact HB.out | apply below_alloc | apply pw_below_drewN | apply below_drew1 | refine below_set ?_ GE574.out) | exact HB.out)) hb); clear BK574; clear HB; have BK574 := n0_; have HB := n1_; clear n0_ n1_; (try clear hb); (try clear hb2); (try clear hk); (try clear hi)))
            repeat (go_quiet (first | (go_at_call 36; (with_reducible refine (listing_Text.calls _ _ l0_0 a0_1 t577 t578 _ ?side1 ?side2 ?side3 ?side4 A17.out).mono ?_); (case side1 => exact GK.below HGK.out (by repeat (first | (with_reducible first | exact HB.out | apply below_alloc | apply pw_below_drewN | apply below_drew1 | refine below_set ?_ GE574.out) | exact HB.out))); (case side2 => exact GT.below HGT.out (by repeat (first | (with_reducible first | exact HB.out | apply below_alloc | apply pw_below_drewN | apply below_drew1 | refine below_set ?_ GE574.out) | exact HB.out))); (case side3 => repeat (first | exact (Kd.C_below HR0_0.out HB.out) | (with_reducible refine Kd.C_alloc ?_ _) | (with_reducible refine Kd.C_drewN ?_ _) | (with_reducible refine Kd.C_drew ?_))); (case side4 => exact HC0_0.out); rintro e w60 ⟨rfl, hb⟩; have n0_ := Aside0.mk (blk_below (g := gb574) (o := .cells #[.slice A0_0 l0_0.length c0_0, .int .i64 a0_1] 28 (0, 0)) (by (with_reducible repeat (first | refine blk_drewN ?_ _ | refine blk_drew ?_ | refine blk_alloc ?_ _)); exact BK574.out) hb); have n1_ := Aside0.mk (below_step (by repeat (first | (with_reducible first | exact HB.out | apply below_alloc | apply pw_below_drewN | apply below_drew1 | refine below_set ?_ GE574.out) | exact HB.out)) hb); clear BK574; clear HB; have BK574 := n0_; have HB := n1_; clear n0_ n1_; (try clear hb); (try clear hb2); (try clear hk); (try clear hi); have hcz61_0 : w60.cell? ⟨gb574, 0, none⟩ = some (.slice A0_0 l0_0.length c0_0) := (blk_cell BK574.out 0).trans rfl; have hcz61_1 : w60.cell? ⟨gb574, 1, none⟩ = some (.int .i64 a0_1) := (blk_cell BK574.out 1).trans rfl; have hfz61_0 := blk_frozen BK574.out 0; have hfz61_1 := blk_frozen BK574.out 1) | (go_at_call 36; (with_reducible refine (listing_Text.calls _ _ l0_0 (wrap64 (a1)) t579 t580 _ ?side1 ?side2 ?side3 ?side4 A18.out).mono ?_); (case side1 => exact GK.below HGK.out (by repeat (first | (with_reducible first | exact HB.out | apply below_alloc | apply pw_below_drewN | apply below_drew1 | refine below_set ?_ GE574.out) | exact HB.out))); (case side2 => exact GT.below HGT.out (by repeat (first | (with_reducible first | exact HB.out | apply below_alloc | apply pw_below_drewN | apply below_drew1 | refine below_set ?_ GE574.out) | exact HB.out))); (case side3 => repeat (first | exact (Kd.C_below HR0_0.out HB.out) | (with_reducible refine Kd.C_alloc ?_ _) | (with_reducible refine Kd.C_drewN ?_ _) | (with_reducible refine Kd.C_drew ?_))); (case side4 => exact HC0_0.out); rintro e w62 ⟨rfl, hb⟩; have n0_ := Aside0.mk (blk_below (g := gb574) (o := .cells #[.slice A0_0 l0_0.length c0_0, .int .i64 a0_1] 28 (0, 0)) (by (with_reducible repeat (first | refine blk_drewN ?_ _ | refine blk_drew ?_ | refine blk_alloc ?_ _)); exact BK574.out) hb); have n1_ := Aside0.mk (below_step (by repeat (first | (with_reducible first | exact HB.out | apply below_alloc | apply pw_below_drewN | apply below_drew1 | refine below_set ?_ GE574.out) | exact HB.out)) hb); clear BK574; clear HB; have BK574 := n0_; have HB := n1_; clear n0_ n1_; (try clear hb); (try clear hb2); (try clear hk); (try clear hi); have hcz63_0 : w62.cell? ⟨gb574, 0, none⟩ = some (.slice A0_0 l0_0.length c0_0) := (blk_cell BK574.out 0).trans rfl; have hcz63_1 : w62.cell? ⟨gb574, 1, none⟩ = some (.int .i64 a0_1) := (blk_cell BK574.out 1).trans rfl; have hfz63_0 := blk_frozen BK574.out 0; have hfz63_1 := blk_frozen BK574.out 1) | (go_at_call 45; (with_reducible refine (word_Text.calls ((a0_1) % 4294967296) t581 _ ?side1 A19.out).mono ?_); (case side1 => exact GT.below HGT.out (by repeat (first | (with_reducible first | exact HB.out | apply below_alloc | apply pw_below_drewN | apply below_drew1 | refine below_set ?_ GE574.out) | exact HB.out))); rintro e w64 ⟨rfl, hb⟩; have n0_ := Aside0.mk (blk_below (g := gb574) (o := .cells #[.slice A0_0 l0_0.length c0_0, .int .i64 a0_1] 28 (0, 0)) (by (with_reducible repeat (first | refine blk_drewN ?_ _ | refine blk_drew ?_ | refine blk_alloc ?_ _)); exact BK574.out) hb); have n1_ := Aside0.mk (below_step (by repeat (first | (with_reducible first | exact HB.out | apply below_alloc | apply pw_below_drewN | apply below_drew1 | refine below_set ?_ GE574.out) | exact HB.out)) hb); clear BK574; clear HB; have BK574 := n0_; have HB := n1_; clear n0_ n1_; (try clear hb); (try clear hb2); (try clear hk); (try clear hi)) | (go_at_call 45; (with_reducible refine (word_Text.calls ((a1) % 4294967296) t582 _ ?side1 A20.out).mono ?_); (case side1 => exact GT.below HGT.out (by repeat (first | (with_reducible first | exact HB.out | apply below_alloc | apply pw_below_drewN | apply below_drew1 | refine below_set ?_ GE574.out) | exact HB.out))); rintro e w65 ⟨rfl, hb⟩; have n0_ := Aside0.mk (blk_below (g := gb574) (o := .cells #[.slice A0_0 l0_0.length c0_0, .int .i64 a0_1] 28 (0, 0)) (by (with_reducible repeat (first | refine blk_drewN ?_ _ | refine blk_drew ?_ | refine blk_alloc ?_ _)); exact BK574.out) hb); have n1_ := Aside0.mk (below_step (by repeat (first | (with_reducible first | exact HB.out | apply below_alloc | apply pw_below_drewN | apply below_drew1 | refine below_set ?_ GE574.out) | exact HB.out)) hb); clear BK574; clear HB; have BK574 := n0_; have HB := n1_; clear n0_ n1_; (try clear hb); (try clear hb2); (try clear hk); (try clear hi))); try go_wp2_with (first | (go_at_call 36; (with_reducible refine (listing_Text.calls _ _ l0_0 a0_1 t577 t578 _ ?side1 ?side2 ?side3 ?side4 A17.out).mono ?_); (case side1 => exact GK.below HGK.out (by repeat (first | (with_reducible first | exact HB.out | apply below_alloc | apply pw_below_drewN | apply below_drew1 | refine below_set ?_ GE574.out) | exact HB.out))); (case side2 => exact GT.below HGT.out (by repeat (first | (with_reducible first | exact HB.out | apply below_alloc | apply pw_below_drewN | apply below_drew1 | refine below_set ?_ GE574.out) | exact HB.out))); (case side3 => repeat (first | exact (Kd.C_below HR0_0.out HB.out) | (with_reducible refine Kd.C_alloc ?_ _) | (with_reducible refine Kd.C_drewN ?_ _) | (with_reducible refine Kd.C_drew ?_))); (case side4 => exact HC0_0.out); rintro e w60 ⟨rfl, hb⟩; have n0_ := Aside0.mk (blk_below (g := gb574) (o := .cells #[.slice A0_0 l0_0.length c0_0, .int .i64 a0_1] 28 (0, 0)) (by (with_reducible repeat (first | refine blk_drewN ?_ _ | refine blk_drew ?_ | refine blk_alloc ?_ _)); exact BK574.out) hb); have n1_ := Aside0.mk (below_step (by repeat (first | (with_reducible first | exact HB.out | apply below_alloc | apply pw_below_drewN | apply below_drew1 | refine below_set ?_ GE574.out) | exact HB.out)) hb); clear BK574; clear HB; have BK574 := n0_; have HB := n1_; clear n0_ n1_; (try clear hb); (try clear hb2); (try clear hk); (try clear hi); have hcz61_0 : w60.cell? ⟨gb574, 0, none⟩ = some (.slice A0_0 l0_0.length c0_0) := (blk_cell BK574.out 0).trans rfl; have hcz61_1 : w60.cell? ⟨gb574, 1, none⟩ = some (.int .i64 a0_1) := (blk_cell BK574.out 1).trans rfl; have hfz61_0 := blk_frozen BK574.out 0; have hfz61_1 := blk_frozen BK574.out 1) | (go_at_call 36; (with_reducible refine (listing_Text.calls _ _ l0_0 (wrap64 (a1)) t579 t580 _ ?side1 ?side2 ?side3 ?side4 A18.out).mono ?_); (case side1 => exact GK.below HGK.out (by repeat (first | (with_reducible first | exact HB.out | apply below_alloc | apply pw_below_drewN | apply below_drew1 | refine below_set ?_ GE574.out) | exact HB.out))); (case side2 => exact GT.below HGT.out (by repeat (first | (with_reducible first | exact HB.out | apply below_alloc | apply pw_below_drewN | apply below_drew1 | refine below_set ?_ GE574.out) | exact HB.out))); (case side3 => repeat (first | exact (Kd.C_below HR0_0.out HB.out) | (with_reducible refine Kd.C_alloc ?_ _) | (with_reducible refine Kd.C_drewN ?_ _) | (with_reducible refine Kd.C_drew ?_))); (case side4 => exact HC0_0.out); rintro e w62 ⟨rfl, hb⟩; have n0_ := Aside0.mk (blk_below (g := gb574) (o := .cells #[.slice A0_0 l0_0.length c0_0, .int .i64 a0_1] 28 (0, 0)) (by (with_reducible repeat (first | refine blk_drewN ?_ _ | refine blk_drew ?_ | refine blk_alloc ?_ _)); exact BK574.out) hb); have n1_ := Aside0.mk (below_step (by repeat (first | (with_reducible first | exact HB.out | apply below_alloc | apply pw_below_drewN | apply below_drew1 | refine below_set ?_ GE574.out) | exact HB.out)) hb); clear BK574; clear HB; have BK574 := n0_; have HB := n1_; clear n0_ n1_; (try clear hb); (try clear hb2); (try clear hk); (try clear hi); have hcz63_0 : w62.cell? ⟨gb574, 0, none⟩ = some (.slice A0_0 l0_0.length c0_0) := (blk_cell BK574.out 0).trans rfl; have hcz63_1 : w62.cell? ⟨gb574, 1, none⟩ = some (.int .i64 a0_1) := (blk_cell BK574.out 1).trans rfl; have hfz63_0 := blk_frozen BK574.out 0; have hfz63_1 := blk_frozen BK574.out 1) | (go_at_call 45; (with_reducible refine (word_Text.calls ((a0_1) % 4294967296) t581 _ ?side1 A19.out).mono ?_); (case side1 => exact GT.below HGT.out (by repeat (first | (with_reducible first | exact HB.out | apply below_alloc | apply pw_below_drewN | apply below_drew1 | refine below_set ?_ GE574.out) | exact HB.out))); rintro e w64 ⟨rfl, hb⟩; have n0_ := Aside0.mk (blk_below (g := gb574) (o := .cells #[.slice A0_0 l0_0.length c0_0, .int .i64 a0_1] 28 (0, 0)) (by (with_reducible repeat (first | refine blk_drewN ?_ _ | refine blk_drew ?_ | refine blk_alloc ?_ _)); exact BK574.out) hb); have n1_ := Aside0.mk (below_step (by repeat (first | (with_reducible first | exact HB.out | apply below_alloc | apply pw_below_drewN | apply below_drew1 | refine below_set ?_ GE574.out) | exact HB.out)) hb); clear BK574; clear HB; have BK574 := n0_; have HB := n1_; clear n0_ n1_; (try clear hb); (try clear hb2); (try clear hk); (try clear hi)) | (go_at_call 45; (with_reducible refine (word_Text.calls ((a1) % 4294967296) t582 _ ?side1 A20.out).mono ?_); (case side1 => exact GT.below HGT.out (by repeat (first | (with_reducible first | exact HB.out | apply below_alloc | apply pw_below_drewN | apply below_drew1 | refine below_set ?_ GE574.out) | exact HB.out))); rintro e w65 ⟨rfl, hb⟩; have n0_ := Aside0.mk (blk_below (g := gb574) (o := .cells #[.slice A0_0 l0_0.length c0_0, .int .i64 a0_1] 28 (0, 0)) (by (with_reducible repeat (first | refine blk_drewN ?_ _ | refine blk_drew ?_ | refine blk_alloc ?_ _)); exact BK574.out) hb); have n1_ := Aside0.mk (below_step (by repeat (first | (with_reducible first | exact HB.out | apply below_alloc | apply pw_below_drewN | apply below_drew1 | refine below_set ?_ GE574.out) | exact HB.out)) hb); clear BK574; clear HB; have BK574 := n0_; have HB := n1_; clear n0_ n1_; (try clear hb); (try clear hb2); (try clear hk); (try clear hi))))
            go_ret
            exact ⟨by first | rfl | (simp [errW_none, errW_some] <;> rfl) | (simp [*, errW_none, errW_some] <;> rfl), by repeat (first | (with_reducible first | exact HB.out | apply below_alloc | apply pw_below_drewN | apply below_drew1 | refine below_set ?_ GE574.out) | exact HB.out)⟩
  · replace c4 := Bool.eq_false_iff.mpr c4
    subst c4
    have H1 : (some false) = some r := by rw [if_neg (show ¬ (false = true) by decide)] at H; exact H
    clear H
    have H := H1
    clear H1
    obtain rfl := Option.some.inj H
    go_enter Tryd.func10, Tryd.ntmps10
    go_wp2_with (first | ((with_reducible refine gate_dst (N := 2) rfl ?_); (try (refine gate_guard (by rfl) ?_; dsimp only)); refine box_event ?hg (N := 2) ?hd (cs := #[.slice A0_0 l0_0.length c0_0, .int .i64 a0_1]) (t := 28) ?hr ?_; (case hd => rfl); (case hg => rfl); (case hr => first | (go_simp; done) | (go_simp; rfl)); intro gb574 hg w66 hbox hb; have n0_ := Aside0.mk (below_step (by repeat (first | (with_reducible first | exact HB.out | apply below_alloc | apply pw_below_drewN | apply below_drew1) | exact HB.out)) hb); have n1_ := Aside0.mk (hbox); have n2_ := Aside0.mk ((by rw [hg]; exact (below_size (by repeat (first | (with_reducible first | exact HB.out | apply below_alloc | apply pw_below_drewN | apply below_drew1) | exact HB.out))) : w.heap.size ≤ gb574)); have n3_ := Aside0.mk ((by rw [hg]; exact (below_size (by repeat (first | (with_reducible first | exact HB.out | apply below_alloc | apply pw_below_drewN | apply below_drew1) | exact HB.out))) : w.heap.size ≤ gb574)); clear HB; have HB := n0_; have BK574 := n1_; have GW574 := n2_; have GE574 := n3_; clear n0_ n1_ n2_ n3_; clear hb hbox hg) | (go_at_call 33; (with_reducible refine (seedcornlaw11_awake.calls  false _ ?side1 ?side2 A3.out).mono ?_); (case side1 => exact GK.below HGK.out (by repeat (first | (with_reducible first | exact HB.out | apply below_alloc | apply pw_below_drewN | apply below_drew1 | refine below_set ?_ GE574.out) | exact HB.out))); (case side2 => exact GT.below HGT.out (by repeat (first | (with_reducible first | exact HB.out | apply below_alloc | apply pw_below_drewN | apply below_drew1 | refine below_set ?_ GE574.out) | exact HB.out))); rintro e w67 ⟨rfl, hb⟩; have n0_ := Aside0.mk (blk_below (g := gb574) (o := .cells #[.slice A0_0 l0_0.length c0_0, .int .i64 a0_1] 28 (0, 0)) (by (with_reducible repeat (first | refine blk_drewN ?_ _ | refine blk_drew ?_ | refine blk_alloc ?_ _)); exact BK574.out) hb); have n1_ := Aside0.mk (below_step (by repeat (first | (with_reducible first | exact HB.out | apply below_alloc | apply pw_below_drewN | apply below_drew1 | refine below_set ?_ GE574.out) | exact HB.out)) hb); clear BK574; clear HB; have BK574 := n0_; have HB := n1_; clear n0_ n1_; (try clear hb); (try clear hb2); (try clear hk); (try clear hi)))
    repeat (go_quiet (first | ((with_reducible refine gate_dst (N := 2) rfl ?_); (try (refine gate_guard (by rfl) ?_; dsimp only)); refine box_event ?hg (N := 2) ?hd (cs := #[.slice A0_0 l0_0.length c0_0, .int .i64 a0_1]) (t := 28) ?hr ?_; (case hd => rfl); (case hg => rfl); (case hr => first | (go_simp; done) | (go_simp; rfl)); intro gb574 hg w66 hbox hb; have n0_ := Aside0.mk (below_step (by repeat (first | (with_reducible first | exact HB.out | apply below_alloc | apply pw_below_drewN | apply below_drew1) | exact HB.out)) hb); have n1_ := Aside0.mk (hbox); have n2_ := Aside0.mk ((by rw [hg]; exact (below_size (by repeat (first | (with_reducible first | exact HB.out | apply below_alloc | apply pw_below_drewN | apply below_drew1) | exact HB.out))) : w.heap.size ≤ gb574)); have n3_ := Aside0.mk ((by rw [hg]; exact (below_size (by repeat (first | (with_reducible first | exact HB.out | apply below_alloc | apply pw_below_drewN | apply below_drew1) | exact HB.out))) : w.heap.size ≤ gb574)); clear HB; have HB := n0_; have BK574 := n1_; have GW574 := n2_; have GE574 := n3_; clear n0_ n1_ n2_ n3_; clear hb hbox hg) | (go_at_call 33; (with_reducible refine (seedcornlaw11_awake.calls  false _ ?side1 ?side2 A3.out).mono ?_); (case side1 => exact GK.below HGK.out (by repeat (first | (with_reducible first | exact HB.out | apply below_alloc | apply pw_below_drewN | apply below_drew1 | refine below_set ?_ GE574.out) | exact HB.out))); (case side2 => exact GT.below HGT.out (by repeat (first | (with_reducible first | exact HB.out | apply below_alloc | apply pw_below_drewN | apply below_drew1 | refine below_set ?_ GE574.out) | exact HB.out))); rintro e w67 ⟨rfl, hb⟩; have n0_ := Aside0.mk (blk_below (g := gb574) (o := .cells #[.slice A0_0 l0_0.length c0_0, .int .i64 a0_1] 28 (0, 0)) (by (with_reducible repeat (first | refine blk_drewN ?_ _ | refine blk_drew ?_ | refine blk_alloc ?_ _)); exact BK574.out) hb); have n1_ := Aside0.mk (below_step (by repeat (first | (with_reducible first | exact HB.out | apply below_alloc | apply pw_below_drewN | apply below_drew1 | refine below_set ?_ GE574.out) | exact HB.out)) hb); clear BK574; clear HB; have BK574 := n0_; have HB := n1_; clear n0_ n1_; (try clear hb); (try clear hb2); (try clear hk); (try clear hi))); try go_wp2_with (first | ((with_reducible refine gate_dst (N := 2) rfl ?_); (try (refine gate_guard (by rfl) ?_; dsimp only)); refine box_event ?hg (N := 2) ?hd (cs := #[.slice A0_0 l0_0.length c0_0, .int .i64 a0_1]) (t := 28) ?hr ?_; (case hd => rfl); (case hg => rfl); (case hr => first | (go_simp; done) | (go_simp; rfl)); intro gb574 hg w66 hbox hb; have n0_ := Aside0.mk (below_step (by repeat (first | (with_reducible first | exact HB.out | apply below_alloc | apply pw_below_drewN | apply below_drew1) | exact HB.out)) hb); have n1_ := Aside0.mk (hbox); have n2_ := Aside0.mk ((by rw [hg]; exact (below_size (by repeat (first | (with_reducible first | exact HB.out | apply below_alloc | apply pw_below_drewN | apply below_drew1) | exact HB.out))) : w.heap.size ≤ gb574)); have n3_ := Aside0.mk ((by rw [hg]; exact (below_size (by repeat (first | (with_reducible first | exact HB.out | apply below_alloc | apply pw_below_drewN | apply below_drew1) | exact HB.out))) : w.heap.size ≤ gb574)); clear HB; have HB := n0_; have BK574 := n1_; have GW574 := n2_; have GE574 := n3_; clear n0_ n1_ n2_ n3_; clear hb hbox hg) | (go_at_call 33; (with_reducible refine (seedcornlaw11_awake.calls  false _ ?side1 ?side2 A3.out).mono ?_); (case side1 => exact GK.below HGK.out (by repeat (first | (with_reducible first | exact HB.out | apply below_alloc | apply pw_below_drewN | apply below_drew1 | refine below_set ?_ GE574.out) | exact HB.out))); (case side2 => exact GT.below HGT.out (by repeat (first | (with_reducible first | exact HB.out | apply below_alloc | apply pw_below_drewN | apply below_drew1 | refine below_set ?_ GE574.out) | exact HB.out))); rintro e w67 ⟨rfl, hb⟩; have n0_ := Aside0.mk (blk_below (g := gb574) (o := .cells #[.slice A0_0 l0_0.length c0_0, .int .i64 a0_1] 28 (0, 0)) (by (with_reducible repeat (first | refine blk_drewN ?_ _ | refine blk_drew ?_ | refine blk_alloc ?_ _)); exact BK574.out) hb); have n1_ := Aside0.mk (below_step (by repeat (first | (with_reducible first | exact HB.out | apply below_alloc | apply pw_below_drewN | apply below_drew1 | refine below_set ?_ GE574.out) | exact HB.out)) hb); clear BK574; clear HB; have BK574 := n0_; have HB := n1_; clear n0_ n1_; (try clear hb); (try clear hb2); (try clear hk); (try clear hi))))
    go_ret
    exact ⟨by first | rfl | (simp [errW_none, errW_some] <;> rfl) | (simp [*, errW_none, errW_some] <;> rfl), by repeat (first | (with_reducible first | exact HB.out | apply below_alloc | apply pw_below_drewN | apply below_drew1 | refine below_set ?_ GE574.out) | exact HB.out)⟩
end Go.Proofs.YtdhkmdgieflioaaDoor.F
namespace Go.Proofs.YtdhkmdgieflioaaDoor.F
open Go.RowKit Go.Proofs.YtdhkmdgieflioaaDoorW.PrintWords Go.Proofs.YtdhkmdgieflioaaDoorW.PrintLast Go.Proofs.YtdhkmdgieflioaaDoorW.PrintMore
set_option linter.unusedVariables false
set_option linter.unusedSimpArgs false
theorem drop_toList (s : ByteArray) (k : Nat) : (s.extract k s.size).toList = s.data.toList.drop k := by
  rw [ByteArray.toList_eq, ByteArray.data_extract, Array.toList_extract]
  have h : s.data.toList.length = s.size := rfl
  simp [List.extract_eq_take_drop, List.take_of_length_le, h]
theorem data_tail (l : List Int) (d : Int) (n : Nat) (h : n = 7 + (num d).length) : ((⟨(listB l d).toArray⟩ : ByteArray).extract n (⟨(listB l d).toArray⟩ : ByteArray).size).toList = bodyB (tgtB l) 0 l := by
  rw [drop_toList]
  show (listB l d).drop n = _
  unfold listB
  rw [← head_length] at h
  rw [h, List.drop_left]
theorem num_small (d : Int) (h0 : 0 ≤ d) (h1 : d < 4294967296) : (num d).length ≤ 21 := by
  have := num_size d h0 h1
  rwa [ba_size] at this
theorem data_core (A B : ByteArray) (n m : Nat) (x y : ByteArray) (hx : x.size = n) (hy : y.size = m) (hn : n ≤ 21) (hm : m ≤ 21) (hA : 7 + n ≤ A.size) (hB : 7 + m ≤ B.size) (he : (A.extract (7 + n) A.size).toList = (B.extract (7 + m) B.size).toList) :
    (if (A.size : Int) ≥ (wrap64 (7 + (x.size : Int))) then (if (B.size : Int) ≥ (wrap64 (7 + (y.size : Int))) then (if 0 ≤ (wrap64 (7 + (x.size : Int))) then (if (wrap64 (7 + (x.size : Int))) ≤ (A.size : Int) then (if 0 ≤ (wrap64 (7 + (y.size : Int))) then (if (wrap64 (7 + (y.size : Int))) ≤ (B.size : Int) then (some ((A.extract ((wrap64 (7 + (x.size : Int))) : Int).toNat A.size).toList == (B.extract ((wrap64 (7 + (y.size : Int))) : Int).toNat B.size).toList)) else (none)) else (none)) else (none)) else (none)) else (some false)) else (some false)) = some true := by
  have w1 : wrap64 (7 + (x.size : Int)) = ((7 + n : Nat) : Int) := by rw [hx, wrapI (by omega) (by omega)]; omega
  have w2 : wrap64 (7 + (y.size : Int)) = ((7 + m : Nat) : Int) := by rw [hy, wrapI (by omega) (by omega)]; omega
  rw [w1, w2, if_pos (by omega), if_pos (by omega), if_pos (by omega), if_pos (by omega), if_pos (by omega), if_pos (by omega), Int.toNat_natCast, Int.toNat_natCast, he]
  simp
theorem data_j0 (l : List Int) (d a : Int) (b : Bool) (hok : okL l = true) (h : b = false → (0 ≤ d ∧ d ≤ 32768) ∧ (0 ≤ a ∧ a ≤ 32768)) : Ev (fun k => seedcornlaw11_ListingData.j0 k a b l d) true := by
  refine Ev.step (f := fun _ => some true) (fun k => ?_) (Ev.now _)
  cases b with
  | true => simp only [seedcornlaw11_ListingData.j0, if_true]
  | false =>
    obtain ⟨hd, ha⟩ := h rfl
    have hnd := num_small d hd.1 (by omega)
    have hna := num_small a ha.1 (by omega)
    have g1 := list_length_ge l d
    have g2 := list_length_ge l a
    have t1 := data_tail l d _ rfl
    have t2 := data_tail l a _ rfl
    have f1 := text_f l d hok hd
    have f2 := text_f l a hok ha
    have n1 := num_f d hd.1 (by omega)
    have n2 := num_f a ha.1 (by omega)
    have s1 := ba_size (listB l d)
    have s2 := ba_size (listB l a)
    have s3 := ba_size (num d)
    have s4 := ba_size (num a)
    rw [← s1] at g1
    rw [← s2] at g2
    generalize (⟨(listB l d).toArray⟩ : ByteArray) = A at *
    generalize (⟨(listB l a).toArray⟩ : ByteArray) = B at *
    generalize (⟨(num d).toArray⟩ : ByteArray) = x at *
    generalize (⟨(num a).toArray⟩ : ByteArray) = y at *
    have hc := data_core A B _ _ x y s3 s4 hnd hna g1 g2 (t1.trans t2.symm)
    simp only [seedcornlaw11_ListingData.j0]
    rw [if_neg (by decide), f1, wrapI (x := a) (by omega) (by omega), f2, show d % 4294967296 = d by omega, show a % 4294967296 = a by omega, n1, n2]
    rw [Option.bind_some, Option.bind_some, Option.bind_some, Option.bind_some]
    dsimp only
    rw [if_pos rfl, if_pos rfl]
    exact hc
theorem listingData_pure (l : List Int) (d a : Int) (h : inR l) {q : Prop} (_ : q) (w0 : (Lit.int .u16 a).wf = true) : ∃ k, seedcornlaw11_ListingData.f k l d a = some true := by
  have ha := (Lit.wf_int_iff .u16 a).1 w0
  have ha0 : 0 ≤ a := ha.1
  refine Ev.rounds (g := fun k => seedcornlaw11_ListingData.f k l d a) ?_
  unfold seedcornlaw11_ListingData.f
  rw [awake11, right8_f]
  simp only [Option.bind_some, if_true]
  by_cases hl : (l.length : Int) > 100
  · refine Ev.congr (f := fun k => seedcornlaw11_ListingData.j0 k a true l d) (fun k => by rw [if_pos hl]) ?_
    refine Ev.step (f := fun _ => some true) (fun k => ?_) (Ev.now _)
    simp only [seedcornlaw11_ListingData.j0, if_true]
  · have hok := inR_okL h (by omega)
    by_cases hr : l.length ≤ 16384 ∧ 0 ≤ d ∧ d ≤ 32768
    · refine Ev.congr (f := fun k => seedcornlaw11_ListingData.j0 k a (decide (a > 32768)) l d) (fun k => by rw [if_neg hl, decide_eq_true hr, if_pos rfl]) ?_
      exact data_j0 l d a _ hok (fun hb => ⟨hr.2, ha0, by have := of_decide_eq_false hb; omega⟩)
    · refine Ev.congr (f := fun k => seedcornlaw11_ListingData.j0 k a true l d) (fun k => by rw [if_neg hl, decide_eq_false hr, if_neg (by decide)]) ?_
      exact data_j0 l d a true hok (fun hb => by cases hb)
end Go.Proofs.YtdhkmdgieflioaaDoor.F
