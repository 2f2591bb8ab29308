/- Texts of this claim: contracts of functions that the law reaches, and plain lemmas. -/
import Derived.Outline
import Derived.Test.YtdhkmdgieflioaaDoorK3
import Derived.Test.YtdhkmdgieflioaaDoorK4
import Derived.Test.YtdhkmdgieflioaaDoorK1
namespace Go.Proofs.YtdhkmdgieflioaaDoor.F
open Go.RowKit Go.Proofs.YtdhkmdgieflioaaDoorW.PrintWords Go.Proofs.YtdhkmdgieflioaaDoorW.PrintLast Go.Proofs.YtdhkmdgieflioaaDoorW.PrintMore
set_option linter.unusedVariables false
set_option linter.unusedSimpArgs false
open SeedSim
def seedRows : List S46 := SeedSim.code.map fun i => ⟨i.1, i.2.1, i.2.2.1, i.2.2.2⟩
def seedOks : List Bool := List.replicate 37 true
set_option maxRecDepth 100000 in
theorem code_f : seedcornref10_Code.f 40 seedWords 0 = some (seedRows, seedOks) := by kernel_rfl
theorem seedRows_len : seedRows.length = 37 := by kernel_rfl
theorem seedOks_len : seedOks.length = 37 := by kernel_rfl
theorem code_rows (w : World) (B : Nat) (v1 v2 : Value) (bc co1 bo co2 : Nat) (e1 : v1 = .slice (some ⟨bc, 0, none⟩) 37 co1) (e2 : v2 = .slice (some ⟨bo, 0, none⟩) 37 co2) (h1 : Kd.R k46 46 w B (fun _ => True) v1 seedRows) (h2 : Kd.R Kd.bool 4 w B (fun _ => True) v2 seedOks) :
    ∃ CC OK, w.heap[bc]? = some (.cells CC 46 (0, 0)) ∧ w.heap[bo]? = some (.cells OK 4 (0, 0)) ∧ Rows CC OK := by
  subst e1 e2
  obtain ⟨_, inner1, ho1, hr1⟩ := h1
  obtain ⟨_, inner2, ho2, hr2⟩ := h2
  rcases ho1.2 with ⟨e, _⟩ | ⟨g1, cap1, cur1, e1, _, hg1, hn1, _, hs1, ht1⟩
  · cases e
  rcases ho2.2 with ⟨e, _⟩ | ⟨g2, cap2, cur2, e2, _, hg2, hn2, _, hs2, ht2⟩
  · cases e
  injection e1 with e1 e1n e1c
  injection e1 with e1
  injection e1 with e1 _ _
  subst e1
  injection e2 with e2 e2n e2c
  injection e2 with e2
  injection e2 with e2 _ _
  subst e2
  have key : ∀ (p : Nat) (i : I4), code[p]? = some i → ∀ j : Nat, j < 4 → cur1[p * 4 + j]? = [Value.int .i64 i.1, .int .i64 i.2.1, .int .i64 i.2.2.1, .int .i64 i.2.2.2][j]? := by
    intro p i hp j hj
    have hp1 : seedRows[p]? = some ⟨i.1, i.2.1, i.2.2.1, i.2.2.2⟩ := by simp [seedRows, hp]
    have h := k46_open (w := w) (k46.K_of_M (hr1.2 p _ hp1))
    have hlt : p < 37 := by have h3 := (List.getElem?_eq_some_iff.1 hp1).1; rw [seedRows_len] at h3; exact h3
    have h4 := congrArg (fun l => l[j]?) h
    simp only at h4
    rw [← h4, ← ht1]
    rw [List.getElem?_take_of_lt (show j < k46.sz from hj), List.getElem?_drop, List.getElem?_take_of_lt (by rw [seedRows_len]; show p * 4 + j < 37 * 4; omega), Array.getElem?_toList]
    rfl
  have keyo : ∀ p : Nat, p < 37 → cur2[p]? = some (.bool true) := by
    intro p hp
    have hp1 : seedOks[p]? = some true := by
      unfold seedOks
      rw [List.getElem?_replicate, if_pos hp]
    have h : ((inner2.drop (p * Kd.bool.sz)).take Kd.bool.sz) = [.bool true] := hr2.2 p _ hp1
    have h4 := congrArg (fun l => l[0]?) h
    simp only [List.getElem?_cons_zero] at h4
    rw [← h4, ← ht2]
    rw [List.getElem?_take_of_lt (show 0 < Kd.bool.sz from by decide), List.getElem?_drop, List.getElem?_take_of_lt (by rw [seedOks_len]; show p * 1 + 0 < 37 * 1; omega), Array.getElem?_toList]
    show cur2[p]? = cur2[p * 1 + 0]?
    rw [Nat.mul_one, Nat.add_zero]
  exact ⟨cur1, cur2, hg1, hg2, ⟨fun p i h => key p i h 0 (by omega), fun p i h => key p i h 1 (by omega), fun p i h => key p i h 2 (by omega), fun p i h => key p i h 3 (by omega), keyo⟩⟩
end Go.Proofs.YtdhkmdgieflioaaDoor.F
namespace Go.Proofs.YtdhkmdgieflioaaDoor.F
open Go.RowKit Go.Proofs.YtdhkmdgieflioaaDoorW.PrintWords Go.Proofs.YtdhkmdgieflioaaDoorW.PrintLast Go.Proofs.YtdhkmdgieflioaaDoorW.PrintMore
set_option linter.unusedVariables false
set_option linter.unusedSimpArgs false
open SeedSim
theorem exec_alloc109 {o : Oper} {a : Act} {W : World} (ho : o.op = .alloc 109) :
    (execOp a.eval o).run Tryd.prog W = .ok (.value (.pointer (some ⟨W.heap.size, 0, none⟩))) (W.alloc (.cells Z109c 109)) := by
  unfold execOp
  simp only [ho]
  have hu109 := Tryd.underlying109
  go_simp
  rfl
theorem fc_size (s : MS) (mem : Value) : (Tryd.prog.info? 109).map (·.size) = some (FC s mem).size := by kernel_rfl
theorem run109 (A : Option Addr) (c : Nat) (W : World) (inp : ByteArray) (fuel : Nat) (hc : 37 ≤ c) (hC : Kd.C (Kd.int .u32) W A seedWords.length seedWords)
    (hfu : fuel < 1000000) (hsz : inp.size < 1000000) (hout : (SeedSim.run (inpL inp) fuel init).out.length < 65536) :
    Calls Tryd.prog 109 #[.agg #[.slice A seedWords.length c, .int .i64 0], .string inp, .agg Z109c, .int .i64 fuel] W fun e w' => ∃ (mem v : Value), mem.oneCell' = true ∧ e = .returned (.tuple #[.agg (FC (SeedSim.run (inpL inp) fuel init) mem), v]) ∧ Below W.heap.size W w' :=
  run_calls A c W inp fuel seedRows seedOks hc hC code_f seedRows_len seedOks_len code_rows hfu hsz hout
set_option maxRecDepth 100000 in
set_option maxHeartbeats 4000000 in
theorem go_calls (A : Option Addr) (c : Nat) (W : World) (inp : ByteArray) (fuel : Nat) (hc : 37 ≤ c) (hC : Kd.C (Kd.int .u32) W A seedWords.length seedWords)
    (hfu : fuel < 1000000) (hsz : inp.size < 1000000) (hout : (SeedSim.run (inpL inp) fuel init).out.length < 65536) :
    Calls Tryd.prog 92 #[.agg #[.slice A seedWords.length c, .int .i64 0], .string inp, .agg Z109c, .int .i64 fuel] W fun e w' => ∃ (mem : Value), mem.oneCell' = true ∧ e = .returned (.agg (FC (SeedSim.run (inpL inp) fuel init) mem)) ∧ Below W.heap.size W w' := by
  have hu28 := Tryd.underlying28
  have H109 := Aside0.mk (fun W hC => run109 A c W inp fuel hc hC hfu hsz hout)
  have HC := Aside0.mk hC
  clear hC hout hsz hfu hc
  have HB := Aside0.mk (Below.refl W.heap.size W)
  generalize SeedSim.run (inpL inp) fuel init = fin at *
  generalize seedWords = sw at *
  go_enter Tryd.func92, Tryd.ntmps92
  go_wp2_with (first
    | ((with_reducible refine gate_dst (N := 14) rfl ?_); refine wpList_load_row rfl 109 _ rfl (W.heap.size + 1) rfl 109 Z109c (0, 0) _ (blk_alloc (blk_newat (by simp)) _) Tryd.underlying109 rfl Z109_size ?_)
    | (go_at_call 109; (with_reducible refine (H109.out _ ?s1).mono ?_); (case s1 => exact Kd.C_alloc (Kd.C_alloc (Kd.C_alloc HC.out _) _) _); rintro e w4 ⟨mem, v, hm, rfl, hb⟩; have B2 := Aside0.mk (blk_below (g := W.heap.size + 1 + 1) (o := .cells Z109c 109 (0, 0)) (blk_newat (by simp)) hb); have HB2 := Aside0.mk (below_step (below_alloc (below_alloc (below_alloc HB.out _) _) _) hb); have HM := Aside0.mk hm; clear hb hm)
    | ((with_reducible refine gate_store (t := 109) (p := 9) rfl ?_); refine wpList_store_row rfl 109 _ _ rfl w4.heap.size (FC fin mem) rfl rfl 109 Z109c (blk_new _ _) (fc_size _ _) rfl (fc_one _ _ HM.out) ?_)
    | ((with_reducible refine gate_dst (N := 19) rfl ?_); refine wpList_load_row rfl 109 _ rfl w4.heap.size rfl 109 (FC fin mem) (0, 0) _ (setRow_heap _ _ _ _ _ _ (blk_new _ _)) Tryd.underlying109 rfl (fc_size _ _) ?_)
    | ((with_reducible refine gate_store (t := 109) (p := 8) rfl ?_); refine wpList_store_row rfl 109 _ _ rfl (W.heap.size + 1 + 1) (FC fin mem) rfl rfl 109 Z109c ?q1 (fc_size _ _) rfl (fc_one _ _ HM.out) ?_; (case q1 => exact (setRow_other _ _ _ _ (Nat.ne_of_lt (blk_lt B2.out))).trans (blk_alloc B2.out _))))
  refine bodyPost_ret (results_cell_row rfl _ _ (W.heap.size + 1 + 1) 109 (FC fin mem) (0, 0) _ rfl (setRow_heap _ _ _ _ _ _ ((setRow_other _ _ _ _ (Nat.ne_of_lt (blk_lt B2.out))).trans (blk_alloc B2.out _))) Tryd.underlying109 rfl (fc_size _ _)) rfl ?_
  exact ⟨mem, HM.out, rfl, below_setRow (below_setRow (below_alloc HB2.out _) HB2.out.size _) (by omega) _⟩
def runEnd (s : MS) : Int := if s.fin = 0 then 5 else s.fin
set_option maxRecDepth 100000 in
set_option maxHeartbeats 4000000 in
theorem run65 (A : Option Addr) (c : Nat) (W : World) (inp : ByteArray) (fuel : Nat) (hc : 37 ≤ c) (hC : Kd.C (Kd.int .u32) W A seedWords.length seedWords)
    (hfu : fuel < 1000000) (hsz : inp.size < 1000000) (hout : (SeedSim.run (inpL inp) fuel init).out.length < 65536) :
    Calls Tryd.prog 65 #[.agg #[.slice A seedWords.length c, .int .i64 0], .string inp, .int .i64 fuel] W fun e w' => e = .returned (.agg #[.int .i64 (runEnd (SeedSim.run (inpL inp) fuel init)), .string (strOfNums (SeedSim.run (inpL inp) fuel init).out), .int .i64 (SeedSim.run (inpL inp) fuel init).steps]) ∧ Below W.heap.size W w' := by
  have hu28 := Tryd.underlying28
  have hu38 := Tryd.underlying38
  have HGO := Aside0.mk (fun W hC => go_calls A c W inp fuel hc hC hfu hsz hout)
  have HC := Aside0.mk hC
  clear hC hout hsz hfu hc
  have HB := Aside0.mk (Below.refl W.heap.size W)
  generalize SeedSim.run (inpL inp) fuel init = fin at *
  generalize seedWords = sw at *
  go_enter Tryd.func65, Tryd.ntmps65
  go_wp2_with fail
  generalize hw1 : World.alloc (World.alloc W _) _ = w1
  have BM : Aside0 (w1.heap[W.heap.size]? = some (.cells #[.slice A sw.length c, .int .i64 0] 28 (0, 0))) := ⟨by rw [← hw1]; exact blk_alloc (blk_new _ _) _⟩
  have BT : Aside0 (w1.heap[W.heap.size + 1]? = some (.cells #[.int .i64 0, .string ⟨#[]⟩, .int .i64 0] 38 (0, 0))) := ⟨by rw [← hw1]; exact blk_newat (by simp)⟩
  have HB1 : Aside0 (Below W.heap.size W w1) := ⟨by rw [← hw1]; exact below_alloc (below_alloc HB.out _) _⟩
  have HC1 : Aside0 (Kd.C (Kd.int .u32) w1 A sw.length sw) := ⟨by rw [← hw1]; exact Kd.C_alloc (Kd.C_alloc HC.out _) _⟩
  clear hw1
  refine start_ (n := 8) (S := fun w' => Below w1.heap.size w1 w') (ds := []) #[false, false, false, false, false, false, false, false] (by kernel_rfl) rfl rfl ((by repeat (first | (with_reducible exact Below.refl _ _) | (with_reducible apply below_drew1)))) (fun hHeld => ?_)
  refine pure_ (i := 1) (N := some 9) (v := ?_) (a' := ?_) #[false, true, false, false, false, false, false, false] rfl rfl (by kernel_rfl) (fun _ _ _ h => h) (Or.inl ⟨by rfl, ?_⟩) ?_ ?_
  rotate_left
  · intro w'
    go_simp
    with_reducible rfl
  rotate_left
  · simp only [Act.put, List.setIfInBounds_toArray, List.set_cons_zero, List.set_cons_succ, i64_w, i32_w]
    rfl
  refine pure_ (i := 4) (N := some 12) (v := ?_) (a' := ?_) #[false, true, false, false, true, false, false, false] rfl rfl (by kernel_rfl) (fun _ _ _ h => h) (Or.inl ⟨by rfl, ?_⟩) ?_ ?_
  rotate_left
  · intro w'
    go_simp
    with_reducible rfl
  rotate_left
  · simp only [Act.put, List.setIfInBounds_toArray, List.set_cons_zero, List.set_cons_succ, i64_w, i32_w]
    rfl
  refine take_ (i := 0) (N := some 8) (v := ?_) (a' := ?_) #[true, true, false, false, true, false, false, false] rfl rfl (by kernel_rfl) (fun _ _ _ h => h) (Or.inl ⟨by rfl, ?_⟩) hHeld ?_ ?_
  rotate_left
  · intro w' s0
    have hz := blk_below BM.out s0; have hc0 : w'.cell? ⟨W.heap.size, 0, none⟩ = some (.slice A sw.length c) := (blk_cell hz 0).trans rfl; have hc1 : w'.cell? ⟨W.heap.size, 1, none⟩ = some (.int .i64 0) := (blk_cell hz 1).trans rfl; clear hz s0
    go_simp
    with_reducible rfl
  rotate_left
  · simp only [Act.put, List.setIfInBounds_toArray, List.set_cons_zero, List.set_cons_succ, i64_w, i32_w]
    rfl
  refine take_ (i := 2) (N := some 10) (v := ?_) (a' := ?_) #[true, true, true, false, true, false, false, false] rfl rfl (by kernel_rfl) (fun _ _ _ h => h) (Or.inl ⟨by rfl, ?_⟩) hHeld ?_ ?_
  rotate_left
  · intro w' s0
    have hz := blk_below BM.out s0; have hc0 : w'.cell? ⟨W.heap.size, 0, none⟩ = some (.slice A sw.length c) := (blk_cell hz 0).trans rfl; have hc1 : w'.cell? ⟨W.heap.size, 1, none⟩ = some (.int .i64 0) := (blk_cell hz 1).trans rfl; clear hz s0
    go_simp
    with_reducible rfl
  rotate_left
  · simp only [Act.put, List.setIfInBounds_toArray, List.set_cons_zero, List.set_cons_succ, i64_w, i32_w]
    rfl
  refine join_ (σ := Nat × Value) 1 #[true, true, true, true, true, true, true, false] (fun s => [(7, .pointer (some ⟨s.1, 0, none⟩)), (11, .agg Z109c), (13, .agg (FC fin s.2))]) (fun s w' => s.2.oneCell' = true ∧ w'.heap[s.1]? = some (.cells Z109c 109 (0, 0)) ∧ w1.heap.size ≤ s.1 ∧ Below w1.heap.size w1 w') ?_ ?_
  rotate_left
  · intro hCont
    refine two_ (i := 3) (j := 6) (Ni := some 11) (Nj := some 7) #[true, true, true, true, true, false, false, false] #[true, true, true, false, true, false, true, false] rfl rfl rfl rfl (by kernel_rfl) (by decide) (by decide) (fun K hK => ?_) (fun K hK => ?_)
    · skip
      refine goes_ Tryd.func93 (by kernel_rfl) rfl #[.agg #[.slice A sw.length c, .int .i64 0]] (by rfl) rfl rfl (by simp only [List.map_toArray, List.map_cons, List.map_nil]; rfl) ?_
      with_reducible refine (start_calls A sw.length c _).mono ?_
      rintro e w3 ⟨rfl, hb3⟩
      refine ⟨_, rfl, ?_⟩
      refine hK.out _ _ ((below_step hHeld hb3)) (fun hHeld => ?_)
      clear hK K
      refine norm_ (a' := ?_) ?_ ?_
      rotate_left
      · show Act.put _ (some 11) _ = _
        simp only [Act.put, List.setIfInBounds_toArray, List.set_cons_zero, List.set_cons_succ, i64_w, i32_w]
        rfl
      refine two_ (i := 5) (j := 6) (Ni := some 13) (Nj := some 7) #[true, true, true, true, true, true, false, false] #[true, true, true, true, true, false, true, false] rfl rfl rfl rfl (by kernel_rfl) (by decide) (by decide) (fun K hK => ?_) (fun K hK => ?_)
      · skip
        refine goes_ Tryd.func92 (by kernel_rfl) rfl #[.agg #[.slice A sw.length c, .int .i64 0], .string inp, .agg Z109c, .int .i64 fuel] (by rfl) rfl rfl (by simp only [List.map_toArray, List.map_cons, List.map_nil]; rfl) ?_
        with_reducible refine (HGO.out _ (Kd.C_below HC1.out hHeld)).mono ?_
        rintro e w5 ⟨mem, hm, rfl, hb5⟩
        refine ⟨_, rfl, ?_⟩
        refine hK.out _ _ ((below_step hHeld hb5)) (fun hHeld => ?_)
        clear hK K
        refine norm_ (a' := ?_) ?_ ?_
        rotate_left
        · show Act.put _ (some 13) _ = _
          simp only [Act.put, List.setIfInBounds_toArray, List.set_cons_zero, List.set_cons_succ, i64_w, i32_w]
          rfl
        refine one_ (i := 6) (N := some 7) #[true, true, true, true, true, true, true, false] rfl rfl (by kernel_rfl) (by decide) (fun K hK => ?_)
        have hge_ := Below.size hHeld
        refine value_ (by rfl) rfl (exec_alloc109 ?_) ?_
        · rfl
        refine hK.out _ _ ((below_alloc hHeld _)) (fun hHeld => ?_)
        clear hK K
        refine norm_ (a' := ?_) ?_ ?_
        rotate_left
        · show Act.put _ (some 7) _ = _
          simp only [Act.put, List.setIfInBounds_toArray, List.set_cons_zero, List.set_cons_succ, i64_w, i32_w]
          rfl
        exact norm_ (by first | (simp only [putAll, Act.put, List.setIfInBounds_toArray, List.set_cons_zero, List.set_cons_succ]; done) | (simp only [putAll, Act.put, List.setIfInBounds_toArray, List.set_cons_zero, List.set_cons_succ]; rfl)) (hCont (_, mem) _ ⟨hm, (blk_new _ _), hge_, hHeld⟩)
      · skip
        have hge_ := Below.size hHeld
        refine value_ (by rfl) rfl (exec_alloc109 ?_) ?_
        · rfl
        refine hK.out _ _ ((below_alloc hHeld _)) (fun hHeld => ?_)
        clear hK K
        refine norm_ (a' := ?_) ?_ ?_
        rotate_left
        · show Act.put _ (some 7) _ = _
          simp only [Act.put, List.setIfInBounds_toArray, List.set_cons_zero, List.set_cons_succ, i64_w, i32_w]
          rfl
        refine one_ (i := 5) (N := some 13) #[true, true, true, true, true, true, true, false] rfl rfl (by kernel_rfl) (by decide) (fun K hK => ?_)
        refine goes_ Tryd.func92 (by kernel_rfl) rfl #[.agg #[.slice A sw.length c, .int .i64 0], .string inp, .agg Z109c, .int .i64 fuel] (by rfl) rfl rfl (by simp only [List.map_toArray, List.map_cons, List.map_nil]; rfl) ?_
        with_reducible refine (HGO.out _ (Kd.C_below HC1.out hHeld)).mono ?_
        rintro e w5 ⟨mem, hm, rfl, hb5⟩
        refine ⟨_, rfl, ?_⟩
        refine hK.out _ _ ((below_step hHeld hb5)) (fun hHeld => ?_)
        clear hK K
        refine norm_ (a' := ?_) ?_ ?_
        rotate_left
        · show Act.put _ (some 13) _ = _
          simp only [Act.put, List.setIfInBounds_toArray, List.set_cons_zero, List.set_cons_succ, i64_w, i32_w]
          rfl
        exact norm_ (by first | (simp only [putAll, Act.put, List.setIfInBounds_toArray, List.set_cons_zero, List.set_cons_succ]; done) | (simp only [putAll, Act.put, List.setIfInBounds_toArray, List.set_cons_zero, List.set_cons_succ]; rfl)) (hCont (_, mem) _ ⟨hm, (blk_below (blk_new _ _) hb5), hge_, hHeld⟩)
    · skip
      have hge_ := Below.size hHeld
      refine value_ (by rfl) rfl (exec_alloc109 ?_) ?_
      · rfl
      refine hK.out _ _ ((below_alloc hHeld _)) (fun hHeld => ?_)
      clear hK K
      refine norm_ (a' := ?_) ?_ ?_
      rotate_left
      · show Act.put _ (some 7) _ = _
        simp only [Act.put, List.setIfInBounds_toArray, List.set_cons_zero, List.set_cons_succ, i64_w, i32_w]
        rfl
      refine one_ (i := 3) (N := some 11) #[true, true, true, true, true, false, true, false] rfl rfl (by kernel_rfl) (by decide) (fun K hK => ?_)
      refine goes_ Tryd.func93 (by kernel_rfl) rfl #[.agg #[.slice A sw.length c, .int .i64 0]] (by rfl) rfl rfl (by simp only [List.map_toArray, List.map_cons, List.map_nil]; rfl) ?_
      with_reducible refine (start_calls A sw.length c _).mono ?_
      rintro e w3 ⟨rfl, hb3⟩
      refine ⟨_, rfl, ?_⟩
      refine hK.out _ _ ((below_step hHeld hb3)) (fun hHeld => ?_)
      clear hK K
      refine norm_ (a' := ?_) ?_ ?_
      rotate_left
      · show Act.put _ (some 11) _ = _
        simp only [Act.put, List.setIfInBounds_toArray, List.set_cons_zero, List.set_cons_succ, i64_w, i32_w]
        rfl
      refine one_ (i := 5) (N := some 13) #[true, true, true, true, true, true, true, false] rfl rfl (by kernel_rfl) (by decide) (fun K hK => ?_)
      refine goes_ Tryd.func92 (by kernel_rfl) rfl #[.agg #[.slice A sw.length c, .int .i64 0], .string inp, .agg Z109c, .int .i64 fuel] (by rfl) rfl rfl (by simp only [List.map_toArray, List.map_cons, List.map_nil]; rfl) ?_
      with_reducible refine (HGO.out _ (Kd.C_below HC1.out hHeld)).mono ?_
      rintro e w5 ⟨mem, hm, rfl, hb5⟩
      refine ⟨_, rfl, ?_⟩
      refine hK.out _ _ ((below_step hHeld hb5)) (fun hHeld => ?_)
      clear hK K
      refine norm_ (a' := ?_) ?_ ?_
      rotate_left
      · show Act.put _ (some 13) _ = _
        simp only [Act.put, List.setIfInBounds_toArray, List.set_cons_zero, List.set_cons_succ, i64_w, i32_w]
        rfl
      exact norm_ (by first | (simp only [putAll, Act.put, List.setIfInBounds_toArray, List.set_cons_zero, List.set_cons_succ]; done) | (simp only [putAll, Act.put, List.setIfInBounds_toArray, List.set_cons_zero, List.set_cons_succ]; rfl)) (hCont (_, mem) _ ⟨hm, (blk_below (blk_below (blk_new _ _) hb3) hb5), hge_, hHeld⟩)
  rintro ⟨ob, mem⟩ w' ⟨hm, hob, hoge, hbel⟩
  have hHeld := hbel
  dsimp only at hm hob hoge
  refine norm_ (a' := ?_) ?_ ?_
  rotate_left
  · simp only [putAll, Act.put, List.setIfInBounds_toArray, List.set_cons_zero, List.set_cons_succ]
    rfl
  refine one_ (i := 7) (N := none) #[true, true, true, true, true, true, true, true] rfl rfl (by kernel_rfl) (by decide) (fun K hK => ?_)
  refine skip_ (w1 := _) (by rfl) rfl (exec_store_row 109 (.tmp 7) (.tmp 13) ?_ ob (FC fin mem) ?_ ?_ 109 Z109c hob ?_ ?_ ?_) ?_
  · rfl
  · rfl
  · rfl
  · exact fc_size _ _
  · rfl
  · exact fc_one _ _ hm
  refine hK.out _ _ ((below_setRow hHeld hoge _)) (fun hHeld => ?_)
  clear hK K
  refine done_ (by kernel_rfl) ?_
  have BO := Aside0.mk (setRow_heap _ _ _ (FC fin mem) _ _ hob)
  have BT2 := Aside0.mk (blk_below BT.out hHeld)
  have HB2 := Aside0.mk (below_step HB1.out hHeld)
  have HGE := Aside0.mk (Nat.le_trans HB1.out.size hoge)
  clear hob hm hoge hHeld hbel BM BT HB1 HC1 HC HGO
  generalize hw2 : World.setRow _ _ _ = w2 at *
  clear hw2
  have c21 : w2.cell? ⟨ob, 21, none⟩ = some (.int .i64 fin.fin) := (blk_cell BO.out 21).trans rfl
  have c20 : w2.cell? ⟨ob, 20, none⟩ = some (.int .i64 fin.steps) := (blk_cell BO.out 20).trans rfl
  have c19 : w2.cell? ⟨ob, 19, none⟩ = some (.string (strOfNums fin.out)) := (blk_cell BO.out 19).trans rfl
  have z21 := blk_frozen BO.out 21
  have t0 : w2.cell? ⟨W.heap.size + 1, 0, none⟩ = some (.int .i64 0) := (blk_cell BT2.out 0).trans rfl
  have t1 : w2.cell? ⟨W.heap.size + 1, 1, none⟩ = some (.string ⟨#[]⟩) := (blk_cell BT2.out 1).trans rfl
  have t2 : w2.cell? ⟨W.heap.size + 1, 2, none⟩ = some (.int .i64 0) := (blk_cell BT2.out 2).trans rfl
  have y0 := blk_frozen BT2.out 0
  have y1 := blk_frozen BT2.out 1
  have y2 := blk_frozen BT2.out 2
  have nob : ob ≠ W.heap.size + 1 := blk_ne BO.out BT2.out (by decide)
  have nob' : W.heap.size + 1 ≠ ob := fun e => nob e.symm
  by_cases hf : fin.fin = 0
  · have q1 : (fin.fin == 0) = true := beq_iff_eq.mpr hf
    have HF : Aside0 (runEnd fin = 5) := ⟨if_pos hf⟩
    clear hf
    go_wp2_with fail
    refine bodyPost_ret (results_cell_row rfl _ _ (W.heap.size + 1) 38 #[.int .i64 5, .string (strOfNums fin.out), .int .i64 (fin.steps : Int)] (0, 0) _ rfl ?_ Tryd.underlying38 rfl (by kernel_rfl)) rfl ?_
    · refine blk_put (cs := #[.int .i64 5, .string (strOfNums fin.out), .int .i64 0]) ?_ 2 _ rfl
      refine blk_put (cs := #[.int .i64 5, .string ⟨#[]⟩, .int .i64 0]) ?_ 1 _ rfl
      refine blk_put (cs := #[.int .i64 0, .string ⟨#[]⟩, .int .i64 0]) ?_ 0 _ rfl
      exact blk_far BT2.out nob' _
    · exact ⟨by rw [HF.out], below_set (below_set (below_set (below_set HB2.out HGE.out) (Nat.le_add_right _ 1)) (Nat.le_add_right _ 1)) (Nat.le_add_right _ 1)⟩
  · have q1 : (fin.fin == 0) = false := beq_eq_false_iff_ne.mpr hf
    have HF : Aside0 (runEnd fin = fin.fin) := ⟨if_neg hf⟩
    clear hf
    go_wp2_with fail
    refine bodyPost_ret (results_cell_row rfl _ _ (W.heap.size + 1) 38 #[.int .i64 fin.fin, .string (strOfNums fin.out), .int .i64 (fin.steps : Int)] (0, 0) _ rfl ?_ Tryd.underlying38 rfl (by kernel_rfl)) rfl ?_
    · refine blk_put (cs := #[.int .i64 fin.fin, .string (strOfNums fin.out), .int .i64 0]) ?_ 2 _ rfl
      refine blk_put (cs := #[.int .i64 fin.fin, .string ⟨#[]⟩, .int .i64 0]) ?_ 1 _ rfl
      refine blk_put (cs := #[.int .i64 0, .string ⟨#[]⟩, .int .i64 0]) ?_ 0 _ rfl
      exact BT2.out
    · exact ⟨by rw [HF.out], below_set (below_set (below_set HB2.out (Nat.le_add_right _ 1)) (Nat.le_add_right _ 1)) (Nat.le_add_right _ 1)⟩
def seedcornref10_Run.f (l0_0 : List Int) (a0_1 : Int) (a1 : ByteArray) (a2 : Int) : Option (Int × ByteArray × Int) :=
  if l0_0 = seedWords ∧ a0_1 = 0 ∧ 0 ≤ a2 ∧ a2 < 1000000 ∧ a1.size < 1000000 ∧ (SeedSim.run (inpL a1) a2.toNat init).out.length < 65536 then
    some (runEnd (SeedSim.run (inpL a1) a2.toNat init), strOfNums (SeedSim.run (inpL a1) a2.toNat init).out, ((SeedSim.run (inpL a1) a2.toNat init).steps : Int)) else none
theorem seedcornref10_Run.calls (A0_0 : Option Addr) (c0_0 : Nat) (l0_0 : List Int) (a0_1 : Int) (a1 : ByteArray) (a2 : Int) (r1 : Int) (r2 : ByteArray) (r3 : Int) (w : World) (hr0_0 : Kd.C (Kd.int .u32) w A0_0 l0_0.length l0_0) (hc0_0 : l0_0.length ≤ c0_0) (h : seedcornref10_Run.f l0_0 a0_1 a1 a2 = some (r1, r2, r3)) :
    Calls Tryd.prog 65 #[.agg #[.slice A0_0 l0_0.length c0_0, .int .i64 a0_1], .string a1, .int .i64 a2] w fun e w' => e = .returned (.agg #[.int .i64 r1, .string r2, .int .i64 r3]) ∧ Below w.heap.size w w' := by
  unfold seedcornref10_Run.f at h
  by_cases hg : l0_0 = seedWords ∧ a0_1 = 0 ∧ 0 ≤ a2 ∧ a2 < 1000000 ∧ a1.size < 1000000 ∧ (SeedSim.run (inpL a1) a2.toNat init).out.length < 65536
  · rw [if_pos hg] at h
    obtain ⟨rfl, rfl, h0, h1, h2, h3⟩ := hg
    obtain ⟨fuel, rfl⟩ := Int.eq_ofNat_of_zero_le h0
    have h4 := Option.some.inj h
    simp only [Prod.mk.injEq, Int.toNat_natCast] at h4
    obtain ⟨rfl, rfl, rfl⟩ := h4
    have hl : seedWords.length = 37 := by kernel_rfl
    exact run65 A0_0 c0_0 w a1 fuel (by rw [hl] at hc0_0; exact hc0_0) hr0_0 (by omega) h2 (by simpa using h3)
  · rw [if_neg hg] at h
    cases h
end Go.Proofs.YtdhkmdgieflioaaDoor.F
namespace Go.Proofs.YtdhkmdgieflioaaDoor.F
open Go.RowKit Go.Proofs.YtdhkmdgieflioaaDoorW.PrintWords Go.Proofs.YtdhkmdgieflioaaDoorW.PrintLast Go.Proofs.YtdhkmdgieflioaaDoorW.PrintMore
attribute [local go_sem] max2_int min2_int max_two min_two max_three min_three max_four min_four
set_option linter.unusedVariables false
set_option linter.unusedSimpArgs false
def seedcornref10_Bytes.f (k : Nat) (a0 : ByteArray) (a1 : ByteArray) (a2 : Int) : Option (Int × ByteArray × Int × Int) := (seedcornref08_Read.f k a0).bind fun bt139 => (if bt139.2.2 = 0 then ((seedcornref10_Run.f bt139.1 bt139.2.1 a1 a2).bind fun bt145 => (some (bt145.1, bt145.2.1, bt145.2.2, 0))) else (some (0, (⟨#[]⟩ : ByteArray), 0, 7)))
theorem seedcornref10_Bytes.mono : ∀ a0 a1 a2 k, LeO (seedcornref10_Bytes.f k a0 a1 a2) (seedcornref10_Bytes.f (k + 1) a0 a1 a2) := by
  intro a0 a1 a2 k
  unfold seedcornref10_Bytes.f
  repeat' first
      | (with_reducible exact seedcornref08_Read.mono _ _)
      | (with_reducible exact LeO.refl _)
      | (with_reducible exact LeO.none _)
      | (with_reducible refine LeO.ite ?_ ?_)
      | (with_reducible refine LeO.bind ?_ (fun _ => ?_))
      | exact seedcornref08_Read.mono _ _
      | exact LeO.none _
      | refine LeO.ite ?_ ?_
      | refine LeO.bind ?_ (fun _ => ?_)
set_option maxHeartbeats 8000000 in
set_option maxRecDepth 100000 in
theorem seedcornref10_Bytes.calls (k : Nat) (a0 : ByteArray) (a1 : ByteArray) (a2 : Int) (r1 : Int) (r2 : ByteArray) (r3 : Int) (r4 : Int) (w : World) (h : seedcornref10_Bytes.f k a0 a1 a2 = some (r1, r2, r3, r4)) :
    Calls Tryd.prog 31 #[.string a0, .string a1, .int .i64 a2] w fun e w' => e = .returned (.tuple #[.agg #[.int .i64 r1, .string r2, .int .i64 r3], .int .i64 r4]) ∧ Below w.heap.size w w' := by
  have hu38 := Tryd.underlying38
  have hu28 := Tryd.underlying28
  have HB := Aside0.mk (Below.refl w.heap.size w)
  have H : ((seedcornref08_Read.f k a0).bind fun bt139 => (if bt139.2.2 = 0 then ((seedcornref10_Run.f bt139.1 bt139.2.1 a1 a2).bind fun bt145 => (some (bt145.1, bt145.2.1, bt145.2.2, 0))) else (some (0, (⟨#[]⟩ : ByteArray), 0, 7)))) = some (r1, r2, r3, r4) := h
  clear h
  replace H := Option.bind_eq_some_iff.mp H
  obtain ⟨⟨t139, t142, t143⟩, A40, H⟩ := H
  replace H : (if t143 = 0 then ((seedcornref10_Run.f t139 t142 a1 a2).bind fun bt145 => (some (bt145.1, bt145.2.1, bt145.2.2, 0))) else (some (0, (⟨#[]⟩ : ByteArray), 0, 7))) = some (r1, r2, r3, r4) := H
  have A4 := Aside0.mk A40
  clear A40
  by_cases c5 : t143 = 0
  · rw [if_pos c5] at H
    have c5b0 : (t143 == 0) = true := beq_iff_eq.mpr c5
    have c5b1 : (t143 != 0) = false := bne_eq_false_iff_eq.mpr c5
    clear c5
    replace H := Option.bind_eq_some_iff.mp H
    obtain ⟨⟨t145, t146, t147⟩, A60, H⟩ := H
    replace H : (some (t145, t146, t147, 0)) = some (r1, r2, r3, r4) := H
    have A6 := Aside0.mk A60
    clear A60
    simp only [Option.some.injEq, Prod.mk.injEq] at H
    obtain ⟨rfl, rfl, rfl, rfl⟩ := H
    go_enter Tryd.func31, Tryd.ntmps31
    go_wp2_with (first | ((with_reducible refine gate_dst (N := 6) rfl ?_); refine box_event ?hg (N := 6) ?hd (cs := #[.int .i64 0, .string (⟨#[]⟩ : ByteArray), .int .i64 0]) (t := 38) ?hr ?_; (case hd => rfl); (case hg => rfl); (case hr => first | (go_simp; done) | (go_simp; rfl)); intro gb138 hg w7 hbox hb; have n0_ := Aside0.mk (below_step (by repeat (first | (with_reducible first | exact HB.out | apply below_alloc | apply pw_below_drewN | apply below_drew1) | exact HB.out)) hb); have n1_ := Aside0.mk (hbox); have n2_ := Aside0.mk ((by rw [hg]; exact (below_size (by repeat (first | (with_reducible first | exact HB.out | apply below_alloc | apply pw_below_drewN | apply below_drew1) | exact HB.out))) : w.heap.size ≤ gb138)); have n3_ := Aside0.mk ((by rw [hg]; exact (below_size (by repeat (first | (with_reducible first | exact HB.out | apply below_alloc | apply pw_below_drewN | apply below_drew1) | exact HB.out))) : w.heap.size ≤ gb138)); clear HB; have HB := n0_; have BK138 := n1_; have GW138 := n2_; have GE138 := n3_; clear n0_ n1_ n2_ n3_; clear hb hbox hg) | ((with_reducible refine gate_callee (f := 25) rfl ?_); refine goesL_ (some 12) rfl rfl Tryd.func25 (by kernel_rfl) rfl #[.string a0] rfl (by (try simp only [List.map_toArray, List.map_cons, List.map_nil]); first | done | rfl | (simp only [List.length_drop, List.length_take]; rfl)) ?_; (with_reducible refine (seedcornref08_Read.calls k a0 t139 t142 t143 _ A4.out).mono ?_); rintro e w8 ⟨v140, rfl, ho0, hb⟩; refine ⟨_, rfl, ?_⟩; have n0_ := Aside0.mk (Kd.R_lower ho0 (below_size (by repeat (first | (with_reducible first | exact HB.out | apply below_alloc | apply pw_below_drewN | apply below_drew1 | refine below_set ?_ GE138.out) | exact HB.out)))); have n1_ := Aside0.mk (blk_below (g := gb138) (o := .cells #[.int .i64 0, .string (⟨#[]⟩ : ByteArray), .int .i64 0] 38 (0, 0)) (by (with_reducible repeat (first | refine blk_drewN ?_ _ | refine blk_drew ?_ | refine blk_alloc ?_ _)); exact BK138.out) hb); have n2_ := Aside0.mk (below_step (by repeat (first | (with_reducible first | exact HB.out | apply below_alloc | apply pw_below_drewN | apply below_drew1 | refine below_set ?_ GE138.out) | exact HB.out)) hb); clear BK138; clear HB; have HO141 := n0_; have BK138 := n1_; have HB := n2_; clear n0_ n1_ n2_; (try clear hb); (try clear hb2); (try clear hk); (try clear hi); (try clear ho0)) | ((with_reducible refine gate_dst (N := 8) rfl ?_); refine box_event ?hg (N := 8) ?hd (cs := #[.slice none 0 0, .int .i64 0]) (t := 28) ?hr ?_; (case hd => rfl); (case hg => rfl); (case hr => first | (go_simp; done) | (go_simp; rfl)); intro gb144 hg w9 hbox hb; have n0_ := Aside0.mk (Kd.R_below (by (with_reducible repeat (first | apply Kd.R_alloc | apply Kd.R_drewN | apply Kd.R_drew)); exact HO141.out) hb); have n1_ := Aside0.mk (blk_below (g := gb138) (o := .cells #[.int .i64 0, .string (⟨#[]⟩ : ByteArray), .int .i64 0] 38 (0, 0)) (by (with_reducible repeat (first | refine blk_drewN ?_ _ | refine blk_drew ?_ | refine blk_alloc ?_ _)); exact BK138.out) hb); have n2_ := Aside0.mk (below_step (by repeat (first | (with_reducible first | exact HB.out | apply below_alloc | apply pw_below_drewN | apply below_drew1 | refine below_set ?_ GE138.out) | exact HB.out)) hb); have n3_ := Aside0.mk (hbox); have n4_ := Aside0.mk ((by rw [hg]; exact (below_size (by repeat (first | (with_reducible first | exact HB.out | apply below_alloc | apply pw_below_drewN | apply below_drew1 | refine below_set ?_ GE138.out) | exact HB.out))) : w.heap.size ≤ gb144)); have n5_ := Aside0.mk ((by rw [hg]; exact (below_size (by repeat (first | (with_reducible first | exact HB.out | apply below_alloc | apply pw_below_drewN | apply below_drew1 | refine below_set ?_ GE138.out) | exact HB.out))) : w.heap.size ≤ gb144)); have n6_ := Aside0.mk ((by rw [hg]; exact Nat.ne_of_lt (blk_lt (g := gb138) (o := .cells #[.int .i64 0, .string (⟨#[]⟩ : ByteArray), .int .i64 0] 38 (0, 0)) (by (with_reducible repeat (first | refine blk_drewN ?_ _ | refine blk_drew ?_ | refine blk_alloc ?_ _)); exact BK138.out)) : gb138 ≠ gb144)); have n7_ := Aside0.mk ((by rw [hg]; exact Nat.ne_of_gt (blk_lt (g := gb138) (o := .cells #[.int .i64 0, .string (⟨#[]⟩ : ByteArray), .int .i64 0] 38 (0, 0)) (by (with_reducible repeat (first | refine blk_drewN ?_ _ | refine blk_drew ?_ | refine blk_alloc ?_ _)); exact BK138.out)) : gb144 ≠ gb138)); clear HO141; clear BK138; clear HB; have HO141 := n0_; have BK138 := n1_; have HB := n2_; have BK144 := n3_; have GW144 := n4_; have GE144 := n5_; have NB138_144 := n6_; have NB144_138 := n7_; clear n0_ n1_ n2_ n3_ n4_ n5_ n6_ n7_; clear hb hbox hg; obtain ⟨Ao10, co10, eo10⟩ := Kd.R_slice HO141.out; subst eo10; have hnb11 := NB144_138.out; have hnc11 := NB138_144.out; have hcz12_0 : w9.cell? ⟨gb144, 0, none⟩ = some (.slice none 0 0) := (blk_cell BK144.out 0).trans rfl; have hcz12_1 : w9.cell? ⟨gb144, 1, none⟩ = some (.int .i64 0) := (blk_cell BK144.out 1).trans rfl; have hfz12_0 := blk_frozen BK144.out 0; have hfz12_1 := blk_frozen BK144.out 1) | ((with_reducible refine gate_callee (f := 65) rfl ?_); refine goesL_ (some 21) rfl rfl Tryd.func65 (by kernel_rfl) rfl #[.agg #[.slice Ao10 t139.length co10, .int .i64 t142], .string a1, .int .i64 a2] rfl (by (try simp only [List.map_toArray, List.map_cons, List.map_nil]); first | done | rfl | (simp only [List.length_drop, List.length_take]; rfl)) ?_; (with_reducible refine (seedcornref10_Run.calls _ _ t139 t142 a1 a2 t145 t146 t147 _ ?side1 ?side2 A6.out).mono ?_); (case side1 => refine (Kd.R_reads' (e := 47) (base := w.heap.size) (ok := fun k_ => True) (n := t139.length) (c := co10) ?_).2.2; exact (by (with_reducible repeat (first | apply Kd.R_alloc | apply Kd.R_drewN | apply Kd.R_drew)); exact (Kd.R_mono (Kd.R_far (p := ⟨gb144, 1, none⟩) (Kd.R_far (p := ⟨gb144, 0, none⟩) (Kd.R_types HO141.out BK144.out (by decide)) (fun _ hk => hk.2) (.slice Ao10 t139.length co10)) (fun _ hk => hk.2) (.int .i64 t142)) (fun _ h_ => h_.1)))); (case side2 => exact (Kd.R_reads' HO141.out).2.1); rintro e w13 ⟨rfl, hb⟩; refine ⟨_, rfl, ?_⟩; have n0_ := Aside0.mk (Kd.R_below (by (with_reducible repeat (first | apply Kd.R_alloc | apply Kd.R_drewN | apply Kd.R_drew)); exact (Kd.R_mono (Kd.R_far (p := ⟨gb144, 1, none⟩) (Kd.R_far (p := ⟨gb144, 0, none⟩) (Kd.R_types HO141.out BK144.out (by decide)) (fun _ hk => hk.2) (.slice Ao10 t139.length co10)) (fun _ hk => hk.2) (.int .i64 t142)) (fun _ h_ => h_.1))) hb); have n1_ := Aside0.mk (blk_below (g := gb138) (o := .cells #[.int .i64 0, .string (⟨#[]⟩ : ByteArray), .int .i64 0] 38 (0, 0)) (by (with_reducible repeat (first | refine blk_drewN ?_ _ | refine blk_drew ?_ | refine blk_alloc ?_ _)); refine blk_far ?_ NB138_144.out _; (with_reducible repeat (first | refine blk_drewN ?_ _ | refine blk_drew ?_ | refine blk_alloc ?_ _)); refine blk_far ?_ NB138_144.out _; (with_reducible repeat (first | refine blk_drewN ?_ _ | refine blk_drew ?_ | refine blk_alloc ?_ _)); exact BK138.out) hb); have n2_ := Aside0.mk (blk_below (g := gb144) (o := .cells #[.slice Ao10 t139.length co10, .int .i64 t142] 28 (0, 0)) (by (with_reducible repeat (first | refine blk_drewN ?_ _ | refine blk_drew ?_ | refine blk_alloc ?_ _)); refine blk_put (cs := #[.slice Ao10 t139.length co10, .int .i64 0]) ?_ 1 _ rfl; (with_reducible repeat (first | refine blk_drewN ?_ _ | refine blk_drew ?_ | refine blk_alloc ?_ _)); refine blk_put (cs := #[.slice none 0 0, .int .i64 0]) ?_ 0 _ rfl; (with_reducible repeat (first | refine blk_drewN ?_ _ | refine blk_drew ?_ | refine blk_alloc ?_ _)); exact BK144.out) hb); have n3_ := Aside0.mk (below_step (by repeat (first | (with_reducible first | exact HB.out | apply below_alloc | apply pw_below_drewN | apply below_drew1 | refine below_set ?_ GE138.out | refine below_set ?_ GE144.out) | exact HB.out)) hb); clear HO141; clear BK138; clear BK144; clear HB; have HO141 := n0_; have BK138 := n1_; have BK144 := n2_; have HB := n3_; clear n0_ n1_ n2_ n3_; (try clear hb); (try clear hb2); (try clear hk); (try clear hi); have hcz14_0 : w13.cell? ⟨gb138, 0, none⟩ = some (.int .i64 0) := (blk_cell BK138.out 0).trans rfl; have hcz14_1 : w13.cell? ⟨gb138, 1, none⟩ = some (.string (⟨#[]⟩ : ByteArray)) := (blk_cell BK138.out 1).trans rfl; have hcz14_2 : w13.cell? ⟨gb138, 2, none⟩ = some (.int .i64 0) := (blk_cell BK138.out 2).trans rfl; have hfz14_0 := blk_frozen BK138.out 0; have hfz14_1 := blk_frozen BK138.out 1; have hfz14_2 := blk_frozen BK138.out 2))
    refine bodyPost_ret (results_ct rfl _ _ gb138 38 #[.int .i64 t145, .string t146, .int .i64 t147] (0, 0) _ rfl (by (with_reducible repeat (first | refine blk_drewN ?_ _ | refine blk_drew ?_ | refine blk_alloc ?_ _)); refine blk_put (cs := #[.int .i64 t145, .string t146, .int .i64 0]) ?_ 2 _ rfl; (with_reducible repeat (first | refine blk_drewN ?_ _ | refine blk_drew ?_ | refine blk_alloc ?_ _)); refine blk_put (cs := #[.int .i64 t145, .string (⟨#[]⟩ : ByteArray), .int .i64 0]) ?_ 1 _ rfl; (with_reducible repeat (first | refine blk_drewN ?_ _ | refine blk_drew ?_ | refine blk_alloc ?_ _)); refine blk_put (cs := #[.int .i64 0, .string (⟨#[]⟩ : ByteArray), .int .i64 0]) ?_ 0 _ rfl; (with_reducible repeat (first | refine blk_drewN ?_ _ | refine blk_drew ?_ | refine blk_alloc ?_ _)); exact BK138.out) Tryd.underlying38 rfl (by kernel_rfl)) rfl ?_
    exact ⟨by first | rfl | (simp [errW_none, errW_some] <;> rfl) | (simp [*, errW_none, errW_some] <;> rfl), by repeat (first | (with_reducible first | exact HB.out | apply below_alloc | apply pw_below_drewN | apply below_drew1 | refine below_set ?_ GE138.out | refine below_set ?_ GE144.out) | exact HB.out)⟩
  · rw [if_neg c5] at H
    have c5b0 : (t143 == 0) = false := beq_eq_false_iff_ne.mpr c5
    have c5b1 : (t143 != 0) = true := bne_iff_ne.mpr c5
    simp only [Option.some.injEq, Prod.mk.injEq] at H
    obtain ⟨rfl, rfl, rfl, rfl⟩ := H
    go_enter Tryd.func31, Tryd.ntmps31
    go_wp2_with (first | ((with_reducible refine gate_dst (N := 6) rfl ?_); refine box_event ?hg (N := 6) ?hd (cs := #[.int .i64 0, .string (⟨#[]⟩ : ByteArray), .int .i64 0]) (t := 38) ?hr ?_; (case hd => rfl); (case hg => rfl); (case hr => first | (go_simp; done) | (go_simp; rfl)); intro gb138 hg w15 hbox hb; have n0_ := Aside0.mk (below_step (by repeat (first | (with_reducible first | exact HB.out | apply below_alloc | apply pw_below_drewN | apply below_drew1) | exact HB.out)) hb); have n1_ := Aside0.mk (hbox); have n2_ := Aside0.mk ((by rw [hg]; exact (below_size (by repeat (first | (with_reducible first | exact HB.out | apply below_alloc | apply pw_below_drewN | apply below_drew1) | exact HB.out))) : w.heap.size ≤ gb138)); have n3_ := Aside0.mk ((by rw [hg]; exact (below_size (by repeat (first | (with_reducible first | exact HB.out | apply below_alloc | apply pw_below_drewN | apply below_drew1) | exact HB.out))) : w.heap.size ≤ gb138)); clear HB; have HB := n0_; have BK138 := n1_; have GW138 := n2_; have GE138 := n3_; clear n0_ n1_ n2_ n3_; clear hb hbox hg) | ((with_reducible refine gate_callee (f := 25) rfl ?_); refine goesL_ (some 12) rfl rfl Tryd.func25 (by kernel_rfl) rfl #[.string a0] rfl (by (try simp only [List.map_toArray, List.map_cons, List.map_nil]); first | done | rfl | (simp only [List.length_drop, List.length_take]; rfl)) ?_; (with_reducible refine (seedcornref08_Read.calls k a0 t139 t142 t143 _ A4.out).mono ?_); rintro e w16 ⟨v140, rfl, ho0, hb⟩; refine ⟨_, rfl, ?_⟩; have n0_ := Aside0.mk (Kd.R_lower ho0 (below_size (by repeat (first | (with_reducible first | exact HB.out | apply below_alloc | apply pw_below_drewN | apply below_drew1 | refine below_set ?_ GE138.out) | exact HB.out)))); have n1_ := Aside0.mk (blk_below (g := gb138) (o := .cells #[.int .i64 0, .string (⟨#[]⟩ : ByteArray), .int .i64 0] 38 (0, 0)) (by (with_reducible repeat (first | refine blk_drewN ?_ _ | refine blk_drew ?_ | refine blk_alloc ?_ _)); exact BK138.out) hb); have n2_ := Aside0.mk (below_step (by repeat (first | (with_reducible first | exact HB.out | apply below_alloc | apply pw_below_drewN | apply below_drew1 | refine below_set ?_ GE138.out) | exact HB.out)) hb); clear BK138; clear HB; have HO141 := n0_; have BK138 := n1_; have HB := n2_; clear n0_ n1_ n2_; (try clear hb); (try clear hb2); (try clear hk); (try clear hi); (try clear ho0)) | ((with_reducible refine gate_dst (N := 8) rfl ?_); refine box_event ?hg (N := 8) ?hd (cs := #[.slice none 0 0, .int .i64 0]) (t := 28) ?hr ?_; (case hd => rfl); (case hg => rfl); (case hr => first | (go_simp; done) | (go_simp; rfl)); intro gb144 hg w17 hbox hb; have n0_ := Aside0.mk (Kd.R_below (by (with_reducible repeat (first | apply Kd.R_alloc | apply Kd.R_drewN | apply Kd.R_drew)); exact HO141.out) hb); have n1_ := Aside0.mk (blk_below (g := gb138) (o := .cells #[.int .i64 0, .string (⟨#[]⟩ : ByteArray), .int .i64 0] 38 (0, 0)) (by (with_reducible repeat (first | refine blk_drewN ?_ _ | refine blk_drew ?_ | refine blk_alloc ?_ _)); exact BK138.out) hb); have n2_ := Aside0.mk (below_step (by repeat (first | (with_reducible first | exact HB.out | apply below_alloc | apply pw_below_drewN | apply below_drew1 | refine below_set ?_ GE138.out) | exact HB.out)) hb); have n3_ := Aside0.mk (hbox); have n4_ := Aside0.mk ((by rw [hg]; exact (below_size (by repeat (first | (with_reducible first | exact HB.out | apply below_alloc | apply pw_below_drewN | apply below_drew1 | refine below_set ?_ GE138.out) | exact HB.out))) : w.heap.size ≤ gb144)); have n5_ := Aside0.mk ((by rw [hg]; exact (below_size (by repeat (first | (with_reducible first | exact HB.out | apply below_alloc | apply pw_below_drewN | apply below_drew1 | refine below_set ?_ GE138.out) | exact HB.out))) : w.heap.size ≤ gb144)); have n6_ := Aside0.mk ((by rw [hg]; exact Nat.ne_of_lt (blk_lt (g := gb138) (o := .cells #[.int .i64 0, .string (⟨#[]⟩ : ByteArray), .int .i64 0] 38 (0, 0)) (by (with_reducible repeat (first | refine blk_drewN ?_ _ | refine blk_drew ?_ | refine blk_alloc ?_ _)); exact BK138.out)) : gb138 ≠ gb144)); have n7_ := Aside0.mk ((by rw [hg]; exact Nat.ne_of_gt (blk_lt (g := gb138) (o := .cells #[.int .i64 0, .string (⟨#[]⟩ : ByteArray), .int .i64 0] 38 (0, 0)) (by (with_reducible repeat (first | refine blk_drewN ?_ _ | refine blk_drew ?_ | refine blk_alloc ?_ _)); exact BK138.out)) : gb144 ≠ gb138)); clear HO141; clear BK138; clear HB; have HO141 := n0_; have BK138 := n1_; have HB := n2_; have BK144 := n3_; have GW144 := n4_; have GE144 := n5_; have NB138_144 := n6_; have NB144_138 := n7_; clear n0_ n1_ n2_ n3_ n4_ n5_ n6_ n7_; clear hb hbox hg; obtain ⟨Ao18, co18, eo18⟩ := Kd.R_slice HO141.out; subst eo18; have hnb19 := NB144_138.out; have hnc19 := NB138_144.out; have hcz20_0 : w17.cell? ⟨gb144, 0, none⟩ = some (.slice none 0 0) := (blk_cell BK144.out 0).trans rfl; have hcz20_1 : w17.cell? ⟨gb144, 1, none⟩ = some (.int .i64 0) := (blk_cell BK144.out 1).trans rfl; have hfz20_0 := blk_frozen BK144.out 0; have hfz20_1 := blk_frozen BK144.out 1; have hcz21_0 : w17.cell? ⟨gb138, 0, none⟩ = some (.int .i64 0) := (blk_cell BK138.out 0).trans rfl; have hcz21_1 : w17.cell? ⟨gb138, 1, none⟩ = some (.string (⟨#[]⟩ : ByteArray)) := (blk_cell BK138.out 1).trans rfl; have hcz21_2 : w17.cell? ⟨gb138, 2, none⟩ = some (.int .i64 0) := (blk_cell BK138.out 2).trans rfl; have hfz21_0 := blk_frozen BK138.out 0; have hfz21_1 := blk_frozen BK138.out 1; have hfz21_2 := blk_frozen BK138.out 2))
    refine bodyPost_ret (results_ct rfl _ _ gb138 38 #[.int .i64 0, .string (⟨#[]⟩ : ByteArray), .int .i64 0] (0, 0) _ rfl (by (with_reducible repeat (first | refine blk_drewN ?_ _ | refine blk_drew ?_ | refine blk_alloc ?_ _)); refine blk_put (cs := #[.int .i64 0, .string (⟨#[]⟩ : ByteArray), .int .i64 0]) ?_ 2 _ rfl; (with_reducible repeat (first | refine blk_drewN ?_ _ | refine blk_drew ?_ | refine blk_alloc ?_ _)); refine blk_put (cs := #[.int .i64 0, .string (⟨#[]⟩ : ByteArray), .int .i64 0]) ?_ 1 _ rfl; (with_reducible repeat (first | refine blk_drewN ?_ _ | refine blk_drew ?_ | refine blk_alloc ?_ _)); refine blk_put (cs := #[.int .i64 0, .string (⟨#[]⟩ : ByteArray), .int .i64 0]) ?_ 0 _ rfl; (with_reducible repeat (first | refine blk_drewN ?_ _ | refine blk_drew ?_ | refine blk_alloc ?_ _)); refine blk_far ?_ NB138_144.out _; (with_reducible repeat (first | refine blk_drewN ?_ _ | refine blk_drew ?_ | refine blk_alloc ?_ _)); refine blk_far ?_ NB138_144.out _; (with_reducible repeat (first | refine blk_drewN ?_ _ | refine blk_drew ?_ | refine blk_alloc ?_ _)); exact BK138.out) Tryd.underlying38 rfl (by kernel_rfl)) rfl ?_
    exact ⟨by first | rfl | (simp [errW_none, errW_some] <;> rfl) | (simp [*, errW_none, errW_some] <;> rfl), by repeat (first | (with_reducible first | exact HB.out | apply below_alloc | apply pw_below_drewN | apply below_drew1 | refine below_set ?_ GE138.out | refine below_set ?_ GE144.out) | exact HB.out)⟩
end Go.Proofs.YtdhkmdgieflioaaDoor.F
namespace Go.Proofs.YtdhkmdgieflioaaDoor.F
open Go.RowKit Go.Proofs.YtdhkmdgieflioaaDoorW.PrintWords Go.Proofs.YtdhkmdgieflioaaDoorW.PrintLast Go.Proofs.YtdhkmdgieflioaaDoorW.PrintMore
attribute [local go_sem] max2_int min2_int max_two min_two max_three min_three max_four min_four
set_option linter.unusedVariables false
set_option linter.unusedSimpArgs false
def seedcornref50_Steps.f (a0 : Int) : Option (Int) := some (wrap64 (40 * (wrap64 (a0 + 1))))
set_option maxHeartbeats 8000000 in
set_option maxRecDepth 100000 in
theorem seedcornref50_Steps.calls (a0 : Int) (r : Int) (w : World) (h : seedcornref50_Steps.f a0 = some r) :
    Calls Tryd.prog 32 #[.int .i64 a0] w fun e w' => e = .returned (.int .i64 r) ∧ Drawn0 w w' := by
  have H : (some (wrap64 (40 * (wrap64 (a0 + 1))))) = some r := h
  clear h
  obtain rfl := Option.some.inj H
  go_enter Tryd.func32, Tryd.ntmps32
  go_wp2
  go_ret
  exact ⟨by first | rfl | (simp; done) | (simp [*]; done), by repeat (first | exact Drawn0.refl _ | apply Drawn0.step)⟩
end Go.Proofs.YtdhkmdgieflioaaDoor.F
namespace Go.Proofs.YtdhkmdgieflioaaDoor.F
open Go.RowKit Go.Proofs.YtdhkmdgieflioaaDoorW.PrintWords Go.Proofs.YtdhkmdgieflioaaDoorW.PrintLast Go.Proofs.YtdhkmdgieflioaaDoorW.PrintMore
attribute [local go_sem] max2_int min2_int max_two min_two max_three min_three max_four min_four
set_option linter.unusedVariables false
set_option linter.unusedSimpArgs false
def seedcornref50_Loads.f (k : Nat) (a0 : ByteArray) (a1 : ByteArray) : Option (Bool) := (seedcornref50_Steps.f (a1.size : Int)).bind fun t148 => ((seedcornref10_Bytes.f k a0 a1 t148).bind fun bt149 => (if bt149.2.2.2 = 0 then (if bt149.1 = 1 then ((seedcornref02_Load.f k a1).bind fun t154 => (some (bt149.2.1.toList == t154.toList))) else (some false)) else (some false)))
theorem seedcornref50_Loads.mono : ∀ a0 a1 k, LeO (seedcornref50_Loads.f k a0 a1) (seedcornref50_Loads.f (k + 1) a0 a1) := by
  intro a0 a1 k
  unfold seedcornref50_Loads.f
  repeat' first
      | (with_reducible exact seedcornref02_Load.mono _ _)
      | (with_reducible exact seedcornref10_Bytes.mono _ _ _ _)
      | (with_reducible exact LeO.refl _)
      | (with_reducible exact LeO.none _)
      | (with_reducible refine LeO.ite ?_ ?_)
      | (with_reducible refine LeO.bind ?_ (fun _ => ?_))
      | exact seedcornref02_Load.mono _ _
      | exact seedcornref10_Bytes.mono _ _ _ _
      | exact LeO.none _
      | refine LeO.ite ?_ ?_
      | refine LeO.bind ?_ (fun _ => ?_)
def seedcornref50_Loads.T2 : Bool × List (List Nat × List Nat) := (true, [([], []), ([0], [0]), ([1], [1]), ([2], [2]), ([3, 2], [2, 3]), ([4, 2], [2, 4]), ([2, 5], [2, 5]), ([6, 2], [6]), ([7], [7]), ([8, 7], [7, 8]), ([7], [7]), ([10, 7, 7], [7, 10]), ([9, 11, 7], [7, 9, 11]), ([7, 12], [7, 12]), ([13, 11, 0, 1, 2, 3, 4, 5, 6, 7, 8, 9, 10, 11, 12, 13], [13])])
def seedcornref50_Loads.B2 : List Nat := [0, 1, 3, 7, 15, 31, 63, 127, 255, 511, 255, 1279, 4095, 8191, 16383]
theorem seedcornref50_Loads.tab2 : rtab .any (opsOf Tryd.f23 2) = seedcornref50_Loads.T2 := by kernel_rfl
theorem seedcornref50_Loads.bits2 : waitsOk seedcornref50_Loads.T2.2 seedcornref50_Loads.B2 = true := by kernel_rfl
set_option maxHeartbeats 8000000 in
set_option maxRecDepth 100000 in
theorem seedcornref50_Loads.calls (k : Nat) (a0 : ByteArray) (a1 : ByteArray) (r : Bool) (w : World) (h : seedcornref50_Loads.f k a0 a1 = some r) :
    Calls Tryd.prog 23 #[.string a0, .string a1] w fun e w' => e = .returned (.bool r) ∧ Below w.heap.size w w' := by
  have hu38 := Tryd.underlying38
  have HB := Aside0.mk (Below.refl w.heap.size w)
  have H : ((seedcornref50_Steps.f (a1.size : Int)).bind fun t148 => ((seedcornref10_Bytes.f k a0 a1 t148).bind fun bt149 => (if bt149.2.2.2 = 0 then (if bt149.1 = 1 then ((seedcornref02_Load.f k a1).bind fun t154 => (some (bt149.2.1.toList == t154.toList))) else (some false)) else (some false)))) = some r := h
  clear h
  replace H := Option.bind_eq_some_iff.mp H
  obtain ⟨t148, A30, H⟩ := H
  replace H : ((seedcornref10_Bytes.f k a0 a1 t148).bind fun bt149 => (if bt149.2.2.2 = 0 then (if bt149.1 = 1 then ((seedcornref02_Load.f k a1).bind fun t154 => (some (bt149.2.1.toList == t154.toList))) else (some false)) else (some false))) = some r := H
  have A3 := Aside0.mk A30
  clear A30
  replace H := Option.bind_eq_some_iff.mp H
  obtain ⟨⟨t149, t150, t151, t152⟩, A40, H⟩ := H
  replace H : (if t152 = 0 then (if t149 = 1 then ((seedcornref02_Load.f k a1).bind fun t154 => (some (t150.toList == t154.toList))) else (some false)) else (some false)) = some r := H
  have A4 := Aside0.mk A40
  clear A40
  by_cases c5 : t152 = 0
  · rw [if_pos c5] at H
    have c5b0 : (t152 == 0) = true := beq_iff_eq.mpr c5
    have c5b1 : (t152 != 0) = false := bne_eq_false_iff_eq.mpr c5
    clear c5
    by_cases c6 : t149 = 1
    · rw [if_pos c6] at H
      have c6b0 : (t149 == 1) = true := beq_iff_eq.mpr c6
      have c6b1 : (t149 != 1) = false := bne_eq_false_iff_eq.mpr c6
      clear c6
      replace H := Option.bind_eq_some_iff.mp H
      obtain ⟨t154, A70, H⟩ := H
      replace H : (some (t150.toList == t154.toList)) = some r := H
      have A7 := Aside0.mk A70
      clear A70
      obtain rfl := Option.some.inj H
      go_enter Tryd.func23, Tryd.ntmps23
      try go_wp2_with (first | ((with_reducible refine gate_callee (f := 32) rfl ?_); refine goesL_ (some 12) rfl rfl Tryd.func32 (by kernel_rfl) rfl #[.int .i64 (a1.size : Int)] rfl (by (try simp only [List.map_toArray, List.map_cons, List.map_nil]); first | done | rfl | (simp only [List.length_drop, List.length_take]; rfl)) ?_; (with_reducible refine (seedcornref50_Steps.calls (a1.size : Int) t148 _ A3.out).mono ?_); rintro e w' ⟨rfl, ⟨nd, rfl⟩⟩; refine ⟨_, rfl, ?_⟩) | ((with_reducible refine gate_callee (f := 31) rfl ?_); refine goesL_ (some 13) rfl rfl Tryd.func31 (by kernel_rfl) rfl #[.string a0, .string a1, .int .i64 t148] rfl (by (try simp only [List.map_toArray, List.map_cons, List.map_nil]); first | done | rfl | (simp only [List.length_drop, List.length_take]; rfl)) ?_; (with_reducible refine (seedcornref10_Bytes.calls k a0 a1 t148 t149 t150 t151 t152 _ A4.out).mono ?_); rintro e w8 ⟨rfl, hb⟩; refine ⟨_, rfl, ?_⟩; have n0_ := Aside0.mk (below_step (by repeat (first | (with_reducible first | exact HB.out | apply below_alloc | apply pw_below_drewN | apply below_drew1) | exact HB.out)) hb); clear HB; have HB := n0_; clear n0_; (try clear hb); (try clear hb2); (try clear hk); (try clear hi)) | ((with_reducible refine gate_dst (N := 5) rfl ?_); refine box_event ?hg (N := 5) ?hd (cs := #[.int .i64 0, .string (⟨#[]⟩ : ByteArray), .int .i64 0]) (t := 38) ?hr ?_; (case hd => rfl); (case hg => rfl); (case hr => first | (go_simp; done) | (go_simp; rfl)); intro gb153 hg w9 hbox hb; have n0_ := Aside0.mk (below_step (by repeat (first | (with_reducible first | exact HB.out | apply below_alloc | apply pw_below_drewN | apply below_drew1) | exact HB.out)) hb); have n1_ := Aside0.mk (hbox); have n2_ := Aside0.mk ((by rw [hg]; exact (below_size (by repeat (first | (with_reducible first | exact HB.out | apply below_alloc | apply pw_below_drewN | apply below_drew1) | exact HB.out))) : w.heap.size ≤ gb153)); have n3_ := Aside0.mk ((by rw [hg]; exact (below_size (by repeat (first | (with_reducible first | exact HB.out | apply below_alloc | apply pw_below_drewN | apply below_drew1) | exact HB.out))) : w.heap.size ≤ gb153)); clear HB; have HB := n0_; have BK153 := n1_; have GW153 := n2_; have GE153 := n3_; clear n0_ n1_ n2_ n3_; clear hb hbox hg; have hcz10_0 : w9.cell? ⟨gb153, 0, none⟩ = some (.int .i64 0) := (blk_cell BK153.out 0).trans rfl; have hcz10_1 : w9.cell? ⟨gb153, 1, none⟩ = some (.string (⟨#[]⟩ : ByteArray)) := (blk_cell BK153.out 1).trans rfl; have hcz10_2 : w9.cell? ⟨gb153, 2, none⟩ = some (.int .i64 0) := (blk_cell BK153.out 2).trans rfl; have hfz10_0 := blk_frozen BK153.out 0; have hfz10_1 := blk_frozen BK153.out 1; have hfz10_2 := blk_frozen BK153.out 2))
      have n0_ : Aside0 ((((w9.setCell ⟨gb153, 0, none⟩ (.int .i64 t149)).setCell ⟨gb153, 1, none⟩ (.string t150)).setCell ⟨gb153, 2, none⟩ (.int .i64 t151)).heap[gb153]? = some (.cells #[.int .i64 t149, .string t150, .int .i64 t151] 38 (0, 0))) := ⟨by (with_reducible repeat (first | refine blk_drewN ?_ _ | refine blk_drew ?_ | refine blk_alloc ?_ _)); refine blk_put (cs := #[.int .i64 t149, .string t150, .int .i64 0]) ?_ 2 _ rfl; (with_reducible repeat (first | refine blk_drewN ?_ _ | refine blk_drew ?_ | refine blk_alloc ?_ _)); refine blk_put (cs := #[.int .i64 t149, .string (⟨#[]⟩ : ByteArray), .int .i64 0]) ?_ 1 _ rfl; (with_reducible repeat (first | refine blk_drewN ?_ _ | refine blk_drew ?_ | refine blk_alloc ?_ _)); refine blk_put (cs := #[.int .i64 0, .string (⟨#[]⟩ : ByteArray), .int .i64 0]) ?_ 0 _ rfl; (with_reducible repeat (first | refine blk_drewN ?_ _ | refine blk_drew ?_ | refine blk_alloc ?_ _)); exact BK153.out⟩
      have n1_ : Aside0 (Below w.heap.size w (((w9.setCell ⟨gb153, 0, none⟩ (.int .i64 t149)).setCell ⟨gb153, 1, none⟩ (.string t150)).setCell ⟨gb153, 2, none⟩ (.int .i64 t151))) := ⟨by repeat (first | (with_reducible first | exact HB.out | apply below_alloc | apply pw_below_drewN | apply below_drew1 | refine below_set ?_ GE153.out) | exact HB.out)⟩
      (try clear BK153)
      (try clear HB)
      generalize (((w9.setCell ⟨gb153, 0, none⟩ (.int .i64 t149)).setCell ⟨gb153, 1, none⟩ (.string t150)).setCell ⟨gb153, 2, none⟩ (.int .i64 t151)) = w11 at n0_ n1_ ⊢
      have BK153 := n0_
      have HB := n1_
      clear n0_ n1_
      have n0_ := Aside0.mk (blk_drew BK153.out)
      have n1_ := Aside0.mk (below_drew1 HB.out)
      clear BK153
      clear HB
      have BK153 := n0_
      have HB := n1_
      clear n0_ n1_
      refine start_ (n := 15) (S := fun w' => w'.cell? ⟨gb153, 0, none⟩ = some (.int .i64 t149) ∧ w'.cell? ⟨gb153, 1, none⟩ = some (.string t150) ∧ w'.cell? ⟨gb153, 2, none⟩ = some (.int .i64 t151)) (ds := []) #[false, false, false, false, false, false, false, false, false, false, false, false, false, false, false] (by kernel_rfl) rfl rfl ⟨(blk_cell BK153.out 0).trans rfl, (blk_cell BK153.out 1).trans rfl, (blk_cell BK153.out 2).trans rfl⟩ (fun hHeld => ?_); refine with_tabW seedcornref50_Loads.tab2 seedcornref50_Loads.bits2 (fun HT_ HW_ => ?_)
      generalize w11.drew = w12 at BK153 HB hHeld ⊢
      refine pure_ (i := 0) (N := some 16) (v := ?_) (a' := ?_) #[true, false, false, false, false, false, false, false, false, false, false, false, false, false, false] rfl rfl (any_of HT_.out (by kernel_rfl)) (fun _ _ _ h => h) (Or.inl ⟨by rfl, ?_⟩) ?_ ?_
      rotate_left
      · intro w'
        go_simp
        with_reducible rfl
      rotate_left
      · simp only [Act.put, List.setIfInBounds_toArray, List.set_cons_zero, List.set_cons_succ, i64_w, i32_w]
        rfl
      refine pure_ (i := 1) (N := some 17) (v := ?_) (a' := ?_) #[true, true, false, false, false, false, false, false, false, false, false, false, false, false, false] rfl rfl (any_of HT_.out (by kernel_rfl)) (fun _ _ _ h => h) (Or.inl ⟨by rfl, ?_⟩) ?_ ?_
      rotate_left
      · intro w'
        go_simp
        with_reducible rfl
      rotate_left
      · simp only [Act.put, List.setIfInBounds_toArray, List.set_cons_zero, List.set_cons_succ, i64_w, i32_w]
        rfl
      refine pure_ (i := 2) (N := some 18) (v := ?_) (a' := ?_) #[true, true, true, false, false, false, false, false, false, false, false, false, false, false, false] rfl rfl (any_of HT_.out (by kernel_rfl)) (fun _ _ _ h => h) (Or.inl ⟨by rfl, ?_⟩) ?_ ?_
      rotate_left
      · intro w'
        go_simp
        with_reducible rfl
      rotate_left
      · simp only [Act.put, List.setIfInBounds_toArray, List.set_cons_zero, List.set_cons_succ, i64_w, i32_w]
        rfl
      refine pure_ (i := 3) (N := some 19) (v := ?_) (a' := ?_) #[true, true, true, true, false, false, false, false, false, false, false, false, false, false, false] rfl rfl (any_of HT_.out (by kernel_rfl)) (fun _ _ _ h => h) (Or.inl ⟨by rfl, ?_⟩) ?_ ?_
      rotate_left
      · intro w'
        go_simp
        with_reducible rfl
      rotate_left
      · simp only [Act.put, List.setIfInBounds_toArray, List.set_cons_zero, List.set_cons_succ, i64_w, i32_w]
        rfl
      refine take_ (i := 4) (N := some 20) (v := ?_) (a' := ?_) #[true, true, true, true, true, false, false, false, false, false, false, false, false, false, false] rfl rfl (take_ofW HT_.out HW_.out (by kernel_rfl)) (fun _ _ _ h => h) (Or.inl ⟨by rfl, ?_⟩) hHeld ?_ ?_
      rotate_left
      · rintro w' ⟨s0, s1, s2⟩
        go_simp
        with_reducible rfl
      rotate_left
      · simp only [Act.put, List.setIfInBounds_toArray, List.set_cons_zero, List.set_cons_succ, i64_w, i32_w]
        rfl
      refine pure_ (i := 5) (N := some 21) (v := ?_) (a' := ?_) #[true, true, true, true, true, true, false, false, false, false, false, false, false, false, false] rfl rfl (any_of HT_.out (by kernel_rfl)) (fun _ _ _ h => h) (Or.inl ⟨by rfl, ?_⟩) ?_ ?_
      rotate_left
      · intro w'
        go_simp
        with_reducible rfl
      rotate_left
      · simp only [Act.put, List.setIfInBounds_toArray, List.set_cons_zero, List.set_cons_succ, i64_w, i32_w]
        rfl
      refine pure_ (i := 6) (N := some 22) (v := ?_) (a' := ?_) #[true, true, true, true, true, true, true, false, false, false, false, false, false, false, false] rfl rfl (any_of HT_.out (by kernel_rfl)) (fun _ _ _ h => h) (Or.inl ⟨by rfl, ?_⟩) ?_ ?_
      rotate_left
      · intro w'
        go_simp
        with_reducible rfl
      rotate_left
      · simp only [Act.put, List.setIfInBounds_toArray, List.set_cons_zero, List.set_cons_succ, i64_w, i32_w]
        rfl
      refine pure_ (i := 7) (N := some 23) (v := ?_) (a' := ?_) #[true, true, true, true, true, true, true, true, false, false, false, false, false, false, false] rfl rfl (any_of HT_.out (by kernel_rfl)) (fun _ _ _ h => h) (Or.inl ⟨by rfl, ?_⟩) ?_ ?_
      rotate_left
      · intro w'
        go_simp
        with_reducible rfl
      rotate_left
      · simp only [Act.put, List.setIfInBounds_toArray, List.set_cons_zero, List.set_cons_succ, i64_w, i32_w]
        rfl
      refine pure_ (i := 8) (N := some 24) (v := ?_) (a' := ?_) #[true, true, true, true, true, true, true, true, true, false, false, false, false, false, false] rfl rfl (any_of HT_.out (by kernel_rfl)) (fun _ _ _ h => h) (Or.inl ⟨by rfl, ?_⟩) ?_ ?_
      rotate_left
      · intro w'
        go_simp
        with_reducible rfl
      rotate_left
      · simp only [Act.put, List.setIfInBounds_toArray, List.set_cons_zero, List.set_cons_succ, i64_w, i32_w]
        rfl
      refine pure_ (i := 10) (N := some 26) (v := ?_) (a' := ?_) #[true, true, true, true, true, true, true, true, true, false, true, false, false, false, false] rfl rfl (any_of HT_.out (by kernel_rfl)) (fun _ _ _ h => h) (Or.inl ⟨by rfl, ?_⟩) ?_ ?_
      rotate_left
      · intro w'
        go_simp
        with_reducible rfl
      rotate_left
      · simp only [Act.put, List.setIfInBounds_toArray, List.set_cons_zero, List.set_cons_succ, i64_w, i32_w]
        rfl
      refine take_ (i := 9) (N := some 25) (v := ?_) (a' := ?_) #[true, true, true, true, true, true, true, true, true, true, true, false, false, false, false] rfl rfl (take_ofW HT_.out HW_.out (by kernel_rfl)) (fun _ _ _ h => h) (Or.inl ⟨by rfl, ?_⟩) hHeld ?_ ?_
      rotate_left
      · rintro w' ⟨s0, s1, s2⟩
        go_simp
        with_reducible rfl
      rotate_left
      · simp only [Act.put, List.setIfInBounds_toArray, List.set_cons_zero, List.set_cons_succ, i64_w, i32_w]
        rfl
      refine one_ (i := 11) (N := some 27) #[true, true, true, true, true, true, true, true, true, true, true, true, false, false, false] rfl rfl (one_of HT_.out (by kernel_rfl)) (by decide) (fun K hK => ?_)
      refine goes_ Tryd.func28 (by kernel_rfl) rfl #[.string a1] (by rfl) rfl rfl (by (try simp only [List.map_toArray, List.map_cons, List.map_nil]); first | done | rfl | (simp only [List.length_drop, List.length_take]; rfl)) ?_
      with_reducible refine (seedcornref02_Load.calls k a1 t154 _ A7.out).mono ?_
      rintro e w13 ⟨rfl, hb⟩
      refine ⟨_, rfl, ?_⟩
      have n0_ := Aside0.mk (blk_below (g := gb153) (o := .cells #[.int .i64 t149, .string t150, .int .i64 t151] 38 (0, 0)) (by (with_reducible repeat (first | refine blk_drewN ?_ _ | refine blk_drew ?_ | refine blk_alloc ?_ _)); exact BK153.out) hb)
      have n1_ := Aside0.mk (below_step (by repeat (first | (with_reducible first | exact HB.out | apply below_alloc | apply pw_below_drewN | apply below_drew1 | refine below_set ?_ GE153.out) | exact HB.out)) hb)
      clear BK153
      clear HB
      have BK153 := n0_
      have HB := n1_
      clear n0_ n1_
      (try clear hb)
      (try clear hb2)
      (try clear hk)
      (try clear hi)
      refine hK.out _ _ ⟨(blk_cell BK153.out 0).trans rfl, (blk_cell BK153.out 1).trans rfl, (blk_cell BK153.out 2).trans rfl⟩ (fun hHeld => ?_)
      clear hK K
      refine norm_ (a' := ?_) ?_ ?_
      rotate_left
      · show Act.put _ (some 27) _ = _
        simp only [Act.put, List.setIfInBounds_toArray, List.set_cons_zero, List.set_cons_succ, i64_w, i32_w]
        rfl
      refine pure_ (i := 12) (N := some 28) (v := ?_) (a' := ?_) #[true, true, true, true, true, true, true, true, true, true, true, true, true, false, false] rfl rfl (any_of HT_.out (by kernel_rfl)) (fun _ _ _ h => h) (Or.inl ⟨by rfl, ?_⟩) ?_ ?_
      rotate_left
      · intro w'
        go_simp
        with_reducible rfl
      rotate_left
      · simp only [Act.put, List.setIfInBounds_toArray, List.set_cons_zero, List.set_cons_succ, i64_w, i32_w]
        rfl
      refine pure_ (i := 13) (N := some 29) (v := ?_) (a' := ?_) #[true, true, true, true, true, true, true, true, true, true, true, true, true, true, false] rfl rfl (any_of HT_.out (by kernel_rfl)) (fun _ _ _ h => h) (Or.inl ⟨by rfl, ?_⟩) ?_ ?_
      rotate_left
      · intro w'
        go_simp
        with_reducible rfl
      rotate_left
      · simp only [Act.put, List.setIfInBounds_toArray, List.set_cons_zero, List.set_cons_succ, i64_w, i32_w]
        rfl
      refine pure_ (i := 14) (N := some 4) (v := ?_) (a' := ?_) #[true, true, true, true, true, true, true, true, true, true, true, true, true, true, true] rfl rfl (any_of HT_.out (by kernel_rfl)) (fun _ _ _ h => h) (Or.inl ⟨by rfl, ?_⟩) ?_ ?_
      rotate_left
      · intro w'
        go_simp
        with_reducible rfl
      rotate_left
      · simp only [Act.put, List.setIfInBounds_toArray, List.set_cons_zero, List.set_cons_succ, i64_w, i32_w]
        rfl
      refine done_ (done_of HT_.out (by kernel_rfl)) ?_
      try go_wp2
      go_ret
      exact ⟨by first | rfl | (simp [errW_none, errW_some] <;> rfl) | (simp [*, errW_none, errW_some] <;> rfl), by repeat (first | (with_reducible first | exact HB.out | apply below_alloc | apply pw_below_drewN | apply below_drew1 | refine below_set ?_ GE153.out) | exact HB.out)⟩
    · rw [if_neg c6] at H
      have c6b0 : (t149 == 1) = false := beq_eq_false_iff_ne.mpr c6
      have c6b1 : (t149 != 1) = true := bne_iff_ne.mpr c6
      obtain rfl := Option.some.inj H
      go_enter Tryd.func23, Tryd.ntmps23
      try go_wp2_with (first | ((with_reducible refine gate_callee (f := 32) rfl ?_); refine goesL_ (some 12) rfl rfl Tryd.func32 (by kernel_rfl) rfl #[.int .i64 (a1.size : Int)] rfl (by (try simp only [List.map_toArray, List.map_cons, List.map_nil]); first | done | rfl | (simp only [List.length_drop, List.length_take]; rfl)) ?_; (with_reducible refine (seedcornref50_Steps.calls (a1.size : Int) t148 _ A3.out).mono ?_); rintro e w' ⟨rfl, ⟨nd, rfl⟩⟩; refine ⟨_, rfl, ?_⟩) | ((with_reducible refine gate_callee (f := 31) rfl ?_); refine goesL_ (some 13) rfl rfl Tryd.func31 (by kernel_rfl) rfl #[.string a0, .string a1, .int .i64 t148] rfl (by (try simp only [List.map_toArray, List.map_cons, List.map_nil]); first | done | rfl | (simp only [List.length_drop, List.length_take]; rfl)) ?_; (with_reducible refine (seedcornref10_Bytes.calls k a0 a1 t148 t149 t150 t151 t152 _ A4.out).mono ?_); rintro e w14 ⟨rfl, hb⟩; refine ⟨_, rfl, ?_⟩; have n0_ := Aside0.mk (below_step (by repeat (first | (with_reducible first | exact HB.out | apply below_alloc | apply pw_below_drewN | apply below_drew1) | exact HB.out)) hb); clear HB; have HB := n0_; clear n0_; (try clear hb); (try clear hb2); (try clear hk); (try clear hi)) | ((with_reducible refine gate_dst (N := 5) rfl ?_); refine box_event ?hg (N := 5) ?hd (cs := #[.int .i64 0, .string (⟨#[]⟩ : ByteArray), .int .i64 0]) (t := 38) ?hr ?_; (case hd => rfl); (case hg => rfl); (case hr => first | (go_simp; done) | (go_simp; rfl)); intro gb153 hg w15 hbox hb; have n0_ := Aside0.mk (below_step (by repeat (first | (with_reducible first | exact HB.out | apply below_alloc | apply pw_below_drewN | apply below_drew1) | exact HB.out)) hb); have n1_ := Aside0.mk (hbox); have n2_ := Aside0.mk ((by rw [hg]; exact (below_size (by repeat (first | (with_reducible first | exact HB.out | apply below_alloc | apply pw_below_drewN | apply below_drew1) | exact HB.out))) : w.heap.size ≤ gb153)); have n3_ := Aside0.mk ((by rw [hg]; exact (below_size (by repeat (first | (with_reducible first | exact HB.out | apply below_alloc | apply pw_below_drewN | apply below_drew1) | exact HB.out))) : w.heap.size ≤ gb153)); clear HB; have HB := n0_; have BK153 := n1_; have GW153 := n2_; have GE153 := n3_; clear n0_ n1_ n2_ n3_; clear hb hbox hg; have hcz16_0 : w15.cell? ⟨gb153, 0, none⟩ = some (.int .i64 0) := (blk_cell BK153.out 0).trans rfl; have hcz16_1 : w15.cell? ⟨gb153, 1, none⟩ = some (.string (⟨#[]⟩ : ByteArray)) := (blk_cell BK153.out 1).trans rfl; have hcz16_2 : w15.cell? ⟨gb153, 2, none⟩ = some (.int .i64 0) := (blk_cell BK153.out 2).trans rfl; have hfz16_0 := blk_frozen BK153.out 0; have hfz16_1 := blk_frozen BK153.out 1; have hfz16_2 := blk_frozen BK153.out 2))
      have n0_ : Aside0 ((((w15.setCell ⟨gb153, 0, none⟩ (.int .i64 t149)).setCell ⟨gb153, 1, none⟩ (.string t150)).setCell ⟨gb153, 2, none⟩ (.int .i64 t151)).heap[gb153]? = some (.cells #[.int .i64 t149, .string t150, .int .i64 t151] 38 (0, 0))) := ⟨by (with_reducible repeat (first | refine blk_drewN ?_ _ | refine blk_drew ?_ | refine blk_alloc ?_ _)); refine blk_put (cs := #[.int .i64 t149, .string t150, .int .i64 0]) ?_ 2 _ rfl; (with_reducible repeat (first | refine blk_drewN ?_ _ | refine blk_drew ?_ | refine blk_alloc ?_ _)); refine blk_put (cs := #[.int .i64 t149, .string (⟨#[]⟩ : ByteArray), .int .i64 0]) ?_ 1 _ rfl; (with_reducible repeat (first | refine blk_drewN ?_ _ | refine blk_drew ?_ | refine blk_alloc ?_ _)); refine blk_put (cs := #[.int .i64 0, .string (⟨#[]⟩ : ByteArray), .int .i64 0]) ?_ 0 _ rfl; (with_reducible repeat (first | refine blk_drewN ?_ _ | refine blk_drew ?_ | refine blk_alloc ?_ _)); exact BK153.out⟩
      have n1_ : Aside0 (Below w.heap.size w (((w15.setCell ⟨gb153, 0, none⟩ (.int .i64 t149)).setCell ⟨gb153, 1, none⟩ (.string t150)).setCell ⟨gb153, 2, none⟩ (.int .i64 t151))) := ⟨by repeat (first | (with_reducible first | exact HB.out | apply below_alloc | apply pw_below_drewN | apply below_drew1 | refine below_set ?_ GE153.out) | exact HB.out)⟩
      (try clear BK153)
      (try clear HB)
      generalize (((w15.setCell ⟨gb153, 0, none⟩ (.int .i64 t149)).setCell ⟨gb153, 1, none⟩ (.string t150)).setCell ⟨gb153, 2, none⟩ (.int .i64 t151)) = w17 at n0_ n1_ ⊢
      have BK153 := n0_
      have HB := n1_
      clear n0_ n1_
      have n0_ := Aside0.mk (blk_drew BK153.out)
      have n1_ := Aside0.mk (below_drew1 HB.out)
      clear BK153
      clear HB
      have BK153 := n0_
      have HB := n1_
      clear n0_ n1_
      refine start_ (n := 15) (S := fun w' => w'.cell? ⟨gb153, 0, none⟩ = some (.int .i64 t149) ∧ w'.cell? ⟨gb153, 1, none⟩ = some (.string t150) ∧ w'.cell? ⟨gb153, 2, none⟩ = some (.int .i64 t151)) (ds := []) #[false, false, false, false, false, false, false, false, false, false, false, false, false, false, false] (by kernel_rfl) rfl rfl ⟨(blk_cell BK153.out 0).trans rfl, (blk_cell BK153.out 1).trans rfl, (blk_cell BK153.out 2).trans rfl⟩ (fun hHeld => ?_); refine with_tabW seedcornref50_Loads.tab2 seedcornref50_Loads.bits2 (fun HT_ HW_ => ?_)
      generalize w17.drew = w18 at BK153 HB hHeld ⊢
      refine pure_ (i := 0) (N := some 16) (v := ?_) (a' := ?_) #[true, false, false, false, false, false, false, false, false, false, false, false, false, false, false] rfl rfl (any_of HT_.out (by kernel_rfl)) (fun _ _ _ h => h) (Or.inl ⟨by rfl, ?_⟩) ?_ ?_
      rotate_left
      · intro w'
        go_simp
        with_reducible rfl
      rotate_left
      · simp only [Act.put, List.setIfInBounds_toArray, List.set_cons_zero, List.set_cons_succ, i64_w, i32_w]
        rfl
      refine pure_ (i := 1) (N := some 17) (v := ?_) (a' := ?_) #[true, true, false, false, false, false, false, false, false, false, false, false, false, false, false] rfl rfl (any_of HT_.out (by kernel_rfl)) (fun _ _ _ h => h) (Or.inl ⟨by rfl, ?_⟩) ?_ ?_
      rotate_left
      · intro w'
        go_simp
        with_reducible rfl
      rotate_left
      · simp only [Act.put, List.setIfInBounds_toArray, List.set_cons_zero, List.set_cons_succ, i64_w, i32_w]
        rfl
      refine pure_ (i := 2) (N := some 18) (v := ?_) (a' := ?_) #[true, true, true, false, false, false, false, false, false, false, false, false, false, false, false] rfl rfl (any_of HT_.out (by kernel_rfl)) (fun _ _ _ h => h) (Or.inl ⟨by rfl, ?_⟩) ?_ ?_
      rotate_left
      · intro w'
        go_simp
        with_reducible rfl
      rotate_left
      · simp only [Act.put, List.setIfInBounds_toArray, List.set_cons_zero, List.set_cons_succ, i64_w, i32_w]
        rfl
      refine pure_ (i := 3) (N := some 19) (v := ?_) (a' := ?_) #[true, true, true, true, false, false, false, false, false, false, false, false, false, false, false] rfl rfl (any_of HT_.out (by kernel_rfl)) (fun _ _ _ h => h) (Or.inl ⟨by rfl, ?_⟩) ?_ ?_
      rotate_left
      · intro w'
        go_simp
        with_reducible rfl
      rotate_left
      · simp only [Act.put, List.setIfInBounds_toArray, List.set_cons_zero, List.set_cons_succ, i64_w, i32_w]
        rfl
      refine take_ (i := 4) (N := some 20) (v := ?_) (a' := ?_) #[true, true, true, true, true, false, false, false, false, false, false, false, false, false, false] rfl rfl (take_ofW HT_.out HW_.out (by kernel_rfl)) (fun _ _ _ h => h) (Or.inl ⟨by rfl, ?_⟩) hHeld ?_ ?_
      rotate_left
      · rintro w' ⟨s0, s1, s2⟩
        go_simp
        with_reducible rfl
      rotate_left
      · simp only [Act.put, List.setIfInBounds_toArray, List.set_cons_zero, List.set_cons_succ, i64_w, i32_w]
        rfl
      refine pure_ (i := 5) (N := some 21) (v := ?_) (a' := ?_) #[true, true, true, true, true, true, false, false, false, false, false, false, false, false, false] rfl rfl (any_of HT_.out (by kernel_rfl)) (fun _ _ _ h => h) (Or.inl ⟨by rfl, ?_⟩) ?_ ?_
      rotate_left
      · intro w'
        go_simp
        with_reducible rfl
      rotate_left
      · simp only [Act.put, List.setIfInBounds_toArray, List.set_cons_zero, List.set_cons_succ, i64_w, i32_w]
        rfl
      refine pure_ (i := 6) (N := some 22) (v := ?_) (a' := ?_) #[true, true, true, true, true, true, true, false, false, false, false, false, false, false, false] rfl rfl (any_of HT_.out (by kernel_rfl)) (fun _ _ _ h => h) (Or.inl ⟨by rfl, ?_⟩) ?_ ?_
      rotate_left
      · intro w'
        go_simp
        with_reducible rfl
      rotate_left
      · simp only [Act.put, List.setIfInBounds_toArray, List.set_cons_zero, List.set_cons_succ, i64_w, i32_w]
        rfl
      refine pure_ (i := 7) (N := some 23) (v := ?_) (a' := ?_) #[true, true, true, true, true, true, true, true, false, false, false, false, false, false, false] rfl rfl (any_of HT_.out (by kernel_rfl)) (fun _ _ _ h => h) (Or.inl ⟨by rfl, ?_⟩) ?_ ?_
      rotate_left
      · intro w'
        go_simp
        with_reducible rfl
      rotate_left
      · simp only [Act.put, List.setIfInBounds_toArray, List.set_cons_zero, List.set_cons_succ, i64_w, i32_w]
        rfl
      refine pure_ (i := 8) (N := some 24) (v := undef) (a' := ?_) #[true, true, true, true, true, true, true, true, true, false, false, false, false, false, false] rfl rfl (any_of HT_.out (by kernel_rfl)) (fun _ _ _ h => h) (Or.inr ⟨by rfl, rfl⟩) ?_ ?_
      rotate_left
      · simp only [Act.put, List.setIfInBounds_toArray, List.set_cons_zero, List.set_cons_succ, i64_w, i32_w]
        rfl
      refine pure_ (i := 9) (N := some 25) (v := undef) (a' := ?_) #[true, true, true, true, true, true, true, true, true, true, false, false, false, false, false] rfl rfl (any_of HT_.out (by kernel_rfl)) (fun _ _ _ h => h) (Or.inr ⟨by rfl, rfl⟩) ?_ ?_
      rotate_left
      · simp only [Act.put, List.setIfInBounds_toArray, List.set_cons_zero, List.set_cons_succ, i64_w, i32_w]
        rfl
      refine pure_ (i := 10) (N := some 26) (v := undef) (a' := ?_) #[true, true, true, true, true, true, true, true, true, true, true, false, false, false, false] rfl rfl (any_of HT_.out (by kernel_rfl)) (fun _ _ _ h => h) (Or.inr ⟨by rfl, rfl⟩) ?_ ?_
      rotate_left
      · simp only [Act.put, List.setIfInBounds_toArray, List.set_cons_zero, List.set_cons_succ, i64_w, i32_w]
        rfl
      refine pure_ (i := 11) (N := some 27) (v := undef) (a' := ?_) #[true, true, true, true, true, true, true, true, true, true, true, true, false, false, false] rfl rfl (any_of HT_.out (by kernel_rfl)) (fun _ _ _ h => h) (Or.inr ⟨by rfl, rfl⟩) ?_ ?_
      rotate_left
      · simp only [Act.put, List.setIfInBounds_toArray, List.set_cons_zero, List.set_cons_succ, i64_w, i32_w]
        rfl
      refine pure_ (i := 12) (N := some 28) (v := undef) (a' := ?_) #[true, true, true, true, true, true, true, true, true, true, true, true, true, false, false] rfl rfl (any_of HT_.out (by kernel_rfl)) (fun _ _ _ h => h) (Or.inr ⟨by rfl, rfl⟩) ?_ ?_
      rotate_left
      · simp only [Act.put, List.setIfInBounds_toArray, List.set_cons_zero, List.set_cons_succ, i64_w, i32_w]
        rfl
      refine pure_ (i := 13) (N := some 29) (v := ?_) (a' := ?_) #[true, true, true, true, true, true, true, true, true, true, true, true, true, true, false] rfl rfl (any_of HT_.out (by kernel_rfl)) (fun _ _ _ h => h) (Or.inl ⟨by rfl, ?_⟩) ?_ ?_
      rotate_left
      · intro w'
        go_simp
        with_reducible rfl
      rotate_left
      · simp only [Act.put, List.setIfInBounds_toArray, List.set_cons_zero, List.set_cons_succ, i64_w, i32_w]
        rfl
      refine pure_ (i := 14) (N := some 4) (v := ?_) (a' := ?_) #[true, true, true, true, true, true, true, true, true, true, true, true, true, true, true] rfl rfl (any_of HT_.out (by kernel_rfl)) (fun _ _ _ h => h) (Or.inl ⟨by rfl, ?_⟩) ?_ ?_
      rotate_left
      · intro w'
        go_simp
        with_reducible rfl
      rotate_left
      · simp only [Act.put, List.setIfInBounds_toArray, List.set_cons_zero, List.set_cons_succ, i64_w, i32_w]
        rfl
      refine done_ (done_of HT_.out (by kernel_rfl)) ?_
      try go_wp2
      go_ret
      exact ⟨by first | rfl | (simp [errW_none, errW_some] <;> rfl) | (simp [*, errW_none, errW_some] <;> rfl), by repeat (first | (with_reducible first | exact HB.out | apply below_alloc | apply pw_below_drewN | apply below_drew1 | refine below_set ?_ GE153.out) | exact HB.out)⟩
  · rw [if_neg c5] at H
    have c5b0 : (t152 == 0) = false := beq_eq_false_iff_ne.mpr c5
    have c5b1 : (t152 != 0) = true := bne_iff_ne.mpr c5
    obtain rfl := Option.some.inj H
    go_enter Tryd.func23, Tryd.ntmps23
    try go_wp2_with (first | ((with_reducible refine gate_callee (f := 32) rfl ?_); refine goesL_ (some 12) rfl rfl Tryd.func32 (by kernel_rfl) rfl #[.int .i64 (a1.size : Int)] rfl (by (try simp only [List.map_toArray, List.map_cons, List.map_nil]); first | done | rfl | (simp only [List.length_drop, List.length_take]; rfl)) ?_; (with_reducible refine (seedcornref50_Steps.calls (a1.size : Int) t148 _ A3.out).mono ?_); rintro e w' ⟨rfl, ⟨nd, rfl⟩⟩; refine ⟨_, rfl, ?_⟩) | ((with_reducible refine gate_callee (f := 31) rfl ?_); refine goesL_ (some 13) rfl rfl Tryd.func31 (by kernel_rfl) rfl #[.string a0, .string a1, .int .i64 t148] rfl (by (try simp only [List.map_toArray, List.map_cons, List.map_nil]); first | done | rfl | (simp only [List.length_drop, List.length_take]; rfl)) ?_; (with_reducible refine (seedcornref10_Bytes.calls k a0 a1 t148 t149 t150 t151 t152 _ A4.out).mono ?_); rintro e w19 ⟨rfl, hb⟩; refine ⟨_, rfl, ?_⟩; have n0_ := Aside0.mk (below_step (by repeat (first | (with_reducible first | exact HB.out | apply below_alloc | apply pw_below_drewN | apply below_drew1) | exact HB.out)) hb); clear HB; have HB := n0_; clear n0_; (try clear hb); (try clear hb2); (try clear hk); (try clear hi)) | ((with_reducible refine gate_dst (N := 5) rfl ?_); refine box_event ?hg (N := 5) ?hd (cs := #[.int .i64 0, .string (⟨#[]⟩ : ByteArray), .int .i64 0]) (t := 38) ?hr ?_; (case hd => rfl); (case hg => rfl); (case hr => first | (go_simp; done) | (go_simp; rfl)); intro gb153 hg w20 hbox hb; have n0_ := Aside0.mk (below_step (by repeat (first | (with_reducible first | exact HB.out | apply below_alloc | apply pw_below_drewN | apply below_drew1) | exact HB.out)) hb); have n1_ := Aside0.mk (hbox); have n2_ := Aside0.mk ((by rw [hg]; exact (below_size (by repeat (first | (with_reducible first | exact HB.out | apply below_alloc | apply pw_below_drewN | apply below_drew1) | exact HB.out))) : w.heap.size ≤ gb153)); have n3_ := Aside0.mk ((by rw [hg]; exact (below_size (by repeat (first | (with_reducible first | exact HB.out | apply below_alloc | apply pw_below_drewN | apply below_drew1) | exact HB.out))) : w.heap.size ≤ gb153)); clear HB; have HB := n0_; have BK153 := n1_; have GW153 := n2_; have GE153 := n3_; clear n0_ n1_ n2_ n3_; clear hb hbox hg; have hcz21_0 : w20.cell? ⟨gb153, 0, none⟩ = some (.int .i64 0) := (blk_cell BK153.out 0).trans rfl; have hcz21_1 : w20.cell? ⟨gb153, 1, none⟩ = some (.string (⟨#[]⟩ : ByteArray)) := (blk_cell BK153.out 1).trans rfl; have hcz21_2 : w20.cell? ⟨gb153, 2, none⟩ = some (.int .i64 0) := (blk_cell BK153.out 2).trans rfl; have hfz21_0 := blk_frozen BK153.out 0; have hfz21_1 := blk_frozen BK153.out 1; have hfz21_2 := blk_frozen BK153.out 2))
    have n0_ : Aside0 ((((w20.setCell ⟨gb153, 0, none⟩ (.int .i64 t149)).setCell ⟨gb153, 1, none⟩ (.string t150)).setCell ⟨gb153, 2, none⟩ (.int .i64 t151)).heap[gb153]? = some (.cells #[.int .i64 t149, .string t150, .int .i64 t151] 38 (0, 0))) := ⟨by (with_reducible repeat (first | refine blk_drewN ?_ _ | refine blk_drew ?_ | refine blk_alloc ?_ _)); refine blk_put (cs := #[.int .i64 t149, .string t150, .int .i64 0]) ?_ 2 _ rfl; (with_reducible repeat (first | refine blk_drewN ?_ _ | refine blk_drew ?_ | refine blk_alloc ?_ _)); refine blk_put (cs := #[.int .i64 t149, .string (⟨#[]⟩ : ByteArray), .int .i64 0]) ?_ 1 _ rfl; (with_reducible repeat (first | refine blk_drewN ?_ _ | refine blk_drew ?_ | refine blk_alloc ?_ _)); refine blk_put (cs := #[.int .i64 0, .string (⟨#[]⟩ : ByteArray), .int .i64 0]) ?_ 0 _ rfl; (with_reducible repeat (first | refine blk_drewN ?_ _ | refine blk_drew ?_ | refine blk_alloc ?_ _)); exact BK153.out⟩
    have n1_ : Aside0 (Below w.heap.size w (((w20.setCell ⟨gb153, 0, none⟩ (.int .i64 t149)).setCell ⟨gb153, 1, none⟩ (.string t150)).setCell ⟨gb153, 2, none⟩ (.int .i64 t151))) := ⟨by repeat (first | (with_reducible first | exact HB.out | apply below_alloc | apply pw_below_drewN | apply below_drew1 | refine below_set ?_ GE153.out) | exact HB.out)⟩
    (try clear BK153)
    (try clear HB)
    generalize (((w20.setCell ⟨gb153, 0, none⟩ (.int .i64 t149)).setCell ⟨gb153, 1, none⟩ (.string t150)).setCell ⟨gb153, 2, none⟩ (.int .i64 t151)) = w22 at n0_ n1_ ⊢
    have BK153 := n0_
    have HB := n1_
    clear n0_ n1_
    have n0_ := Aside0.mk (blk_drew BK153.out)
    have n1_ := Aside0.mk (below_drew1 HB.out)
    clear BK153
    clear HB
    have BK153 := n0_
    have HB := n1_
    clear n0_ n1_
    refine start_ (n := 15) (S := fun w' => True) (ds := []) #[false, false, false, false, false, false, false, false, false, false, false, false, false, false, false] (by kernel_rfl) rfl rfl trivial (fun hHeld => ?_); refine with_tabW seedcornref50_Loads.tab2 seedcornref50_Loads.bits2 (fun HT_ HW_ => ?_)
    generalize w22.drew = w23 at BK153 HB hHeld ⊢
    refine pure_ (i := 0) (N := some 16) (v := ?_) (a' := ?_) #[true, false, false, false, false, false, false, false, false, false, false, false, false, false, false] rfl rfl (any_of HT_.out (by kernel_rfl)) (fun _ _ _ h => h) (Or.inl ⟨by rfl, ?_⟩) ?_ ?_
    rotate_left
    · intro w'
      go_simp
      with_reducible rfl
    rotate_left
    · simp only [Act.put, List.setIfInBounds_toArray, List.set_cons_zero, List.set_cons_succ, i64_w, i32_w]
      rfl
    refine pure_ (i := 1) (N := some 17) (v := ?_) (a' := ?_) #[true, true, false, false, false, false, false, false, false, false, false, false, false, false, false] rfl rfl (any_of HT_.out (by kernel_rfl)) (fun _ _ _ h => h) (Or.inl ⟨by rfl, ?_⟩) ?_ ?_
    rotate_left
    · intro w'
      go_simp
      with_reducible rfl
    rotate_left
    · simp only [Act.put, List.setIfInBounds_toArray, List.set_cons_zero, List.set_cons_succ, i64_w, i32_w]
      rfl
    refine pure_ (i := 2) (N := some 18) (v := ?_) (a' := ?_) #[true, true, true, false, false, false, false, false, false, false, false, false, false, false, false] rfl rfl (any_of HT_.out (by kernel_rfl)) (fun _ _ _ h => h) (Or.inl ⟨by rfl, ?_⟩) ?_ ?_
    rotate_left
    · intro w'
      go_simp
      with_reducible rfl
    rotate_left
    · simp only [Act.put, List.setIfInBounds_toArray, List.set_cons_zero, List.set_cons_succ, i64_w, i32_w]
      rfl
    refine pure_ (i := 3) (N := some 19) (v := undef) (a' := ?_) #[true, true, true, true, false, false, false, false, false, false, false, false, false, false, false] rfl rfl (any_of HT_.out (by kernel_rfl)) (fun _ _ _ h => h) (Or.inr ⟨by rfl, rfl⟩) ?_ ?_
    rotate_left
    · simp only [Act.put, List.setIfInBounds_toArray, List.set_cons_zero, List.set_cons_succ, i64_w, i32_w]
      rfl
    refine pure_ (i := 4) (N := some 20) (v := undef) (a' := ?_) #[true, true, true, true, true, false, false, false, false, false, false, false, false, false, false] rfl rfl (any_of HT_.out (by kernel_rfl)) (fun _ _ _ h => h) (Or.inr ⟨by rfl, rfl⟩) ?_ ?_
    rotate_left
    · simp only [Act.put, List.setIfInBounds_toArray, List.set_cons_zero, List.set_cons_succ, i64_w, i32_w]
      rfl
    refine pure_ (i := 5) (N := some 21) (v := undef) (a' := ?_) #[true, true, true, true, true, true, false, false, false, false, false, false, false, false, false] rfl rfl (any_of HT_.out (by kernel_rfl)) (fun _ _ _ h => h) (Or.inr ⟨by rfl, rfl⟩) ?_ ?_
    rotate_left
    · simp only [Act.put, List.setIfInBounds_toArray, List.set_cons_zero, List.set_cons_succ, i64_w, i32_w]
      rfl
    refine pure_ (i := 6) (N := some 22) (v := ?_) (a' := ?_) #[true, true, true, true, true, true, true, false, false, false, false, false, false, false, false] rfl rfl (any_of HT_.out (by kernel_rfl)) (fun _ _ _ h => h) (Or.inl ⟨by rfl, ?_⟩) ?_ ?_
    rotate_left
    · intro w'
      go_simp
      with_reducible rfl
    rotate_left
    · simp only [Act.put, List.setIfInBounds_toArray, List.set_cons_zero, List.set_cons_succ, i64_w, i32_w]
      rfl
    refine pure_ (i := 7) (N := some 23) (v := ?_) (a' := ?_) #[true, true, true, true, true, true, true, true, false, false, false, false, false, false, false] rfl rfl (any_of HT_.out (by kernel_rfl)) (fun _ _ _ h => h) (Or.inl ⟨by rfl, ?_⟩) ?_ ?_
    rotate_left
    · intro w'
      go_simp
      with_reducible rfl
    rotate_left
    · simp only [Act.put, List.setIfInBounds_toArray, List.set_cons_zero, List.set_cons_succ, i64_w, i32_w]
      rfl
    refine pure_ (i := 8) (N := some 24) (v := undef) (a' := ?_) #[true, true, true, true, true, true, true, true, true, false, false, false, false, false, false] rfl rfl (any_of HT_.out (by kernel_rfl)) (fun _ _ _ h => h) (Or.inr ⟨by rfl, rfl⟩) ?_ ?_
    rotate_left
    · simp only [Act.put, List.setIfInBounds_toArray, List.set_cons_zero, List.set_cons_succ, i64_w, i32_w]
      rfl
    refine pure_ (i := 9) (N := some 25) (v := undef) (a' := ?_) #[true, true, true, true, true, true, true, true, true, true, false, false, false, false, false] rfl rfl (any_of HT_.out (by kernel_rfl)) (fun _ _ _ h => h) (Or.inr ⟨by rfl, rfl⟩) ?_ ?_
    rotate_left
    · simp only [Act.put, List.setIfInBounds_toArray, List.set_cons_zero, List.set_cons_succ, i64_w, i32_w]
      rfl
    refine pure_ (i := 10) (N := some 26) (v := undef) (a' := ?_) #[true, true, true, true, true, true, true, true, true, true, true, false, false, false, false] rfl rfl (any_of HT_.out (by kernel_rfl)) (fun _ _ _ h => h) (Or.inr ⟨by rfl, rfl⟩) ?_ ?_
    rotate_left
    · simp only [Act.put, List.setIfInBounds_toArray, List.set_cons_zero, List.set_cons_succ, i64_w, i32_w]
      rfl
    refine pure_ (i := 11) (N := some 27) (v := undef) (a' := ?_) #[true, true, true, true, true, true, true, true, true, true, true, true, false, false, false] rfl rfl (any_of HT_.out (by kernel_rfl)) (fun _ _ _ h => h) (Or.inr ⟨by rfl, rfl⟩) ?_ ?_
    rotate_left
    · simp only [Act.put, List.setIfInBounds_toArray, List.set_cons_zero, List.set_cons_succ, i64_w, i32_w]
      rfl
    refine pure_ (i := 12) (N := some 28) (v := undef) (a' := ?_) #[true, true, true, true, true, true, true, true, true, true, true, true, true, false, false] rfl rfl (any_of HT_.out (by kernel_rfl)) (fun _ _ _ h => h) (Or.inr ⟨by rfl, rfl⟩) ?_ ?_
    rotate_left
    · simp only [Act.put, List.setIfInBounds_toArray, List.set_cons_zero, List.set_cons_succ, i64_w, i32_w]
      rfl
    refine pure_ (i := 13) (N := some 29) (v := ?_) (a' := ?_) #[true, true, true, true, true, true, true, true, true, true, true, true, true, true, false] rfl rfl (any_of HT_.out (by kernel_rfl)) (fun _ _ _ h => h) (Or.inl ⟨by rfl, ?_⟩) ?_ ?_
    rotate_left
    · intro w'
      go_simp
      with_reducible rfl
    rotate_left
    · simp only [Act.put, List.setIfInBounds_toArray, List.set_cons_zero, List.set_cons_succ, i64_w, i32_w]
      rfl
    refine pure_ (i := 14) (N := some 4) (v := ?_) (a' := ?_) #[true, true, true, true, true, true, true, true, true, true, true, true, true, true, true] rfl rfl (any_of HT_.out (by kernel_rfl)) (fun _ _ _ h => h) (Or.inl ⟨by rfl, ?_⟩) ?_ ?_
    rotate_left
    · intro w'
      go_simp
      with_reducible rfl
    rotate_left
    · simp only [Act.put, List.setIfInBounds_toArray, List.set_cons_zero, List.set_cons_succ, i64_w, i32_w]
      rfl
    refine done_ (done_of HT_.out (by kernel_rfl)) ?_
    try go_wp2
    go_ret
    exact ⟨by first | rfl | (simp [errW_none, errW_some] <;> rfl) | (simp [*, errW_none, errW_some] <;> rfl), by repeat (first | (with_reducible first | exact HB.out | apply below_alloc | apply pw_below_drewN | apply below_drew1 | refine below_set ?_ GE153.out) | exact HB.out)⟩
end Go.Proofs.YtdhkmdgieflioaaDoor.F
namespace Go.Proofs.YtdhkmdgieflioaaDoor.F
open Go.RowKit Go.Proofs.YtdhkmdgieflioaaDoorW.PrintWords Go.Proofs.YtdhkmdgieflioaaDoorW.PrintLast Go.Proofs.YtdhkmdgieflioaaDoorW.PrintMore
attribute [local go_sem] max2_int min2_int max_two min_two max_three min_three max_four min_four
set_option linter.unusedVariables false
set_option linter.unusedSimpArgs false
def image_Right.f (l0_0 : List Int) (a0_1 : Int) : Option (Bool) := if (l0_0.length : Int) ≤ 16384 then (if a0_1 ≥ 0 then (some (decide (a0_1 ≤ 32768))) else (some false)) else (some false)
set_option maxHeartbeats 8000000 in
set_option maxRecDepth 100000 in
theorem image_Right.calls (A0_0 : Option Addr) (c0_0 : Nat) (l0_0 : List Int) (a0_1 : Int) (r : Bool) (w : World) (hr0_0 : Kd.C (Kd.int .u32) w A0_0 l0_0.length l0_0) (hc0_0 : l0_0.length ≤ c0_0) (h : image_Right.f l0_0 a0_1 = some r) :
    Calls Tryd.prog 68 #[.agg #[.slice A0_0 l0_0.length c0_0, .int .i64 a0_1]] w fun e w' => e = .returned (.bool r) ∧ Below w.heap.size w w' := by
  have hu28 := Tryd.underlying28
  have HR0_0 := Aside0.mk hr0_0
  have HC0_0 := Aside0.mk hc0_0
  clear hr0_0 hc0_0
  have HB := Aside0.mk (Below.refl w.heap.size w)
  have H : (if (l0_0.length : Int) ≤ 16384 then (if a0_1 ≥ 0 then (some (decide (a0_1 ≤ 32768))) else (some false)) else (some false)) = some r := h
  clear h
  by_cases c2 : (l0_0.length : Int) ≤ 16384
  · rw [if_pos c2] at H
    have c2b0 : decide ((l0_0.length : Int) ≤ 16384) = true := decide_eq_true c2
    have c2b1 : decide (l0_0.length ≤ 16384) = true := decide_eq_true (by omega)
    clear c2
    by_cases c3 : a0_1 ≥ 0
    · rw [if_pos c3] at H
      have c3b0 : decide (0 ≤ a0_1) = true := decide_eq_true c3
      clear c3
      obtain rfl := Option.some.inj H
      go_enter Tryd.func68, Tryd.ntmps68
      go_wp2_with (first | ((with_reducible refine gate_dst (N := 1) rfl ?_); refine box_event ?hg (N := 1) ?hd (cs := #[.slice A0_0 l0_0.length c0_0, .int .i64 a0_1]) (t := 28) ?hr ?_; (case hd => rfl); (case hg => rfl); (case hr => first | (go_simp; done) | (go_simp; rfl)); intro gb155 hg w4 hbox hb; have n0_ := Aside0.mk (below_step (by repeat (first | (with_reducible first | exact HB.out | apply below_alloc | apply pw_below_drewN | apply below_drew1) | exact HB.out)) hb); have n1_ := Aside0.mk (hbox); have n2_ := Aside0.mk ((by rw [hg]; exact (below_size (by repeat (first | (with_reducible first | exact HB.out | apply below_alloc | apply pw_below_drewN | apply below_drew1) | exact HB.out))) : w.heap.size ≤ gb155)); have n3_ := Aside0.mk ((by rw [hg]; exact (below_size (by repeat (first | (with_reducible first | exact HB.out | apply below_alloc | apply pw_below_drewN | apply below_drew1) | exact HB.out))) : w.heap.size ≤ gb155)); clear HB; have HB := n0_; have BK155 := n1_; have GW155 := n2_; have GE155 := n3_; clear n0_ n1_ n2_ n3_; clear hb hbox hg; have hcz5_0 : w4.cell? ⟨gb155, 0, none⟩ = some (.slice A0_0 l0_0.length c0_0) := (blk_cell BK155.out 0).trans rfl; have hcz5_1 : w4.cell? ⟨gb155, 1, none⟩ = some (.int .i64 a0_1) := (blk_cell BK155.out 1).trans rfl; have hfz5_0 := blk_frozen BK155.out 0; have hfz5_1 := blk_frozen BK155.out 1))
      go_ret
      exact ⟨by first | rfl | (simp [errW_none, errW_some] <;> rfl) | (simp [*, errW_none, errW_some] <;> rfl), by repeat (first | (with_reducible first | exact HB.out | apply below_alloc | apply pw_below_drewN | apply below_drew1 | refine below_set ?_ GE155.out) | exact HB.out)⟩
    · rw [if_neg c3] at H
      have c3b0 : decide (0 ≤ a0_1) = false := decide_eq_false c3
      clear c3
      obtain rfl := Option.some.inj H
      go_enter Tryd.func68, Tryd.ntmps68
      go_wp2_with (first | ((with_reducible refine gate_dst (N := 1) rfl ?_); refine box_event ?hg (N := 1) ?hd (cs := #[.slice A0_0 l0_0.length c0_0, .int .i64 a0_1]) (t := 28) ?hr ?_; (case hd => rfl); (case hg => rfl); (case hr => first | (go_simp; done) | (go_simp; rfl)); intro gb155 hg w6 hbox hb; have n0_ := Aside0.mk (below_step (by repeat (first | (with_reducible first | exact HB.out | apply below_alloc | apply pw_below_drewN | apply below_drew1) | exact HB.out)) hb); have n1_ := Aside0.mk (hbox); have n2_ := Aside0.mk ((by rw [hg]; exact (below_size (by repeat (first | (with_reducible first | exact HB.out | apply below_alloc | apply pw_below_drewN | apply below_drew1) | exact HB.out))) : w.heap.size ≤ gb155)); have n3_ := Aside0.mk ((by rw [hg]; exact (below_size (by repeat (first | (with_reducible first | exact HB.out | apply below_alloc | apply pw_below_drewN | apply below_drew1) | exact HB.out))) : w.heap.size ≤ gb155)); clear HB; have HB := n0_; have BK155 := n1_; have GW155 := n2_; have GE155 := n3_; clear n0_ n1_ n2_ n3_; clear hb hbox hg; have hcz7_0 : w6.cell? ⟨gb155, 0, none⟩ = some (.slice A0_0 l0_0.length c0_0) := (blk_cell BK155.out 0).trans rfl; have hcz7_1 : w6.cell? ⟨gb155, 1, none⟩ = some (.int .i64 a0_1) := (blk_cell BK155.out 1).trans rfl; have hfz7_0 := blk_frozen BK155.out 0; have hfz7_1 := blk_frozen BK155.out 1))
      go_ret
      exact ⟨by first | rfl | (simp [errW_none, errW_some] <;> rfl) | (simp [*, errW_none, errW_some] <;> rfl), by repeat (first | (with_reducible first | exact HB.out | apply below_alloc | apply pw_below_drewN | apply below_drew1 | refine below_set ?_ GE155.out) | exact HB.out)⟩
  · rw [if_neg c2] at H
    have c2b0 : decide ((l0_0.length : Int) ≤ 16384) = false := decide_eq_false c2
    have c2b1 : decide (l0_0.length ≤ 16384) = false := decide_eq_false (by omega)
    clear c2
    obtain rfl := Option.some.inj H
    go_enter Tryd.func68, Tryd.ntmps68
    go_wp2_with (first | ((with_reducible refine gate_dst (N := 1) rfl ?_); refine box_event ?hg (N := 1) ?hd (cs := #[.slice A0_0 l0_0.length c0_0, .int .i64 a0_1]) (t := 28) ?hr ?_; (case hd => rfl); (case hg => rfl); (case hr => first | (go_simp; done) | (go_simp; rfl)); intro gb155 hg w8 hbox hb; have n0_ := Aside0.mk (below_step (by repeat (first | (with_reducible first | exact HB.out | apply below_alloc | apply pw_below_drewN | apply below_drew1) | exact HB.out)) hb); have n1_ := Aside0.mk (hbox); have n2_ := Aside0.mk ((by rw [hg]; exact (below_size (by repeat (first | (with_reducible first | exact HB.out | apply below_alloc | apply pw_below_drewN | apply below_drew1) | exact HB.out))) : w.heap.size ≤ gb155)); have n3_ := Aside0.mk ((by rw [hg]; exact (below_size (by repeat (first | (with_reducible first | exact HB.out | apply below_alloc | apply pw_below_drewN | apply below_drew1) | exact HB.out))) : w.heap.size ≤ gb155)); clear HB; have HB := n0_; have BK155 := n1_; have GW155 := n2_; have GE155 := n3_; clear n0_ n1_ n2_ n3_; clear hb hbox hg; have hcz9_0 : w8.cell? ⟨gb155, 0, none⟩ = some (.slice A0_0 l0_0.length c0_0) := (blk_cell BK155.out 0).trans rfl; have hcz9_1 : w8.cell? ⟨gb155, 1, none⟩ = some (.int .i64 a0_1) := (blk_cell BK155.out 1).trans rfl; have hfz9_0 := blk_frozen BK155.out 0; have hfz9_1 := blk_frozen BK155.out 1))
    go_ret
    exact ⟨by first | rfl | (simp [errW_none, errW_some] <;> rfl) | (simp [*, errW_none, errW_some] <;> rfl), by repeat (first | (with_reducible first | exact HB.out | apply below_alloc | apply pw_below_drewN | apply below_drew1 | refine below_set ?_ GE155.out) | exact HB.out)⟩
end Go.Proofs.YtdhkmdgieflioaaDoor.F
namespace Go.Proofs.YtdhkmdgieflioaaDoor.F
open Go.RowKit Go.Proofs.YtdhkmdgieflioaaDoorW.PrintWords Go.Proofs.YtdhkmdgieflioaaDoorW.PrintLast Go.Proofs.YtdhkmdgieflioaaDoorW.PrintMore
set_option linter.unusedVariables false
set_option linter.unusedSimpArgs false
namespace Mk
variable {P : Program} {ops : Array Oper} {Q : Exit → Act → World → Prop} {a : Act} {W : World} {rest : List Oper} {o : Oper}
variable {α : Type}
theorem R_make0 (d : Kd α) {w0 W : World} (base e : Nat) (hgd : o.guard = none) {N : Tmp} (hd : o.dst = some N) (t : TypeId) (x y : Operand) (ho : o.op = .makeSlice t x y) (n : Int) (hx : a.eval x = .int .i64 0) (hy : a.eval y = .int .i64 n)
    (ht : P.underlying t = some (.slice e)) (z : Value) (bytes : Nat) (hinfo : (P.info? e).map (fun i => (i.zero, i.size, i.bytes)) = some (some z, d.sz, bytes)) (hz : z.cells.size = d.sz) (hs0 : 0 < d.sz) (hb0 : 0 < bytes)
    (z0 : α) {ok okp : Nat → Prop} (hzero : d.M W base okp z0 z.cells.toList) (hok : ∀ k, okp k → ok k) (hfresh : ok W.heap.size) (h0 : 0 ≤ n) (hl : n.toNat * bytes ≤ 281474976710656) (HB : Below base w0 W) (hbase : base ≤ W.heap.size)
    (h : ∀ v1 w1, d.R e w1 base ok v1 [] → Below base w0 w1 → W.grownBy w1 none → (∃ b, v1.ownBlock = some b ∧ W.heap.size ≤ b) → wpList P ops Q rest (a.put o.dst v1) w1) : wpList P ops Q (o :: rest) a W := by
  obtain ⟨m, rfl⟩ := Int.eq_ofNat_of_zero_le h0
  simp only [Int.toNat_natCast] at hl
  obtain ⟨i0, hi, hzz⟩ := Option.map_eq_some_iff.1 hinfo
  simp only [Prod.mk.injEq] at hzz
  obtain ⟨hz0, hz1, hz2⟩ := hzz
  have hm : m ≤ 281474976710656 := Nat.le_trans (Nat.le_mul_of_pos_right _ hb0) hl
  have hr := run_make (P := P) W t e i0 z ht hi hz0 .i64 .i64 (0 : Int) (m : Int) (by omega) (by omega)
    (by
      have h3 : ((i0.bytes * m : Nat) : Int) ≤ 281474976710656 := by rw [hz2, Nat.mul_comm]; omega
      rwa [Int.natCast_mul] at h3) (by omega)
  simp only [Int.toNat_natCast] at hr
  rw [hz1] at hr
  refine Kd.event_run hgd (v := .slice (some ⟨W.heap.size, 0, none⟩) 0 m) (w1 := W.alloc (.cells (madeCells z.cells (m * d.sz)) e)) ?_ (h _ _ ⟨fun k hk => ?_, [], ?_, ?_⟩ (HB.alloc hbase _) (World.grownBy_alloc W _ none) ⟨W.heap.size, by simp [Value.ownBlock], Nat.le_refl _⟩)
  · have hr' : (Instr.makeSlice t (.int .i64 0) (.int .i64 (m : Int))).run P W = .ok (.slice (some ⟨W.heap.size, 0, none⟩) 0 m) (W.alloc (.cells (madeCells z.cells (m * d.sz)) e)) := by simpa using hr
    simp [execOp, ho, hx, hy, hr']
  · have : W.heap.size = k := by simpa [Value.ownBlock] using hk
    subst this
    exact hfresh
  · refine ⟨by simp, Or.inr ⟨W.heap.size, m, madeCells z.cells (m * d.sz), by simp, hbase, by simpa using heap_alloc_new W _, by simp, by unfold maxLen; omega, by rw [size_madeCells], by simp⟩⟩
  · exact Reps.none _ _
end Mk
end Go.Proofs.YtdhkmdgieflioaaDoor.F
namespace Go.Proofs.YtdhkmdgieflioaaDoor.F
open Go.RowKit Go.Proofs.YtdhkmdgieflioaaDoorW.PrintWords Go.Proofs.YtdhkmdgieflioaaDoorW.PrintLast Go.Proofs.YtdhkmdgieflioaaDoorW.PrintMore
attribute [local go_sem] max2_int min2_int max_two min_two max_three min_three max_four min_four
set_option linter.unusedVariables false
set_option linter.unusedSimpArgs false
def word_Bytes.l0 : Nat → List Int → List Int → Int → Int → Option (ByteArray)
  | 0, _, _, _, _ => none
  | k + 1, x3, x10, x11, x12 => if x12 < x11 then (if 0 ≤ x12 then (if x12 < (x10.length : Int) then ((some (([(rd x10 x12) % 256, ((rd x10 x12) / 256) % 256, ((rd x10 x12) / 65536) % 256, ((rd x10 x12) / 16777216) % 256] : List Int) : List Int)).bind fun y160 => (if x3.length + y160.length < 140737488355328 then (word_Bytes.l0 k (x3 ++ y160) x10 x11 (wrap64 (x12 + 1))) else (none))) else (none)) else (none)) else (some (strOfNums x3))
def word_Bytes.f (k : Nat) (l0 : List Int) : Option (ByteArray) := if 0 ≤ (wrap64 (4 * (l0.length : Int))) then (if (wrap64 (4 * (l0.length : Int)) : Int).toNat ≤ 281474976710656 then (word_Bytes.l0 k ([]) l0 (l0.length : Int) 0) else (none)) else (none)
theorem word_Bytes.mono_l : ∀ k, (∀ y0 y1 y2 y3, LeO (word_Bytes.l0 k y0 y1 y2 y3) (word_Bytes.l0 (k + 1) y0 y1 y2 y3))
  | 0 => fun _ _ _ _ r h => by simp [word_Bytes.l0] at h
  | k + 1 => by
    have ih0 := word_Bytes.mono_l k
    · intro y0 y1 y2 y3
      unfold word_Bytes.l0
      repeat' first
      | (with_reducible exact ih0 _ _ _ _)
      | (with_reducible exact LeO.refl _)
      | (with_reducible exact LeO.none _)
      | (with_reducible refine LeO.ite ?_ ?_)
      | (with_reducible refine LeO.bind ?_ (fun _ => ?_))
      | exact ih0 _ _ _ _
      | exact LeO.none _
      | refine LeO.ite ?_ ?_
      | refine LeO.bind ?_ (fun _ => ?_)
theorem word_Bytes.mono : ∀ a0 k, LeO (word_Bytes.f k a0) (word_Bytes.f (k + 1) a0) := by
  intro a0 k
  have ih0 := word_Bytes.mono_l k
  unfold word_Bytes.f
  repeat' first
      | (with_reducible exact ih0 _ _ _ _)
      | (with_reducible exact LeO.refl _)
      | (with_reducible exact LeO.none _)
      | (with_reducible refine LeO.ite ?_ ?_)
      | (with_reducible refine LeO.bind ?_ (fun _ => ?_))
      | exact ih0 _ _ _ _
      | exact LeO.none _
      | refine LeO.ite ?_ ?_
      | refine LeO.bind ?_ (fun _ => ?_)
set_option maxHeartbeats 8000000 in
set_option maxRecDepth 100000 in
theorem word_Bytes.calls (k : Nat) (A0 : Option Addr) (c0 : Nat) (l0 : List Int) (r : ByteArray) (w : World) (hr0 : Kd.C (Kd.int .u32) w A0 l0.length l0) (hc0 : l0.length ≤ c0) (h : word_Bytes.f k l0 = some r) :
    Calls Tryd.prog 91 #[.slice A0 l0.length c0] w fun e w' => e = .returned (.string r) ∧ Below w.heap.size w w' := by
  have HR0 := Aside0.mk hr0
  have HC0 := Aside0.mk hc0
  clear hr0 hc0
  have HB := Aside0.mk (Below.refl w.heap.size w)
  have H : (if 0 ≤ (wrap64 (4 * (l0.length : Int))) then (if (wrap64 (4 * (l0.length : Int)) : Int).toNat ≤ 281474976710656 then (word_Bytes.l0 k ([]) l0 (l0.length : Int) 0) else (none)) else (none)) = some r := h
  clear h
  obtain ⟨ji2, hji2⟩ : ∃ j_ : Int, (wrap64 (4 * (l0.length : Int))) = j_ := ⟨_, rfl⟩
  replace H : (if 0 ≤ (ji2) then (if (ji2 : Int).toNat ≤ 281474976710656 then (word_Bytes.l0 k ([]) l0 (l0.length : Int) 0) else (none)) else (none)) = some r := by first | (rw [hji2] at H; exact H) | (simp only [hji2] at H ⊢; exact H)
  have hji2w : (IntKind.i64.wrap (4 * (l0.length : Int))) = ji2 := (i64_w _).trans hji2
  by_cases c3 : 0 ≤ (ji2)
  · rw [if_pos c3] at H
    have c3b0 := eq_true c3
    have c3b1 : decide (0 ≤ (ji2)) = true := decide_eq_true c3
    clear c3
    by_cases c4 : (ji2 : Int).toNat ≤ 281474976710656
    · rw [if_pos c4] at H
      have c4b0 := eq_true c4
      have c4b1 : decide ((ji2 : Int).toNat ≤ 281474976710656) = true := decide_eq_true c4
      clear c4
      obtain ⟨y156, hy156⟩ : ∃ y_ : List Int, y_ = ([]) := ⟨_, rfl⟩
      replace H : (word_Bytes.l0 k y156 l0 (l0.length : Int) 0) = some r := by first | (rw [hy156]; with_reducible exact H) | (have H2_ := (Option.bind_some _ _).symm.trans H; rw [hy156]; with_reducible exact H2_) | (have H2_ := (Option.bind_some _ _).symm.trans H; with_reducible exact H2_) | with_reducible exact H | (rw [hy156]; exact H) | exact H
      have Ny156 := Aside0.mk hy156
      clear hy156
      have H' := Aside0.mk H
      clear H
      go_enter Tryd.func91, Tryd.ntmps91
      go_wp2_with (first | ((with_reducible refine gate_dst (N := 9) rfl ?_); refine Mk.R_make0 (Kd.int .u8) _ 5 rfl (N := 9) rfl 72 _ _ rfl ji2 rfl rfl Tryd.underlying72 (.int .u8 0) 1 info5 rfl (by decide) (by omega) 0 (ok := fun _ => True) (okp := fun _ => True) rfl (fun _ hk => hk) trivial (of_decide_eq_true (by first | (with_reducible assumption) | assumption)) (Nat.le_trans (Nat.mul_le_mul_right _ (of_decide_eq_true (by first | (with_reducible assumption) | assumption) : ji2.toNat ≤ 281474976710656)) (by omega)) (Below.refl _ _) (Nat.le_refl _) ?_; intro v157 w5 ho6 hb hg_ hnew_; clear hg_ hnew_; (first | rw [← Ny156.out] at ho6 | (simp only [Int.reduceToNat] at ho6; rw [← Ny156.out] at ho6)); have n0_ := Aside0.mk (Kd.R_lower ho6 (below_size (by repeat (first | (with_reducible first | exact HB.out | apply below_alloc | apply pw_below_drewN | apply below_drew1) | exact HB.out)))); have n1_ := Aside0.mk (below_step (by repeat (first | (with_reducible first | exact HB.out | apply below_alloc | apply pw_below_drewN | apply below_drew1) | exact HB.out)) hb); clear HB; have HO158 := n0_; have HB := n1_; clear n0_ n1_; clear hb ho6))
      go_loopg [3, 12] k (fun kq v3 v12 w' => ∃ (x3_1 : List Int) (x12_1 : Int), v12 = .int .i64 x12_1 ∧ Aside0 (word_Bytes.l0 kq x3_1 l0 (l0.length : Int) x12_1 = some r) ∧ Aside0 (kq ≤ k) ∧ Aside0 (Kd.R (Kd.int .u8) 5 w' w.heap.size (fun _ => True) v3 x3_1) ∧ Aside0 (Below w.heap.size w w'))
      case atStart => exact ⟨(y156), (0), (by first | rfl | (simp; done) | (simp [*]; done)), H', ⟨Nat.le_refl _⟩, ⟨by (with_reducible repeat (first | apply Kd.R_alloc | apply Kd.R_drewN | apply Kd.R_drew)); exact HO158.out⟩, ⟨by repeat (first | (with_reducible first | exact HB.out | apply below_alloc | apply pw_below_drewN | apply below_drew1) | exact HB.out)⟩⟩
      case round =>
        clear H'
        try clear p2
        try clear c3
        try clear c3b0
        try clear c3b1
        try clear c4
        try clear c4b0
        try clear c4b1
        try clear p6
        obtain ⟨x3_1, x12_1, rfl, HA, HK1, HO_3, HB⟩ := hrel
        cases gk with
        | zero => exact absurd HA.out (by simp [word_Bytes.l0])
        | succ k1 =>
          have H := HA.out
          clear HA
          simp only [word_Bytes.l0] at H
          by_cases c7 : x12_1 < (l0.length : Int)
          · rw [if_pos c7] at H
            have c7b0 : decide (x12_1 < (l0.length : Int)) = true := decide_eq_true c7
            clear c7
            by_cases c8 : 0 ≤ x12_1
            · rw [if_pos c8] at H
              have c8b0 : decide (0 ≤ x12_1) = true := decide_eq_true c8
              clear c8
              by_cases c9 : x12_1 < (l0.length : Int)
              · rw [if_pos c9] at H
                have c9b0 : decide (x12_1 < (l0.length : Int)) = true := decide_eq_true c9
                clear c9
                obtain ⟨y160, hy160⟩ : ∃ y_ : List Int, y_ = (([(rd l0 x12_1) % 256, ((rd l0 x12_1) / 256) % 256, ((rd l0 x12_1) / 65536) % 256, ((rd l0 x12_1) / 16777216) % 256] : List Int)) := ⟨_, rfl⟩
                replace H : (if x3_1.length + y160.length < 140737488355328 then (word_Bytes.l0 k1 (x3_1 ++ y160) l0 (l0.length : Int) (wrap64 (x12_1 + 1))) else (none)) = some r := by first | (rw [hy160]; with_reducible exact H) | (have H2_ := (Option.bind_some _ _).symm.trans H; rw [hy160]; with_reducible exact H2_) | (have H2_ := (Option.bind_some _ _).symm.trans H; with_reducible exact H2_) | with_reducible exact H | (rw [hy160]; exact H) | exact H
                have Ny160 := Aside0.mk hy160
                clear hy160
                by_cases c10 : x3_1.length + y160.length < 140737488355328
                · rw [if_pos c10] at H
                  have LMc10 := Aside0.mk c10
                  clear c10
                  obtain ⟨y163, hy163⟩ : ∃ y_ : List Int, y_ = (x3_1 ++ y160) := ⟨_, rfl⟩
                  replace H : (word_Bytes.l0 k1 y163 l0 (l0.length : Int) (wrap64 (x12_1 + 1))) = some r := by first | (rw [hy163]; with_reducible exact H) | (have H2_ := (Option.bind_some _ _).symm.trans H; rw [hy163]; with_reducible exact H2_) | (have H2_ := (Option.bind_some _ _).symm.trans H; with_reducible exact H2_) | with_reducible exact H | (rw [hy163]; exact H) | exact H
                  have Ny163 := Aside0.mk hy163
                  clear hy163
                  have H' := Aside0.mk H
                  clear H
                  have p159 : 0 ≤ (x12_1 : Int) := of_decide_eq_true (by first | (with_reducible assumption) | assumption)
                  have q159 : x12_1 < (l0.length : Int) := of_decide_eq_true (by first | (with_reducible assumption) | assumption)
                  obtain ⟨ad159, e159, hx159_0⟩ := Kd.at_int HR0.out x12_1 p159 q159
                  cases e159
                  replace hx159_0 := (HB.out.cell (World.block_lt_of_cell? w _ hx159_0)).trans hx159_0
                  replace p159 := eq_true p159
                  replace q159 := eq_true q159
                  go_wp2_with (first | ((with_reducible refine gate_dst (N := 28) rfl ?_); refine Kd.R_lit (Kd.int .u8) _ 5 ?hg (N := 28) ?hd (xs := ([(rd l0 x12_1) % 256, ((rd l0 x12_1) / 256) % 256, ((rd l0 x12_1) / 65536) % 256, ((rd l0 x12_1) / 16777216) % 256] : List Int)) (inner := [.int .u8 ((rd l0 x12_1) % 256), .int .u8 (((rd l0 x12_1) / 256) % 256), .int .u8 (((rd l0 x12_1) / 65536) % 256), .int .u8 (((rd l0 x12_1) / 16777216) % 256)]) (ok := fun _ => True) (okp := fun _ => True) ?hr ?hp (fun _ hk => hk) trivial (Below.refl _ _) (Nat.le_refl _) (by simp) ?_; (case hd => rfl); (case hg => rfl); (case hr => first | (go_simp; done) | (go_simp; rfl)); (case hp => exact (Reps.one (show Kd.M (Kd.int .u8) _ _ _ ((rd l0 x12_1) % 256) [.int .u8 ((rd l0 x12_1) % 256)] from rfl) (Reps.one (show Kd.M (Kd.int .u8) _ _ _ (((rd l0 x12_1) / 256) % 256) [.int .u8 (((rd l0 x12_1) / 256) % 256)] from rfl) (Reps.one (show Kd.M (Kd.int .u8) _ _ _ (((rd l0 x12_1) / 65536) % 256) [.int .u8 (((rd l0 x12_1) / 65536) % 256)] from rfl) (Reps.one (show Kd.M (Kd.int .u8) _ _ _ (((rd l0 x12_1) / 16777216) % 256) [.int .u8 (((rd l0 x12_1) / 16777216) % 256)] from rfl) (Reps.none _ _)))))); intro v161 w11 ho12 hb hg_ hnew_; clear hg_ hnew_; (first | rw [← Ny160.out] at ho12 | (simp only [Int.reduceToNat] at ho12; rw [← Ny160.out] at ho12)); have n0_ := Aside0.mk (Kd.R_elder' (by (with_reducible repeat (first | apply Kd.R_alloc | apply Kd.R_drewN | apply Kd.R_drew)); exact HO_3.out) (Kd.R_base ho12) hb); have n1_ := Aside0.mk (Kd.R_lower (Kd.R_new' ho12 (Kd.R_lt (by (with_reducible repeat (first | apply Kd.R_alloc | apply Kd.R_drewN | apply Kd.R_drew)); exact HO_3.out))) (below_size (by repeat (first | (with_reducible first | exact HB.out | apply below_alloc | apply pw_below_drewN | apply below_drew1) | exact HB.out)))); have n2_ := Aside0.mk (below_step (by repeat (first | (with_reducible first | exact HB.out | apply below_alloc | apply pw_below_drewN | apply below_drew1) | exact HB.out)) hb); clear HO_3; clear HB; have HO_3 := n0_; have HO162 := n1_; have HB := n2_; clear n0_ n1_ n2_; clear hb ho12; obtain ⟨Ao14, co14, eo14⟩ := Kd.R_slice HO162.out; subst eo14) | ((with_reducible refine gate_builtin (b := .append) (xs := #[.tmp 16, .tmp 28]) rfl ?_); at_builtin; refine Kd.R_append_rows (Kd.int .u8) (w0 := w) w.heap.size rfl (.tmp 16) (.tmp 28) 72 5 (.int .u8 0) 1 rfl Tryd.underlying72 info5 rfl (by decide) (by omega) u3 x3_1 y160 _ _ _ (fun k_ => some k_ ≠ (.slice Ao14 y160.length co14 : Value).ownBlock) (fun _ => False) rfl rfl ?aO ?aR (fun _ _ h => h) (fun _ h => h.elim) ?aF ?aB ?aS ?aL ?_; (case aR => repeat (first | exact (Kd.R_reads' HO162.out).2.2 | (with_reducible refine Kd.C_alloc ?_ _) | (with_reducible refine Kd.C_drewN ?_ _) | (with_reducible refine Kd.C_drew ?_))); (case aB => exact (by repeat (first | (with_reducible first | exact HB.out | apply below_alloc | apply pw_below_drewN | apply below_drew1) | exact HB.out))); (case aF => exact (fun k_ hk => Kd.fresh' (Kd.R_lt (by (with_reducible repeat (first | apply Kd.R_alloc | apply Kd.R_drewN | apply Kd.R_drew)); exact HO162.out)) k_ hk)); (case aO => exact (by (with_reducible repeat (first | apply Kd.R_alloc | apply Kd.R_drewN | apply Kd.R_drew)); exact Kd.R_mono HO_3.out (fun _ hk => hk.2))); (case aS => exact (below_size (by repeat (first | (with_reducible first | exact HB.out | apply below_alloc | apply pw_below_drewN | apply below_drew1) | exact HB.out)))); (case aL => have := LMc10.out; omega); intro v164 w13 ho hb hg hat; rw [← Ny163.out] at ho; have n0_ := Aside0.mk (Kd.R_after (ok := (fun _ => True)) (by (with_reducible repeat (first | apply Kd.R_alloc | apply Kd.R_drewN | apply Kd.R_drew)); exact HO162.out) hg hat); have n1_ := Aside0.mk (hb); have n2_ := Aside0.mk (ho); clear HO162; clear HB; clear HO_3; have HO162 := n0_; have HB := n1_; have HO165 := n2_; clear n0_ n1_ n2_; clear ho hb hg hat))
                  go_roundg k1
                  case measure => have := HK1.out; omega
                  case rel => exact ⟨(y163), (wrap64 (x12_1 + 1)), (by first | rfl | (simp; done) | (simp [*]; done)), H', ⟨by have := HK1.out; omega⟩, ⟨by (with_reducible repeat (first | apply Kd.R_alloc | apply Kd.R_drewN | apply Kd.R_drew)); exact Kd.R_mono HO165.out (fun _ hk => trivial)⟩, ⟨by repeat (first | (with_reducible first | exact HB.out | apply below_alloc | apply pw_below_drewN | apply below_drew1) | exact HB.out)⟩⟩
                · rw [if_neg c10] at H
                  exact absurd H (by simp)
              · rw [if_neg c9] at H
                exact absurd H (by simp)
            · rw [if_neg c8] at H
              exact absurd H (by simp)
          · rw [if_neg c7] at H
            have c7b0 : decide (x12_1 < (l0.length : Int)) = false := decide_eq_false c7
            clear c7
            obtain rfl := Option.some.inj H
            have hcv15 := own_string (P := Tryd.prog) Tryd.underlying72 Tryd.underlying5 Tryd.underlying9 (Kd.own_of_R HO_3.out)
            go_wp2
            go_ret
            exact ⟨by first | rfl | (simp [errW_none, errW_some] <;> rfl) | (simp only [← hji2]; first | rfl | (simp [errW_none, errW_some] <;> rfl)) | (simp [*, errW_none, errW_some] <;> rfl), by repeat (first | (with_reducible first | exact HB.out | apply below_alloc | apply pw_below_drewN | apply below_drew1) | exact HB.out)⟩
    · rw [if_neg c4] at H
      exact absurd H (by simp)
  · rw [if_neg c3] at H
    exact absurd H (by simp)
end Go.Proofs.YtdhkmdgieflioaaDoor.F
namespace Go.Proofs.YtdhkmdgieflioaaDoor.F
open Go.RowKit Go.Proofs.YtdhkmdgieflioaaDoorW.PrintWords Go.Proofs.YtdhkmdgieflioaaDoorW.PrintLast Go.Proofs.YtdhkmdgieflioaaDoorW.PrintMore
attribute [local go_sem] max2_int min2_int max_two min_two max_three min_three max_four min_four
set_option linter.unusedVariables false
set_option linter.unusedSimpArgs false
def image_Put.f (k : Nat) (l0_0 : List Int) (a0_1 : Int) : Option (ByteArray × Int) := (image_Right.f l0_0 a0_1).bind fun t167 => (if t167 = true then ((word_Bytes.f k (([((l0_0.length : Int)) % 4294967296, (a0_1) % 4294967296] : List Int))).bind fun t171 => (if 4 + t171.size ≤ 9223372036854775807 then ((word_Bytes.f k l0_0).bind fun t172 => (if ((⟨#[83, 69, 69, 68]⟩ : ByteArray) ++ t171).size + t172.size ≤ 9223372036854775807 then (some (((⟨#[83, 69, 69, 68]⟩ : ByteArray) ++ t171) ++ t172, 0)) else (none))) else (none))) else (some ((⟨#[]⟩ : ByteArray), 1)))
theorem image_Put.mono : ∀ a0 a1 k, LeO (image_Put.f k a0 a1) (image_Put.f (k + 1) a0 a1) := by
  intro a0 a1 k
  unfold image_Put.f
  repeat' first
      | (with_reducible exact word_Bytes.mono _ _)
      | (with_reducible exact LeO.refl _)
      | (with_reducible exact LeO.none _)
      | (with_reducible refine LeO.ite ?_ ?_)
      | (with_reducible refine LeO.bind ?_ (fun _ => ?_))
      | exact word_Bytes.mono _ _
      | exact LeO.none _
      | refine LeO.ite ?_ ?_
      | refine LeO.bind ?_ (fun _ => ?_)
set_option maxHeartbeats 8000000 in
set_option maxRecDepth 100000 in
theorem image_Put.calls (k : Nat) (A0_0 : Option Addr) (c0_0 : Nat) (l0_0 : List Int) (a0_1 : Int) (r1 : ByteArray) (r2 : Int) (w : World) (hr0_0 : Kd.C (Kd.int .u32) w A0_0 l0_0.length l0_0) (hc0_0 : l0_0.length ≤ c0_0) (h : image_Put.f k l0_0 a0_1 = some (r1, r2)) :
    Calls Tryd.prog 58 #[.agg #[.slice A0_0 l0_0.length c0_0, .int .i64 a0_1]] w fun e w' => e = .returned (.tuple #[.string r1, .int .i64 r2]) ∧ Below w.heap.size w w' := by
  have hu28 := Tryd.underlying28
  have HR0_0 := Aside0.mk hr0_0
  have HC0_0 := Aside0.mk hc0_0
  clear hr0_0 hc0_0
  have HB := Aside0.mk (Below.refl w.heap.size w)
  have H : ((image_Right.f l0_0 a0_1).bind fun t167 => (if t167 = true then ((word_Bytes.f k (([((l0_0.length : Int)) % 4294967296, (a0_1) % 4294967296] : List Int))).bind fun t171 => (if 4 + t171.size ≤ 9223372036854775807 then ((word_Bytes.f k l0_0).bind fun t172 => (if ((⟨#[83, 69, 69, 68]⟩ : ByteArray) ++ t171).size + t172.size ≤ 9223372036854775807 then (some (((⟨#[83, 69, 69, 68]⟩ : ByteArray) ++ t171) ++ t172, 0)) else (none))) else (none))) else (some ((⟨#[]⟩ : ByteArray), 1)))) = some (r1, r2) := h
  clear h
  replace H := Option.bind_eq_some_iff.mp H
  obtain ⟨t167, A20, H⟩ := H
  replace H : (if t167 = true then ((word_Bytes.f k (([((l0_0.length : Int)) % 4294967296, (a0_1) % 4294967296] : List Int))).bind fun t171 => (if 4 + t171.size ≤ 9223372036854775807 then ((word_Bytes.f k l0_0).bind fun t172 => (if ((⟨#[83, 69, 69, 68]⟩ : ByteArray) ++ t171).size + t172.size ≤ 9223372036854775807 then (some (((⟨#[83, 69, 69, 68]⟩ : ByteArray) ++ t171) ++ t172, 0)) else (none))) else (none))) else (some ((⟨#[]⟩ : ByteArray), 1))) = some (r1, r2) := H
  have A2 := Aside0.mk A20
  clear A20
  by_cases c3 : t167 = true
  · subst c3
    have H1 : ((word_Bytes.f k (([((l0_0.length : Int)) % 4294967296, (a0_1) % 4294967296] : List Int))).bind fun t171 => (if 4 + t171.size ≤ 9223372036854775807 then ((word_Bytes.f k l0_0).bind fun t172 => (if ((⟨#[83, 69, 69, 68]⟩ : ByteArray) ++ t171).size + t172.size ≤ 9223372036854775807 then (some (((⟨#[83, 69, 69, 68]⟩ : ByteArray) ++ t171) ++ t172, 0)) else (none))) else (none))) = some (r1, r2) := by rw [if_pos rfl] at H; exact H
    clear H
    have H := H1
    clear H1
    obtain ⟨y168, hy168⟩ : ∃ y_ : List Int, y_ = (([((l0_0.length : Int)) % 4294967296, (a0_1) % 4294967296] : List Int)) := ⟨_, rfl⟩
    replace H : ((word_Bytes.f k y168).bind fun t171 => (if 4 + t171.size ≤ 9223372036854775807 then ((word_Bytes.f k l0_0).bind fun t172 => (if ((⟨#[83, 69, 69, 68]⟩ : ByteArray) ++ t171).size + t172.size ≤ 9223372036854775807 then (some (((⟨#[83, 69, 69, 68]⟩ : ByteArray) ++ t171) ++ t172, 0)) else (none))) else (none))) = some (r1, r2) := by first | (rw [hy168]; with_reducible exact H) | (have H2_ := (Option.bind_some _ _).symm.trans H; rw [hy168]; with_reducible exact H2_) | (have H2_ := (Option.bind_some _ _).symm.trans H; with_reducible exact H2_) | with_reducible exact H | (rw [hy168]; exact H) | exact H
    have Ny168 := Aside0.mk hy168
    clear hy168
    replace H := Option.bind_eq_some_iff.mp H
    obtain ⟨t171, A40, H⟩ := H
    replace H : (if 4 + t171.size ≤ 9223372036854775807 then ((word_Bytes.f k l0_0).bind fun t172 => (if ((⟨#[83, 69, 69, 68]⟩ : ByteArray) ++ t171).size + t172.size ≤ 9223372036854775807 then (some (((⟨#[83, 69, 69, 68]⟩ : ByteArray) ++ t171) ++ t172, 0)) else (none))) else (none)) = some (r1, r2) := H
    have A4 := Aside0.mk A40
    clear A40
    by_cases c5 : 4 + t171.size ≤ 9223372036854775807
    · rw [if_pos c5] at H
      have c5b0 := eq_true c5
      have c5b1 : decide (4 + t171.size ≤ 9223372036854775807) = true := decide_eq_true c5
      try have c5b2 : (9223372036854775807 < 4 + t171.size) = False := eq_false (Nat.not_lt.2 c5)
      replace H := Option.bind_eq_some_iff.mp H
      obtain ⟨t172, A60, H⟩ := H
      replace H : (if ((⟨#[83, 69, 69, 68]⟩ : ByteArray) ++ t171).size + t172.size ≤ 9223372036854775807 then (some (((⟨#[83, 69, 69, 68]⟩ : ByteArray) ++ t171) ++ t172, 0)) else (none)) = some (r1, r2) := H
      have A6 := Aside0.mk A60
      clear A60
      by_cases c7 : ((⟨#[83, 69, 69, 68]⟩ : ByteArray) ++ t171).size + t172.size ≤ 9223372036854775807
      · rw [if_pos c7] at H
        have c7b0 := eq_true c7
        have c7b1 : decide (((⟨#[83, 69, 69, 68]⟩ : ByteArray) ++ t171).size + t172.size ≤ 9223372036854775807) = true := decide_eq_true c7
        try have c7b2 : (9223372036854775807 < ((⟨#[83, 69, 69, 68]⟩ : ByteArray) ++ t171).size + t172.size) = False := eq_false (Nat.not_lt.2 c7)
        try have c7b3 : (9223372036854775807 < 4 + t171.size + t172.size) = False := eq_false (by have c7z := c7; simp only [ByteArray.size_append] at c7z; (try rw [show (⟨#[83, 69, 69, 68]⟩ : ByteArray).size = 4 from rfl] at c7z); omega)
        simp only [Option.some.injEq, Prod.mk.injEq] at H
        obtain ⟨rfl, rfl⟩ := H
        go_enter Tryd.func58, Tryd.ntmps58
        go_wp2_with (first | ((with_reducible refine gate_dst (N := 1) rfl ?_); refine box_event ?hg (N := 1) ?hd (cs := #[.slice A0_0 l0_0.length c0_0, .int .i64 a0_1]) (t := 28) ?hr ?_; (case hd => rfl); (case hg => rfl); (case hr => first | (go_simp; done) | (go_simp; rfl)); intro gb166 hg w8 hbox hb; have n0_ := Aside0.mk (below_step (by repeat (first | (with_reducible first | exact HB.out | apply below_alloc | apply pw_below_drewN | apply below_drew1) | exact HB.out)) hb); have n1_ := Aside0.mk (hbox); have n2_ := Aside0.mk ((by rw [hg]; exact (below_size (by repeat (first | (with_reducible first | exact HB.out | apply below_alloc | apply pw_below_drewN | apply below_drew1) | exact HB.out))) : w.heap.size ≤ gb166)); have n3_ := Aside0.mk ((by rw [hg]; exact (below_size (by repeat (first | (with_reducible first | exact HB.out | apply below_alloc | apply pw_below_drewN | apply below_drew1) | exact HB.out))) : w.heap.size ≤ gb166)); clear HB; have HB := n0_; have BK166 := n1_; have GW166 := n2_; have GE166 := n3_; clear n0_ n1_ n2_ n3_; clear hb hbox hg; have hcz9_0 : w8.cell? ⟨gb166, 0, none⟩ = some (.slice A0_0 l0_0.length c0_0) := (blk_cell BK166.out 0).trans rfl; have hcz9_1 : w8.cell? ⟨gb166, 1, none⟩ = some (.int .i64 a0_1) := (blk_cell BK166.out 1).trans rfl; have hfz9_0 := blk_frozen BK166.out 0; have hfz9_1 := blk_frozen BK166.out 1) | ((with_reducible refine gate_callee (f := 68) rfl ?_); refine goesL_ (some 6) rfl rfl Tryd.func68 (by kernel_rfl) rfl #[.agg #[.slice A0_0 l0_0.length c0_0, .int .i64 a0_1]] rfl (by (try simp only [List.map_toArray, List.map_cons, List.map_nil]); first | done | rfl | (simp only [List.length_drop, List.length_take]; rfl)) ?_; (with_reducible refine (image_Right.calls _ _ l0_0 a0_1 true _ ?side1 ?side2 A2.out).mono ?_); (case side1 => repeat (first | exact (Kd.C_below HR0_0.out HB.out) | (with_reducible refine Kd.C_alloc ?_ _) | (with_reducible refine Kd.C_drewN ?_ _) | (with_reducible refine Kd.C_drew ?_))); (case side2 => exact HC0_0.out); rintro e w10 ⟨rfl, hb⟩; refine ⟨_, rfl, ?_⟩; have n0_ := Aside0.mk (blk_below (g := gb166) (o := .cells #[.slice A0_0 l0_0.length c0_0, .int .i64 a0_1] 28 (0, 0)) (by (with_reducible repeat (first | refine blk_drewN ?_ _ | refine blk_drew ?_ | refine blk_alloc ?_ _)); exact BK166.out) hb); have n1_ := Aside0.mk (below_step (by repeat (first | (with_reducible first | exact HB.out | apply below_alloc | apply pw_below_drewN | apply below_drew1 | refine below_set ?_ GE166.out) | exact HB.out)) hb); clear BK166; clear HB; have BK166 := n0_; have HB := n1_; clear n0_ n1_; (try clear hb); (try clear hb2); (try clear hk); (try clear hi); have hcz11_0 : w10.cell? ⟨gb166, 0, none⟩ = some (.slice A0_0 l0_0.length c0_0) := (blk_cell BK166.out 0).trans rfl; have hcz11_1 : w10.cell? ⟨gb166, 1, none⟩ = some (.int .i64 a0_1) := (blk_cell BK166.out 1).trans rfl; have hfz11_0 := blk_frozen BK166.out 0; have hfz11_1 := blk_frozen BK166.out 1) | ((with_reducible refine gate_dst (N := 15) rfl ?_); refine Kd.R_lit (Kd.int .u32) _ 47 ?hg (N := 15) ?hd (xs := ([((l0_0.length : Int)) % 4294967296, (a0_1) % 4294967296] : List Int)) (inner := [.int .u32 (((l0_0.length : Int)) % 4294967296), .int .u32 ((a0_1) % 4294967296)]) (ok := fun _ => True) (okp := fun _ => True) ?hr ?hp (fun _ hk => hk) trivial (Below.refl _ _) (Nat.le_refl _) (by simp) ?_; (case hd => rfl); (case hg => rfl); (case hr => first | (go_simp; done) | (go_simp; rfl)); (case hp => exact (Reps.one (show Kd.M (Kd.int .u32) _ _ _ (((l0_0.length : Int)) % 4294967296) [.int .u32 (((l0_0.length : Int)) % 4294967296)] from rfl) (Reps.one (show Kd.M (Kd.int .u32) _ _ _ ((a0_1) % 4294967296) [.int .u32 ((a0_1) % 4294967296)] from rfl) (Reps.none _ _)))); intro v169 w12 ho13 hb hg_ hnew_; clear hg_ hnew_; (first | rw [← Ny168.out] at ho13 | (simp only [Int.reduceToNat] at ho13; rw [← Ny168.out] at ho13)); have n0_ := Aside0.mk (Kd.R_lower ho13 (below_size (by repeat (first | (with_reducible first | exact HB.out | apply below_alloc | apply pw_below_drewN | apply below_drew1 | refine below_set ?_ GE166.out) | exact HB.out)))); have n1_ := Aside0.mk (blk_below (g := gb166) (o := .cells #[.slice A0_0 l0_0.length c0_0, .int .i64 a0_1] 28 (0, 0)) (by (with_reducible repeat (first | refine blk_drewN ?_ _ | refine blk_drew ?_ | refine blk_alloc ?_ _)); exact BK166.out) hb); have n2_ := Aside0.mk (below_step (by repeat (first | (with_reducible first | exact HB.out | apply below_alloc | apply pw_below_drewN | apply below_drew1 | refine below_set ?_ GE166.out) | exact HB.out)) hb); clear BK166; clear HB; have HO170 := n0_; have BK166 := n1_; have HB := n2_; clear n0_ n1_ n2_; clear hb ho13; obtain ⟨Ao14, co14, eo14⟩ := Kd.R_slice HO170.out; subst eo14) | ((with_reducible refine gate_callee (f := 91) rfl ?_); refine goesL_ (some 16) rfl rfl Tryd.func91 (by kernel_rfl) rfl #[.slice Ao14 y168.length co14] rfl (by (try simp only [List.map_toArray, List.map_cons, List.map_nil]); first | done | rfl | (simp only [List.length_drop, List.length_take]; rfl)) ?_; (with_reducible refine (word_Bytes.calls k _ _ y168 t171 _ ?side1 ?side2 A4.out).mono ?_); (case side1 => repeat (first | exact (Kd.R_reads' HO170.out).2.2 | (with_reducible refine Kd.C_alloc ?_ _) | (with_reducible refine Kd.C_drewN ?_ _) | (with_reducible refine Kd.C_drew ?_))); (case side2 => exact (Kd.R_reads' HO170.out).2.1); rintro e w15 ⟨rfl, hb⟩; refine ⟨_, rfl, ?_⟩; have n0_ := Aside0.mk (Kd.R_below (by (with_reducible repeat (first | apply Kd.R_alloc | apply Kd.R_drewN | apply Kd.R_drew)); exact HO170.out) hb); have n1_ := Aside0.mk (blk_below (g := gb166) (o := .cells #[.slice A0_0 l0_0.length c0_0, .int .i64 a0_1] 28 (0, 0)) (by (with_reducible repeat (first | refine blk_drewN ?_ _ | refine blk_drew ?_ | refine blk_alloc ?_ _)); exact BK166.out) hb); have n2_ := Aside0.mk (below_step (by repeat (first | (with_reducible first | exact HB.out | apply below_alloc | apply pw_below_drewN | apply below_drew1 | refine below_set ?_ GE166.out) | exact HB.out)) hb); clear HO170; clear BK166; clear HB; have HO170 := n0_; have BK166 := n1_; have HB := n2_; clear n0_ n1_ n2_; (try clear hb); (try clear hb2); (try clear hk); (try clear hi); have hcz16_0 : w15.cell? ⟨gb166, 0, none⟩ = some (.slice A0_0 l0_0.length c0_0) := (blk_cell BK166.out 0).trans rfl; have hcz16_1 : w15.cell? ⟨gb166, 1, none⟩ = some (.int .i64 a0_1) := (blk_cell BK166.out 1).trans rfl; have hfz16_0 := blk_frozen BK166.out 0; have hfz16_1 := blk_frozen BK166.out 1) | ((with_reducible refine gate_callee (f := 91) rfl ?_); refine goesL_ (some 21) rfl rfl Tryd.func91 (by kernel_rfl) rfl #[.slice A0_0 l0_0.length c0_0] rfl (by (try simp only [List.map_toArray, List.map_cons, List.map_nil]); first | done | rfl | (simp only [List.length_drop, List.length_take]; rfl)) ?_; (with_reducible refine (word_Bytes.calls k _ _ l0_0 t172 _ ?side1 ?side2 A6.out).mono ?_); (case side1 => repeat (first | exact (Kd.C_below HR0_0.out HB.out) | (with_reducible refine Kd.C_alloc ?_ _) | (with_reducible refine Kd.C_drewN ?_ _) | (with_reducible refine Kd.C_drew ?_))); (case side2 => exact HC0_0.out); rintro e w17 ⟨rfl, hb⟩; refine ⟨_, rfl, ?_⟩; have n0_ := Aside0.mk (Kd.R_below (by (with_reducible repeat (first | apply Kd.R_alloc | apply Kd.R_drewN | apply Kd.R_drew)); exact HO170.out) hb); have n1_ := Aside0.mk (blk_below (g := gb166) (o := .cells #[.slice A0_0 l0_0.length c0_0, .int .i64 a0_1] 28 (0, 0)) (by (with_reducible repeat (first | refine blk_drewN ?_ _ | refine blk_drew ?_ | refine blk_alloc ?_ _)); exact BK166.out) hb); have n2_ := Aside0.mk (below_step (by repeat (first | (with_reducible first | exact HB.out | apply below_alloc | apply pw_below_drewN | apply below_drew1 | refine below_set ?_ GE166.out) | exact HB.out)) hb); clear HO170; clear BK166; clear HB; have HO170 := n0_; have BK166 := n1_; have HB := n2_; clear n0_ n1_ n2_; (try clear hb); (try clear hb2); (try clear hk); (try clear hi)))
        go_ret2
        exact ⟨by first | rfl | (simp [errW_none, errW_some] <;> rfl) | (simp [*, errW_none, errW_some] <;> rfl), by repeat (first | (with_reducible first | exact HB.out | apply below_alloc | apply pw_below_drewN | apply below_drew1 | refine below_set ?_ GE166.out) | exact HB.out)⟩
      · rw [if_neg c7] at H
        exact absurd H (by simp)
    · rw [if_neg c5] at H
      exact absurd H (by simp)
  · replace c3 := Bool.eq_false_iff.mpr c3
    subst c3
    have H1 : (some ((⟨#[]⟩ : ByteArray), 1)) = some (r1, r2) := by rw [if_neg (show ¬ (false = true) by decide)] at H; exact H
    clear H
    have H := H1
    clear H1
    simp only [Option.some.injEq, Prod.mk.injEq] at H
    obtain ⟨rfl, rfl⟩ := H
    go_enter Tryd.func58, Tryd.ntmps58
    go_wp2_with (first | ((with_reducible refine gate_dst (N := 1) rfl ?_); refine box_event ?hg (N := 1) ?hd (cs := #[.slice A0_0 l0_0.length c0_0, .int .i64 a0_1]) (t := 28) ?hr ?_; (case hd => rfl); (case hg => rfl); (case hr => first | (go_simp; done) | (go_simp; rfl)); intro gb166 hg w18 hbox hb; have n0_ := Aside0.mk (below_step (by repeat (first | (with_reducible first | exact HB.out | apply below_alloc | apply pw_below_drewN | apply below_drew1) | exact HB.out)) hb); have n1_ := Aside0.mk (hbox); have n2_ := Aside0.mk ((by rw [hg]; exact (below_size (by repeat (first | (with_reducible first | exact HB.out | apply below_alloc | apply pw_below_drewN | apply below_drew1) | exact HB.out))) : w.heap.size ≤ gb166)); have n3_ := Aside0.mk ((by rw [hg]; exact (below_size (by repeat (first | (with_reducible first | exact HB.out | apply below_alloc | apply pw_below_drewN | apply below_drew1) | exact HB.out))) : w.heap.size ≤ gb166)); clear HB; have HB := n0_; have BK166 := n1_; have GW166 := n2_; have GE166 := n3_; clear n0_ n1_ n2_ n3_; clear hb hbox hg; have hcz19_0 : w18.cell? ⟨gb166, 0, none⟩ = some (.slice A0_0 l0_0.length c0_0) := (blk_cell BK166.out 0).trans rfl; have hcz19_1 : w18.cell? ⟨gb166, 1, none⟩ = some (.int .i64 a0_1) := (blk_cell BK166.out 1).trans rfl; have hfz19_0 := blk_frozen BK166.out 0; have hfz19_1 := blk_frozen BK166.out 1) | ((with_reducible refine gate_callee (f := 68) rfl ?_); refine goesL_ (some 6) rfl rfl Tryd.func68 (by kernel_rfl) rfl #[.agg #[.slice A0_0 l0_0.length c0_0, .int .i64 a0_1]] rfl (by (try simp only [List.map_toArray, List.map_cons, List.map_nil]); first | done | rfl | (simp only [List.length_drop, List.length_take]; rfl)) ?_; (with_reducible refine (image_Right.calls _ _ l0_0 a0_1 false _ ?side1 ?side2 A2.out).mono ?_); (case side1 => repeat (first | exact (Kd.C_below HR0_0.out HB.out) | (with_reducible refine Kd.C_alloc ?_ _) | (with_reducible refine Kd.C_drewN ?_ _) | (with_reducible refine Kd.C_drew ?_))); (case side2 => exact HC0_0.out); rintro e w20 ⟨rfl, hb⟩; refine ⟨_, rfl, ?_⟩; have n0_ := Aside0.mk (blk_below (g := gb166) (o := .cells #[.slice A0_0 l0_0.length c0_0, .int .i64 a0_1] 28 (0, 0)) (by (with_reducible repeat (first | refine blk_drewN ?_ _ | refine blk_drew ?_ | refine blk_alloc ?_ _)); exact BK166.out) hb); have n1_ := Aside0.mk (below_step (by repeat (first | (with_reducible first | exact HB.out | apply below_alloc | apply pw_below_drewN | apply below_drew1 | refine below_set ?_ GE166.out) | exact HB.out)) hb); clear BK166; clear HB; have BK166 := n0_; have HB := n1_; clear n0_ n1_; (try clear hb); (try clear hb2); (try clear hk); (try clear hi)))
    go_ret2
    exact ⟨by first | rfl | (simp [errW_none, errW_some] <;> rfl) | (simp [*, errW_none, errW_some] <;> rfl), by repeat (first | (with_reducible first | exact HB.out | apply below_alloc | apply pw_below_drewN | apply below_drew1 | refine below_set ?_ GE166.out) | exact HB.out)⟩
end Go.Proofs.YtdhkmdgieflioaaDoor.F
namespace Go.Proofs.YtdhkmdgieflioaaDoor.F
open Go.RowKit Go.Proofs.YtdhkmdgieflioaaDoorW.PrintWords Go.Proofs.YtdhkmdgieflioaaDoorW.PrintLast Go.Proofs.YtdhkmdgieflioaaDoorW.PrintMore
attribute [local go_sem] max2_int min2_int max_two min_two max_three min_three max_four min_four
set_option linter.unusedVariables false
set_option linter.unusedSimpArgs false
def seed_Image.f (k : Nat)  : Option (ByteArray) := (seed_made.f).bind fun bt177 => ((image_Put.f k bt177.1 bt177.2).bind fun bt181 => (some bt181.1))
theorem seed_Image.mono : ∀ k, LeO (seed_Image.f k ) (seed_Image.f (k + 1) ) := by
  intro  k
  unfold seed_Image.f
  repeat' first
      | (with_reducible exact image_Put.mono _ _ _)
      | (with_reducible exact LeO.refl _)
      | (with_reducible exact LeO.none _)
      | (with_reducible refine LeO.ite ?_ ?_)
      | (with_reducible refine LeO.bind ?_ (fun _ => ?_))
      | exact image_Put.mono _ _ _
      | exact LeO.none _
      | refine LeO.ite ?_ ?_
      | refine LeO.bind ?_ (fun _ => ?_)
set_option maxHeartbeats 8000000 in
set_option maxRecDepth 100000 in
theorem seed_Image.calls (k : Nat)  (r : ByteArray) (w : World) (hGC : GC w) (hGK : GK w) (h : seed_Image.f k  = some r) :
    Calls Tryd.prog 24 #[] w fun e w' => e = .returned (.string r) ∧ Below w.heap.size w w' := by
  have HGC := Aside0.mk hGC
  clear hGC
  have HGK := Aside0.mk hGK
  clear hGK
  have HB := Aside0.mk (Below.refl w.heap.size w)
  have H : ((seed_made.f).bind fun bt177 => ((image_Put.f k bt177.1 bt177.2).bind fun bt181 => (some bt181.1))) = some r := h
  clear h
  replace H := Option.bind_eq_some_iff.mp H
  obtain ⟨⟨t177, t180⟩, A10, H⟩ := H
  replace H : ((image_Put.f k t177 t180).bind fun bt181 => (some bt181.1)) = some r := H
  have A1 := Aside0.mk A10
  clear A10
  replace H := Option.bind_eq_some_iff.mp H
  obtain ⟨⟨t181, t182⟩, A20, H⟩ := H
  replace H : (some t181) = some r := H
  have A2 := Aside0.mk A20
  clear A20
  obtain rfl := Option.some.inj H
  go_enter Tryd.func24, Tryd.ntmps24
  go_wp2_with (first | ((with_reducible refine gate_callee (f := 59) rfl ?_); refine goesL_ (some 4) rfl rfl Tryd.func59 (by kernel_rfl) rfl #[] rfl (by (try simp only [List.map_toArray, List.map_cons, List.map_nil]); first | done | rfl | (simp only [List.length_drop, List.length_take]; rfl)) ?_; (with_reducible refine (seed_made.calls  t177 t180 _ ?side1 ?side2 A1.out).mono ?_); (case side1 => exact GC.below HGC.out (by repeat (first | (with_reducible first | exact HB.out | apply below_alloc | apply pw_below_drewN | apply below_drew1) | exact HB.out))); (case side2 => exact GK.below HGK.out (by repeat (first | (with_reducible first | exact HB.out | apply below_alloc | apply pw_below_drewN | apply below_drew1) | exact HB.out))); rintro e w3 ⟨v178, rfl, ho0, hb⟩; refine ⟨_, rfl, ?_⟩; have n0_ := Aside0.mk (Kd.R_lower ho0 (below_size (by repeat (first | (with_reducible first | exact HB.out | apply below_alloc | apply pw_below_drewN | apply below_drew1) | exact HB.out)))); have n1_ := Aside0.mk (below_step (by repeat (first | (with_reducible first | exact HB.out | apply below_alloc | apply pw_below_drewN | apply below_drew1) | exact HB.out)) hb); clear HB; have HO179 := n0_; have HB := n1_; clear n0_ n1_; (try clear hb); (try clear hb2); (try clear hk); (try clear hi); (try clear ho0); obtain ⟨Ao4, co4, eo4⟩ := Kd.R_slice HO179.out; subst eo4) | ((with_reducible refine gate_callee (f := 58) rfl ?_); refine goesL_ (some 5) rfl rfl Tryd.func58 (by kernel_rfl) rfl #[.agg #[.slice Ao4 t177.length co4, .int .i64 t180]] rfl (by (try simp only [List.map_toArray, List.map_cons, List.map_nil]); first | done | rfl | (simp only [List.length_drop, List.length_take]; rfl)) ?_; (with_reducible refine (image_Put.calls k _ _ t177 t180 t181 t182 _ ?side1 ?side2 A2.out).mono ?_); (case side1 => repeat (first | exact (Kd.R_reads' HO179.out).2.2 | (with_reducible refine Kd.C_alloc ?_ _) | (with_reducible refine Kd.C_drewN ?_ _) | (with_reducible refine Kd.C_drew ?_))); (case side2 => exact (Kd.R_reads' HO179.out).2.1); rintro e w5 ⟨rfl, hb⟩; refine ⟨_, rfl, ?_⟩; have n0_ := Aside0.mk (Kd.R_below (by (with_reducible repeat (first | apply Kd.R_alloc | apply Kd.R_drewN | apply Kd.R_drew)); exact HO179.out) hb); have n1_ := Aside0.mk (below_step (by repeat (first | (with_reducible first | exact HB.out | apply below_alloc | apply pw_below_drewN | apply below_drew1) | exact HB.out)) hb); clear HO179; clear HB; have HO179 := n0_; have HB := n1_; clear n0_ n1_; (try clear hb); (try clear hb2); (try clear hk); (try clear hi)))
  go_ret
  exact ⟨by first | rfl | (simp [errW_none, errW_some] <;> rfl) | (simp [*, errW_none, errW_some] <;> rfl), by repeat (first | (with_reducible first | exact HB.out | apply below_alloc | apply pw_below_drewN | apply below_drew1) | exact HB.out)⟩
end Go.Proofs.YtdhkmdgieflioaaDoor.F
namespace Go.Proofs.YtdhkmdgieflioaaDoor.F
open Go.RowKit Go.Proofs.YtdhkmdgieflioaaDoorW.PrintWords Go.Proofs.YtdhkmdgieflioaaDoorW.PrintLast Go.Proofs.YtdhkmdgieflioaaDoorW.PrintMore
attribute [local go_sem] max2_int min2_int max_two min_two max_three min_three max_four min_four
set_option linter.unusedVariables false
set_option linter.unusedSimpArgs false
def seedcornlaw50_awake.f (k : Nat)  : Option (Bool) := (seed_Image.f k).bind fun t183 => (if (t183.size : Int) ≤ 160 then ((seed_Image.f k).bind fun t184 => ((seedcornref50_Loads.f k t184 (⟨#[53, 51, 32, 52, 53, 32, 35, 32, 57, 57]⟩ : ByteArray)).bind fun t185 => (some t185))) else (some false))
theorem seedcornlaw50_awake.mono : ∀ k, LeO (seedcornlaw50_awake.f k ) (seedcornlaw50_awake.f (k + 1) ) := by
  intro  k
  unfold seedcornlaw50_awake.f
  repeat' first
      | (with_reducible exact seed_Image.mono _)
      | (with_reducible exact seedcornref50_Loads.mono _ _ _)
      | (with_reducible exact LeO.refl _)
      | (with_reducible exact LeO.none _)
      | (with_reducible refine LeO.ite ?_ ?_)
      | (with_reducible refine LeO.bind ?_ (fun _ => ?_))
      | exact seed_Image.mono _
      | exact seedcornref50_Loads.mono _ _ _
      | exact LeO.none _
      | refine LeO.ite ?_ ?_
      | refine LeO.bind ?_ (fun _ => ?_)
set_option maxHeartbeats 8000000 in
set_option maxRecDepth 100000 in
theorem seedcornlaw50_awake.calls (k : Nat)  (r : Bool) (w : World) (hGC : GC w) (hGK : GK w) (h : seedcornlaw50_awake.f k  = some r) :
    Calls Tryd.prog 22 #[] w fun e w' => e = .returned (.bool r) ∧ Below w.heap.size w w' := by
  have HGC := Aside0.mk hGC
  clear hGC
  have HGK := Aside0.mk hGK
  clear hGK
  have HB := Aside0.mk (Below.refl w.heap.size w)
  have H : ((seed_Image.f k).bind fun t183 => (if (t183.size : Int) ≤ 160 then ((seed_Image.f k).bind fun t184 => ((seedcornref50_Loads.f k t184 (⟨#[53, 51, 32, 52, 53, 32, 35, 32, 57, 57]⟩ : ByteArray)).bind fun t185 => (some t185))) else (some false))) = some r := h
  clear h
  replace H := Option.bind_eq_some_iff.mp H
  obtain ⟨t183, A10, H⟩ := H
  replace H : (if (t183.size : Int) ≤ 160 then ((seed_Image.f k).bind fun t184 => ((seedcornref50_Loads.f k t184 (⟨#[53, 51, 32, 52, 53, 32, 35, 32, 57, 57]⟩ : ByteArray)).bind fun t185 => (some t185))) else (some false)) = some r := H
  have A1 := Aside0.mk A10
  clear A10
  by_cases c2 : (t183.size : Int) ≤ 160
  · rw [if_pos c2] at H
    have c2b0 : decide ((t183.size : Int) ≤ 160) = true := decide_eq_true c2
    have c2b1 : decide (t183.size ≤ 160) = true := decide_eq_true (by omega)
    clear c2
    replace H := Option.bind_eq_some_iff.mp H
    obtain ⟨t184, A30, H⟩ := H
    replace H : ((seedcornref50_Loads.f k t184 (⟨#[53, 51, 32, 52, 53, 32, 35, 32, 57, 57]⟩ : ByteArray)).bind fun t185 => (some t185)) = some r := H
    have A3 := Aside0.mk A30
    clear A30
    replace H := Option.bind_eq_some_iff.mp H
    obtain ⟨t185, A40, H⟩ := H
    replace H : (some t185) = some r := H
    have A4 := Aside0.mk A40
    clear A40
    obtain rfl := Option.some.inj H
    go_enter Tryd.func22, Tryd.ntmps22
    go_wp2_with (first | ((with_reducible refine gate_callee (f := 24) rfl ?_); refine goesL_ (some 1) rfl rfl Tryd.func24 (by kernel_rfl) rfl #[] rfl (by (try simp only [List.map_toArray, List.map_cons, List.map_nil]); first | done | rfl | (simp only [List.length_drop, List.length_take]; rfl)) ?_; (with_reducible refine (seed_Image.calls k  t183 _ ?side1 ?side2 A1.out).mono ?_); (case side1 => exact GC.below HGC.out (by repeat (first | (with_reducible first | exact HB.out | apply below_alloc | apply pw_below_drewN | apply below_drew1) | exact HB.out))); (case side2 => exact GK.below HGK.out (by repeat (first | (with_reducible first | exact HB.out | apply below_alloc | apply pw_below_drewN | apply below_drew1) | exact HB.out))); rintro e w5 ⟨rfl, hb⟩; refine ⟨_, rfl, ?_⟩; have n0_ := Aside0.mk (below_step (by repeat (first | (with_reducible first | exact HB.out | apply below_alloc | apply pw_below_drewN | apply below_drew1) | exact HB.out)) hb); clear HB; have HB := n0_; clear n0_; (try clear hb); (try clear hb2); (try clear hk); (try clear hi)) | (go_at_call 24; (with_reducible refine (seed_Image.calls k  t184 _ ?side1 ?side2 A3.out).mono ?_); (case side1 => exact GC.below HGC.out (by repeat (first | (with_reducible first | exact HB.out | apply below_alloc | apply pw_below_drewN | apply below_drew1) | exact HB.out))); (case side2 => exact GK.below HGK.out (by repeat (first | (with_reducible first | exact HB.out | apply below_alloc | apply pw_below_drewN | apply below_drew1) | exact HB.out))); rintro e w6 ⟨rfl, hb⟩; have n0_ := Aside0.mk (below_step (by repeat (first | (with_reducible first | exact HB.out | apply below_alloc | apply pw_below_drewN | apply below_drew1) | exact HB.out)) hb); clear HB; have HB := n0_; clear n0_; (try clear hb); (try clear hb2); (try clear hk); (try clear hi)) | (go_at_call 23; (with_reducible refine (seedcornref50_Loads.calls k t184 (⟨#[53, 51, 32, 52, 53, 32, 35, 32, 57, 57]⟩ : ByteArray) t185 _ A4.out).mono ?_); rintro e w7 ⟨rfl, hb⟩; have n0_ := Aside0.mk (below_step (by repeat (first | (with_reducible first | exact HB.out | apply below_alloc | apply pw_below_drewN | apply below_drew1) | exact HB.out)) hb); clear HB; have HB := n0_; clear n0_; (try clear hb); (try clear hb2); (try clear hk); (try clear hi)))
    go_ret
    exact ⟨by first | rfl | (simp [errW_none, errW_some] <;> rfl) | (simp [*, errW_none, errW_some] <;> rfl), by repeat (first | (with_reducible first | exact HB.out | apply below_alloc | apply pw_below_drewN | apply below_drew1) | exact HB.out)⟩
  · rw [if_neg c2] at H
    have c2b0 : decide ((t183.size : Int) ≤ 160) = false := decide_eq_false c2
    have c2b1 : decide (t183.size ≤ 160) = false := decide_eq_false (by omega)
    clear c2
    obtain rfl := Option.some.inj H
    go_enter Tryd.func22, Tryd.ntmps22
    go_wp2_with (first | ((with_reducible refine gate_callee (f := 24) rfl ?_); refine goesL_ (some 1) rfl rfl Tryd.func24 (by kernel_rfl) rfl #[] rfl (by (try simp only [List.map_toArray, List.map_cons, List.map_nil]); first | done | rfl | (simp only [List.length_drop, List.length_take]; rfl)) ?_; (with_reducible refine (seed_Image.calls k  t183 _ ?side1 ?side2 A1.out).mono ?_); (case side1 => exact GC.below HGC.out (by repeat (first | (with_reducible first | exact HB.out | apply below_alloc | apply pw_below_drewN | apply below_drew1) | exact HB.out))); (case side2 => exact GK.below HGK.out (by repeat (first | (with_reducible first | exact HB.out | apply below_alloc | apply pw_below_drewN | apply below_drew1) | exact HB.out))); rintro e w8 ⟨rfl, hb⟩; refine ⟨_, rfl, ?_⟩; have n0_ := Aside0.mk (below_step (by repeat (first | (with_reducible first | exact HB.out | apply below_alloc | apply pw_below_drewN | apply below_drew1) | exact HB.out)) hb); clear HB; have HB := n0_; clear n0_; (try clear hb); (try clear hb2); (try clear hk); (try clear hi)))
    go_ret
    exact ⟨by first | rfl | (simp [errW_none, errW_some] <;> rfl) | (simp [*, errW_none, errW_some] <;> rfl), by repeat (first | (with_reducible first | exact HB.out | apply below_alloc | apply pw_below_drewN | apply below_drew1) | exact HB.out)⟩
end Go.Proofs.YtdhkmdgieflioaaDoor.F
namespace Go.Proofs.YtdhkmdgieflioaaDoor.F
open Go.RowKit Go.Proofs.YtdhkmdgieflioaaDoorW.PrintWords Go.Proofs.YtdhkmdgieflioaaDoorW.PrintLast Go.Proofs.YtdhkmdgieflioaaDoorW.PrintMore
attribute [local go_sem] max2_int min2_int max_two min_two max_three min_three max_four min_four
set_option linter.unusedVariables false
set_option linter.unusedSimpArgs false
mutual
def seedcornlaw50_digits.l0 : Nat → ByteArray → Int → Bool → Int → Option (Int)
  | 0, _, _, _, _ => none
  | k + 1, x0, x3, x4, x5 => if x5 < (x0.size : Int) then (if 0 ≤ x5 then (if (bt x0 x5) = 35 then (seedcornlaw50_digits.j1 k x0 x3 true x5 (bt x0 x5)) else (seedcornlaw50_digits.j1 k x0 x3 x4 x5 (bt x0 x5))) else (none)) else (some x3)
def seedcornlaw50_digits.j1 : Nat → ByteArray → Int → Bool → Int → Int → Option (Int)
  | 0, _, _, _, _, _ => none
  | k + 1, x0, x3, x4, x5, x6 => if x6 = 10 then (if x6 ≥ 48 then (if x6 ≤ 57 then (seedcornlaw50_digits.l0 k x0 (wrap64 (x3 + 1)) false (wrap64 (x5 + 1))) else (if x6 ≥ 97 then (if x6 ≤ 102 then (seedcornlaw50_digits.l0 k x0 (wrap64 (x3 + 1)) false (wrap64 (x5 + 1))) else (if x6 ≥ 65 then (if x6 ≤ 70 then (seedcornlaw50_digits.l0 k x0 (wrap64 (x3 + 1)) false (wrap64 (x5 + 1))) else (seedcornlaw50_digits.l0 k x0 x3 false (wrap64 (x5 + 1)))) else (seedcornlaw50_digits.l0 k x0 x3 false (wrap64 (x5 + 1))))) else (if x6 ≥ 65 then (if x6 ≤ 70 then (seedcornlaw50_digits.l0 k x0 (wrap64 (x3 + 1)) false (wrap64 (x5 + 1))) else (seedcornlaw50_digits.l0 k x0 x3 false (wrap64 (x5 + 1)))) else (seedcornlaw50_digits.l0 k x0 x3 false (wrap64 (x5 + 1)))))) else (if x6 ≥ 97 then (if x6 ≤ 102 then (seedcornlaw50_digits.l0 k x0 (wrap64 (x3 + 1)) false (wrap64 (x5 + 1))) else (if x6 ≥ 65 then (if x6 ≤ 70 then (seedcornlaw50_digits.l0 k x0 (wrap64 (x3 + 1)) false (wrap64 (x5 + 1))) else (seedcornlaw50_digits.l0 k x0 x3 false (wrap64 (x5 + 1)))) else (seedcornlaw50_digits.l0 k x0 x3 false (wrap64 (x5 + 1))))) else (if x6 ≥ 65 then (if x6 ≤ 70 then (seedcornlaw50_digits.l0 k x0 (wrap64 (x3 + 1)) false (wrap64 (x5 + 1))) else (seedcornlaw50_digits.l0 k x0 x3 false (wrap64 (x5 + 1)))) else (seedcornlaw50_digits.l0 k x0 x3 false (wrap64 (x5 + 1)))))) else (if x4 = true then (seedcornlaw50_digits.l0 k x0 x3 x4 (wrap64 (x5 + 1))) else (if x6 ≥ 48 then (if x6 ≤ 57 then (seedcornlaw50_digits.l0 k x0 (wrap64 (x3 + 1)) x4 (wrap64 (x5 + 1))) else (if x6 ≥ 97 then (if x6 ≤ 102 then (seedcornlaw50_digits.l0 k x0 (wrap64 (x3 + 1)) x4 (wrap64 (x5 + 1))) else (if x6 ≥ 65 then (if x6 ≤ 70 then (seedcornlaw50_digits.l0 k x0 (wrap64 (x3 + 1)) x4 (wrap64 (x5 + 1))) else (seedcornlaw50_digits.l0 k x0 x3 x4 (wrap64 (x5 + 1)))) else (seedcornlaw50_digits.l0 k x0 x3 x4 (wrap64 (x5 + 1))))) else (if x6 ≥ 65 then (if x6 ≤ 70 then (seedcornlaw50_digits.l0 k x0 (wrap64 (x3 + 1)) x4 (wrap64 (x5 + 1))) else (seedcornlaw50_digits.l0 k x0 x3 x4 (wrap64 (x5 + 1)))) else (seedcornlaw50_digits.l0 k x0 x3 x4 (wrap64 (x5 + 1)))))) else (if x6 ≥ 97 then (if x6 ≤ 102 then (seedcornlaw50_digits.l0 k x0 (wrap64 (x3 + 1)) x4 (wrap64 (x5 + 1))) else (if x6 ≥ 65 then (if x6 ≤ 70 then (seedcornlaw50_digits.l0 k x0 (wrap64 (x3 + 1)) x4 (wrap64 (x5 + 1))) else (seedcornlaw50_digits.l0 k x0 x3 x4 (wrap64 (x5 + 1)))) else (seedcornlaw50_digits.l0 k x0 x3 x4 (wrap64 (x5 + 1))))) else (if x6 ≥ 65 then (if x6 ≤ 70 then (seedcornlaw50_digits.l0 k x0 (wrap64 (x3 + 1)) x4 (wrap64 (x5 + 1))) else (seedcornlaw50_digits.l0 k x0 x3 x4 (wrap64 (x5 + 1)))) else (seedcornlaw50_digits.l0 k x0 x3 x4 (wrap64 (x5 + 1)))))))
end
def seedcornlaw50_digits.f (k : Nat) (a0 : ByteArray) : Option (Int) := seedcornlaw50_digits.l0 k a0 0 false 0
theorem seedcornlaw50_digits.mono_l : ∀ k, (∀ y0 y1 y2 y3, LeO (seedcornlaw50_digits.l0 k y0 y1 y2 y3) (seedcornlaw50_digits.l0 (k + 1) y0 y1 y2 y3)) ∧ (∀ y0 y1 y2 y3 y4, LeO (seedcornlaw50_digits.j1 k y0 y1 y2 y3 y4) (seedcornlaw50_digits.j1 (k + 1) y0 y1 y2 y3 y4))
  | 0 => ⟨fun _ _ _ _ r h => by simp [seedcornlaw50_digits.l0] at h, fun _ _ _ _ _ r h => by simp [seedcornlaw50_digits.j1] at h⟩
  | k + 1 => by
    obtain ⟨ih0, ih1⟩ := seedcornlaw50_digits.mono_l k
    refine ⟨?_, ?_⟩
    · intro y0 y1 y2 y3
      unfold seedcornlaw50_digits.l0
      repeat' first
      | (with_reducible exact ih0 _ _ _ _)
      | (with_reducible exact ih1 _ _ _ _ _)
      | (with_reducible exact LeO.refl _)
      | (with_reducible exact LeO.none _)
      | (with_reducible refine LeO.ite ?_ ?_)
      | (with_reducible refine LeO.bind ?_ (fun _ => ?_))
      | exact ih0 _ _ _ _
      | exact ih1 _ _ _ _ _
      | exact LeO.none _
      | refine LeO.ite ?_ ?_
      | refine LeO.bind ?_ (fun _ => ?_)
    · intro y0 y1 y2 y3 y4
      unfold seedcornlaw50_digits.j1
      repeat' first
      | (with_reducible exact ih0 _ _ _ _)
      | (with_reducible exact ih1 _ _ _ _ _)
      | (with_reducible exact LeO.refl _)
      | (with_reducible exact LeO.none _)
      | (with_reducible refine LeO.ite ?_ ?_)
      | (with_reducible refine LeO.bind ?_ (fun _ => ?_))
      | exact ih0 _ _ _ _
      | exact ih1 _ _ _ _ _
      | exact LeO.none _
      | refine LeO.ite ?_ ?_
      | refine LeO.bind ?_ (fun _ => ?_)
theorem seedcornlaw50_digits.mono : ∀ a0 k, LeO (seedcornlaw50_digits.f k a0) (seedcornlaw50_digits.f (k + 1) a0) := by
  intro a0 k
  obtain ⟨ih0, ih1⟩ := seedcornlaw50_digits.mono_l k
  unfold seedcornlaw50_digits.f
  repeat' first
      | (with_reducible exact ih0 _ _ _ _)
      | (with_reducible exact ih1 _ _ _ _ _)
      | (with_reducible exact LeO.refl _)
      | (with_reducible exact LeO.none _)
      | (with_reducible refine LeO.ite ?_ ?_)
      | (with_reducible refine LeO.bind ?_ (fun _ => ?_))
      | exact ih0 _ _ _ _
      | exact ih1 _ _ _ _ _
      | exact LeO.none _
      | refine LeO.ite ?_ ?_
      | refine LeO.bind ?_ (fun _ => ?_)
set_option maxHeartbeats 8000000 in
set_option maxRecDepth 100000 in
theorem seedcornlaw50_digits.calls (k : Nat) (a0 : ByteArray) (r : Int) (w : World) (h : seedcornlaw50_digits.f k a0 = some r) :
    Calls Tryd.prog 30 #[.string a0] w fun e w' => e = .returned (.int .i64 r) ∧ Drawn0 w w' := by
  have H : (seedcornlaw50_digits.l0 k a0 0 false 0) = some r := h
  clear h
  have H' := Aside0.mk H
  clear H
  go_enter Tryd.func30, Tryd.ntmps30
  go_wp2
  go_loopg [3, 4, 5] k (fun kq v3 v4 v5 w' => ∃ (x3_1 : Int) (x4_1 : Bool) (x5_1 : Int), v3 = .int .i64 x3_1 ∧ v4 = .bool x4_1 ∧ v5 = .int .i64 x5_1 ∧ Aside0 (seedcornlaw50_digits.l0 kq a0 x3_1 x4_1 x5_1 = some r) ∧ Aside0 (kq ≤ k) ∧ Drawn0 w w')
  case atStart => exact ⟨(0), (false), (0), (by first | rfl | (simp; done) | (simp [*]; done)), (by first | rfl | (simp; done) | (simp [*]; done)), (by first | rfl | (simp; done) | (simp [*]; done)), H', ⟨Nat.le_refl _⟩, by repeat (first | exact Drawn0.refl _ | apply Drawn0.step)⟩
  case round =>
    clear H'
    obtain ⟨x3_1, x4_1, x5_1, rfl, rfl, rfl, HA, HK1, ⟨m1, rfl⟩⟩ := hrel
    cases gk with
    | zero => exact absurd HA.out (by simp [seedcornlaw50_digits.l0])
    | succ k1 =>
      have H := HA.out
      clear HA
      simp only [seedcornlaw50_digits.l0] at H
      by_cases c2 : x5_1 < (a0.size : Int)
      · rw [if_pos c2] at H
        have c2b0 : decide (x5_1 < (a0.size : Int)) = true := decide_eq_true c2
        clear c2
        by_cases c3 : 0 ≤ x5_1
        · rw [if_pos c3] at H
          have c3b0 : decide (0 ≤ x5_1) = true := decide_eq_true c3
          clear c3
          have HC5 := Aside0.mk H
          clear H
          have p4 : 0 ≤ (x5_1 : Int) := of_decide_eq_true (by first | (with_reducible assumption) | assumption)
          have q4 : x5_1 < (a0.size : Int) := of_decide_eq_true (by first | (with_reducible assumption) | assumption)
          have hx4 := bt_at a0 x5_1
          replace p4 := eq_true p4
          replace q4 := eq_true q4
          go_upto_if 17 with (fail)
          go_cut [4] (fun v4 wc => ∃ (kq : Nat) (x4_4 : Bool), v4 = .bool x4_4 ∧ Aside0 (seedcornlaw50_digits.j1 kq a0 x3_1 x4_4 x5_1 (bt a0 x5_1) = some r) ∧ Aside0 (kq ≤ k1) ∧ Drawn0 w wc)
          case first =>
            have H := HC5.out
            clear HC5
            by_cases c6 : (bt a0 x5_1) = 35
            · rw [if_pos c6] at H
              have c6b0 : ((bt a0 x5_1) == 35) = true := beq_iff_eq.mpr c6
              have c6b1 : ((bt a0 x5_1) != 35) = false := bne_eq_false_iff_eq.mpr c6
              clear c6
              (first | rw [c6b0] | (simp only [i64_w, i32_w]; rw [c6b0]) | skip)
              have H' := Aside0.mk H
              clear H
              go_wp2
              go_meet
              case rel => exact ⟨_, (true), (by first | rfl | (simp; done) | (simp [*]; done)), H', ⟨by have := HK1.out; first | omega | exact Nat.le_refl _⟩, by repeat (first | exact Drawn0.refl _ | apply Drawn0.step)⟩
            · rw [if_neg c6] at H
              have c6b0 : ((bt a0 x5_1) == 35) = false := beq_eq_false_iff_ne.mpr c6
              have c6b1 : ((bt a0 x5_1) != 35) = true := bne_iff_ne.mpr c6
              (first | rw [c6b0] | (simp only [i64_w, i32_w]; rw [c6b0]) | skip)
              have H' := Aside0.mk H
              clear H
              go_wp2
              go_meet
              case rel => exact ⟨_, (x4_1), (by first | rfl | (simp; done) | (simp [*]; done)), H', ⟨by have := HK1.out; first | omega | exact Nat.le_refl _⟩, by repeat (first | exact Drawn0.refl _ | apply Drawn0.step)⟩
          case rest =>
            clear HC5
            try clear c2
            try clear c2b0
            try clear p2
            try clear c3
            try clear c3b0
            try clear p4
            try clear q4
            try clear hx4
            try clear c6
            try clear c6b0
            try clear c6b1
            try clear p4
            try clear q4
            obtain ⟨kq, x4_4, rfl, HA, HJ4, ⟨mc4, rfl⟩⟩ := hcut
            cases kq with
            | zero => exact absurd HA.out (by simp [seedcornlaw50_digits.j1])
            | succ kj4 =>
              have H := HA.out
              clear HA
              simp only [seedcornlaw50_digits.j1] at H
              by_cases c7 : (bt a0 x5_1) = 10
              · rw [if_pos c7] at H
                have c7b0 : ((bt a0 x5_1) == 10) = true := beq_iff_eq.mpr c7
                have c7b1 : ((bt a0 x5_1) != 10) = false := bne_eq_false_iff_eq.mpr c7
                clear c7
                by_cases c8 : (bt a0 x5_1) ≥ 48
                · rw [if_pos c8] at H
                  have c8b0 : decide (48 ≤ (bt a0 x5_1)) = true := decide_eq_true c8
                  clear c8
                  by_cases c9 : (bt a0 x5_1) ≤ 57
                  · rw [if_pos c9] at H
                    have c9b0 : decide ((bt a0 x5_1) ≤ 57) = true := decide_eq_true c9
                    clear c9
                    have H' := Aside0.mk H
                    clear H
                    go_wp2
                    go_roundg kj4
                    case measure => have := HK1.out; have := HJ4.out; omega
                    case rel => exact ⟨(wrap64 (x3_1 + 1)), (false), (wrap64 (x5_1 + 1)), (by first | rfl | (simp; done) | (simp [*]; done)), (by first | rfl | (simp; done) | (simp [*]; done)), (by first | rfl | (simp; done) | (simp [*]; done)), H', ⟨by have := HK1.out; have := HJ4.out; omega⟩, by repeat (first | exact Drawn0.refl _ | apply Drawn0.step)⟩
                  · rw [if_neg c9] at H
                    have c9b0 : decide ((bt a0 x5_1) ≤ 57) = false := decide_eq_false c9
                    clear c9
                    by_cases c10 : (bt a0 x5_1) ≥ 97
                    · rw [if_pos c10] at H
                      have c10b0 : decide (97 ≤ (bt a0 x5_1)) = true := decide_eq_true c10
                      clear c10
                      by_cases c11 : (bt a0 x5_1) ≤ 102
                      · rw [if_pos c11] at H
                        have c11b0 : decide ((bt a0 x5_1) ≤ 102) = true := decide_eq_true c11
                        clear c11
                        have H' := Aside0.mk H
                        clear H
                        go_wp2
                        go_roundg kj4
                        case measure => have := HK1.out; have := HJ4.out; omega
                        case rel => exact ⟨(wrap64 (x3_1 + 1)), (false), (wrap64 (x5_1 + 1)), (by first | rfl | (simp; done) | (simp [*]; done)), (by first | rfl | (simp; done) | (simp [*]; done)), (by first | rfl | (simp; done) | (simp [*]; done)), H', ⟨by have := HK1.out; have := HJ4.out; omega⟩, by repeat (first | exact Drawn0.refl _ | apply Drawn0.step)⟩
                      · rw [if_neg c11] at H
                        have c11b0 : decide ((bt a0 x5_1) ≤ 102) = false := decide_eq_false c11
                        clear c11
                        by_cases c12 : (bt a0 x5_1) ≥ 65
                        · rw [if_pos c12] at H
                          have c12b0 : decide (65 ≤ (bt a0 x5_1)) = true := decide_eq_true c12
                          clear c12
                          by_cases c13 : (bt a0 x5_1) ≤ 70
                          · rw [if_pos c13] at H
                            have c13b0 : decide ((bt a0 x5_1) ≤ 70) = true := decide_eq_true c13
                            clear c13
                            have H' := Aside0.mk H
                            clear H
                            go_wp2
                            go_roundg kj4
                            case measure => have := HK1.out; have := HJ4.out; omega
                            case rel => exact ⟨(wrap64 (x3_1 + 1)), (false), (wrap64 (x5_1 + 1)), (by first | rfl | (simp; done) | (simp [*]; done)), (by first | rfl | (simp; done) | (simp [*]; done)), (by first | rfl | (simp; done) | (simp [*]; done)), H', ⟨by have := HK1.out; have := HJ4.out; omega⟩, by repeat (first | exact Drawn0.refl _ | apply Drawn0.step)⟩
                          · rw [if_neg c13] at H
                            have c13b0 : decide ((bt a0 x5_1) ≤ 70) = false := decide_eq_false c13
                            clear c13
                            have H' := Aside0.mk H
                            clear H
                            go_wp2
                            go_roundg kj4
                            case measure => have := HK1.out; have := HJ4.out; omega
                            case rel => exact ⟨(x3_1), (false), (wrap64 (x5_1 + 1)), (by first | rfl | (simp; done) | (simp [*]; done)), (by first | rfl | (simp; done) | (simp [*]; done)), (by first | rfl | (simp; done) | (simp [*]; done)), H', ⟨by have := HK1.out; have := HJ4.out; omega⟩, by repeat (first | exact Drawn0.refl _ | apply Drawn0.step)⟩
                        · rw [if_neg c12] at H
                          have c12b0 : decide (65 ≤ (bt a0 x5_1)) = false := decide_eq_false c12
                          clear c12
                          have H' := Aside0.mk H
                          clear H
                          go_wp2
                          go_roundg kj4
                          case measure => have := HK1.out; have := HJ4.out; omega
                          case rel => exact ⟨(x3_1), (false), (wrap64 (x5_1 + 1)), (by first | rfl | (simp; done) | (simp [*]; done)), (by first | rfl | (simp; done) | (simp [*]; done)), (by first | rfl | (simp; done) | (simp [*]; done)), H', ⟨by have := HK1.out; have := HJ4.out; omega⟩, by repeat (first | exact Drawn0.refl _ | apply Drawn0.step)⟩
                    · rw [if_neg c10] at H
                      have c10b0 : decide (97 ≤ (bt a0 x5_1)) = false := decide_eq_false c10
                      clear c10
                      by_cases c14 : (bt a0 x5_1) ≥ 65
                      · rw [if_pos c14] at H
                        have c14b0 : decide (65 ≤ (bt a0 x5_1)) = true := decide_eq_true c14
                        clear c14
                        by_cases c15 : (bt a0 x5_1) ≤ 70
                        · rw [if_pos c15] at H
                          have c15b0 : decide ((bt a0 x5_1) ≤ 70) = true := decide_eq_true c15
                          clear c15
                          have H' := Aside0.mk H
                          clear H
                          go_wp2
                          go_roundg kj4
                          case measure => have := HK1.out; have := HJ4.out; omega
                          case rel => exact ⟨(wrap64 (x3_1 + 1)), (false), (wrap64 (x5_1 + 1)), (by first | rfl | (simp; done) | (simp [*]; done)), (by first | rfl | (simp; done) | (simp [*]; done)), (by first | rfl | (simp; done) | (simp [*]; done)), H', ⟨by have := HK1.out; have := HJ4.out; omega⟩, by repeat (first | exact Drawn0.refl _ | apply Drawn0.step)⟩
                        · rw [if_neg c15] at H
                          have c15b0 : decide ((bt a0 x5_1) ≤ 70) = false := decide_eq_false c15
                          clear c15
                          have H' := Aside0.mk H
                          clear H
                          go_wp2
                          go_roundg kj4
                          case measure => have := HK1.out; have := HJ4.out; omega
                          case rel => exact ⟨(x3_1), (false), (wrap64 (x5_1 + 1)), (by first | rfl | (simp; done) | (simp [*]; done)), (by first | rfl | (simp; done) | (simp [*]; done)), (by first | rfl | (simp; done) | (simp [*]; done)), H', ⟨by have := HK1.out; have := HJ4.out; omega⟩, by repeat (first | exact Drawn0.refl _ | apply Drawn0.step)⟩
                      · rw [if_neg c14] at H
                        have c14b0 : decide (65 ≤ (bt a0 x5_1)) = false := decide_eq_false c14
                        clear c14
                        have H' := Aside0.mk H
                        clear H
                        go_wp2
                        go_roundg kj4
                        case measure => have := HK1.out; have := HJ4.out; omega
                        case rel => exact ⟨(x3_1), (false), (wrap64 (x5_1 + 1)), (by first | rfl | (simp; done) | (simp [*]; done)), (by first | rfl | (simp; done) | (simp [*]; done)), (by first | rfl | (simp; done) | (simp [*]; done)), H', ⟨by have := HK1.out; have := HJ4.out; omega⟩, by repeat (first | exact Drawn0.refl _ | apply Drawn0.step)⟩
                · rw [if_neg c8] at H
                  have c8b0 : decide (48 ≤ (bt a0 x5_1)) = false := decide_eq_false c8
                  clear c8
                  by_cases c16 : (bt a0 x5_1) ≥ 97
                  · rw [if_pos c16] at H
                    have c16b0 : decide (97 ≤ (bt a0 x5_1)) = true := decide_eq_true c16
                    clear c16
                    by_cases c17 : (bt a0 x5_1) ≤ 102
                    · rw [if_pos c17] at H
                      have c17b0 : decide ((bt a0 x5_1) ≤ 102) = true := decide_eq_true c17
                      clear c17
                      have H' := Aside0.mk H
                      clear H
                      go_wp2
                      go_roundg kj4
                      case measure => have := HK1.out; have := HJ4.out; omega
                      case rel => exact ⟨(wrap64 (x3_1 + 1)), (false), (wrap64 (x5_1 + 1)), (by first | rfl | (simp; done) | (simp [*]; done)), (by first | rfl | (simp; done) | (simp [*]; done)), (by first | rfl | (simp; done) | (simp [*]; done)), H', ⟨by have := HK1.out; have := HJ4.out; omega⟩, by repeat (first | exact Drawn0.refl _ | apply Drawn0.step)⟩
                    · rw [if_neg c17] at H
                      have c17b0 : decide ((bt a0 x5_1) ≤ 102) = false := decide_eq_false c17
                      clear c17
                      by_cases c18 : (bt a0 x5_1) ≥ 65
                      · rw [if_pos c18] at H
                        have c18b0 : decide (65 ≤ (bt a0 x5_1)) = true := decide_eq_true c18
                        clear c18
                        by_cases c19 : (bt a0 x5_1) ≤ 70
                        · rw [if_pos c19] at H
                          have c19b0 : decide ((bt a0 x5_1) ≤ 70) = true := decide_eq_true c19
                          clear c19
                          have H' := Aside0.mk H
                          clear H
                          go_wp2
                          go_roundg kj4
                          case measure => have := HK1.out; have := HJ4.out; omega
                          case rel => exact ⟨(wrap64 (x3_1 + 1)), (false), (wrap64 (x5_1 + 1)), (by first | rfl | (simp; done) | (simp [*]; done)), (by first | rfl | (simp; done) | (simp [*]; done)), (by first | rfl | (simp; done) | (simp [*]; done)), H', ⟨by have := HK1.out; have := HJ4.out; omega⟩, by repeat (first | exact Drawn0.refl _ | apply Drawn0.step)⟩
                        · rw [if_neg c19] at H
                          have c19b0 : decide ((bt a0 x5_1) ≤ 70) = false := decide_eq_false c19
                          clear c19
                          have H' := Aside0.mk H
                          clear H
                          go_wp2
                          go_roundg kj4
                          case measure => have := HK1.out; have := HJ4.out; omega
                          case rel => exact ⟨(x3_1), (false), (wrap64 (x5_1 + 1)), (by first | rfl | (simp; done) | (simp [*]; done)), (by first | rfl | (simp; done) | (simp [*]; done)), (by first | rfl | (simp; done) | (simp [*]; done)), H', ⟨by have := HK1.out; have := HJ4.out; omega⟩, by repeat (first | exact Drawn0.refl _ | apply Drawn0.step)⟩
                      · rw [if_neg c18] at H
                        have c18b0 : decide (65 ≤ (bt a0 x5_1)) = false := decide_eq_false c18
                        clear c18
                        have H' := Aside0.mk H
                        clear H
                        go_wp2
                        go_roundg kj4
                        case measure => have := HK1.out; have := HJ4.out; omega
                        case rel => exact ⟨(x3_1), (false), (wrap64 (x5_1 + 1)), (by first | rfl | (simp; done) | (simp [*]; done)), (by first | rfl | (simp; done) | (simp [*]; done)), (by first | rfl | (simp; done) | (simp [*]; done)), H', ⟨by have := HK1.out; have := HJ4.out; omega⟩, by repeat (first | exact Drawn0.refl _ | apply Drawn0.step)⟩
                  · rw [if_neg c16] at H
                    have c16b0 : decide (97 ≤ (bt a0 x5_1)) = false := decide_eq_false c16
                    clear c16
                    by_cases c20 : (bt a0 x5_1) ≥ 65
                    · rw [if_pos c20] at H
                      have c20b0 : decide (65 ≤ (bt a0 x5_1)) = true := decide_eq_true c20
                      clear c20
                      by_cases c21 : (bt a0 x5_1) ≤ 70
                      · rw [if_pos c21] at H
                        have c21b0 : decide ((bt a0 x5_1) ≤ 70) = true := decide_eq_true c21
                        clear c21
                        have H' := Aside0.mk H
                        clear H
                        go_wp2
                        go_roundg kj4
                        case measure => have := HK1.out; have := HJ4.out; omega
                        case rel => exact ⟨(wrap64 (x3_1 + 1)), (false), (wrap64 (x5_1 + 1)), (by first | rfl | (simp; done) | (simp [*]; done)), (by first | rfl | (simp; done) | (simp [*]; done)), (by first | rfl | (simp; done) | (simp [*]; done)), H', ⟨by have := HK1.out; have := HJ4.out; omega⟩, by repeat (first | exact Drawn0.refl _ | apply Drawn0.step)⟩
                      · rw [if_neg c21] at H
                        have c21b0 : decide ((bt a0 x5_1) ≤ 70) = false := decide_eq_false c21
                        clear c21
                        have H' := Aside0.mk H
                        clear H
                        go_wp2
                        go_roundg kj4
                        case measure => have := HK1.out; have := HJ4.out; omega
                        case rel => exact ⟨(x3_1), (false), (wrap64 (x5_1 + 1)), (by first | rfl | (simp; done) | (simp [*]; done)), (by first | rfl | (simp; done) | (simp [*]; done)), (by first | rfl | (simp; done) | (simp [*]; done)), H', ⟨by have := HK1.out; have := HJ4.out; omega⟩, by repeat (first | exact Drawn0.refl _ | apply Drawn0.step)⟩
                    · rw [if_neg c20] at H
                      have c20b0 : decide (65 ≤ (bt a0 x5_1)) = false := decide_eq_false c20
                      clear c20
                      have H' := Aside0.mk H
                      clear H
                      go_wp2
                      go_roundg kj4
                      case measure => have := HK1.out; have := HJ4.out; omega
                      case rel => exact ⟨(x3_1), (false), (wrap64 (x5_1 + 1)), (by first | rfl | (simp; done) | (simp [*]; done)), (by first | rfl | (simp; done) | (simp [*]; done)), (by first | rfl | (simp; done) | (simp [*]; done)), H', ⟨by have := HK1.out; have := HJ4.out; omega⟩, by repeat (first | exact Drawn0.refl _ | apply Drawn0.step)⟩
              · rw [if_neg c7] at H
                have c7b0 : ((bt a0 x5_1) == 10) = false := beq_eq_false_iff_ne.mpr c7
                have c7b1 : ((bt a0 x5_1) != 10) = true := bne_iff_ne.mpr c7
                by_cases c22 : x4_4 = true
                · subst c22
                  have H1 : (seedcornlaw50_digits.l0 kj4 a0 x3_1 true (wrap64 (x5_1 + 1))) = some r := by rw [if_pos rfl] at H; exact H
                  clear H
                  have H := H1
                  clear H1
                  have H' := Aside0.mk H
                  clear H
                  go_wp2
                  go_roundg kj4
                  case measure => have := HK1.out; have := HJ4.out; omega
                  case rel => exact ⟨(x3_1), (true), (wrap64 (x5_1 + 1)), (by first | rfl | (simp; done) | (simp [*]; done)), (by first | rfl | (simp; done) | (simp [*]; done)), (by first | rfl | (simp; done) | (simp [*]; done)), H', ⟨by have := HK1.out; have := HJ4.out; omega⟩, by repeat (first | exact Drawn0.refl _ | apply Drawn0.step)⟩
                · replace c22 := Bool.eq_false_iff.mpr c22
                  subst c22
                  have H1 : (if (bt a0 x5_1) ≥ 48 then (if (bt a0 x5_1) ≤ 57 then (seedcornlaw50_digits.l0 kj4 a0 (wrap64 (x3_1 + 1)) false (wrap64 (x5_1 + 1))) else (if (bt a0 x5_1) ≥ 97 then (if (bt a0 x5_1) ≤ 102 then (seedcornlaw50_digits.l0 kj4 a0 (wrap64 (x3_1 + 1)) false (wrap64 (x5_1 + 1))) else (if (bt a0 x5_1) ≥ 65 then (if (bt a0 x5_1) ≤ 70 then (seedcornlaw50_digits.l0 kj4 a0 (wrap64 (x3_1 + 1)) false (wrap64 (x5_1 + 1))) else (seedcornlaw50_digits.l0 kj4 a0 x3_1 false (wrap64 (x5_1 + 1)))) else (seedcornlaw50_digits.l0 kj4 a0 x3_1 false (wrap64 (x5_1 + 1))))) else (if (bt a0 x5_1) ≥ 65 then (if (bt a0 x5_1) ≤ 70 then (seedcornlaw50_digits.l0 kj4 a0 (wrap64 (x3_1 + 1)) false (wrap64 (x5_1 + 1))) else (seedcornlaw50_digits.l0 kj4 a0 x3_1 false (wrap64 (x5_1 + 1)))) else (seedcornlaw50_digits.l0 kj4 a0 x3_1 false (wrap64 (x5_1 + 1)))))) else (if (bt a0 x5_1) ≥ 97 then (if (bt a0 x5_1) ≤ 102 then (seedcornlaw50_digits.l0 kj4 a0 (wrap64 (x3_1 + 1)) false (wrap64 (x5_1 + 1))) else (if (bt a0 x5_1) ≥ 65 then (if (bt a0 x5_1) ≤ 70 then (seedcornlaw50_digits.l0 kj4 a0 (wrap64 (x3_1 + 1)) false (wrap64 (x5_1 + 1))) else (seedcornlaw50_digits.l0 kj4 a0 x3_1 false (wrap64 (x5_1 + 1)))) else (seedcornlaw50_digits.l0 kj4 a0 x3_1 false (wrap64 (x5_1 + 1))))) else (if (bt a0 x5_1) ≥ 65 then (if (bt a0 x5_1) ≤ 70 then (seedcornlaw50_digits.l0 kj4 a0 (wrap64 (x3_1 + 1)) false (wrap64 (x5_1 + 1))) else (seedcornlaw50_digits.l0 kj4 a0 x3_1 false (wrap64 (x5_1 + 1)))) else (seedcornlaw50_digits.l0 kj4 a0 x3_1 false (wrap64 (x5_1 + 1)))))) = some r := by rw [if_neg (show ¬ (false = true) by decide)] at H; exact H
                  clear H
                  have H := H1
                  clear H1
                  by_cases c23 : (bt a0 x5_1) ≥ 48
                  · rw [if_pos c23] at H
                    have c23b0 : decide (48 ≤ (bt a0 x5_1)) = true := decide_eq_true c23
                    clear c23
                    by_cases c24 : (bt a0 x5_1) ≤ 57
                    · rw [if_pos c24] at H
                      have c24b0 : decide ((bt a0 x5_1) ≤ 57) = true := decide_eq_true c24
                      clear c24
                      have H' := Aside0.mk H
                      clear H
                      go_wp2
                      go_roundg kj4
                      case measure => have := HK1.out; have := HJ4.out; omega
                      case rel => exact ⟨(wrap64 (x3_1 + 1)), (false), (wrap64 (x5_1 + 1)), (by first | rfl | (simp; done) | (simp [*]; done)), (by first | rfl | (simp; done) | (simp [*]; done)), (by first | rfl | (simp; done) | (simp [*]; done)), H', ⟨by have := HK1.out; have := HJ4.out; omega⟩, by repeat (first | exact Drawn0.refl _ | apply Drawn0.step)⟩
                    · rw [if_neg c24] at H
                      have c24b0 : decide ((bt a0 x5_1) ≤ 57) = false := decide_eq_false c24
                      clear c24
                      by_cases c25 : (bt a0 x5_1) ≥ 97
                      · rw [if_pos c25] at H
                        have c25b0 : decide (97 ≤ (bt a0 x5_1)) = true := decide_eq_true c25
                        clear c25
                        by_cases c26 : (bt a0 x5_1) ≤ 102
                        · rw [if_pos c26] at H
                          have c26b0 : decide ((bt a0 x5_1) ≤ 102) = true := decide_eq_true c26
                          clear c26
                          have H' := Aside0.mk H
                          clear H
                          go_wp2
                          go_roundg kj4
                          case measure => have := HK1.out; have := HJ4.out; omega
                          case rel => exact ⟨(wrap64 (x3_1 + 1)), (false), (wrap64 (x5_1 + 1)), (by first | rfl | (simp; done) | (simp [*]; done)), (by first | rfl | (simp; done) | (simp [*]; done)), (by first | rfl | (simp; done) | (simp [*]; done)), H', ⟨by have := HK1.out; have := HJ4.out; omega⟩, by repeat (first | exact Drawn0.refl _ | apply Drawn0.step)⟩
                        · rw [if_neg c26] at H
                          have c26b0 : decide ((bt a0 x5_1) ≤ 102) = false := decide_eq_false c26
                          clear c26
                          by_cases c27 : (bt a0 x5_1) ≥ 65
                          · rw [if_pos c27] at H
                            have c27b0 : decide (65 ≤ (bt a0 x5_1)) = true := decide_eq_true c27
                            clear c27
                            by_cases c28 : (bt a0 x5_1) ≤ 70
                            · rw [if_pos c28] at H
                              have c28b0 : decide ((bt a0 x5_1) ≤ 70) = true := decide_eq_true c28
                              clear c28
                              have H' := Aside0.mk H
                              clear H
                              go_wp2
                              go_roundg kj4
                              case measure => have := HK1.out; have := HJ4.out; omega
                              case rel => exact ⟨(wrap64 (x3_1 + 1)), (false), (wrap64 (x5_1 + 1)), (by first | rfl | (simp; done) | (simp [*]; done)), (by first | rfl | (simp; done) | (simp [*]; done)), (by first | rfl | (simp; done) | (simp [*]; done)), H', ⟨by have := HK1.out; have := HJ4.out; omega⟩, by repeat (first | exact Drawn0.refl _ | apply Drawn0.step)⟩
                            · rw [if_neg c28] at H
                              have c28b0 : decide ((bt a0 x5_1) ≤ 70) = false := decide_eq_false c28
                              clear c28
                              have H' := Aside0.mk H
                              clear H
                              go_wp2
                              go_roundg kj4
                              case measure => have := HK1.out; have := HJ4.out; omega
                              case rel => exact ⟨(x3_1), (false), (wrap64 (x5_1 + 1)), (by first | rfl | (simp; done) | (simp [*]; done)), (by first | rfl | (simp; done) | (simp [*]; done)), (by first | rfl | (simp; done) | (simp [*]; done)), H', ⟨by have := HK1.out; have := HJ4.out; omega⟩, by repeat (first | exact Drawn0.refl _ | apply Drawn0.step)⟩
                          · rw [if_neg c27] at H
                            have c27b0 : decide (65 ≤ (bt a0 x5_1)) = false := decide_eq_false c27
                            clear c27
                            have H' := Aside0.mk H
                            clear H
                            go_wp2
                            go_roundg kj4
                            case measure => have := HK1.out; have := HJ4.out; omega
                            case rel => exact ⟨(x3_1), (false), (wrap64 (x5_1 + 1)), (by first | rfl | (simp; done) | (simp [*]; done)), (by first | rfl | (simp; done) | (simp [*]; done)), (by first | rfl | (simp; done) | (simp [*]; done)), H', ⟨by have := HK1.out; have := HJ4.out; omega⟩, by repeat (first | exact Drawn0.refl _ | apply Drawn0.step)⟩
                      · rw [if_neg c25] at H
                        have c25b0 : decide (97 ≤ (bt a0 x5_1)) = false := decide_eq_false c25
                        clear c25
                        by_cases c29 : (bt a0 x5_1) ≥ 65
                        · rw [if_pos c29] at H
                          have c29b0 : decide (65 ≤ (bt a0 x5_1)) = true := decide_eq_true c29
                          clear c29
                          by_cases c30 : (bt a0 x5_1) ≤ 70
                          · rw [if_pos c30] at H
                            have c30b0 : decide ((bt a0 x5_1) ≤ 70) = true := decide_eq_true c30
                            clear c30
                            have H' := Aside0.mk H
                            clear H
                            go_wp2
                            go_roundg kj4
                            case measure => have := HK1.out; have := HJ4.out; omega
                            case rel => exact ⟨(wrap64 (x3_1 + 1)), (false), (wrap64 (x5_1 + 1)), (by first | rfl | (simp; done) | (simp [*]; done)), (by first | rfl | (simp; done) | (simp [*]; done)), (by first | rfl | (simp; done) | (simp [*]; done)), H', ⟨by have := HK1.out; have := HJ4.out; omega⟩, by repeat (first | exact Drawn0.refl _ | apply Drawn0.step)⟩
                          · rw [if_neg c30] at H
                            have c30b0 : decide ((bt a0 x5_1) ≤ 70) = false := decide_eq_false c30
                            clear c30
                            have H' := Aside0.mk H
                            clear H
                            go_wp2
                            go_roundg kj4
                            case measure => have := HK1.out; have := HJ4.out; omega
                            case rel => exact ⟨(x3_1), (false), (wrap64 (x5_1 + 1)), (by first | rfl | (simp; done) | (simp [*]; done)), (by first | rfl | (simp; done) | (simp [*]; done)), (by first | rfl | (simp; done) | (simp [*]; done)), H', ⟨by have := HK1.out; have := HJ4.out; omega⟩, by repeat (first | exact Drawn0.refl _ | apply Drawn0.step)⟩
                        · rw [if_neg c29] at H
                          have c29b0 : decide (65 ≤ (bt a0 x5_1)) = false := decide_eq_false c29
                          clear c29
                          have H' := Aside0.mk H
                          clear H
                          go_wp2
                          go_roundg kj4
                          case measure => have := HK1.out; have := HJ4.out; omega
                          case rel => exact ⟨(x3_1), (false), (wrap64 (x5_1 + 1)), (by first | rfl | (simp; done) | (simp [*]; done)), (by first | rfl | (simp; done) | (simp [*]; done)), (by first | rfl | (simp; done) | (simp [*]; done)), H', ⟨by have := HK1.out; have := HJ4.out; omega⟩, by repeat (first | exact Drawn0.refl _ | apply Drawn0.step)⟩
                  · rw [if_neg c23] at H
                    have c23b0 : decide (48 ≤ (bt a0 x5_1)) = false := decide_eq_false c23
                    clear c23
                    by_cases c31 : (bt a0 x5_1) ≥ 97
                    · rw [if_pos c31] at H
                      have c31b0 : decide (97 ≤ (bt a0 x5_1)) = true := decide_eq_true c31
                      clear c31
                      by_cases c32 : (bt a0 x5_1) ≤ 102
                      · rw [if_pos c32] at H
                        have c32b0 : decide ((bt a0 x5_1) ≤ 102) = true := decide_eq_true c32
                        clear c32
                        have H' := Aside0.mk H
                        clear H
                        go_wp2
                        go_roundg kj4
                        case measure => have := HK1.out; have := HJ4.out; omega
                        case rel => exact ⟨(wrap64 (x3_1 + 1)), (false), (wrap64 (x5_1 + 1)), (by first | rfl | (simp; done) | (simp [*]; done)), (by first | rfl | (simp; done) | (simp [*]; done)), (by first | rfl | (simp; done) | (simp [*]; done)), H', ⟨by have := HK1.out; have := HJ4.out; omega⟩, by repeat (first | exact Drawn0.refl _ | apply Drawn0.step)⟩
                      · rw [if_neg c32] at H
                        have c32b0 : decide ((bt a0 x5_1) ≤ 102) = false := decide_eq_false c32
                        clear c32
                        by_cases c33 : (bt a0 x5_1) ≥ 65
                        · rw [if_pos c33] at H
                          have c33b0 : decide (65 ≤ (bt a0 x5_1)) = true := decide_eq_true c33
                          clear c33
                          by_cases c34 : (bt a0 x5_1) ≤ 70
                          · rw [if_pos c34] at H
                            have c34b0 : decide ((bt a0 x5_1) ≤ 70) = true := decide_eq_true c34
                            clear c34
                            have H' := Aside0.mk H
                            clear H
                            go_wp2
                            go_roundg kj4
                            case measure => have := HK1.out; have := HJ4.out; omega
                            case rel => exact ⟨(wrap64 (x3_1 + 1)), (false), (wrap64 (x5_1 + 1)), (by first | rfl | (simp; done) | (simp [*]; done)), (by first | rfl | (simp; done) | (simp [*]; done)), (by first | rfl | (simp; done) | (simp [*]; done)), H', ⟨by have := HK1.out; have := HJ4.out; omega⟩, by repeat (first | exact Drawn0.refl _ | apply Drawn0.step)⟩
                          · rw [if_neg c34] at H
                            have c34b0 : decide ((bt a0 x5_1) ≤ 70) = false := decide_eq_false c34
                            clear c34
                            have H' := Aside0.mk H
                            clear H
                            go_wp2
                            go_roundg kj4
                            case measure => have := HK1.out; have := HJ4.out; omega
                            case rel => exact ⟨(x3_1), (false), (wrap64 (x5_1 + 1)), (by first | rfl | (simp; done) | (simp [*]; done)), (by first | rfl | (simp; done) | (simp [*]; done)), (by first | rfl | (simp; done) | (simp [*]; done)), H', ⟨by have := HK1.out; have := HJ4.out; omega⟩, by repeat (first | exact Drawn0.refl _ | apply Drawn0.step)⟩
                        · rw [if_neg c33] at H
                          have c33b0 : decide (65 ≤ (bt a0 x5_1)) = false := decide_eq_false c33
                          clear c33
                          have H' := Aside0.mk H
                          clear H
                          go_wp2
                          go_roundg kj4
                          case measure => have := HK1.out; have := HJ4.out; omega
                          case rel => exact ⟨(x3_1), (false), (wrap64 (x5_1 + 1)), (by first | rfl | (simp; done) | (simp [*]; done)), (by first | rfl | (simp; done) | (simp [*]; done)), (by first | rfl | (simp; done) | (simp [*]; done)), H', ⟨by have := HK1.out; have := HJ4.out; omega⟩, by repeat (first | exact Drawn0.refl _ | apply Drawn0.step)⟩
                    · rw [if_neg c31] at H
                      have c31b0 : decide (97 ≤ (bt a0 x5_1)) = false := decide_eq_false c31
                      clear c31
                      by_cases c35 : (bt a0 x5_1) ≥ 65
                      · rw [if_pos c35] at H
                        have c35b0 : decide (65 ≤ (bt a0 x5_1)) = true := decide_eq_true c35
                        clear c35
                        by_cases c36 : (bt a0 x5_1) ≤ 70
                        · rw [if_pos c36] at H
                          have c36b0 : decide ((bt a0 x5_1) ≤ 70) = true := decide_eq_true c36
                          clear c36
                          have H' := Aside0.mk H
                          clear H
                          go_wp2
                          go_roundg kj4
                          case measure => have := HK1.out; have := HJ4.out; omega
                          case rel => exact ⟨(wrap64 (x3_1 + 1)), (false), (wrap64 (x5_1 + 1)), (by first | rfl | (simp; done) | (simp [*]; done)), (by first | rfl | (simp; done) | (simp [*]; done)), (by first | rfl | (simp; done) | (simp [*]; done)), H', ⟨by have := HK1.out; have := HJ4.out; omega⟩, by repeat (first | exact Drawn0.refl _ | apply Drawn0.step)⟩
                        · rw [if_neg c36] at H
                          have c36b0 : decide ((bt a0 x5_1) ≤ 70) = false := decide_eq_false c36
                          clear c36
                          have H' := Aside0.mk H
                          clear H
                          go_wp2
                          go_roundg kj4
                          case measure => have := HK1.out; have := HJ4.out; omega
                          case rel => exact ⟨(x3_1), (false), (wrap64 (x5_1 + 1)), (by first | rfl | (simp; done) | (simp [*]; done)), (by first | rfl | (simp; done) | (simp [*]; done)), (by first | rfl | (simp; done) | (simp [*]; done)), H', ⟨by have := HK1.out; have := HJ4.out; omega⟩, by repeat (first | exact Drawn0.refl _ | apply Drawn0.step)⟩
                      · rw [if_neg c35] at H
                        have c35b0 : decide (65 ≤ (bt a0 x5_1)) = false := decide_eq_false c35
                        clear c35
                        have H' := Aside0.mk H
                        clear H
                        go_wp2
                        go_roundg kj4
                        case measure => have := HK1.out; have := HJ4.out; omega
                        case rel => exact ⟨(x3_1), (false), (wrap64 (x5_1 + 1)), (by first | rfl | (simp; done) | (simp [*]; done)), (by first | rfl | (simp; done) | (simp [*]; done)), (by first | rfl | (simp; done) | (simp [*]; done)), H', ⟨by have := HK1.out; have := HJ4.out; omega⟩, by repeat (first | exact Drawn0.refl _ | apply Drawn0.step)⟩
        · rw [if_neg c3] at H
          exact absurd H (by simp)
      · rw [if_neg c2] at H
        have c2b0 : decide (x5_1 < (a0.size : Int)) = false := decide_eq_false c2
        clear c2
        obtain rfl := Option.some.inj H
        go_wp2
        go_ret
        exact ⟨by first | rfl | (simp; done) | (simp [*]; done), by repeat (first | exact Drawn0.refl _ | apply Drawn0.step)⟩
end Go.Proofs.YtdhkmdgieflioaaDoor.F
namespace Go.Proofs.YtdhkmdgieflioaaDoor.F
open Go.RowKit Go.Proofs.YtdhkmdgieflioaaDoorW.PrintWords Go.Proofs.YtdhkmdgieflioaaDoorW.PrintLast Go.Proofs.YtdhkmdgieflioaaDoorW.PrintMore
attribute [local go_sem] max2_int min2_int max_two min_two max_three min_three max_four min_four
set_option linter.unusedVariables false
set_option linter.unusedSimpArgs false
def seedcornlaw50_SeedTwo.j0 : Nat → ByteArray → ByteArray → Bool → Option (Bool)
  | 0, _, _, _ => none
  | k + 1, x0, x1, x25 => if x25 = true then ((seedcornlaw50_awake.f k).bind fun t248 => (some t248)) else ((seed_Image.f k).bind fun t249 => ((seedcornref50_Steps.f (x0.size : Int)).bind fun t250 => ((seedcornref10_Bytes.f k t249 x0 t250).bind fun bt251 => ((seedcornref50_Steps.f (x1.size : Int)).bind fun t256 => ((seedcornref10_Bytes.f k t249 x1 t256).bind fun bt257 => (if x0.size + 1 ≤ 9223372036854775807 then (if (x0 ++ (⟨#[10]⟩ : ByteArray)).size + x1.size ≤ 9223372036854775807 then ((seedcornref50_Steps.f (wrap64 ((wrap64 ((x0.size : Int) + (x1.size : Int))) + 1))).bind fun t262 => ((seedcornref10_Bytes.f k t249 ((x0 ++ (⟨#[10]⟩ : ByteArray)) ++ x1) t262).bind fun bt263 => ((seedcornlaw50_awake.f k).bind fun t268 => (if t268 = true then (if bt251.2.2.2 = 0 then (if bt257.2.2.2 = 0 then (if bt263.2.2.2 = 0 then (if bt263.1 = 1 then (if bt251.2.1.size + bt257.2.1.size ≤ 9223372036854775807 then (if bt263.2.1.toList = (bt251.2.1 ++ bt257.2.1).toList then ((seedcornlaw50_digits.f k x0).bind fun t269 => (some ((bt251.2.1.size : Int) == (wrap64 (Int.tdiv t269 2))))) else (some false)) else (none)) else (some false)) else (some false)) else (some false)) else (some false)) else (some false))))) else (none)) else (none)))))))
def seedcornlaw50_SeedTwo.f (k : Nat) (a0 : ByteArray) (a1 : ByteArray) : Option (Bool) := if (a0.size : Int) > 150 then (seedcornlaw50_SeedTwo.j0 k a0 a1 true) else (if (a1.size : Int) > 150 then (seedcornlaw50_SeedTwo.j0 k a0 a1 true) else ((seedcornlaw50_digits.f k a0).bind fun t247 => (seedcornlaw50_SeedTwo.j0 k a0 a1 ((Int.tmod t247 2) == 1))))
theorem seedcornlaw50_SeedTwo.mono_l : ∀ k, (∀ y0 y1 y2, LeO (seedcornlaw50_SeedTwo.j0 k y0 y1 y2) (seedcornlaw50_SeedTwo.j0 (k + 1) y0 y1 y2))
  | 0 => fun _ _ _ r h => by simp [seedcornlaw50_SeedTwo.j0] at h
  | k + 1 => by
    have ih0 := seedcornlaw50_SeedTwo.mono_l k
    · intro y0 y1 y2
      unfold seedcornlaw50_SeedTwo.j0
      repeat' first
      | (with_reducible exact ih0 _ _ _)
      | (with_reducible exact seed_Image.mono _)
      | (with_reducible exact seedcornlaw50_awake.mono _)
      | (with_reducible exact seedcornlaw50_digits.mono _ _)
      | (with_reducible exact seedcornref10_Bytes.mono _ _ _ _)
      | (with_reducible exact LeO.refl _)
      | (with_reducible exact LeO.none _)
      | (with_reducible refine LeO.ite ?_ ?_)
      | (with_reducible refine LeO.bind ?_ (fun _ => ?_))
      | exact ih0 _ _ _
      | exact seed_Image.mono _
      | exact seedcornlaw50_awake.mono _
      | exact seedcornlaw50_digits.mono _ _
      | exact seedcornref10_Bytes.mono _ _ _ _
      | exact LeO.none _
      | refine LeO.ite ?_ ?_
      | refine LeO.bind ?_ (fun _ => ?_)
theorem seedcornlaw50_SeedTwo.mono : ∀ a0 a1 k, LeO (seedcornlaw50_SeedTwo.f k a0 a1) (seedcornlaw50_SeedTwo.f (k + 1) a0 a1) := by
  intro a0 a1 k
  have ih0 := seedcornlaw50_SeedTwo.mono_l k
  unfold seedcornlaw50_SeedTwo.f
  repeat' first
      | (with_reducible exact ih0 _ _ _)
      | (with_reducible exact seed_Image.mono _)
      | (with_reducible exact seedcornlaw50_awake.mono _)
      | (with_reducible exact seedcornlaw50_digits.mono _ _)
      | (with_reducible exact seedcornref10_Bytes.mono _ _ _ _)
      | (with_reducible exact LeO.refl _)
      | (with_reducible exact LeO.none _)
      | (with_reducible refine LeO.ite ?_ ?_)
      | (with_reducible refine LeO.bind ?_ (fun _ => ?_))
      | exact ih0 _ _ _
      | exact seed_Image.mono _
      | exact seedcornlaw50_awake.mono _
      | exact seedcornlaw50_digits.mono _ _
      | exact seedcornref10_Bytes.mono _ _ _ _
      | exact LeO.none _
      | refine LeO.ite ?_ ?_
      | refine LeO.bind ?_ (fun _ => ?_)
def seedcornlaw50_SeedTwo.T7 : Bool × List (List Nat × List Nat) := (true, [([], []), ([0, 0], [0]), ([1], [1]), ([2, 1], [1, 2]), ([1, 3], [1, 3]), ([4, 1], [4]), ([5], [5]), ([6, 5], [5, 6]), ([5, 7], [5, 7]), ([8, 5], [8]), ([9], [9]), ([10, 9], [9, 10]), ([9, 11], [9, 11]), ([12, 9], [12]), ([13], [13]), ([14, 13], [13, 14]), ([15, 13], [13, 15]), ([13, 16], [13, 16]), ([17, 13], [17]), ([18], [18]), ([19, 18], [18, 19]), ([18], [18]), ([21, 18], [18, 21]), ([18], [18]), ([23, 18], [18, 23]), ([22, 24, 18], [18, 22, 24]), ([20, 25, 18], [18, 20, 25]), ([18, 26], [18, 26]), ([27, 18], [27]), ([28], [28]), ([29, 28], [28, 29]), ([30, 28], [28, 30]), ([28], [28]), ([32, 28, 28], [28, 32]), ([33, 28], [28, 33]), ([31, 34, 28], [28, 31, 34]), ([28, 35], [28, 35]), ([36, 33, 0, 1, 2, 3, 4, 5, 6, 7, 8, 9, 10, 11, 12, 13, 14, 15, 16, 17, 18, 19, 20, 21, 22, 23, 24, 25, 26, 27, 28, 29, 30, 31, 32, 33, 34, 35, 36], [36])])
def seedcornlaw50_SeedTwo.B7 : List Nat := [0, 1, 3, 7, 15, 31, 63, 127, 255, 511, 1023, 2047, 4095, 8191, 16383, 32767, 65535, 131071, 262143, 524287, 1048575, 524287, 2621439, 524287, 8912895, 31981567, 67108863, 134217727, 268435455, 536870911, 1073741823, 2147483647, 536870911, 4831838207, 13421772799, 34359738367, 68719476735, 137438953471]
theorem seedcornlaw50_SeedTwo.tab7 : rtab .any (opsOf Tryd.f7 7) = seedcornlaw50_SeedTwo.T7 := by kernel_rfl
theorem seedcornlaw50_SeedTwo.bits7 : waitsOk seedcornlaw50_SeedTwo.T7.2 seedcornlaw50_SeedTwo.B7 = true := by kernel_rfl
set_option maxHeartbeats 8000000 in
set_option maxRecDepth 100000 in
theorem seedcornlaw50_SeedTwo.calls (k : Nat) (a0 : ByteArray) (a1 : ByteArray) (r : Bool) (w : World) (hGC : GC w) (hGK : GK w) (h : seedcornlaw50_SeedTwo.f k a0 a1 = some r) (hrt : r = true) :
    Calls Tryd.prog 7 #[.string a0, .string a1] w fun e w' => e = .returned (.bool r) ∧ Below w.heap.size w w' := by
  have HRT := Aside0.mk hrt
  clear hrt
  have hu38 := Tryd.underlying38
  have HGC := Aside0.mk hGC
  clear hGC
  have HGK := Aside0.mk hGK
  clear hGK
  have HB := Aside0.mk (Below.refl w.heap.size w)
  have H : (if (a0.size : Int) > 150 then (seedcornlaw50_SeedTwo.j0 k a0 a1 true) else (if (a1.size : Int) > 150 then (seedcornlaw50_SeedTwo.j0 k a0 a1 true) else ((seedcornlaw50_digits.f k a0).bind fun t247 => (seedcornlaw50_SeedTwo.j0 k a0 a1 ((Int.tmod t247 2) == 1))))) = some r := h
  clear h
  have HC3 := Aside0.mk H
  clear H
  go_enter Tryd.func7, Tryd.ntmps7
  go_upto_region 1 with (fail)
  go_cut [25] (fun v25 wc => ∃ (kq : Nat) (x25_2 : Bool), v25 = .bool x25_2 ∧ Aside0 (seedcornlaw50_SeedTwo.j0 kq a0 a1 x25_2 = some r) ∧ Aside0 (kq ≤ k) ∧ Aside0 (Below w.heap.size w wc))
  case first =>
    have H := HC3.out
    clear HC3
    by_cases c4 : (a0.size : Int) > 150
    · rw [if_pos c4] at H
      have c4b0 : decide (150 < (a0.size : Int)) = true := decide_eq_true c4
      have c4b1 : decide (150 < a0.size) = true := decide_eq_true (by omega)
      clear c4
      (first | rw [c4b0] | (simp only [i64_w, i32_w]; rw [c4b0]) | skip)
      have H' := Aside0.mk H
      clear H
      go_wp2
      go_meet
      case rel => exact ⟨_, (true), (by first | rfl | (simp; done) | (simp [*]; done)), H', ⟨by first | omega | exact Nat.le_refl _⟩, ⟨by repeat (first | (with_reducible first | exact HB.out | apply below_alloc | apply pw_below_drewN | apply below_drew1) | exact HB.out)⟩⟩
    · rw [if_neg c4] at H
      have c4b0 : decide (150 < (a0.size : Int)) = false := decide_eq_false c4
      have c4b1 : decide (150 < a0.size) = false := decide_eq_false (by omega)
      clear c4
      (first | rw [c4b0] | (simp only [i64_w, i32_w]; rw [c4b0]) | skip)
      by_cases c5 : (a1.size : Int) > 150
      · rw [if_pos c5] at H
        have c5b0 : decide (150 < (a1.size : Int)) = true := decide_eq_true c5
        have c5b1 : decide (150 < a1.size) = true := decide_eq_true (by omega)
        clear c5
        have H' := Aside0.mk H
        clear H
        go_wp2
        go_meet
        case rel => exact ⟨_, (true), (by first | rfl | (simp; done) | (simp [*]; done)), H', ⟨by first | omega | exact Nat.le_refl _⟩, ⟨by repeat (first | (with_reducible first | exact HB.out | apply below_alloc | apply pw_below_drewN | apply below_drew1) | exact HB.out)⟩⟩
      · rw [if_neg c5] at H
        have c5b0 : decide (150 < (a1.size : Int)) = false := decide_eq_false c5
        have c5b1 : decide (150 < a1.size) = false := decide_eq_false (by omega)
        clear c5
        replace H := Option.bind_eq_some_iff.mp H
        obtain ⟨t247, A60, H⟩ := H
        replace H : (seedcornlaw50_SeedTwo.j0 k a0 a1 ((Int.tmod t247 2) == 1)) = some r := H
        have A6 := Aside0.mk A60
        clear A60
        have H' := Aside0.mk H
        clear H
        go_wp2_with (first | (go_at_call 30; (with_reducible refine (seedcornlaw50_digits.calls k a0 t247 _ A6.out).mono ?_); rintro e w' ⟨rfl, ⟨nd, rfl⟩⟩))
        go_meet
        case rel => exact ⟨_, (((Int.tmod t247 2) == 1)), (by first | rfl | (simp; done) | (simp [*]; done)), H', ⟨by first | omega | exact Nat.le_refl _⟩, ⟨by repeat (first | (with_reducible first | exact HB.out | apply below_alloc | apply pw_below_drewN | apply below_drew1) | exact HB.out)⟩⟩
  case rest =>
    clear HC3
    try clear p2
    try clear c4
    try clear c4b0
    try clear c4b1
    try clear c5
    try clear c5b0
    try clear c5b1
    obtain ⟨kq, x25_2, rfl, HA, HJ2, HB⟩ := hcut
    cases kq with
    | zero => exact absurd HA.out (by simp [seedcornlaw50_SeedTwo.j0])
    | succ kj2 =>
      have H := HA.out
      clear HA
      simp only [seedcornlaw50_SeedTwo.j0] at H
      by_cases c7 : x25_2 = true
      · subst c7
        have H1 : ((seedcornlaw50_awake.f kj2).bind fun t248 => (some t248)) = some r := by rw [if_pos rfl] at H; exact H
        clear H
        have H := H1
        clear H1
        replace H := Option.bind_eq_some_iff.mp H
        obtain ⟨t248, A80, H⟩ := H
        replace H : (some t248) = some r := H
        have A8 := Aside0.mk A80
        clear A80
        obtain rfl := Option.some.inj H
        go_wp2_with (first | ((with_reducible refine gate_callee (f := 22) rfl ?_); refine goesL_ (some 26) rfl rfl Tryd.func22 (by kernel_rfl) rfl #[] rfl (by (try simp only [List.map_toArray, List.map_cons, List.map_nil]); first | done | rfl | (simp only [List.length_drop, List.length_take]; rfl)) ?_; (with_reducible refine (seedcornlaw50_awake.calls kj2  t248 _ ?side1 ?side2 A8.out).mono ?_); (case side1 => exact GC.below HGC.out (by repeat (first | (with_reducible first | exact HB.out | apply below_alloc | apply pw_below_drewN | apply below_drew1) | exact HB.out))); (case side2 => exact GK.below HGK.out (by repeat (first | (with_reducible first | exact HB.out | apply below_alloc | apply pw_below_drewN | apply below_drew1) | exact HB.out))); rintro e w9 ⟨rfl, hb⟩; refine ⟨_, rfl, ?_⟩; have n0_ := Aside0.mk (below_step (by repeat (first | (with_reducible first | exact HB.out | apply below_alloc | apply pw_below_drewN | apply below_drew1) | exact HB.out)) hb); clear HB; have HB := n0_; clear n0_; (try clear hb); (try clear hb2); (try clear hk); (try clear hi)))
        go_ret
        exact ⟨by first | rfl | (simp [errW_none, errW_some] <;> rfl) | (simp [*, errW_none, errW_some] <;> rfl), by repeat (first | (with_reducible first | exact HB.out | apply below_alloc | apply pw_below_drewN | apply below_drew1) | exact HB.out)⟩
      · replace c7 := Bool.eq_false_iff.mpr c7
        subst c7
        have H1 : ((seed_Image.f kj2).bind fun t249 => ((seedcornref50_Steps.f (a0.size : Int)).bind fun t250 => ((seedcornref10_Bytes.f kj2 t249 a0 t250).bind fun bt251 => ((seedcornref50_Steps.f (a1.size : Int)).bind fun t256 => ((seedcornref10_Bytes.f kj2 t249 a1 t256).bind fun bt257 => (if a0.size + 1 ≤ 9223372036854775807 then (if (a0 ++ (⟨#[10]⟩ : ByteArray)).size + a1.size ≤ 9223372036854775807 then ((seedcornref50_Steps.f (wrap64 ((wrap64 ((a0.size : Int) + (a1.size : Int))) + 1))).bind fun t262 => ((seedcornref10_Bytes.f kj2 t249 ((a0 ++ (⟨#[10]⟩ : ByteArray)) ++ a1) t262).bind fun bt263 => ((seedcornlaw50_awake.f kj2).bind fun t268 => (if t268 = true then (if bt251.2.2.2 = 0 then (if bt257.2.2.2 = 0 then (if bt263.2.2.2 = 0 then (if bt263.1 = 1 then (if bt251.2.1.size + bt257.2.1.size ≤ 9223372036854775807 then (if bt263.2.1.toList = (bt251.2.1 ++ bt257.2.1).toList then ((seedcornlaw50_digits.f kj2 a0).bind fun t269 => (some ((bt251.2.1.size : Int) == (wrap64 (Int.tdiv t269 2))))) else (some false)) else (none)) else (some false)) else (some false)) else (some false)) else (some false)) else (some false))))) else (none)) else (none))))))) = some r := by rw [if_neg (show ¬ (false = true) by decide)] at H; exact H
        clear H
        have H := H1
        clear H1
        replace H := Option.bind_eq_some_iff.mp H
        obtain ⟨t249, A100, H⟩ := H
        replace H : ((seedcornref50_Steps.f (a0.size : Int)).bind fun t250 => ((seedcornref10_Bytes.f kj2 t249 a0 t250).bind fun bt251 => ((seedcornref50_Steps.f (a1.size : Int)).bind fun t256 => ((seedcornref10_Bytes.f kj2 t249 a1 t256).bind fun bt257 => (if a0.size + 1 ≤ 9223372036854775807 then (if (a0 ++ (⟨#[10]⟩ : ByteArray)).size + a1.size ≤ 9223372036854775807 then ((seedcornref50_Steps.f (wrap64 ((wrap64 ((a0.size : Int) + (a1.size : Int))) + 1))).bind fun t262 => ((seedcornref10_Bytes.f kj2 t249 ((a0 ++ (⟨#[10]⟩ : ByteArray)) ++ a1) t262).bind fun bt263 => ((seedcornlaw50_awake.f kj2).bind fun t268 => (if t268 = true then (if bt251.2.2.2 = 0 then (if bt257.2.2.2 = 0 then (if bt263.2.2.2 = 0 then (if bt263.1 = 1 then (if bt251.2.1.size + bt257.2.1.size ≤ 9223372036854775807 then (if bt263.2.1.toList = (bt251.2.1 ++ bt257.2.1).toList then ((seedcornlaw50_digits.f kj2 a0).bind fun t269 => (some ((bt251.2.1.size : Int) == (wrap64 (Int.tdiv t269 2))))) else (some false)) else (none)) else (some false)) else (some false)) else (some false)) else (some false)) else (some false))))) else (none)) else (none)))))) = some r := H
        have A10 := Aside0.mk A100
        clear A100
        replace H := Option.bind_eq_some_iff.mp H
        obtain ⟨t250, A110, H⟩ := H
        replace H : ((seedcornref10_Bytes.f kj2 t249 a0 t250).bind fun bt251 => ((seedcornref50_Steps.f (a1.size : Int)).bind fun t256 => ((seedcornref10_Bytes.f kj2 t249 a1 t256).bind fun bt257 => (if a0.size + 1 ≤ 9223372036854775807 then (if (a0 ++ (⟨#[10]⟩ : ByteArray)).size + a1.size ≤ 9223372036854775807 then ((seedcornref50_Steps.f (wrap64 ((wrap64 ((a0.size : Int) + (a1.size : Int))) + 1))).bind fun t262 => ((seedcornref10_Bytes.f kj2 t249 ((a0 ++ (⟨#[10]⟩ : ByteArray)) ++ a1) t262).bind fun bt263 => ((seedcornlaw50_awake.f kj2).bind fun t268 => (if t268 = true then (if bt251.2.2.2 = 0 then (if bt257.2.2.2 = 0 then (if bt263.2.2.2 = 0 then (if bt263.1 = 1 then (if bt251.2.1.size + bt257.2.1.size ≤ 9223372036854775807 then (if bt263.2.1.toList = (bt251.2.1 ++ bt257.2.1).toList then ((seedcornlaw50_digits.f kj2 a0).bind fun t269 => (some ((bt251.2.1.size : Int) == (wrap64 (Int.tdiv t269 2))))) else (some false)) else (none)) else (some false)) else (some false)) else (some false)) else (some false)) else (some false))))) else (none)) else (none))))) = some r := H
        have A11 := Aside0.mk A110
        clear A110
        replace H := Option.bind_eq_some_iff.mp H
        obtain ⟨⟨t251, t252, t253, t254⟩, A120, H⟩ := H
        replace H : ((seedcornref50_Steps.f (a1.size : Int)).bind fun t256 => ((seedcornref10_Bytes.f kj2 t249 a1 t256).bind fun bt257 => (if a0.size + 1 ≤ 9223372036854775807 then (if (a0 ++ (⟨#[10]⟩ : ByteArray)).size + a1.size ≤ 9223372036854775807 then ((seedcornref50_Steps.f (wrap64 ((wrap64 ((a0.size : Int) + (a1.size : Int))) + 1))).bind fun t262 => ((seedcornref10_Bytes.f kj2 t249 ((a0 ++ (⟨#[10]⟩ : ByteArray)) ++ a1) t262).bind fun bt263 => ((seedcornlaw50_awake.f kj2).bind fun t268 => (if t268 = true then (if t254 = 0 then (if bt257.2.2.2 = 0 then (if bt263.2.2.2 = 0 then (if bt263.1 = 1 then (if t252.size + bt257.2.1.size ≤ 9223372036854775807 then (if bt263.2.1.toList = (t252 ++ bt257.2.1).toList then ((seedcornlaw50_digits.f kj2 a0).bind fun t269 => (some ((t252.size : Int) == (wrap64 (Int.tdiv t269 2))))) else (some false)) else (none)) else (some false)) else (some false)) else (some false)) else (some false)) else (some false))))) else (none)) else (none)))) = some r := H
        have A12 := Aside0.mk A120
        clear A120
        replace H := Option.bind_eq_some_iff.mp H
        obtain ⟨t256, A130, H⟩ := H
        replace H : ((seedcornref10_Bytes.f kj2 t249 a1 t256).bind fun bt257 => (if a0.size + 1 ≤ 9223372036854775807 then (if (a0 ++ (⟨#[10]⟩ : ByteArray)).size + a1.size ≤ 9223372036854775807 then ((seedcornref50_Steps.f (wrap64 ((wrap64 ((a0.size : Int) + (a1.size : Int))) + 1))).bind fun t262 => ((seedcornref10_Bytes.f kj2 t249 ((a0 ++ (⟨#[10]⟩ : ByteArray)) ++ a1) t262).bind fun bt263 => ((seedcornlaw50_awake.f kj2).bind fun t268 => (if t268 = true then (if t254 = 0 then (if bt257.2.2.2 = 0 then (if bt263.2.2.2 = 0 then (if bt263.1 = 1 then (if t252.size + bt257.2.1.size ≤ 9223372036854775807 then (if bt263.2.1.toList = (t252 ++ bt257.2.1).toList then ((seedcornlaw50_digits.f kj2 a0).bind fun t269 => (some ((t252.size : Int) == (wrap64 (Int.tdiv t269 2))))) else (some false)) else (none)) else (some false)) else (some false)) else (some false)) else (some false)) else (some false))))) else (none)) else (none))) = some r := H
        have A13 := Aside0.mk A130
        clear A130
        replace H := Option.bind_eq_some_iff.mp H
        obtain ⟨⟨t257, t258, t259, t260⟩, A140, H⟩ := H
        replace H : (if a0.size + 1 ≤ 9223372036854775807 then (if (a0 ++ (⟨#[10]⟩ : ByteArray)).size + a1.size ≤ 9223372036854775807 then ((seedcornref50_Steps.f (wrap64 ((wrap64 ((a0.size : Int) + (a1.size : Int))) + 1))).bind fun t262 => ((seedcornref10_Bytes.f kj2 t249 ((a0 ++ (⟨#[10]⟩ : ByteArray)) ++ a1) t262).bind fun bt263 => ((seedcornlaw50_awake.f kj2).bind fun t268 => (if t268 = true then (if t254 = 0 then (if t260 = 0 then (if bt263.2.2.2 = 0 then (if bt263.1 = 1 then (if t252.size + t258.size ≤ 9223372036854775807 then (if bt263.2.1.toList = (t252 ++ t258).toList then ((seedcornlaw50_digits.f kj2 a0).bind fun t269 => (some ((t252.size : Int) == (wrap64 (Int.tdiv t269 2))))) else (some false)) else (none)) else (some false)) else (some false)) else (some false)) else (some false)) else (some false))))) else (none)) else (none)) = some r := H
        have A14 := Aside0.mk A140
        clear A140
        by_cases c15 : a0.size + 1 ≤ 9223372036854775807
        · rw [if_pos c15] at H
          have c15b0 := eq_true c15
          have c15b1 : decide (a0.size + 1 ≤ 9223372036854775807) = true := decide_eq_true c15
          try have c15b2 : (9223372036854775807 < a0.size + 1) = False := eq_false (Nat.not_lt.2 c15)
          by_cases c16 : (a0 ++ (⟨#[10]⟩ : ByteArray)).size + a1.size ≤ 9223372036854775807
          · rw [if_pos c16] at H
            have c16b0 := eq_true c16
            have c16b1 : decide ((a0 ++ (⟨#[10]⟩ : ByteArray)).size + a1.size ≤ 9223372036854775807) = true := decide_eq_true c16
            try have c16b2 : (9223372036854775807 < (a0 ++ (⟨#[10]⟩ : ByteArray)).size + a1.size) = False := eq_false (Nat.not_lt.2 c16)
            try have c16b3 : (9223372036854775807 < a0.size + 1 + a1.size) = False := eq_false (by have c16z := c16; simp only [ByteArray.size_append] at c16z; (try rw [show (⟨#[10]⟩ : ByteArray).size = 1 from rfl] at c16z); omega)
            replace H := Option.bind_eq_some_iff.mp H
            obtain ⟨t262, A170, H⟩ := H
            replace H : ((seedcornref10_Bytes.f kj2 t249 ((a0 ++ (⟨#[10]⟩ : ByteArray)) ++ a1) t262).bind fun bt263 => ((seedcornlaw50_awake.f kj2).bind fun t268 => (if t268 = true then (if t254 = 0 then (if t260 = 0 then (if bt263.2.2.2 = 0 then (if bt263.1 = 1 then (if t252.size + t258.size ≤ 9223372036854775807 then (if bt263.2.1.toList = (t252 ++ t258).toList then ((seedcornlaw50_digits.f kj2 a0).bind fun t269 => (some ((t252.size : Int) == (wrap64 (Int.tdiv t269 2))))) else (some false)) else (none)) else (some false)) else (some false)) else (some false)) else (some false)) else (some false)))) = some r := H
            have A17 := Aside0.mk A170
            clear A170
            replace H := Option.bind_eq_some_iff.mp H
            obtain ⟨⟨t263, t264, t265, t266⟩, A180, H⟩ := H
            replace H : ((seedcornlaw50_awake.f kj2).bind fun t268 => (if t268 = true then (if t254 = 0 then (if t260 = 0 then (if t266 = 0 then (if t263 = 1 then (if t252.size + t258.size ≤ 9223372036854775807 then (if t264.toList = (t252 ++ t258).toList then ((seedcornlaw50_digits.f kj2 a0).bind fun t269 => (some ((t252.size : Int) == (wrap64 (Int.tdiv t269 2))))) else (some false)) else (none)) else (some false)) else (some false)) else (some false)) else (some false)) else (some false))) = some r := H
            have A18 := Aside0.mk A180
            clear A180
            replace H := Option.bind_eq_some_iff.mp H
            obtain ⟨t268, A190, H⟩ := H
            replace H : (if t268 = true then (if t254 = 0 then (if t260 = 0 then (if t266 = 0 then (if t263 = 1 then (if t252.size + t258.size ≤ 9223372036854775807 then (if t264.toList = (t252 ++ t258).toList then ((seedcornlaw50_digits.f kj2 a0).bind fun t269 => (some ((t252.size : Int) == (wrap64 (Int.tdiv t269 2))))) else (some false)) else (none)) else (some false)) else (some false)) else (some false)) else (some false)) else (some false)) = some r := H
            have A19 := Aside0.mk A190
            clear A190
            by_cases c20 : t268 = true
            · subst c20
              have H1 : (if t254 = 0 then (if t260 = 0 then (if t266 = 0 then (if t263 = 1 then (if t252.size + t258.size ≤ 9223372036854775807 then (if t264.toList = (t252 ++ t258).toList then ((seedcornlaw50_digits.f kj2 a0).bind fun t269 => (some ((t252.size : Int) == (wrap64 (Int.tdiv t269 2))))) else (some false)) else (none)) else (some false)) else (some false)) else (some false)) else (some false)) = some r := by rw [if_pos rfl] at H; exact H
              clear H
              have H := H1
              clear H1
              by_cases c21 : t254 = 0
              · rw [if_pos c21] at H
                have c21b0 : (t254 == 0) = true := beq_iff_eq.mpr c21
                have c21b1 : (t254 != 0) = false := bne_eq_false_iff_eq.mpr c21
                clear c21
                by_cases c22 : t260 = 0
                · rw [if_pos c22] at H
                  have c22b0 : (t260 == 0) = true := beq_iff_eq.mpr c22
                  have c22b1 : (t260 != 0) = false := bne_eq_false_iff_eq.mpr c22
                  clear c22
                  by_cases c23 : t266 = 0
                  · rw [if_pos c23] at H
                    have c23b0 : (t266 == 0) = true := beq_iff_eq.mpr c23
                    have c23b1 : (t266 != 0) = false := bne_eq_false_iff_eq.mpr c23
                    clear c23
                    by_cases c24 : t263 = 1
                    · rw [if_pos c24] at H
                      have c24b0 : (t263 == 1) = true := beq_iff_eq.mpr c24
                      have c24b1 : (t263 != 1) = false := bne_eq_false_iff_eq.mpr c24
                      clear c24
                      by_cases c25 : t252.size + t258.size ≤ 9223372036854775807
                      · rw [if_pos c25] at H
                        have c25b0 := eq_true c25
                        have c25b1 : decide (t252.size + t258.size ≤ 9223372036854775807) = true := decide_eq_true c25
                        try have c25b2 : (9223372036854775807 < t252.size + t258.size) = False := eq_false (Nat.not_lt.2 c25)
                        by_cases c26 : t264.toList = (t252 ++ t258).toList
                        · rw [if_pos c26] at H
                          have c26b0 : (t264.toList == (t252 ++ t258).toList) = true := beq_iff_eq.mpr c26
                          have c26b1 : (t264.toList != (t252 ++ t258).toList) = false := bne_eq_false_iff_eq.mpr c26
                          clear c26
                          replace H := Option.bind_eq_some_iff.mp H
                          obtain ⟨t269, A270, H⟩ := H
                          replace H : (some ((t252.size : Int) == (wrap64 (Int.tdiv t269 2)))) = some r := H
                          have A27 := Aside0.mk A270
                          clear A270
                          obtain rfl := Option.some.inj H
                          try go_wp2_with (first | ((with_reducible refine gate_callee (f := 24) rfl ?_); refine goesL_ (some 27) rfl rfl Tryd.func24 (by kernel_rfl) rfl #[] rfl (by (try simp only [List.map_toArray, List.map_cons, List.map_nil]); first | done | rfl | (simp only [List.length_drop, List.length_take]; rfl)) ?_; (with_reducible refine (seed_Image.calls kj2  t249 _ ?side1 ?side2 A10.out).mono ?_); (case side1 => exact GC.below HGC.out (by repeat (first | (with_reducible first | exact HB.out | apply below_alloc | apply pw_below_drewN | apply below_drew1) | exact HB.out))); (case side2 => exact GK.below HGK.out (by repeat (first | (with_reducible first | exact HB.out | apply below_alloc | apply pw_below_drewN | apply below_drew1) | exact HB.out))); rintro e w28 ⟨rfl, hb⟩; refine ⟨_, rfl, ?_⟩; have n0_ := Aside0.mk (below_step (by repeat (first | (with_reducible first | exact HB.out | apply below_alloc | apply pw_below_drewN | apply below_drew1) | exact HB.out)) hb); clear HB; have HB := n0_; clear n0_; (try clear hb); (try clear hb2); (try clear hk); (try clear hi)) | ((with_reducible refine gate_callee (f := 32) rfl ?_); refine goesL_ (some 33) rfl rfl Tryd.func32 (by kernel_rfl) rfl #[.int .i64 (a0.size : Int)] rfl (by (try simp only [List.map_toArray, List.map_cons, List.map_nil]); first | done | rfl | (simp only [List.length_drop, List.length_take]; rfl)) ?_; (with_reducible refine (seedcornref50_Steps.calls (a0.size : Int) t250 _ A11.out).mono ?_); rintro e w' ⟨rfl, ⟨nd, rfl⟩⟩; refine ⟨_, rfl, ?_⟩; (try (rw [drewN_self w28]; generalize hq_ : World.drewN w28 _ = w28; have n0_ : Aside0 (Below w.heap.size w w28) := ⟨by rw [← hq_]; exact (by repeat (first | (with_reducible first | exact HB.out | apply below_alloc | apply pw_below_drewN | apply below_drew1) | exact HB.out))⟩; clear HB hq_; have HB := n0_; clear n0_))) | ((with_reducible refine gate_callee (f := 31) rfl ?_); refine goesL_ (some 34) rfl rfl Tryd.func31 (by kernel_rfl) rfl #[.string t249, .string a0, .int .i64 t250] rfl (by (try simp only [List.map_toArray, List.map_cons, List.map_nil]); first | done | rfl | (simp only [List.length_drop, List.length_take]; rfl)) ?_; (with_reducible refine (seedcornref10_Bytes.calls kj2 t249 a0 t250 t251 t252 t253 t254 _ A12.out).mono ?_); rintro e w29 ⟨rfl, hb⟩; refine ⟨_, rfl, ?_⟩; have n0_ := Aside0.mk (below_step (by repeat (first | (with_reducible first | exact HB.out | apply below_alloc | apply pw_below_drewN | apply below_drew1) | exact HB.out)) hb); clear HB; have HB := n0_; clear n0_; (try clear hb); (try clear hb2); (try clear hk); (try clear hi)) | ((with_reducible refine gate_dst (N := 6) rfl ?_); (try (refine gate_guard (by rfl) ?_; dsimp only)); refine box_event ?hg (N := 6) ?hd (cs := #[.int .i64 0, .string (⟨#[]⟩ : ByteArray), .int .i64 0]) (t := 38) ?hr ?_; (case hd => rfl); (case hg => rfl); (case hr => first | (go_simp; done) | (go_simp; rfl)); intro gb255 hg w30 hbox hb; have n0_ := Aside0.mk (below_step (by repeat (first | (with_reducible first | exact HB.out | apply below_alloc | apply pw_below_drewN | apply below_drew1) | exact HB.out)) hb); have n1_ := Aside0.mk (hbox); have n2_ := Aside0.mk ((by rw [hg]; exact (below_size (by repeat (first | (with_reducible first | exact HB.out | apply below_alloc | apply pw_below_drewN | apply below_drew1) | exact HB.out))) : w.heap.size ≤ gb255)); have n3_ := Aside0.mk ((by rw [hg]; exact (below_size (by repeat (first | (with_reducible first | exact HB.out | apply below_alloc | apply pw_below_drewN | apply below_drew1) | exact HB.out))) : w.heap.size ≤ gb255)); clear HB; have HB := n0_; have BK255 := n1_; have GW255 := n2_; have GE255 := n3_; clear n0_ n1_ n2_ n3_; clear hb hbox hg; have hcz31_0 : w30.cell? ⟨gb255, 0, none⟩ = some (.int .i64 0) := (blk_cell BK255.out 0).trans rfl; have hcz31_1 : w30.cell? ⟨gb255, 1, none⟩ = some (.string (⟨#[]⟩ : ByteArray)) := (blk_cell BK255.out 1).trans rfl; have hcz31_2 : w30.cell? ⟨gb255, 2, none⟩ = some (.int .i64 0) := (blk_cell BK255.out 2).trans rfl; have hfz31_0 := blk_frozen BK255.out 0; have hfz31_1 := blk_frozen BK255.out 1; have hfz31_2 := blk_frozen BK255.out 2) | ((with_reducible refine gate_callee (f := 32) rfl ?_); refine goesL_ (some 42) rfl rfl Tryd.func32 (by kernel_rfl) rfl #[.int .i64 (a1.size : Int)] rfl (by (try simp only [List.map_toArray, List.map_cons, List.map_nil]); first | done | rfl | (simp only [List.length_drop, List.length_take]; rfl)) ?_; (with_reducible refine (seedcornref50_Steps.calls (a1.size : Int) t256 _ A13.out).mono ?_); rintro e w' ⟨rfl, ⟨nd, rfl⟩⟩; refine ⟨_, rfl, ?_⟩) | ((with_reducible refine gate_callee (f := 31) rfl ?_); refine goesL_ (some 43) rfl rfl Tryd.func31 (by kernel_rfl) rfl #[.string t249, .string a1, .int .i64 t256] rfl (by (try simp only [List.map_toArray, List.map_cons, List.map_nil]); first | done | rfl | (simp only [List.length_drop, List.length_take]; rfl)) ?_; (with_reducible refine (seedcornref10_Bytes.calls kj2 t249 a1 t256 t257 t258 t259 t260 _ A14.out).mono ?_); rintro e w32 ⟨rfl, hb⟩; refine ⟨_, rfl, ?_⟩; have n0_ := Aside0.mk (blk_below (g := gb255) (o := .cells #[.int .i64 t251, .string t252, .int .i64 t253] 38 (0, 0)) (by (with_reducible repeat (first | refine blk_drewN ?_ _ | refine blk_drew ?_ | refine blk_alloc ?_ _)); refine blk_put (cs := #[.int .i64 t251, .string t252, .int .i64 0]) ?_ 2 _ rfl; (with_reducible repeat (first | refine blk_drewN ?_ _ | refine blk_drew ?_ | refine blk_alloc ?_ _)); refine blk_put (cs := #[.int .i64 t251, .string (⟨#[]⟩ : ByteArray), .int .i64 0]) ?_ 1 _ rfl; (with_reducible repeat (first | refine blk_drewN ?_ _ | refine blk_drew ?_ | refine blk_alloc ?_ _)); refine blk_put (cs := #[.int .i64 0, .string (⟨#[]⟩ : ByteArray), .int .i64 0]) ?_ 0 _ rfl; (with_reducible repeat (first | refine blk_drewN ?_ _ | refine blk_drew ?_ | refine blk_alloc ?_ _)); exact BK255.out) hb); have n1_ := Aside0.mk (below_step (by repeat (first | (with_reducible first | exact HB.out | apply below_alloc | apply pw_below_drewN | apply below_drew1 | refine below_set ?_ GE255.out) | exact HB.out)) hb); clear BK255; clear HB; have BK255 := n0_; have HB := n1_; clear n0_ n1_; (try clear hb); (try clear hb2); (try clear hk); (try clear hi)) | ((with_reducible refine gate_dst (N := 8) rfl ?_); (try (refine gate_guard (by rfl) ?_; dsimp only)); refine box_event ?hg (N := 8) ?hd (cs := #[.int .i64 0, .string (⟨#[]⟩ : ByteArray), .int .i64 0]) (t := 38) ?hr ?_; (case hd => rfl); (case hg => rfl); (case hr => first | (go_simp; done) | (go_simp; rfl)); intro gb261 hg w33 hbox hb; have n0_ := Aside0.mk (blk_below (g := gb255) (o := .cells #[.int .i64 t251, .string t252, .int .i64 t253] 38 (0, 0)) (by (with_reducible repeat (first | refine blk_drewN ?_ _ | refine blk_drew ?_ | refine blk_alloc ?_ _)); exact BK255.out) hb); have n1_ := Aside0.mk (below_step (by repeat (first | (with_reducible first | exact HB.out | apply below_alloc | apply pw_below_drewN | apply below_drew1 | refine below_set ?_ GE255.out) | exact HB.out)) hb); have n2_ := Aside0.mk (hbox); have n3_ := Aside0.mk ((by rw [hg]; exact (below_size (by repeat (first | (with_reducible first | exact HB.out | apply below_alloc | apply pw_below_drewN | apply below_drew1 | refine below_set ?_ GE255.out) | exact HB.out))) : w.heap.size ≤ gb261)); have n4_ := Aside0.mk ((by rw [hg]; exact (below_size (by repeat (first | (with_reducible first | exact HB.out | apply below_alloc | apply pw_below_drewN | apply below_drew1 | refine below_set ?_ GE255.out) | exact HB.out))) : w.heap.size ≤ gb261)); have n5_ := Aside0.mk ((by rw [hg]; exact Nat.ne_of_lt (blk_lt (g := gb255) (o := .cells #[.int .i64 t251, .string t252, .int .i64 t253] 38 (0, 0)) (by (with_reducible repeat (first | refine blk_drewN ?_ _ | refine blk_drew ?_ | refine blk_alloc ?_ _)); exact BK255.out)) : gb255 ≠ gb261)); have n6_ := Aside0.mk ((by rw [hg]; exact Nat.ne_of_gt (blk_lt (g := gb255) (o := .cells #[.int .i64 t251, .string t252, .int .i64 t253] 38 (0, 0)) (by (with_reducible repeat (first | refine blk_drewN ?_ _ | refine blk_drew ?_ | refine blk_alloc ?_ _)); exact BK255.out)) : gb261 ≠ gb255)); clear BK255; clear HB; have BK255 := n0_; have HB := n1_; have BK261 := n2_; have GW261 := n3_; have GE261 := n4_; have NB255_261 := n5_; have NB261_255 := n6_; clear n0_ n1_ n2_ n3_ n4_ n5_ n6_; clear hb hbox hg; have hnb34 := NB261_255.out; have hnc34 := NB255_261.out; have hcz35_0 : w33.cell? ⟨gb261, 0, none⟩ = some (.int .i64 0) := (blk_cell BK261.out 0).trans rfl; have hcz35_1 : w33.cell? ⟨gb261, 1, none⟩ = some (.string (⟨#[]⟩ : ByteArray)) := (blk_cell BK261.out 1).trans rfl; have hcz35_2 : w33.cell? ⟨gb261, 2, none⟩ = some (.int .i64 0) := (blk_cell BK261.out 2).trans rfl; have hfz35_0 := blk_frozen BK261.out 0; have hfz35_1 := blk_frozen BK261.out 1; have hfz35_2 := blk_frozen BK261.out 2) | ((with_reducible refine gate_callee (f := 32) rfl ?_); refine goesL_ (some 58) rfl rfl Tryd.func32 (by kernel_rfl) rfl #[.int .i64 (wrap64 ((wrap64 ((a0.size : Int) + (a1.size : Int))) + 1))] rfl (by (try simp only [List.map_toArray, List.map_cons, List.map_nil]); first | done | rfl | (simp only [List.length_drop, List.length_take]; rfl)) ?_; (with_reducible refine (seedcornref50_Steps.calls (wrap64 ((wrap64 ((a0.size : Int) + (a1.size : Int))) + 1)) t262 _ A17.out).mono ?_); rintro e w' ⟨rfl, ⟨nd, rfl⟩⟩; refine ⟨_, rfl, ?_⟩) | ((with_reducible refine gate_callee (f := 31) rfl ?_); refine goesL_ (some 59) rfl rfl Tryd.func31 (by kernel_rfl) rfl #[.string t249, .string ((a0 ++ (⟨#[10]⟩ : ByteArray)) ++ a1), .int .i64 t262] rfl (by (try simp only [List.map_toArray, List.map_cons, List.map_nil]); first | done | rfl | (simp only [List.length_drop, List.length_take]; rfl)) ?_; (with_reducible refine (seedcornref10_Bytes.calls kj2 t249 ((a0 ++ (⟨#[10]⟩ : ByteArray)) ++ a1) t262 t263 t264 t265 t266 _ A18.out).mono ?_); rintro e w36 ⟨rfl, hb⟩; refine ⟨_, rfl, ?_⟩; have n0_ := Aside0.mk (blk_below (g := gb255) (o := .cells #[.int .i64 t251, .string t252, .int .i64 t253] 38 (0, 0)) (by (with_reducible repeat (first | refine blk_drewN ?_ _ | refine blk_drew ?_ | refine blk_alloc ?_ _)); refine blk_far ?_ NB255_261.out _; (with_reducible repeat (first | refine blk_drewN ?_ _ | refine blk_drew ?_ | refine blk_alloc ?_ _)); refine blk_far ?_ NB255_261.out _; (with_reducible repeat (first | refine blk_drewN ?_ _ | refine blk_drew ?_ | refine blk_alloc ?_ _)); refine blk_far ?_ NB255_261.out _; (with_reducible repeat (first | refine blk_drewN ?_ _ | refine blk_drew ?_ | refine blk_alloc ?_ _)); exact BK255.out) hb); have n1_ := Aside0.mk (blk_below (g := gb261) (o := .cells #[.int .i64 t257, .string t258, .int .i64 t259] 38 (0, 0)) (by (with_reducible repeat (first | refine blk_drewN ?_ _ | refine blk_drew ?_ | refine blk_alloc ?_ _)); refine blk_put (cs := #[.int .i64 t257, .string t258, .int .i64 0]) ?_ 2 _ rfl; (with_reducible repeat (first | refine blk_drewN ?_ _ | refine blk_drew ?_ | refine blk_alloc ?_ _)); refine blk_put (cs := #[.int .i64 t257, .string (⟨#[]⟩ : ByteArray), .int .i64 0]) ?_ 1 _ rfl; (with_reducible repeat (first | refine blk_drewN ?_ _ | refine blk_drew ?_ | refine blk_alloc ?_ _)); refine blk_put (cs := #[.int .i64 0, .string (⟨#[]⟩ : ByteArray), .int .i64 0]) ?_ 0 _ rfl; (with_reducible repeat (first | refine blk_drewN ?_ _ | refine blk_drew ?_ | refine blk_alloc ?_ _)); exact BK261.out) hb); have n2_ := Aside0.mk (below_step (by repeat (first | (with_reducible first | exact HB.out | apply below_alloc | apply pw_below_drewN | apply below_drew1 | refine below_set ?_ GE255.out | refine below_set ?_ GE261.out) | exact HB.out)) hb); clear BK255; clear BK261; clear HB; have BK255 := n0_; have BK261 := n1_; have HB := n2_; clear n0_ n1_ n2_; (try clear hb); (try clear hb2); (try clear hk); (try clear hi)) | ((with_reducible refine gate_dst (N := 10) rfl ?_); (try (refine gate_guard (by rfl) ?_; dsimp only)); refine box_event ?hg (N := 10) ?hd (cs := #[.int .i64 0, .string (⟨#[]⟩ : ByteArray), .int .i64 0]) (t := 38) ?hr ?_; (case hd => rfl); (case hg => rfl); (case hr => first | (go_simp; done) | (go_simp; rfl)); intro gb267 hg w37 hbox hb; have n0_ := Aside0.mk (blk_below (g := gb255) (o := .cells #[.int .i64 t251, .string t252, .int .i64 t253] 38 (0, 0)) (by (with_reducible repeat (first | refine blk_drewN ?_ _ | refine blk_drew ?_ | refine blk_alloc ?_ _)); exact BK255.out) hb); have n1_ := Aside0.mk (blk_below (g := gb261) (o := .cells #[.int .i64 t257, .string t258, .int .i64 t259] 38 (0, 0)) (by (with_reducible repeat (first | refine blk_drewN ?_ _ | refine blk_drew ?_ | refine blk_alloc ?_ _)); exact BK261.out) hb); have n2_ := Aside0.mk (below_step (by repeat (first | (with_reducible first | exact HB.out | apply below_alloc | apply pw_below_drewN | apply below_drew1 | refine below_set ?_ GE255.out | refine below_set ?_ GE261.out) | exact HB.out)) hb); have n3_ := Aside0.mk (hbox); have n4_ := Aside0.mk ((by rw [hg]; exact (below_size (by repeat (first | (with_reducible first | exact HB.out | apply below_alloc | apply pw_below_drewN | apply below_drew1 | refine below_set ?_ GE255.out | refine below_set ?_ GE261.out) | exact HB.out))) : w.heap.size ≤ gb267)); have n5_ := Aside0.mk ((by rw [hg]; exact (below_size (by repeat (first | (with_reducible first | exact HB.out | apply below_alloc | apply pw_below_drewN | apply below_drew1 | refine below_set ?_ GE255.out | refine below_set ?_ GE261.out) | exact HB.out))) : w.heap.size ≤ gb267)); have n6_ := Aside0.mk ((by rw [hg]; exact Nat.ne_of_lt (blk_lt (g := gb255) (o := .cells #[.int .i64 t251, .string t252, .int .i64 t253] 38 (0, 0)) (by (with_reducible repeat (first | refine blk_drewN ?_ _ | refine blk_drew ?_ | refine blk_alloc ?_ _)); exact BK255.out)) : gb255 ≠ gb267)); have n7_ := Aside0.mk ((by rw [hg]; exact Nat.ne_of_gt (blk_lt (g := gb255) (o := .cells #[.int .i64 t251, .string t252, .int .i64 t253] 38 (0, 0)) (by (with_reducible repeat (first | refine blk_drewN ?_ _ | refine blk_drew ?_ | refine blk_alloc ?_ _)); exact BK255.out)) : gb267 ≠ gb255)); have n8_ := Aside0.mk ((by rw [hg]; exact Nat.ne_of_lt (blk_lt (g := gb261) (o := .cells #[.int .i64 t257, .string t258, .int .i64 t259] 38 (0, 0)) (by (with_reducible repeat (first | refine blk_drewN ?_ _ | refine blk_drew ?_ | refine blk_alloc ?_ _)); exact BK261.out)) : gb261 ≠ gb267)); have n9_ := Aside0.mk ((by rw [hg]; exact Nat.ne_of_gt (blk_lt (g := gb261) (o := .cells #[.int .i64 t257, .string t258, .int .i64 t259] 38 (0, 0)) (by (with_reducible repeat (first | refine blk_drewN ?_ _ | refine blk_drew ?_ | refine blk_alloc ?_ _)); exact BK261.out)) : gb267 ≠ gb261)); clear BK255; clear BK261; clear HB; have BK255 := n0_; have BK261 := n1_; have HB := n2_; have BK267 := n3_; have GW267 := n4_; have GE267 := n5_; have NB255_267 := n6_; have NB267_255 := n7_; have NB261_267 := n8_; have NB267_261 := n9_; clear n0_ n1_ n2_ n3_ n4_ n5_ n6_ n7_ n8_ n9_; clear hb hbox hg; have hnb38 := NB267_255.out; have hnc38 := NB255_267.out; have hnb39 := NB267_261.out; have hnc39 := NB261_267.out; have hcz40_0 : w37.cell? ⟨gb267, 0, none⟩ = some (.int .i64 0) := (blk_cell BK267.out 0).trans rfl; have hcz40_1 : w37.cell? ⟨gb267, 1, none⟩ = some (.string (⟨#[]⟩ : ByteArray)) := (blk_cell BK267.out 1).trans rfl; have hcz40_2 : w37.cell? ⟨gb267, 2, none⟩ = some (.int .i64 0) := (blk_cell BK267.out 2).trans rfl; have hfz40_0 := blk_frozen BK267.out 0; have hfz40_1 := blk_frozen BK267.out 1; have hfz40_2 := blk_frozen BK267.out 2))
                          have n0_ : Aside0 ((((w37.setCell ⟨gb267, 0, none⟩ (.int .i64 t263)).setCell ⟨gb267, 1, none⟩ (.string t264)).setCell ⟨gb267, 2, none⟩ (.int .i64 t265)).heap[gb255]? = some (.cells #[.int .i64 t251, .string t252, .int .i64 t253] 38 (0, 0))) := ⟨by (with_reducible repeat (first | refine blk_drewN ?_ _ | refine blk_drew ?_ | refine blk_alloc ?_ _)); refine blk_far ?_ NB255_267.out _; (with_reducible repeat (first | refine blk_drewN ?_ _ | refine blk_drew ?_ | refine blk_alloc ?_ _)); refine blk_far ?_ NB255_267.out _; (with_reducible repeat (first | refine blk_drewN ?_ _ | refine blk_drew ?_ | refine blk_alloc ?_ _)); refine blk_far ?_ NB255_267.out _; (with_reducible repeat (first | refine blk_drewN ?_ _ | refine blk_drew ?_ | refine blk_alloc ?_ _)); exact BK255.out⟩
                          have n1_ : Aside0 ((((w37.setCell ⟨gb267, 0, none⟩ (.int .i64 t263)).setCell ⟨gb267, 1, none⟩ (.string t264)).setCell ⟨gb267, 2, none⟩ (.int .i64 t265)).heap[gb261]? = some (.cells #[.int .i64 t257, .string t258, .int .i64 t259] 38 (0, 0))) := ⟨by (with_reducible repeat (first | refine blk_drewN ?_ _ | refine blk_drew ?_ | refine blk_alloc ?_ _)); refine blk_far ?_ NB261_267.out _; (with_reducible repeat (first | refine blk_drewN ?_ _ | refine blk_drew ?_ | refine blk_alloc ?_ _)); refine blk_far ?_ NB261_267.out _; (with_reducible repeat (first | refine blk_drewN ?_ _ | refine blk_drew ?_ | refine blk_alloc ?_ _)); refine blk_far ?_ NB261_267.out _; (with_reducible repeat (first | refine blk_drewN ?_ _ | refine blk_drew ?_ | refine blk_alloc ?_ _)); exact BK261.out⟩
                          have n2_ : Aside0 ((((w37.setCell ⟨gb267, 0, none⟩ (.int .i64 t263)).setCell ⟨gb267, 1, none⟩ (.string t264)).setCell ⟨gb267, 2, none⟩ (.int .i64 t265)).heap[gb267]? = some (.cells #[.int .i64 t263, .string t264, .int .i64 t265] 38 (0, 0))) := ⟨by (with_reducible repeat (first | refine blk_drewN ?_ _ | refine blk_drew ?_ | refine blk_alloc ?_ _)); refine blk_put (cs := #[.int .i64 t263, .string t264, .int .i64 0]) ?_ 2 _ rfl; (with_reducible repeat (first | refine blk_drewN ?_ _ | refine blk_drew ?_ | refine blk_alloc ?_ _)); refine blk_put (cs := #[.int .i64 t263, .string (⟨#[]⟩ : ByteArray), .int .i64 0]) ?_ 1 _ rfl; (with_reducible repeat (first | refine blk_drewN ?_ _ | refine blk_drew ?_ | refine blk_alloc ?_ _)); refine blk_put (cs := #[.int .i64 0, .string (⟨#[]⟩ : ByteArray), .int .i64 0]) ?_ 0 _ rfl; (with_reducible repeat (first | refine blk_drewN ?_ _ | refine blk_drew ?_ | refine blk_alloc ?_ _)); exact BK267.out⟩
                          have n3_ : Aside0 (Below w.heap.size w (((w37.setCell ⟨gb267, 0, none⟩ (.int .i64 t263)).setCell ⟨gb267, 1, none⟩ (.string t264)).setCell ⟨gb267, 2, none⟩ (.int .i64 t265))) := ⟨by repeat (first | (with_reducible first | exact HB.out | apply below_alloc | apply pw_below_drewN | apply below_drew1 | refine below_set ?_ GE255.out | refine below_set ?_ GE261.out | refine below_set ?_ GE267.out) | exact HB.out)⟩
                          (try clear BK255)
                          (try clear BK261)
                          (try clear BK267)
                          (try clear HB)
                          generalize (((w37.setCell ⟨gb267, 0, none⟩ (.int .i64 t263)).setCell ⟨gb267, 1, none⟩ (.string t264)).setCell ⟨gb267, 2, none⟩ (.int .i64 t265)) = w41 at n0_ n1_ n2_ n3_ ⊢
                          have BK255 := n0_
                          have BK261 := n1_
                          have BK267 := n2_
                          have HB := n3_
                          clear n0_ n1_ n2_ n3_
                          have n0_ := Aside0.mk (blk_drew BK255.out)
                          have n1_ := Aside0.mk (blk_drew BK261.out)
                          have n2_ := Aside0.mk (blk_drew BK267.out)
                          have n3_ := Aside0.mk (below_drew1 HB.out)
                          clear BK255
                          clear BK261
                          clear BK267
                          clear HB
                          have BK255 := n0_
                          have BK261 := n1_
                          have BK267 := n2_
                          have HB := n3_
                          clear n0_ n1_ n2_ n3_
                          refine start_ (n := 38) (S := fun w' => w'.cell? ⟨gb267, 0, none⟩ = some (.int .i64 t263) ∧ w'.cell? ⟨gb267, 1, none⟩ = some (.string t264) ∧ w'.cell? ⟨gb267, 2, none⟩ = some (.int .i64 t265) ∧ w'.cell? ⟨gb255, 0, none⟩ = some (.int .i64 t251) ∧ w'.cell? ⟨gb255, 1, none⟩ = some (.string t252) ∧ w'.cell? ⟨gb255, 2, none⟩ = some (.int .i64 t253) ∧ w'.cell? ⟨gb261, 0, none⟩ = some (.int .i64 t257) ∧ w'.cell? ⟨gb261, 1, none⟩ = some (.string t258) ∧ w'.cell? ⟨gb261, 2, none⟩ = some (.int .i64 t259)) (ds := []) #[false, false, false, false, false, false, false, false, false, false, false, false, false, false, false, false, false, false, false, false, false, false, false, false, false, false, false, false, false, false, false, false, false, false, false, false, false, false] (by kernel_rfl) rfl rfl ⟨(blk_cell BK267.out 0).trans rfl, (blk_cell BK267.out 1).trans rfl, (blk_cell BK267.out 2).trans rfl, (blk_cell BK255.out 0).trans rfl, (blk_cell BK255.out 1).trans rfl, (blk_cell BK255.out 2).trans rfl, (blk_cell BK261.out 0).trans rfl, (blk_cell BK261.out 1).trans rfl, (blk_cell BK261.out 2).trans rfl⟩ (fun hHeld => ?_); refine with_tabW seedcornlaw50_SeedTwo.tab7 seedcornlaw50_SeedTwo.bits7 (fun HT_ HW_ => ?_)
                          generalize w41.drew = w42 at BK255 BK261 BK267 HB hHeld ⊢
                          refine one_ (i := 0) (N := some 62) #[true, false, false, false, false, false, false, false, false, false, false, false, false, false, false, false, false, false, false, false, false, false, false, false, false, false, false, false, false, false, false, false, false, false, false, false, false, false] rfl rfl (one_of HT_.out (by kernel_rfl)) (by decide) (fun K hK => ?_)
                          refine goes_ Tryd.func22 (by kernel_rfl) rfl #[] (by rfl) rfl rfl (by (try simp only [List.map_toArray, List.map_cons, List.map_nil]); first | done | rfl | (simp only [List.length_drop, List.length_take]; rfl)) ?_
                          with_reducible refine (seedcornlaw50_awake.calls kj2  true _ ?side1 ?side2 A19.out).mono ?_
                          (case side1 => exact GC.below HGC.out (by repeat (first | (with_reducible first | exact HB.out | apply below_alloc | apply pw_below_drewN | apply below_drew1 | refine below_set ?_ GE255.out | refine below_set ?_ GE261.out | refine below_set ?_ GE267.out) | exact HB.out)))
                          (case side2 => exact GK.below HGK.out (by repeat (first | (with_reducible first | exact HB.out | apply below_alloc | apply pw_below_drewN | apply below_drew1 | refine below_set ?_ GE255.out | refine below_set ?_ GE261.out | refine below_set ?_ GE267.out) | exact HB.out)))
                          rintro e w43 ⟨rfl, hb⟩
                          refine ⟨_, rfl, ?_⟩
                          have n0_ := Aside0.mk (blk_below (g := gb255) (o := .cells #[.int .i64 t251, .string t252, .int .i64 t253] 38 (0, 0)) (by (with_reducible repeat (first | refine blk_drewN ?_ _ | refine blk_drew ?_ | refine blk_alloc ?_ _)); exact BK255.out) hb)
                          have n1_ := Aside0.mk (blk_below (g := gb261) (o := .cells #[.int .i64 t257, .string t258, .int .i64 t259] 38 (0, 0)) (by (with_reducible repeat (first | refine blk_drewN ?_ _ | refine blk_drew ?_ | refine blk_alloc ?_ _)); exact BK261.out) hb)
                          have n2_ := Aside0.mk (blk_below (g := gb267) (o := .cells #[.int .i64 t263, .string t264, .int .i64 t265] 38 (0, 0)) (by (with_reducible repeat (first | refine blk_drewN ?_ _ | refine blk_drew ?_ | refine blk_alloc ?_ _)); exact BK267.out) hb)
                          have n3_ := Aside0.mk (below_step (by repeat (first | (with_reducible first | exact HB.out | apply below_alloc | apply pw_below_drewN | apply below_drew1 | refine below_set ?_ GE255.out | refine below_set ?_ GE261.out | refine below_set ?_ GE267.out) | exact HB.out)) hb)
                          clear BK255
                          clear BK261
                          clear BK267
                          clear HB
                          have BK255 := n0_
                          have BK261 := n1_
                          have BK267 := n2_
                          have HB := n3_
                          clear n0_ n1_ n2_ n3_
                          (try clear hb)
                          (try clear hb2)
                          (try clear hk)
                          (try clear hi)
                          refine hK.out _ _ ⟨(blk_cell BK267.out 0).trans rfl, (blk_cell BK267.out 1).trans rfl, (blk_cell BK267.out 2).trans rfl, (blk_cell BK255.out 0).trans rfl, (blk_cell BK255.out 1).trans rfl, (blk_cell BK255.out 2).trans rfl, (blk_cell BK261.out 0).trans rfl, (blk_cell BK261.out 1).trans rfl, (blk_cell BK261.out 2).trans rfl⟩ (fun hHeld => ?_)
                          clear hK K
                          refine norm_ (a' := ?_) ?_ ?_
                          rotate_left
                          · show Act.put _ (some 62) _ = _
                            simp only [Act.put, List.setIfInBounds_toArray, List.set_cons_zero, List.set_cons_succ, i64_w, i32_w]
                            rfl
                          refine pure_ (i := 1) (N := some 63) (v := ?_) (a' := ?_) #[true, true, false, false, false, false, false, false, false, false, false, false, false, false, false, false, false, false, false, false, false, false, false, false, false, false, false, false, false, false, false, false, false, false, false, false, false, false] rfl rfl (any_of HT_.out (by kernel_rfl)) (fun _ _ _ h => h) (Or.inl ⟨by rfl, ?_⟩) ?_ ?_
                          rotate_left
                          · intro w'
                            go_simp
                            with_reducible rfl
                          rotate_left
                          · simp only [Act.put, List.setIfInBounds_toArray, List.set_cons_zero, List.set_cons_succ, i64_w, i32_w]
                            rfl
                          refine pure_ (i := 2) (N := some 64) (v := ?_) (a' := ?_) #[true, true, true, false, false, false, false, false, false, false, false, false, false, false, false, false, false, false, false, false, false, false, false, false, false, false, false, false, false, false, false, false, false, false, false, false, false, false] rfl rfl (any_of HT_.out (by kernel_rfl)) (fun _ _ _ h => h) (Or.inl ⟨by rfl, ?_⟩) ?_ ?_
                          rotate_left
                          · intro w'
                            go_simp
                            with_reducible rfl
                          rotate_left
                          · simp only [Act.put, List.setIfInBounds_toArray, List.set_cons_zero, List.set_cons_succ, i64_w, i32_w]
                            rfl
                          refine pure_ (i := 3) (N := some 65) (v := ?_) (a' := ?_) #[true, true, true, true, false, false, false, false, false, false, false, false, false, false, false, false, false, false, false, false, false, false, false, false, false, false, false, false, false, false, false, false, false, false, false, false, false, false] rfl rfl (any_of HT_.out (by kernel_rfl)) (fun _ _ _ h => h) (Or.inl ⟨by rfl, ?_⟩) ?_ ?_
                          rotate_left
                          · intro w'
                            go_simp
                            with_reducible rfl
                          rotate_left
                          · simp only [Act.put, List.setIfInBounds_toArray, List.set_cons_zero, List.set_cons_succ, i64_w, i32_w]
                            rfl
                          refine pure_ (i := 4) (N := some 66) (v := ?_) (a' := ?_) #[true, true, true, true, true, false, false, false, false, false, false, false, false, false, false, false, false, false, false, false, false, false, false, false, false, false, false, false, false, false, false, false, false, false, false, false, false, false] rfl rfl (any_of HT_.out (by kernel_rfl)) (fun _ _ _ h => h) (Or.inl ⟨by rfl, ?_⟩) ?_ ?_
                          rotate_left
                          · intro w'
                            go_simp
                            with_reducible rfl
                          rotate_left
                          · simp only [Act.put, List.setIfInBounds_toArray, List.set_cons_zero, List.set_cons_succ, i64_w, i32_w]
                            rfl
                          refine pure_ (i := 5) (N := some 67) (v := ?_) (a' := ?_) #[true, true, true, true, true, true, false, false, false, false, false, false, false, false, false, false, false, false, false, false, false, false, false, false, false, false, false, false, false, false, false, false, false, false, false, false, false, false] rfl rfl (any_of HT_.out (by kernel_rfl)) (fun _ _ _ h => h) (Or.inl ⟨by rfl, ?_⟩) ?_ ?_
                          rotate_left
                          · intro w'
                            go_simp
                            with_reducible rfl
                          rotate_left
                          · simp only [Act.put, List.setIfInBounds_toArray, List.set_cons_zero, List.set_cons_succ, i64_w, i32_w]
                            rfl
                          refine pure_ (i := 6) (N := some 68) (v := ?_) (a' := ?_) #[true, true, true, true, true, true, true, false, false, false, false, false, false, false, false, false, false, false, false, false, false, false, false, false, false, false, false, false, false, false, false, false, false, false, false, false, false, false] rfl rfl (any_of HT_.out (by kernel_rfl)) (fun _ _ _ h => h) (Or.inl ⟨by rfl, ?_⟩) ?_ ?_
                          rotate_left
                          · intro w'
                            go_simp
                            with_reducible rfl
                          rotate_left
                          · simp only [Act.put, List.setIfInBounds_toArray, List.set_cons_zero, List.set_cons_succ, i64_w, i32_w]
                            rfl
                          refine pure_ (i := 7) (N := some 69) (v := ?_) (a' := ?_) #[true, true, true, true, true, true, true, true, false, false, false, false, false, false, false, false, false, false, false, false, false, false, false, false, false, false, false, false, false, false, false, false, false, false, false, false, false, false] rfl rfl (any_of HT_.out (by kernel_rfl)) (fun _ _ _ h => h) (Or.inl ⟨by rfl, ?_⟩) ?_ ?_
                          rotate_left
                          · intro w'
                            go_simp
                            with_reducible rfl
                          rotate_left
                          · simp only [Act.put, List.setIfInBounds_toArray, List.set_cons_zero, List.set_cons_succ, i64_w, i32_w]
                            rfl
                          refine pure_ (i := 8) (N := some 70) (v := ?_) (a' := ?_) #[true, true, true, true, true, true, true, true, true, false, false, false, false, false, false, false, false, false, false, false, false, false, false, false, false, false, false, false, false, false, false, false, false, false, false, false, false, false] rfl rfl (any_of HT_.out (by kernel_rfl)) (fun _ _ _ h => h) (Or.inl ⟨by rfl, ?_⟩) ?_ ?_
                          rotate_left
                          · intro w'
                            go_simp
                            with_reducible rfl
                          rotate_left
                          · simp only [Act.put, List.setIfInBounds_toArray, List.set_cons_zero, List.set_cons_succ, i64_w, i32_w]
                            rfl
                          refine pure_ (i := 9) (N := some 71) (v := ?_) (a' := ?_) #[true, true, true, true, true, true, true, true, true, true, false, false, false, false, false, false, false, false, false, false, false, false, false, false, false, false, false, false, false, false, false, false, false, false, false, false, false, false] rfl rfl (any_of HT_.out (by kernel_rfl)) (fun _ _ _ h => h) (Or.inl ⟨by rfl, ?_⟩) ?_ ?_
                          rotate_left
                          · intro w'
                            go_simp
                            with_reducible rfl
                          rotate_left
                          · simp only [Act.put, List.setIfInBounds_toArray, List.set_cons_zero, List.set_cons_succ, i64_w, i32_w]
                            rfl
                          refine pure_ (i := 10) (N := some 72) (v := ?_) (a' := ?_) #[true, true, true, true, true, true, true, true, true, true, true, false, false, false, false, false, false, false, false, false, false, false, false, false, false, false, false, false, false, false, false, false, false, false, false, false, false, false] rfl rfl (any_of HT_.out (by kernel_rfl)) (fun _ _ _ h => h) (Or.inl ⟨by rfl, ?_⟩) ?_ ?_
                          rotate_left
                          · intro w'
                            go_simp
                            with_reducible rfl
                          rotate_left
                          · simp only [Act.put, List.setIfInBounds_toArray, List.set_cons_zero, List.set_cons_succ, i64_w, i32_w]
                            rfl
                          refine pure_ (i := 11) (N := some 73) (v := ?_) (a' := ?_) #[true, true, true, true, true, true, true, true, true, true, true, true, false, false, false, false, false, false, false, false, false, false, false, false, false, false, false, false, false, false, false, false, false, false, false, false, false, false] rfl rfl (any_of HT_.out (by kernel_rfl)) (fun _ _ _ h => h) (Or.inl ⟨by rfl, ?_⟩) ?_ ?_
                          rotate_left
                          · intro w'
                            go_simp
                            with_reducible rfl
                          rotate_left
                          · simp only [Act.put, List.setIfInBounds_toArray, List.set_cons_zero, List.set_cons_succ, i64_w, i32_w]
                            rfl
                          refine pure_ (i := 12) (N := some 74) (v := ?_) (a' := ?_) #[true, true, true, true, true, true, true, true, true, true, true, true, true, false, false, false, false, false, false, false, false, false, false, false, false, false, false, false, false, false, false, false, false, false, false, false, false, false] rfl rfl (any_of HT_.out (by kernel_rfl)) (fun _ _ _ h => h) (Or.inl ⟨by rfl, ?_⟩) ?_ ?_
                          rotate_left
                          · intro w'
                            go_simp
                            with_reducible rfl
                          rotate_left
                          · simp only [Act.put, List.setIfInBounds_toArray, List.set_cons_zero, List.set_cons_succ, i64_w, i32_w]
                            rfl
                          refine pure_ (i := 13) (N := some 75) (v := ?_) (a' := ?_) #[true, true, true, true, true, true, true, true, true, true, true, true, true, true, false, false, false, false, false, false, false, false, false, false, false, false, false, false, false, false, false, false, false, false, false, false, false, false] rfl rfl (any_of HT_.out (by kernel_rfl)) (fun _ _ _ h => h) (Or.inl ⟨by rfl, ?_⟩) ?_ ?_
                          rotate_left
                          · intro w'
                            go_simp
                            with_reducible rfl
                          rotate_left
                          · simp only [Act.put, List.setIfInBounds_toArray, List.set_cons_zero, List.set_cons_succ, i64_w, i32_w]
                            rfl
                          refine pure_ (i := 14) (N := some 76) (v := ?_) (a' := ?_) #[true, true, true, true, true, true, true, true, true, true, true, true, true, true, true, false, false, false, false, false, false, false, false, false, false, false, false, false, false, false, false, false, false, false, false, false, false, false] rfl rfl (any_of HT_.out (by kernel_rfl)) (fun _ _ _ h => h) (Or.inl ⟨by rfl, ?_⟩) ?_ ?_
                          rotate_left
                          · intro w'
                            go_simp
                            with_reducible rfl
                          rotate_left
                          · simp only [Act.put, List.setIfInBounds_toArray, List.set_cons_zero, List.set_cons_succ, i64_w, i32_w]
                            rfl
                          refine take_ (i := 15) (N := some 77) (v := ?_) (a' := ?_) #[true, true, true, true, true, true, true, true, true, true, true, true, true, true, true, true, false, false, false, false, false, false, false, false, false, false, false, false, false, false, false, false, false, false, false, false, false, false] rfl rfl (take_ofW HT_.out HW_.out (by kernel_rfl)) (fun _ _ _ h => h) (Or.inl ⟨by rfl, ?_⟩) hHeld ?_ ?_
                          rotate_left
                          · rintro w' ⟨s0, s1, s2, s3, s4, s5, s6, s7, s8⟩
                            go_simp
                            with_reducible rfl
                          rotate_left
                          · simp only [Act.put, List.setIfInBounds_toArray, List.set_cons_zero, List.set_cons_succ, i64_w, i32_w]
                            rfl
                          refine pure_ (i := 16) (N := some 78) (v := ?_) (a' := ?_) #[true, true, true, true, true, true, true, true, true, true, true, true, true, true, true, true, true, false, false, false, false, false, false, false, false, false, false, false, false, false, false, false, false, false, false, false, false, false] rfl rfl (any_of HT_.out (by kernel_rfl)) (fun _ _ _ h => h) (Or.inl ⟨by rfl, ?_⟩) ?_ ?_
                          rotate_left
                          · intro w'
                            go_simp
                            with_reducible rfl
                          rotate_left
                          · simp only [Act.put, List.setIfInBounds_toArray, List.set_cons_zero, List.set_cons_succ, i64_w, i32_w]
                            rfl
                          refine pure_ (i := 17) (N := some 79) (v := ?_) (a' := ?_) #[true, true, true, true, true, true, true, true, true, true, true, true, true, true, true, true, true, true, false, false, false, false, false, false, false, false, false, false, false, false, false, false, false, false, false, false, false, false] rfl rfl (any_of HT_.out (by kernel_rfl)) (fun _ _ _ h => h) (Or.inl ⟨by rfl, ?_⟩) ?_ ?_
                          rotate_left
                          · intro w'
                            go_simp
                            with_reducible rfl
                          rotate_left
                          · simp only [Act.put, List.setIfInBounds_toArray, List.set_cons_zero, List.set_cons_succ, i64_w, i32_w]
                            rfl
                          refine pure_ (i := 18) (N := some 80) (v := ?_) (a' := ?_) #[true, true, true, true, true, true, true, true, true, true, true, true, true, true, true, true, true, true, true, false, false, false, false, false, false, false, false, false, false, false, false, false, false, false, false, false, false, false] rfl rfl (any_of HT_.out (by kernel_rfl)) (fun _ _ _ h => h) (Or.inl ⟨by rfl, ?_⟩) ?_ ?_
                          rotate_left
                          · intro w'
                            go_simp
                            with_reducible rfl
                          rotate_left
                          · simp only [Act.put, List.setIfInBounds_toArray, List.set_cons_zero, List.set_cons_succ, i64_w, i32_w]
                            rfl
                          refine pure_ (i := 19) (N := some 81) (v := ?_) (a' := ?_) #[true, true, true, true, true, true, true, true, true, true, true, true, true, true, true, true, true, true, true, true, false, false, false, false, false, false, false, false, false, false, false, false, false, false, false, false, false, false] rfl rfl (any_of HT_.out (by kernel_rfl)) (fun _ _ _ h => h) (Or.inl ⟨by rfl, ?_⟩) ?_ ?_
                          rotate_left
                          · intro w'
                            go_simp
                            with_reducible rfl
                          rotate_left
                          · simp only [Act.put, List.setIfInBounds_toArray, List.set_cons_zero, List.set_cons_succ, i64_w, i32_w]
                            rfl
                          refine pure_ (i := 21) (N := some 83) (v := ?_) (a' := ?_) #[true, true, true, true, true, true, true, true, true, true, true, true, true, true, true, true, true, true, true, true, false, true, false, false, false, false, false, false, false, false, false, false, false, false, false, false, false, false] rfl rfl (any_of HT_.out (by kernel_rfl)) (fun _ _ _ h => h) (Or.inl ⟨by rfl, ?_⟩) ?_ ?_
                          rotate_left
                          · intro w'
                            go_simp
                            with_reducible rfl
                          rotate_left
                          · simp only [Act.put, List.setIfInBounds_toArray, List.set_cons_zero, List.set_cons_succ, i64_w, i32_w]
                            rfl
                          refine pure_ (i := 23) (N := some 85) (v := ?_) (a' := ?_) #[true, true, true, true, true, true, true, true, true, true, true, true, true, true, true, true, true, true, true, true, false, true, false, true, false, false, false, false, false, false, false, false, false, false, false, false, false, false] rfl rfl (any_of HT_.out (by kernel_rfl)) (fun _ _ _ h => h) (Or.inl ⟨by rfl, ?_⟩) ?_ ?_
                          rotate_left
                          · intro w'
                            go_simp
                            with_reducible rfl
                          rotate_left
                          · simp only [Act.put, List.setIfInBounds_toArray, List.set_cons_zero, List.set_cons_succ, i64_w, i32_w]
                            rfl
                          refine take_ (i := 20) (N := some 82) (v := ?_) (a' := ?_) #[true, true, true, true, true, true, true, true, true, true, true, true, true, true, true, true, true, true, true, true, true, true, false, true, false, false, false, false, false, false, false, false, false, false, false, false, false, false] rfl rfl (take_ofW HT_.out HW_.out (by kernel_rfl)) (fun _ _ _ h => h) (Or.inl ⟨by rfl, ?_⟩) hHeld ?_ ?_
                          rotate_left
                          · rintro w' ⟨s0, s1, s2, s3, s4, s5, s6, s7, s8⟩
                            go_simp
                            with_reducible rfl
                          rotate_left
                          · simp only [Act.put, List.setIfInBounds_toArray, List.set_cons_zero, List.set_cons_succ, i64_w, i32_w]
                            rfl
                          refine take_ (i := 22) (N := some 84) (v := ?_) (a' := ?_) #[true, true, true, true, true, true, true, true, true, true, true, true, true, true, true, true, true, true, true, true, true, true, true, true, false, false, false, false, false, false, false, false, false, false, false, false, false, false] rfl rfl (take_ofW HT_.out HW_.out (by kernel_rfl)) (fun _ _ _ h => h) (Or.inl ⟨by rfl, ?_⟩) hHeld ?_ ?_
                          rotate_left
                          · rintro w' ⟨s0, s1, s2, s3, s4, s5, s6, s7, s8⟩
                            go_simp
                            with_reducible rfl
                          rotate_left
                          · simp only [Act.put, List.setIfInBounds_toArray, List.set_cons_zero, List.set_cons_succ, i64_w, i32_w]
                            rfl
                          refine take_ (i := 24) (N := some 86) (v := ?_) (a' := ?_) #[true, true, true, true, true, true, true, true, true, true, true, true, true, true, true, true, true, true, true, true, true, true, true, true, true, false, false, false, false, false, false, false, false, false, false, false, false, false] rfl rfl (take_ofW HT_.out HW_.out (by kernel_rfl)) (fun _ _ _ h => h) (Or.inl ⟨by rfl, ?_⟩) hHeld ?_ ?_
                          rotate_left
                          · rintro w' ⟨s0, s1, s2, s3, s4, s5, s6, s7, s8⟩
                            go_simp
                            with_reducible rfl
                          rotate_left
                          · simp only [Act.put, List.setIfInBounds_toArray, List.set_cons_zero, List.set_cons_succ, i64_w, i32_w]
                            rfl
                          refine pure_ (i := 25) (N := some 87) (v := ?_) (a' := ?_) #[true, true, true, true, true, true, true, true, true, true, true, true, true, true, true, true, true, true, true, true, true, true, true, true, true, true, false, false, false, false, false, false, false, false, false, false, false, false] rfl rfl (any_of HT_.out (by kernel_rfl)) (fun _ _ _ h => h) (Or.inl ⟨by rfl, ?_⟩) ?_ ?_
                          rotate_left
                          · intro w'
                            go_simp
                            with_reducible rfl
                          rotate_left
                          · simp only [Act.put, List.setIfInBounds_toArray, List.set_cons_zero, List.set_cons_succ, i64_w, i32_w]
                            rfl
                          refine pure_ (i := 26) (N := some 88) (v := ?_) (a' := ?_) #[true, true, true, true, true, true, true, true, true, true, true, true, true, true, true, true, true, true, true, true, true, true, true, true, true, true, true, false, false, false, false, false, false, false, false, false, false, false] rfl rfl (any_of HT_.out (by kernel_rfl)) (fun _ _ _ h => h) (Or.inl ⟨by rfl, ?_⟩) ?_ ?_
                          rotate_left
                          · intro w'
                            go_simp
                            with_reducible rfl
                          rotate_left
                          · simp only [Act.put, List.setIfInBounds_toArray, List.set_cons_zero, List.set_cons_succ, i64_w, i32_w]
                            rfl
                          refine pure_ (i := 27) (N := some 89) (v := ?_) (a' := ?_) #[true, true, true, true, true, true, true, true, true, true, true, true, true, true, true, true, true, true, true, true, true, true, true, true, true, true, true, true, false, false, false, false, false, false, false, false, false, false] rfl rfl (any_of HT_.out (by kernel_rfl)) (fun _ _ _ h => h) (Or.inl ⟨by rfl, ?_⟩) ?_ ?_
                          rotate_left
                          · intro w'
                            go_simp
                            with_reducible rfl
                          rotate_left
                          · simp only [Act.put, List.setIfInBounds_toArray, List.set_cons_zero, List.set_cons_succ, i64_w, i32_w]
                            rfl
                          refine pure_ (i := 28) (N := some 90) (v := ?_) (a' := ?_) #[true, true, true, true, true, true, true, true, true, true, true, true, true, true, true, true, true, true, true, true, true, true, true, true, true, true, true, true, true, false, false, false, false, false, false, false, false, false] rfl rfl (any_of HT_.out (by kernel_rfl)) (fun _ _ _ h => h) (Or.inl ⟨by rfl, ?_⟩) ?_ ?_
                          rotate_left
                          · intro w'
                            go_simp
                            with_reducible rfl
                          rotate_left
                          · simp only [Act.put, List.setIfInBounds_toArray, List.set_cons_zero, List.set_cons_succ, i64_w, i32_w]
                            rfl
                          refine pure_ (i := 29) (N := some 91) (v := ?_) (a' := ?_) #[true, true, true, true, true, true, true, true, true, true, true, true, true, true, true, true, true, true, true, true, true, true, true, true, true, true, true, true, true, true, false, false, false, false, false, false, false, false] rfl rfl (any_of HT_.out (by kernel_rfl)) (fun _ _ _ h => h) (Or.inl ⟨by rfl, ?_⟩) ?_ ?_
                          rotate_left
                          · intro w'
                            go_simp
                            with_reducible rfl
                          rotate_left
                          · simp only [Act.put, List.setIfInBounds_toArray, List.set_cons_zero, List.set_cons_succ, i64_w, i32_w]
                            rfl
                          refine pure_ (i := 32) (N := some 94) (v := ?_) (a' := ?_) #[true, true, true, true, true, true, true, true, true, true, true, true, true, true, true, true, true, true, true, true, true, true, true, true, true, true, true, true, true, true, false, false, true, false, false, false, false, false] rfl rfl (any_of HT_.out (by kernel_rfl)) (fun _ _ _ h => h) (Or.inl ⟨by rfl, ?_⟩) ?_ ?_
                          rotate_left
                          · intro w'
                            go_simp
                            with_reducible rfl
                          rotate_left
                          · simp only [Act.put, List.setIfInBounds_toArray, List.set_cons_zero, List.set_cons_succ, i64_w, i32_w]
                            rfl
                          refine take_ (i := 30) (N := some 92) (v := ?_) (a' := ?_) #[true, true, true, true, true, true, true, true, true, true, true, true, true, true, true, true, true, true, true, true, true, true, true, true, true, true, true, true, true, true, true, false, true, false, false, false, false, false] rfl rfl (take_ofW HT_.out HW_.out (by kernel_rfl)) (fun _ _ _ h => h) (Or.inl ⟨by rfl, ?_⟩) hHeld ?_ ?_
                          rotate_left
                          · rintro w' ⟨s0, s1, s2, s3, s4, s5, s6, s7, s8⟩
                            go_simp
                            with_reducible rfl
                          rotate_left
                          · simp only [Act.put, List.setIfInBounds_toArray, List.set_cons_zero, List.set_cons_succ, i64_w, i32_w]
                            rfl
                          refine pure_ (i := 31) (N := some 93) (v := ?_) (a' := ?_) #[true, true, true, true, true, true, true, true, true, true, true, true, true, true, true, true, true, true, true, true, true, true, true, true, true, true, true, true, true, true, true, true, true, false, false, false, false, false] rfl rfl (any_of HT_.out (by kernel_rfl)) (fun _ _ _ h => h) (Or.inl ⟨by rfl, ?_⟩) ?_ ?_
                          rotate_left
                          · intro w'
                            go_simp
                            with_reducible rfl
                          rotate_left
                          · simp only [Act.put, List.setIfInBounds_toArray, List.set_cons_zero, List.set_cons_succ, i64_w, i32_w]
                            rfl
                          refine one_ (i := 33) (N := some 95) #[true, true, true, true, true, true, true, true, true, true, true, true, true, true, true, true, true, true, true, true, true, true, true, true, true, true, true, true, true, true, true, true, true, true, false, false, false, false] rfl rfl (one_of HT_.out (by kernel_rfl)) (by decide) (fun K hK => ?_)
                          refine goes_ Tryd.func30 (by kernel_rfl) rfl #[.string a0] (by rfl) rfl rfl (by (try simp only [List.map_toArray, List.map_cons, List.map_nil]); first | done | rfl | (simp only [List.length_drop, List.length_take]; rfl)) ?_
                          with_reducible refine (seedcornlaw50_digits.calls kj2 a0 t269 _ A27.out).mono ?_
                          rintro e w' ⟨rfl, ⟨nd, rfl⟩⟩
                          refine ⟨_, rfl, ?_⟩
                          refine hK.out _ _ ⟨(blk_cell BK267.out 0).trans rfl, (blk_cell BK267.out 1).trans rfl, (blk_cell BK267.out 2).trans rfl, (blk_cell BK255.out 0).trans rfl, (blk_cell BK255.out 1).trans rfl, (blk_cell BK255.out 2).trans rfl, (blk_cell BK261.out 0).trans rfl, (blk_cell BK261.out 1).trans rfl, (blk_cell BK261.out 2).trans rfl⟩ (fun hHeld => ?_)
                          clear hK K
                          refine norm_ (a' := ?_) ?_ ?_
                          rotate_left
                          · show Act.put _ (some 95) _ = _
                            simp only [Act.put, List.setIfInBounds_toArray, List.set_cons_zero, List.set_cons_succ, i64_w, i32_w]
                            rfl
                          refine pure_ (i := 34) (N := some 96) (v := ?_) (a' := ?_) #[true, true, true, true, true, true, true, true, true, true, true, true, true, true, true, true, true, true, true, true, true, true, true, true, true, true, true, true, true, true, true, true, true, true, true, false, false, false] rfl rfl (any_of HT_.out (by kernel_rfl)) (fun _ _ _ h => h) (Or.inl ⟨by rfl, ?_⟩) ?_ ?_
                          rotate_left
                          · intro w'
                            go_simp
                            with_reducible rfl
                          rotate_left
                          · simp only [Act.put, List.setIfInBounds_toArray, List.set_cons_zero, List.set_cons_succ, i64_w, i32_w]
                            rfl
                          refine pure_ (i := 35) (N := some 97) (v := ?_) (a' := ?_) #[true, true, true, true, true, true, true, true, true, true, true, true, true, true, true, true, true, true, true, true, true, true, true, true, true, true, true, true, true, true, true, true, true, true, true, true, false, false] rfl rfl (any_of HT_.out (by kernel_rfl)) (fun _ _ _ h => h) (Or.inl ⟨by rfl, ?_⟩) ?_ ?_
                          rotate_left
                          · intro w'
                            go_simp
                            with_reducible rfl
                          rotate_left
                          · simp only [Act.put, List.setIfInBounds_toArray, List.set_cons_zero, List.set_cons_succ, i64_w, i32_w]
                            rfl
                          refine pure_ (i := 36) (N := some 98) (v := ?_) (a' := ?_) #[true, true, true, true, true, true, true, true, true, true, true, true, true, true, true, true, true, true, true, true, true, true, true, true, true, true, true, true, true, true, true, true, true, true, true, true, true, false] rfl rfl (any_of HT_.out (by kernel_rfl)) (fun _ _ _ h => h) (Or.inl ⟨by rfl, ?_⟩) ?_ ?_
                          rotate_left
                          · intro w'
                            go_simp
                            with_reducible rfl
                          rotate_left
                          · simp only [Act.put, List.setIfInBounds_toArray, List.set_cons_zero, List.set_cons_succ, i64_w, i32_w]
                            rfl
                          refine pure_ (i := 37) (N := some 4) (v := ?_) (a' := ?_) #[true, true, true, true, true, true, true, true, true, true, true, true, true, true, true, true, true, true, true, true, true, true, true, true, true, true, true, true, true, true, true, true, true, true, true, true, true, true] rfl rfl (any_of HT_.out (by kernel_rfl)) (fun _ _ _ h => h) (Or.inl ⟨by rfl, ?_⟩) ?_ ?_
                          rotate_left
                          · intro w'
                            go_simp
                            with_reducible rfl
                          rotate_left
                          · simp only [Act.put, List.setIfInBounds_toArray, List.set_cons_zero, List.set_cons_succ, i64_w, i32_w]
                            rfl
                          refine done_ (done_of HT_.out (by kernel_rfl)) ?_
                          try go_wp2
                          go_ret
                          exact ⟨by first | rfl | (simp [errW_none, errW_some] <;> rfl) | (simp [*, errW_none, errW_some] <;> rfl), by repeat (first | (with_reducible first | exact HB.out | apply below_alloc | apply pw_below_drewN | apply below_drew1 | refine below_set ?_ GE255.out | refine below_set ?_ GE261.out | refine below_set ?_ GE267.out) | exact HB.out)⟩
                        · rw [if_neg c26] at H
                          have c26b0 : (t264.toList == (t252 ++ t258).toList) = false := beq_eq_false_iff_ne.mpr c26
                          have c26b1 : (t264.toList != (t252 ++ t258).toList) = true := bne_iff_ne.mpr c26
                          exact absurd ((Option.some.inj H).trans HRT.out) (by decide)
                      · rw [if_neg c25] at H
                        exact absurd H (by simp)
                    · rw [if_neg c24] at H
                      have c24b0 : (t263 == 1) = false := beq_eq_false_iff_ne.mpr c24
                      have c24b1 : (t263 != 1) = true := bne_iff_ne.mpr c24
                      exact absurd ((Option.some.inj H).trans HRT.out) (by decide)
                  · rw [if_neg c23] at H
                    have c23b0 : (t266 == 0) = false := beq_eq_false_iff_ne.mpr c23
                    have c23b1 : (t266 != 0) = true := bne_iff_ne.mpr c23
                    exact absurd ((Option.some.inj H).trans HRT.out) (by decide)
                · rw [if_neg c22] at H
                  have c22b0 : (t260 == 0) = false := beq_eq_false_iff_ne.mpr c22
                  have c22b1 : (t260 != 0) = true := bne_iff_ne.mpr c22
                  exact absurd ((Option.some.inj H).trans HRT.out) (by decide)
              · rw [if_neg c21] at H
                have c21b0 : (t254 == 0) = false := beq_eq_false_iff_ne.mpr c21
                have c21b1 : (t254 != 0) = true := bne_iff_ne.mpr c21
                exact absurd ((Option.some.inj H).trans HRT.out) (by decide)
            · replace c20 := Bool.eq_false_iff.mpr c20
              subst c20
              have H1 : (some false) = some r := by rw [if_neg (show ¬ (false = true) by decide)] at H; exact H
              clear H
              have H := H1
              clear H1
              exact absurd ((Option.some.inj H).trans HRT.out) (by decide)
          · rw [if_neg c16] at H
            exact absurd H (by simp)
        · rw [if_neg c15] at H
          exact absurd H (by simp)
end Go.Proofs.YtdhkmdgieflioaaDoor.F
