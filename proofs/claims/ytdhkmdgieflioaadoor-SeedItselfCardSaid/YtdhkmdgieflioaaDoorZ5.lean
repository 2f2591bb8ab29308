/- Texts of this claim: contracts of functions that the law reaches, and plain lemmas. -/
import Derived.Outline
import Derived.WalkKit
import Derived.Lib.OthersKept
import Derived.Shelf.Strings.BuilderK
import Derived.WalkLawsBesides
import Derived.WalkSpells
import Derived.Laws.Rows
import Derived.RegionTactic
import Derived.Laws.RangeString
import Derived.Lib.AppendIntMem
import Derived.Lib.ItoaLen
import Derived.Lib.TrimByte
import Derived.Maps.Own
import Derived.Maps.OwnOps
import Derived.Maps.OwnSet
import Derived.Maps.RangeWalk
import Derived.Maps.Views
import Derived.Laws.BitsLemmas
import Derived.Test.YtdhkmdgieflioaaDoorZ3
import Derived.Test.YtdhkmdgieflioaaDoorZ4
import Derived.Test.YtdhkmdgieflioaaDoorZ1
namespace Go.Proofs.YtdhkmdgieflioaaDoor.F
open Go.RowKit Go.Proofs.YtdhkmdgieflioaaDoorW.PrintWords Go.Proofs.YtdhkmdgieflioaaDoorW.PrintLast Go.Proofs.YtdhkmdgieflioaaDoorW.PrintMore
set_option linter.unusedVariables false
set_option linter.unusedSimpArgs false
open SeedSim
def seedRows : List S46 := SeedSim.code.map fun i => ⟨i.1, i.2.1, i.2.2.1, i.2.2.2⟩
def seedOks : List Bool := List.replicate 37 true
set_option maxRecDepth 100000 in
theorem code_f : seedcornref10_Code.f 40 seedWords 0 = some (seedRows, seedOks) := by kernel_rfl
theorem seedRows_len : seedRows.length = 37 := by kernel_rfl
theorem seedOks_len : seedOks.length = 37 := by kernel_rfl
theorem code_rows (w : World) (B : Nat) (v1 v2 : Value) (bc co1 bo co2 : Nat) (e1 : v1 = .slice (some ⟨bc, 0, none⟩) 37 co1) (e2 : v2 = .slice (some ⟨bo, 0, none⟩) 37 co2) (h1 : Kd.R k46 46 w B (fun _ => True) v1 seedRows) (h2 : Kd.R Kd.bool 4 w B (fun _ => True) v2 seedOks) :
    ∃ CC OK, w.heap[bc]? = some (.cells CC 46 (0, 0)) ∧ w.heap[bo]? = some (.cells OK 4 (0, 0)) ∧ Rows CC OK := by
  subst e1 e2
  obtain ⟨_, inner1, ho1, hr1⟩ := h1
  obtain ⟨_, inner2, ho2, hr2⟩ := h2
  rcases ho1.2 with ⟨e, _⟩ | ⟨g1, cap1, cur1, e1, _, hg1, hn1, _, hs1, ht1⟩
  · cases e
  rcases ho2.2 with ⟨e, _⟩ | ⟨g2, cap2, cur2, e2, _, hg2, hn2, _, hs2, ht2⟩
  · cases e
  injection e1 with e1 e1n e1c
  injection e1 with e1
  injection e1 with e1 _ _
  subst e1
  injection e2 with e2 e2n e2c
  injection e2 with e2
  injection e2 with e2 _ _
  subst e2
  have key : ∀ (p : Nat) (i : I4), code[p]? = some i → ∀ j : Nat, j < 4 → cur1[p * 4 + j]? = [Value.int .i64 i.1, .int .i64 i.2.1, .int .i64 i.2.2.1, .int .i64 i.2.2.2][j]? := by
    intro p i hp j hj
    have hp1 : seedRows[p]? = some ⟨i.1, i.2.1, i.2.2.1, i.2.2.2⟩ := by simp [seedRows, hp]
    have h := k46_open (w := w) (k46.K_of_M (hr1.2 p _ hp1))
    have hlt : p < 37 := by have h3 := (List.getElem?_eq_some_iff.1 hp1).1; rw [seedRows_len] at h3; exact h3
    have h4 := congrArg (fun l => l[j]?) h
    simp only at h4
    rw [← h4, ← ht1]
    rw [List.getElem?_take_of_lt (show j < k46.sz from hj), List.getElem?_drop, List.getElem?_take_of_lt (by rw [seedRows_len]; show p * 4 + j < 37 * 4; omega), Array.getElem?_toList]
    rfl
  have keyo : ∀ p : Nat, p < 37 → cur2[p]? = some (.bool true) := by
    intro p hp
    have hp1 : seedOks[p]? = some true := by
      unfold seedOks
      rw [List.getElem?_replicate, if_pos hp]
    have h : ((inner2.drop (p * Kd.bool.sz)).take Kd.bool.sz) = [.bool true] := hr2.2 p _ hp1
    have h4 := congrArg (fun l => l[0]?) h
    simp only [List.getElem?_cons_zero] at h4
    rw [← h4, ← ht2]
    rw [List.getElem?_take_of_lt (show 0 < Kd.bool.sz from by decide), List.getElem?_drop, List.getElem?_take_of_lt (by rw [seedOks_len]; show p * 1 + 0 < 37 * 1; omega), Array.getElem?_toList]
    show cur2[p]? = cur2[p * 1 + 0]?
    rw [Nat.mul_one, Nat.add_zero]
  exact ⟨cur1, cur2, hg1, hg2, ⟨fun p i h => key p i h 0 (by omega), fun p i h => key p i h 1 (by omega), fun p i h => key p i h 2 (by omega), fun p i h => key p i h 3 (by omega), keyo⟩⟩
end Go.Proofs.YtdhkmdgieflioaaDoor.F
namespace Go.Proofs.YtdhkmdgieflioaaDoor.F
open Go.RowKit Go.Proofs.YtdhkmdgieflioaaDoorW.PrintWords Go.Proofs.YtdhkmdgieflioaaDoorW.PrintLast Go.Proofs.YtdhkmdgieflioaaDoorW.PrintMore
set_option linter.unusedVariables false
set_option linter.unusedSimpArgs false
open SeedSim
theorem exec_alloc109 {o : Oper} {a : Act} {W : World} (ho : o.op = .alloc 109) :
    (execOp a.eval o).run Tryd.prog W = .ok (.value (.pointer (some ⟨W.heap.size, 0, none⟩))) (W.alloc (.cells Z109c 109)) := by
  unfold execOp
  simp only [ho]
  have hu109 := Tryd.underlying109
  go_simp
  rfl
theorem fc_size (s : MS) (mem : Value) : (Tryd.prog.info? 109).map (·.size) = some (FC s mem).size := by kernel_rfl
theorem run109 (A : Option Addr) (c : Nat) (W : World) (inp : ByteArray) (fuel : Nat) (hc : 37 ≤ c) (hC : Kd.C (Kd.int .u32) W A seedWords.length seedWords)
    (hfu : fuel < 1000000) (hsz : inp.size < 1000000) (hout : (SeedSim.run (inpL inp) fuel init).out.length < 65536) :
    Calls Tryd.prog 109 #[.agg #[.slice A seedWords.length c, .int .i64 0], .string inp, .agg Z109c, .int .i64 fuel] W fun e w' => ∃ (mem v : Value), mem.oneCell' = true ∧ e = .returned (.tuple #[.agg (FC (SeedSim.run (inpL inp) fuel init) mem), v]) ∧ Below W.heap.size W w' :=
  run_calls A c W inp fuel seedRows seedOks hc hC code_f seedRows_len seedOks_len code_rows hfu hsz hout
set_option maxRecDepth 100000 in
set_option maxHeartbeats 4000000 in
theorem go_calls (A : Option Addr) (c : Nat) (W : World) (inp : ByteArray) (fuel : Nat) (hc : 37 ≤ c) (hC : Kd.C (Kd.int .u32) W A seedWords.length seedWords)
    (hfu : fuel < 1000000) (hsz : inp.size < 1000000) (hout : (SeedSim.run (inpL inp) fuel init).out.length < 65536) :
    Calls Tryd.prog 92 #[.agg #[.slice A seedWords.length c, .int .i64 0], .string inp, .agg Z109c, .int .i64 fuel] W fun e w' => ∃ (mem : Value), mem.oneCell' = true ∧ e = .returned (.agg (FC (SeedSim.run (inpL inp) fuel init) mem)) ∧ Below W.heap.size W w' := by
  have hu28 := Tryd.underlying28
  have H109 := Aside0.mk (fun W hC => run109 A c W inp fuel hc hC hfu hsz hout)
  have HC := Aside0.mk hC
  clear hC hout hsz hfu hc
  have HB := Aside0.mk (Below.refl W.heap.size W)
  generalize SeedSim.run (inpL inp) fuel init = fin at *
  generalize seedWords = sw at *
  go_enter Tryd.func92, Tryd.ntmps92
  go_wp2_with (first
    | ((with_reducible refine gate_dst (N := 14) rfl ?_); refine wpList_load_row rfl 109 _ rfl (W.heap.size + 1) rfl 109 Z109c (0, 0) _ (blk_alloc (blk_newat (by simp)) _) Tryd.underlying109 rfl Z109_size ?_)
    | (go_at_call 109; (with_reducible refine (H109.out _ ?s1).mono ?_); (case s1 => exact Kd.C_alloc (Kd.C_alloc (Kd.C_alloc HC.out _) _) _); rintro e w4 ⟨mem, v, hm, rfl, hb⟩; have B2 := Aside0.mk (blk_below (g := W.heap.size + 1 + 1) (o := .cells Z109c 109 (0, 0)) (blk_newat (by simp)) hb); have HB2 := Aside0.mk (below_step (below_alloc (below_alloc (below_alloc HB.out _) _) _) hb); have HM := Aside0.mk hm; clear hb hm)
    | ((with_reducible refine gate_store (t := 109) (p := 9) rfl ?_); refine wpList_store_row rfl 109 _ _ rfl w4.heap.size (FC fin mem) rfl rfl 109 Z109c (blk_new _ _) (fc_size _ _) rfl (fc_one _ _ HM.out) ?_)
    | ((with_reducible refine gate_dst (N := 19) rfl ?_); refine wpList_load_row rfl 109 _ rfl w4.heap.size rfl 109 (FC fin mem) (0, 0) _ (setRow_heap _ _ _ _ _ _ (blk_new _ _)) Tryd.underlying109 rfl (fc_size _ _) ?_)
    | ((with_reducible refine gate_store (t := 109) (p := 8) rfl ?_); refine wpList_store_row rfl 109 _ _ rfl (W.heap.size + 1 + 1) (FC fin mem) rfl rfl 109 Z109c ?q1 (fc_size _ _) rfl (fc_one _ _ HM.out) ?_; (case q1 => exact (setRow_other _ _ _ _ (Nat.ne_of_lt (blk_lt B2.out))).trans (blk_alloc B2.out _))))
  refine bodyPost_ret (results_cell_row rfl _ _ (W.heap.size + 1 + 1) 109 (FC fin mem) (0, 0) _ rfl (setRow_heap _ _ _ _ _ _ ((setRow_other _ _ _ _ (Nat.ne_of_lt (blk_lt B2.out))).trans (blk_alloc B2.out _))) Tryd.underlying109 rfl (fc_size _ _)) rfl ?_
  exact ⟨mem, HM.out, rfl, below_setRow (below_setRow (below_alloc HB2.out _) HB2.out.size _) (by omega) _⟩
def runEnd (s : MS) : Int := if s.fin = 0 then 5 else s.fin
set_option maxRecDepth 100000 in
set_option maxHeartbeats 4000000 in
theorem run65 (A : Option Addr) (c : Nat) (W : World) (inp : ByteArray) (fuel : Nat) (hc : 37 ≤ c) (hC : Kd.C (Kd.int .u32) W A seedWords.length seedWords)
    (hfu : fuel < 1000000) (hsz : inp.size < 1000000) (hout : (SeedSim.run (inpL inp) fuel init).out.length < 65536) :
    Calls Tryd.prog 65 #[.agg #[.slice A seedWords.length c, .int .i64 0], .string inp, .int .i64 fuel] W fun e w' => e = .returned (.agg #[.int .i64 (runEnd (SeedSim.run (inpL inp) fuel init)), .string (strOfNums (SeedSim.run (inpL inp) fuel init).out), .int .i64 (SeedSim.run (inpL inp) fuel init).steps]) ∧ Below W.heap.size W w' := by
  have hu28 := Tryd.underlying28
  have hu38 := Tryd.underlying38
  have HGO := Aside0.mk (fun W hC => go_calls A c W inp fuel hc hC hfu hsz hout)
  have HC := Aside0.mk hC
  clear hC hout hsz hfu hc
  have HB := Aside0.mk (Below.refl W.heap.size W)
  generalize SeedSim.run (inpL inp) fuel init = fin at *
  generalize seedWords = sw at *
  go_enter Tryd.func65, Tryd.ntmps65
  go_wp2_with fail
  generalize hw1 : World.alloc (World.alloc W _) _ = w1
  have BM : Aside0 (w1.heap[W.heap.size]? = some (.cells #[.slice A sw.length c, .int .i64 0] 28 (0, 0))) := ⟨by rw [← hw1]; exact blk_alloc (blk_new _ _) _⟩
  have BT : Aside0 (w1.heap[W.heap.size + 1]? = some (.cells #[.int .i64 0, .string ⟨#[]⟩, .int .i64 0] 38 (0, 0))) := ⟨by rw [← hw1]; exact blk_newat (by simp)⟩
  have HB1 : Aside0 (Below W.heap.size W w1) := ⟨by rw [← hw1]; exact below_alloc (below_alloc HB.out _) _⟩
  have HC1 : Aside0 (Kd.C (Kd.int .u32) w1 A sw.length sw) := ⟨by rw [← hw1]; exact Kd.C_alloc (Kd.C_alloc HC.out _) _⟩
  clear hw1
  refine start_ (n := 8) (S := fun w' => Below w1.heap.size w1 w') (ds := []) #[false, false, false, false, false, false, false, false] (by kernel_rfl) rfl rfl ((by repeat (first | (with_reducible exact Below.refl _ _) | (with_reducible apply below_drew1)))) (fun hHeld => ?_)
  refine pure_ (i := 1) (N := some 9) (v := ?_) (a' := ?_) #[false, true, false, false, false, false, false, false] rfl rfl (by kernel_rfl) (fun _ _ _ h => h) (Or.inl ⟨by rfl, ?_⟩) ?_ ?_
  rotate_left
  · intro w'
    go_simp
    with_reducible rfl
  rotate_left
  · simp only [Act.put, List.setIfInBounds_toArray, List.set_cons_zero, List.set_cons_succ, i64_w, i32_w]
    rfl
  refine pure_ (i := 4) (N := some 12) (v := ?_) (a' := ?_) #[false, true, false, false, true, false, false, false] rfl rfl (by kernel_rfl) (fun _ _ _ h => h) (Or.inl ⟨by rfl, ?_⟩) ?_ ?_
  rotate_left
  · intro w'
    go_simp
    with_reducible rfl
  rotate_left
  · simp only [Act.put, List.setIfInBounds_toArray, List.set_cons_zero, List.set_cons_succ, i64_w, i32_w]
    rfl
  refine take_ (i := 0) (N := some 8) (v := ?_) (a' := ?_) #[true, true, false, false, true, false, false, false] rfl rfl (by kernel_rfl) (fun _ _ _ h => h) (Or.inl ⟨by rfl, ?_⟩) hHeld ?_ ?_
  rotate_left
  · intro w' s0
    have hz := blk_below BM.out s0; have hc0 : w'.cell? ⟨W.heap.size, 0, none⟩ = some (.slice A sw.length c) := (blk_cell hz 0).trans rfl; have hc1 : w'.cell? ⟨W.heap.size, 1, none⟩ = some (.int .i64 0) := (blk_cell hz 1).trans rfl; clear hz s0
    go_simp
    with_reducible rfl
  rotate_left
  · simp only [Act.put, List.setIfInBounds_toArray, List.set_cons_zero, List.set_cons_succ, i64_w, i32_w]
    rfl
  refine take_ (i := 2) (N := some 10) (v := ?_) (a' := ?_) #[true, true, true, false, true, false, false, false] rfl rfl (by kernel_rfl) (fun _ _ _ h => h) (Or.inl ⟨by rfl, ?_⟩) hHeld ?_ ?_
  rotate_left
  · intro w' s0
    have hz := blk_below BM.out s0; have hc0 : w'.cell? ⟨W.heap.size, 0, none⟩ = some (.slice A sw.length c) := (blk_cell hz 0).trans rfl; have hc1 : w'.cell? ⟨W.heap.size, 1, none⟩ = some (.int .i64 0) := (blk_cell hz 1).trans rfl; clear hz s0
    go_simp
    with_reducible rfl
  rotate_left
  · simp only [Act.put, List.setIfInBounds_toArray, List.set_cons_zero, List.set_cons_succ, i64_w, i32_w]
    rfl
  refine join_ (σ := Nat × Value) 1 #[true, true, true, true, true, true, true, false] (fun s => [(7, .pointer (some ⟨s.1, 0, none⟩)), (11, .agg Z109c), (13, .agg (FC fin s.2))]) (fun s w' => s.2.oneCell' = true ∧ w'.heap[s.1]? = some (.cells Z109c 109 (0, 0)) ∧ w1.heap.size ≤ s.1 ∧ Below w1.heap.size w1 w') ?_ ?_
  rotate_left
  · intro hCont
    refine two_ (i := 3) (j := 6) (Ni := some 11) (Nj := some 7) #[true, true, true, true, true, false, false, false] #[true, true, true, false, true, false, true, false] rfl rfl rfl rfl (by kernel_rfl) (by decide) (by decide) (fun K hK => ?_) (fun K hK => ?_)
    · skip
      refine goes_ Tryd.func93 (by kernel_rfl) rfl #[.agg #[.slice A sw.length c, .int .i64 0]] (by rfl) rfl rfl (by simp only [List.map_toArray, List.map_cons, List.map_nil]; rfl) ?_
      with_reducible refine (start_calls A sw.length c _).mono ?_
      rintro e w3 ⟨rfl, hb3⟩
      refine ⟨_, rfl, ?_⟩
      refine hK.out _ _ ((below_step hHeld hb3)) (fun hHeld => ?_)
      clear hK K
      refine norm_ (a' := ?_) ?_ ?_
      rotate_left
      · show Act.put _ (some 11) _ = _
        simp only [Act.put, List.setIfInBounds_toArray, List.set_cons_zero, List.set_cons_succ, i64_w, i32_w]
        rfl
      refine two_ (i := 5) (j := 6) (Ni := some 13) (Nj := some 7) #[true, true, true, true, true, true, false, false] #[true, true, true, true, true, false, true, false] rfl rfl rfl rfl (by kernel_rfl) (by decide) (by decide) (fun K hK => ?_) (fun K hK => ?_)
      · skip
        refine goes_ Tryd.func92 (by kernel_rfl) rfl #[.agg #[.slice A sw.length c, .int .i64 0], .string inp, .agg Z109c, .int .i64 fuel] (by rfl) rfl rfl (by simp only [List.map_toArray, List.map_cons, List.map_nil]; rfl) ?_
        with_reducible refine (HGO.out _ (Kd.C_below HC1.out hHeld)).mono ?_
        rintro e w5 ⟨mem, hm, rfl, hb5⟩
        refine ⟨_, rfl, ?_⟩
        refine hK.out _ _ ((below_step hHeld hb5)) (fun hHeld => ?_)
        clear hK K
        refine norm_ (a' := ?_) ?_ ?_
        rotate_left
        · show Act.put _ (some 13) _ = _
          simp only [Act.put, List.setIfInBounds_toArray, List.set_cons_zero, List.set_cons_succ, i64_w, i32_w]
          rfl
        refine one_ (i := 6) (N := some 7) #[true, true, true, true, true, true, true, false] rfl rfl (by kernel_rfl) (by decide) (fun K hK => ?_)
        have hge_ := Below.size hHeld
        refine value_ (by rfl) rfl (exec_alloc109 ?_) ?_
        · rfl
        refine hK.out _ _ ((below_alloc hHeld _)) (fun hHeld => ?_)
        clear hK K
        refine norm_ (a' := ?_) ?_ ?_
        rotate_left
        · show Act.put _ (some 7) _ = _
          simp only [Act.put, List.setIfInBounds_toArray, List.set_cons_zero, List.set_cons_succ, i64_w, i32_w]
          rfl
        exact norm_ (by first | (simp only [putAll, Act.put, List.setIfInBounds_toArray, List.set_cons_zero, List.set_cons_succ]; done) | (simp only [putAll, Act.put, List.setIfInBounds_toArray, List.set_cons_zero, List.set_cons_succ]; rfl)) (hCont (_, mem) _ ⟨hm, (blk_new _ _), hge_, hHeld⟩)
      · skip
        have hge_ := Below.size hHeld
        refine value_ (by rfl) rfl (exec_alloc109 ?_) ?_
        · rfl
        refine hK.out _ _ ((below_alloc hHeld _)) (fun hHeld => ?_)
        clear hK K
        refine norm_ (a' := ?_) ?_ ?_
        rotate_left
        · show Act.put _ (some 7) _ = _
          simp only [Act.put, List.setIfInBounds_toArray, List.set_cons_zero, List.set_cons_succ, i64_w, i32_w]
          rfl
        refine one_ (i := 5) (N := some 13) #[true, true, true, true, true, true, true, false] rfl rfl (by kernel_rfl) (by decide) (fun K hK => ?_)
        refine goes_ Tryd.func92 (by kernel_rfl) rfl #[.agg #[.slice A sw.length c, .int .i64 0], .string inp, .agg Z109c, .int .i64 fuel] (by rfl) rfl rfl (by simp only [List.map_toArray, List.map_cons, List.map_nil]; rfl) ?_
        with_reducible refine (HGO.out _ (Kd.C_below HC1.out hHeld)).mono ?_
        rintro e w5 ⟨mem, hm, rfl, hb5⟩
        refine ⟨_, rfl, ?_⟩
        refine hK.out _ _ ((below_step hHeld hb5)) (fun hHeld => ?_)
        clear hK K
        refine norm_ (a' := ?_) ?_ ?_
        rotate_left
        · show Act.put _ (some 13) _ = _
          simp only [Act.put, List.setIfInBounds_toArray, List.set_cons_zero, List.set_cons_succ, i64_w, i32_w]
          rfl
        exact norm_ (by first | (simp only [putAll, Act.put, List.setIfInBounds_toArray, List.set_cons_zero, List.set_cons_succ]; done) | (simp only [putAll, Act.put, List.setIfInBounds_toArray, List.set_cons_zero, List.set_cons_succ]; rfl)) (hCont (_, mem) _ ⟨hm, (blk_below (blk_new _ _) hb5), hge_, hHeld⟩)
    · skip
      have hge_ := Below.size hHeld
      refine value_ (by rfl) rfl (exec_alloc109 ?_) ?_
      · rfl
      refine hK.out _ _ ((below_alloc hHeld _)) (fun hHeld => ?_)
      clear hK K
      refine norm_ (a' := ?_) ?_ ?_
      rotate_left
      · show Act.put _ (some 7) _ = _
        simp only [Act.put, List.setIfInBounds_toArray, List.set_cons_zero, List.set_cons_succ, i64_w, i32_w]
        rfl
      refine one_ (i := 3) (N := some 11) #[true, true, true, true, true, false, true, false] rfl rfl (by kernel_rfl) (by decide) (fun K hK => ?_)
      refine goes_ Tryd.func93 (by kernel_rfl) rfl #[.agg #[.slice A sw.length c, .int .i64 0]] (by rfl) rfl rfl (by simp only [List.map_toArray, List.map_cons, List.map_nil]; rfl) ?_
      with_reducible refine (start_calls A sw.length c _).mono ?_
      rintro e w3 ⟨rfl, hb3⟩
      refine ⟨_, rfl, ?_⟩
      refine hK.out _ _ ((below_step hHeld hb3)) (fun hHeld => ?_)
      clear hK K
      refine norm_ (a' := ?_) ?_ ?_
      rotate_left
      · show Act.put _ (some 11) _ = _
        simp only [Act.put, List.setIfInBounds_toArray, List.set_cons_zero, List.set_cons_succ, i64_w, i32_w]
        rfl
      refine one_ (i := 5) (N := some 13) #[true, true, true, true, true, true, true, false] rfl rfl (by kernel_rfl) (by decide) (fun K hK => ?_)
      refine goes_ Tryd.func92 (by kernel_rfl) rfl #[.agg #[.slice A sw.length c, .int .i64 0], .string inp, .agg Z109c, .int .i64 fuel] (by rfl) rfl rfl (by simp only [List.map_toArray, List.map_cons, List.map_nil]; rfl) ?_
      with_reducible refine (HGO.out _ (Kd.C_below HC1.out hHeld)).mono ?_
      rintro e w5 ⟨mem, hm, rfl, hb5⟩
      refine ⟨_, rfl, ?_⟩
      refine hK.out _ _ ((below_step hHeld hb5)) (fun hHeld => ?_)
      clear hK K
      refine norm_ (a' := ?_) ?_ ?_
      rotate_left
      · show Act.put _ (some 13) _ = _
        simp only [Act.put, List.setIfInBounds_toArray, List.set_cons_zero, List.set_cons_succ, i64_w, i32_w]
        rfl
      exact norm_ (by first | (simp only [putAll, Act.put, List.setIfInBounds_toArray, List.set_cons_zero, List.set_cons_succ]; done) | (simp only [putAll, Act.put, List.setIfInBounds_toArray, List.set_cons_zero, List.set_cons_succ]; rfl)) (hCont (_, mem) _ ⟨hm, (blk_below (blk_below (blk_new _ _) hb3) hb5), hge_, hHeld⟩)
  rintro ⟨ob, mem⟩ w' ⟨hm, hob, hoge, hbel⟩
  have hHeld := hbel
  dsimp only at hm hob hoge
  refine norm_ (a' := ?_) ?_ ?_
  rotate_left
  · simp only [putAll, Act.put, List.setIfInBounds_toArray, List.set_cons_zero, List.set_cons_succ]
    rfl
  refine one_ (i := 7) (N := none) #[true, true, true, true, true, true, true, true] rfl rfl (by kernel_rfl) (by decide) (fun K hK => ?_)
  refine skip_ (w1 := _) (by rfl) rfl (exec_store_row 109 (.tmp 7) (.tmp 13) ?_ ob (FC fin mem) ?_ ?_ 109 Z109c hob ?_ ?_ ?_) ?_
  · rfl
  · rfl
  · rfl
  · exact fc_size _ _
  · rfl
  · exact fc_one _ _ hm
  refine hK.out _ _ ((below_setRow hHeld hoge _)) (fun hHeld => ?_)
  clear hK K
  refine done_ (by kernel_rfl) ?_
  have BO := Aside0.mk (setRow_heap _ _ _ (FC fin mem) _ _ hob)
  have BT2 := Aside0.mk (blk_below BT.out hHeld)
  have HB2 := Aside0.mk (below_step HB1.out hHeld)
  have HGE := Aside0.mk (Nat.le_trans HB1.out.size hoge)
  clear hob hm hoge hHeld hbel BM BT HB1 HC1 HC HGO
  generalize hw2 : World.setRow _ _ _ = w2 at *
  clear hw2
  have c21 : w2.cell? ⟨ob, 21, none⟩ = some (.int .i64 fin.fin) := (blk_cell BO.out 21).trans rfl
  have c20 : w2.cell? ⟨ob, 20, none⟩ = some (.int .i64 fin.steps) := (blk_cell BO.out 20).trans rfl
  have c19 : w2.cell? ⟨ob, 19, none⟩ = some (.string (strOfNums fin.out)) := (blk_cell BO.out 19).trans rfl
  have z21 := blk_frozen BO.out 21
  have t0 : w2.cell? ⟨W.heap.size + 1, 0, none⟩ = some (.int .i64 0) := (blk_cell BT2.out 0).trans rfl
  have t1 : w2.cell? ⟨W.heap.size + 1, 1, none⟩ = some (.string ⟨#[]⟩) := (blk_cell BT2.out 1).trans rfl
  have t2 : w2.cell? ⟨W.heap.size + 1, 2, none⟩ = some (.int .i64 0) := (blk_cell BT2.out 2).trans rfl
  have y0 := blk_frozen BT2.out 0
  have y1 := blk_frozen BT2.out 1
  have y2 := blk_frozen BT2.out 2
  have nob : ob ≠ W.heap.size + 1 := blk_ne BO.out BT2.out (by decide)
  have nob' : W.heap.size + 1 ≠ ob := fun e => nob e.symm
  by_cases hf : fin.fin = 0
  · have q1 : (fin.fin == 0) = true := beq_iff_eq.mpr hf
    have HF : Aside0 (runEnd fin = 5) := ⟨if_pos hf⟩
    clear hf
    go_wp2_with fail
    refine bodyPost_ret (results_cell_row rfl _ _ (W.heap.size + 1) 38 #[.int .i64 5, .string (strOfNums fin.out), .int .i64 (fin.steps : Int)] (0, 0) _ rfl ?_ Tryd.underlying38 rfl (by kernel_rfl)) rfl ?_
    · refine blk_put (cs := #[.int .i64 5, .string (strOfNums fin.out), .int .i64 0]) ?_ 2 _ rfl
      refine blk_put (cs := #[.int .i64 5, .string ⟨#[]⟩, .int .i64 0]) ?_ 1 _ rfl
      refine blk_put (cs := #[.int .i64 0, .string ⟨#[]⟩, .int .i64 0]) ?_ 0 _ rfl
      exact blk_far BT2.out nob' _
    · exact ⟨by rw [HF.out], below_set (below_set (below_set (below_set HB2.out HGE.out) (Nat.le_add_right _ 1)) (Nat.le_add_right _ 1)) (Nat.le_add_right _ 1)⟩
  · have q1 : (fin.fin == 0) = false := beq_eq_false_iff_ne.mpr hf
    have HF : Aside0 (runEnd fin = fin.fin) := ⟨if_neg hf⟩
    clear hf
    go_wp2_with fail
    refine bodyPost_ret (results_cell_row rfl _ _ (W.heap.size + 1) 38 #[.int .i64 fin.fin, .string (strOfNums fin.out), .int .i64 (fin.steps : Int)] (0, 0) _ rfl ?_ Tryd.underlying38 rfl (by kernel_rfl)) rfl ?_
    · refine blk_put (cs := #[.int .i64 fin.fin, .string (strOfNums fin.out), .int .i64 0]) ?_ 2 _ rfl
      refine blk_put (cs := #[.int .i64 fin.fin, .string ⟨#[]⟩, .int .i64 0]) ?_ 1 _ rfl
      refine blk_put (cs := #[.int .i64 0, .string ⟨#[]⟩, .int .i64 0]) ?_ 0 _ rfl
      exact BT2.out
    · exact ⟨by rw [HF.out], below_set (below_set (below_set HB2.out (Nat.le_add_right _ 1)) (Nat.le_add_right _ 1)) (Nat.le_add_right _ 1)⟩
def seedcornref10_Run.f (l0_0 : List Int) (a0_1 : Int) (a1 : ByteArray) (a2 : Int) : Option (Int × ByteArray × Int) :=
  if l0_0 = seedWords ∧ a0_1 = 0 ∧ 0 ≤ a2 ∧ a2 < 1000000 ∧ a1.size < 1000000 ∧ (SeedSim.run (inpL a1) a2.toNat init).out.length < 65536 then
    some (runEnd (SeedSim.run (inpL a1) a2.toNat init), strOfNums (SeedSim.run (inpL a1) a2.toNat init).out, ((SeedSim.run (inpL a1) a2.toNat init).steps : Int)) else none
theorem seedcornref10_Run.calls (A0_0 : Option Addr) (c0_0 : Nat) (l0_0 : List Int) (a0_1 : Int) (a1 : ByteArray) (a2 : Int) (r1 : Int) (r2 : ByteArray) (r3 : Int) (w : World) (hr0_0 : Kd.C (Kd.int .u32) w A0_0 l0_0.length l0_0) (hc0_0 : l0_0.length ≤ c0_0) (h : seedcornref10_Run.f l0_0 a0_1 a1 a2 = some (r1, r2, r3)) :
    Calls Tryd.prog 65 #[.agg #[.slice A0_0 l0_0.length c0_0, .int .i64 a0_1], .string a1, .int .i64 a2] w fun e w' => e = .returned (.agg #[.int .i64 r1, .string r2, .int .i64 r3]) ∧ Below w.heap.size w w' := by
  unfold seedcornref10_Run.f at h
  by_cases hg : l0_0 = seedWords ∧ a0_1 = 0 ∧ 0 ≤ a2 ∧ a2 < 1000000 ∧ a1.size < 1000000 ∧ (SeedSim.run (inpL a1) a2.toNat init).out.length < 65536
  · rw [if_pos hg] at h
    obtain ⟨rfl, rfl, h0, h1, h2, h3⟩ := hg
    obtain ⟨fuel, rfl⟩ := Int.eq_ofNat_of_zero_le h0
    have h4 := Option.some.inj h
    simp only [Prod.mk.injEq, Int.toNat_natCast] at h4
    obtain ⟨rfl, rfl, rfl⟩ := h4
    have hl : seedWords.length = 37 := by kernel_rfl
    exact run65 A0_0 c0_0 w a1 fuel (by rw [hl] at hc0_0; exact hc0_0) hr0_0 (by omega) h2 (by simpa using h3)
  · rw [if_neg hg] at h
    cases h
end Go.Proofs.YtdhkmdgieflioaaDoor.F
namespace Go.Proofs.YtdhkmdgieflioaaDoor.F
open Go.RowKit Go.Proofs.YtdhkmdgieflioaaDoorW.PrintWords Go.Proofs.YtdhkmdgieflioaaDoorW.PrintLast Go.Proofs.YtdhkmdgieflioaaDoorW.PrintMore
attribute [local go_sem] max2_int min2_int max_two min_two max_three min_three max_four min_four
set_option linter.unusedVariables false
set_option linter.unusedSimpArgs false
def seedcornref10_Bytes.f (k : Nat) (a0 : ByteArray) (a1 : ByteArray) (a2 : Int) : Option (Int × ByteArray × Int × Int) := (seedcornref08_Read.f k a0).bind fun bt139 => (if bt139.2.2 = 0 then ((seedcornref10_Run.f bt139.1 bt139.2.1 a1 a2).bind fun bt145 => (some (bt145.1, bt145.2.1, bt145.2.2, 0))) else (some (0, (⟨#[]⟩ : ByteArray), 0, 7)))
theorem seedcornref10_Bytes.mono : ∀ a0 a1 a2 k, LeO (seedcornref10_Bytes.f k a0 a1 a2) (seedcornref10_Bytes.f (k + 1) a0 a1 a2) := by
  intro a0 a1 a2 k
  unfold seedcornref10_Bytes.f
  repeat' first
      | (with_reducible exact seedcornref08_Read.mono _ _)
      | (with_reducible exact LeO.refl _)
      | (with_reducible exact LeO.none _)
      | (with_reducible refine LeO.ite ?_ ?_)
      | (with_reducible refine LeO.bind ?_ (fun _ => ?_))
      | exact seedcornref08_Read.mono _ _
      | exact LeO.none _
      | refine LeO.ite ?_ ?_
      | refine LeO.bind ?_ (fun _ => ?_)
set_option maxHeartbeats 8000000 in
set_option maxRecDepth 100000 in
theorem seedcornref10_Bytes.calls (k : Nat) (a0 : ByteArray) (a1 : ByteArray) (a2 : Int) (r1 : Int) (r2 : ByteArray) (r3 : Int) (r4 : Int) (w : World) (h : seedcornref10_Bytes.f k a0 a1 a2 = some (r1, r2, r3, r4)) :
    Calls Tryd.prog 31 #[.string a0, .string a1, .int .i64 a2] w fun e w' => e = .returned (.tuple #[.agg #[.int .i64 r1, .string r2, .int .i64 r3], .int .i64 r4]) ∧ Below w.heap.size w w' := by
  have hu38 := Tryd.underlying38
  have hu28 := Tryd.underlying28
  have HB := Aside0.mk (Below.refl w.heap.size w)
  have H : ((seedcornref08_Read.f k a0).bind fun bt139 => (if bt139.2.2 = 0 then ((seedcornref10_Run.f bt139.1 bt139.2.1 a1 a2).bind fun bt145 => (some (bt145.1, bt145.2.1, bt145.2.2, 0))) else (some (0, (⟨#[]⟩ : ByteArray), 0, 7)))) = some (r1, r2, r3, r4) := h
  clear h
  replace H := Option.bind_eq_some_iff.mp H
  obtain ⟨⟨t139, t142, t143⟩, A40, H⟩ := H
  replace H : (if t143 = 0 then ((seedcornref10_Run.f t139 t142 a1 a2).bind fun bt145 => (some (bt145.1, bt145.2.1, bt145.2.2, 0))) else (some (0, (⟨#[]⟩ : ByteArray), 0, 7))) = some (r1, r2, r3, r4) := H
  have A4 := Aside0.mk A40
  clear A40
  by_cases c5 : t143 = 0
  · rw [if_pos c5] at H
    have c5b0 : (t143 == 0) = true := beq_iff_eq.mpr c5
    have c5b1 : (t143 != 0) = false := bne_eq_false_iff_eq.mpr c5
    clear c5
    replace H := Option.bind_eq_some_iff.mp H
    obtain ⟨⟨t145, t146, t147⟩, A60, H⟩ := H
    replace H : (some (t145, t146, t147, 0)) = some (r1, r2, r3, r4) := H
    have A6 := Aside0.mk A60
    clear A60
    simp only [Option.some.injEq, Prod.mk.injEq] at H
    obtain ⟨rfl, rfl, rfl, rfl⟩ := H
    go_enter Tryd.func31, Tryd.ntmps31
    go_wp2_with (first | ((with_reducible refine gate_dst (N := 6) rfl ?_); refine box_event ?hg (N := 6) ?hd (cs := #[.int .i64 0, .string (⟨#[]⟩ : ByteArray), .int .i64 0]) (t := 38) ?hr ?_; (case hd => rfl); (case hg => rfl); (case hr => first | (go_simp; done) | (go_simp; rfl)); intro gb138 hg w7 hbox hb; have n0_ := Aside0.mk (below_step (by repeat (first | (with_reducible first | exact HB.out | apply below_alloc | apply pw_below_drewN | apply below_drew1) | exact HB.out)) hb); have n1_ := Aside0.mk (hbox); have n2_ := Aside0.mk ((by rw [hg]; exact (below_size (by repeat (first | (with_reducible first | exact HB.out | apply below_alloc | apply pw_below_drewN | apply below_drew1) | exact HB.out))) : w.heap.size ≤ gb138)); have n3_ := Aside0.mk ((by rw [hg]; exact (below_size (by repeat (first | (with_reducible first | exact HB.out | apply below_alloc | apply pw_below_drewN | apply below_drew1) | exact HB.out))) : w.heap.size ≤ gb138)); clear HB; have HB := n0_; have BK138 := n1_; have GW138 := n2_; have GE138 := n3_; clear n0_ n1_ n2_ n3_; clear hb hbox hg) | ((with_reducible refine gate_callee (f := 25) rfl ?_); refine goesL_ (some 12) rfl rfl Tryd.func25 (by kernel_rfl) rfl #[.string a0] rfl (by (try simp only [List.map_toArray, List.map_cons, List.map_nil]); first | done | rfl | (simp only [List.length_drop, List.length_take]; rfl)) ?_; (with_reducible refine (seedcornref08_Read.calls k a0 t139 t142 t143 _ A4.out).mono ?_); rintro e w8 ⟨v140, rfl, ho0, hb⟩; refine ⟨_, rfl, ?_⟩; have n0_ := Aside0.mk (Kd.R_lower ho0 (below_size (by repeat (first | (with_reducible first | exact HB.out | apply below_alloc | apply pw_below_drewN | apply below_drew1 | refine below_set ?_ GE138.out) | exact HB.out)))); have n1_ := Aside0.mk (blk_below (g := gb138) (o := .cells #[.int .i64 0, .string (⟨#[]⟩ : ByteArray), .int .i64 0] 38 (0, 0)) (by (with_reducible repeat (first | refine blk_drewN ?_ _ | refine blk_drew ?_ | refine blk_alloc ?_ _)); exact BK138.out) hb); have n2_ := Aside0.mk (below_step (by repeat (first | (with_reducible first | exact HB.out | apply below_alloc | apply pw_below_drewN | apply below_drew1 | refine below_set ?_ GE138.out) | exact HB.out)) hb); clear BK138; clear HB; have HO141 := n0_; have BK138 := n1_; have HB := n2_; clear n0_ n1_ n2_; (try clear hb); (try clear hb2); (try clear hk); (try clear hi); (try clear ho0)) | ((with_reducible refine gate_dst (N := 8) rfl ?_); refine box_event ?hg (N := 8) ?hd (cs := #[.slice none 0 0, .int .i64 0]) (t := 28) ?hr ?_; (case hd => rfl); (case hg => rfl); (case hr => first | (go_simp; done) | (go_simp; rfl)); intro gb144 hg w9 hbox hb; have n0_ := Aside0.mk (Kd.R_below (by (with_reducible repeat (first | apply Kd.R_alloc | apply Kd.R_drewN | apply Kd.R_drew)); exact HO141.out) hb); have n1_ := Aside0.mk (blk_below (g := gb138) (o := .cells #[.int .i64 0, .string (⟨#[]⟩ : ByteArray), .int .i64 0] 38 (0, 0)) (by (with_reducible repeat (first | refine blk_drewN ?_ _ | refine blk_drew ?_ | refine blk_alloc ?_ _)); exact BK138.out) hb); have n2_ := Aside0.mk (below_step (by repeat (first | (with_reducible first | exact HB.out | apply below_alloc | apply pw_below_drewN | apply below_drew1 | refine below_set ?_ GE138.out) | exact HB.out)) hb); have n3_ := Aside0.mk (hbox); have n4_ := Aside0.mk ((by rw [hg]; exact (below_size (by repeat (first | (with_reducible first | exact HB.out | apply below_alloc | apply pw_below_drewN | apply below_drew1 | refine below_set ?_ GE138.out) | exact HB.out))) : w.heap.size ≤ gb144)); have n5_ := Aside0.mk ((by rw [hg]; exact (below_size (by repeat (first | (with_reducible first | exact HB.out | apply below_alloc | apply pw_below_drewN | apply below_drew1 | refine below_set ?_ GE138.out) | exact HB.out))) : w.heap.size ≤ gb144)); have n6_ := Aside0.mk ((by rw [hg]; exact Nat.ne_of_lt (blk_lt (g := gb138) (o := .cells #[.int .i64 0, .string (⟨#[]⟩ : ByteArray), .int .i64 0] 38 (0, 0)) (by (with_reducible repeat (first | refine blk_drewN ?_ _ | refine blk_drew ?_ | refine blk_alloc ?_ _)); exact BK138.out)) : gb138 ≠ gb144)); have n7_ := Aside0.mk ((by rw [hg]; exact Nat.ne_of_gt (blk_lt (g := gb138) (o := .cells #[.int .i64 0, .string (⟨#[]⟩ : ByteArray), .int .i64 0] 38 (0, 0)) (by (with_reducible repeat (first | refine blk_drewN ?_ _ | refine blk_drew ?_ | refine blk_alloc ?_ _)); exact BK138.out)) : gb144 ≠ gb138)); clear HO141; clear BK138; clear HB; have HO141 := n0_; have BK138 := n1_; have HB := n2_; have BK144 := n3_; have GW144 := n4_; have GE144 := n5_; have NB138_144 := n6_; have NB144_138 := n7_; clear n0_ n1_ n2_ n3_ n4_ n5_ n6_ n7_; clear hb hbox hg; obtain ⟨Ao10, co10, eo10⟩ := Kd.R_slice HO141.out; subst eo10; have hnb11 := NB144_138.out; have hnc11 := NB138_144.out; have hcz12_0 : w9.cell? ⟨gb144, 0, none⟩ = some (.slice none 0 0) := (blk_cell BK144.out 0).trans rfl; have hcz12_1 : w9.cell? ⟨gb144, 1, none⟩ = some (.int .i64 0) := (blk_cell BK144.out 1).trans rfl; have hfz12_0 := blk_frozen BK144.out 0; have hfz12_1 := blk_frozen BK144.out 1) | ((with_reducible refine gate_callee (f := 65) rfl ?_); refine goesL_ (some 21) rfl rfl Tryd.func65 (by kernel_rfl) rfl #[.agg #[.slice Ao10 t139.length co10, .int .i64 t142], .string a1, .int .i64 a2] rfl (by (try simp only [List.map_toArray, List.map_cons, List.map_nil]); first | done | rfl | (simp only [List.length_drop, List.length_take]; rfl)) ?_; (with_reducible refine (seedcornref10_Run.calls _ _ t139 t142 a1 a2 t145 t146 t147 _ ?side1 ?side2 A6.out).mono ?_); (case side1 => refine (Kd.R_reads' (e := 47) (base := w.heap.size) (ok := fun k_ => True) (n := t139.length) (c := co10) ?_).2.2; exact (by (with_reducible repeat (first | apply Kd.R_alloc | apply Kd.R_drewN | apply Kd.R_drew)); exact (Kd.R_mono (Kd.R_far (p := ⟨gb144, 1, none⟩) (Kd.R_far (p := ⟨gb144, 0, none⟩) (Kd.R_types HO141.out BK144.out (by decide)) (fun _ hk => hk.2) (.slice Ao10 t139.length co10)) (fun _ hk => hk.2) (.int .i64 t142)) (fun _ h_ => h_.1)))); (case side2 => exact (Kd.R_reads' HO141.out).2.1); rintro e w13 ⟨rfl, hb⟩; refine ⟨_, rfl, ?_⟩; have n0_ := Aside0.mk (Kd.R_below (by (with_reducible repeat (first | apply Kd.R_alloc | apply Kd.R_drewN | apply Kd.R_drew)); exact (Kd.R_mono (Kd.R_far (p := ⟨gb144, 1, none⟩) (Kd.R_far (p := ⟨gb144, 0, none⟩) (Kd.R_types HO141.out BK144.out (by decide)) (fun _ hk => hk.2) (.slice Ao10 t139.length co10)) (fun _ hk => hk.2) (.int .i64 t142)) (fun _ h_ => h_.1))) hb); have n1_ := Aside0.mk (blk_below (g := gb138) (o := .cells #[.int .i64 0, .string (⟨#[]⟩ : ByteArray), .int .i64 0] 38 (0, 0)) (by (with_reducible repeat (first | refine blk_drewN ?_ _ | refine blk_drew ?_ | refine blk_alloc ?_ _)); refine blk_far ?_ NB138_144.out _; (with_reducible repeat (first | refine blk_drewN ?_ _ | refine blk_drew ?_ | refine blk_alloc ?_ _)); refine blk_far ?_ NB138_144.out _; (with_reducible repeat (first | refine blk_drewN ?_ _ | refine blk_drew ?_ | refine blk_alloc ?_ _)); exact BK138.out) hb); have n2_ := Aside0.mk (blk_below (g := gb144) (o := .cells #[.slice Ao10 t139.length co10, .int .i64 t142] 28 (0, 0)) (by (with_reducible repeat (first | refine blk_drewN ?_ _ | refine blk_drew ?_ | refine blk_alloc ?_ _)); refine blk_put (cs := #[.slice Ao10 t139.length co10, .int .i64 0]) ?_ 1 _ rfl; (with_reducible repeat (first | refine blk_drewN ?_ _ | refine blk_drew ?_ | refine blk_alloc ?_ _)); refine blk_put (cs := #[.slice none 0 0, .int .i64 0]) ?_ 0 _ rfl; (with_reducible repeat (first | refine blk_drewN ?_ _ | refine blk_drew ?_ | refine blk_alloc ?_ _)); exact BK144.out) hb); have n3_ := Aside0.mk (below_step (by repeat (first | (with_reducible first | exact HB.out | apply below_alloc | apply pw_below_drewN | apply below_drew1 | refine below_set ?_ GE138.out | refine below_set ?_ GE144.out) | exact HB.out)) hb); clear HO141; clear BK138; clear BK144; clear HB; have HO141 := n0_; have BK138 := n1_; have BK144 := n2_; have HB := n3_; clear n0_ n1_ n2_ n3_; (try clear hb); (try clear hb2); (try clear hk); (try clear hi); have hcz14_0 : w13.cell? ⟨gb138, 0, none⟩ = some (.int .i64 0) := (blk_cell BK138.out 0).trans rfl; have hcz14_1 : w13.cell? ⟨gb138, 1, none⟩ = some (.string (⟨#[]⟩ : ByteArray)) := (blk_cell BK138.out 1).trans rfl; have hcz14_2 : w13.cell? ⟨gb138, 2, none⟩ = some (.int .i64 0) := (blk_cell BK138.out 2).trans rfl; have hfz14_0 := blk_frozen BK138.out 0; have hfz14_1 := blk_frozen BK138.out 1; have hfz14_2 := blk_frozen BK138.out 2))
    refine bodyPost_ret (results_ct rfl _ _ gb138 38 #[.int .i64 t145, .string t146, .int .i64 t147] (0, 0) _ rfl (by (with_reducible repeat (first | refine blk_drewN ?_ _ | refine blk_drew ?_ | refine blk_alloc ?_ _)); refine blk_put (cs := #[.int .i64 t145, .string t146, .int .i64 0]) ?_ 2 _ rfl; (with_reducible repeat (first | refine blk_drewN ?_ _ | refine blk_drew ?_ | refine blk_alloc ?_ _)); refine blk_put (cs := #[.int .i64 t145, .string (⟨#[]⟩ : ByteArray), .int .i64 0]) ?_ 1 _ rfl; (with_reducible repeat (first | refine blk_drewN ?_ _ | refine blk_drew ?_ | refine blk_alloc ?_ _)); refine blk_put (cs := #[.int .i64 0, .string (⟨#[]⟩ : ByteArray), .int .i64 0]) ?_ 0 _ rfl; (with_reducible repeat (first | refine blk_drewN ?_ _ | refine blk_drew ?_ | refine blk_alloc ?_ _)); exact BK138.out) Tryd.underlying38 rfl (by kernel_rfl)) rfl ?_
    exact ⟨by first | rfl | (simp [errW_none, errW_some] <;> rfl) | (simp [*, errW_none, errW_some] <;> rfl), by repeat (first | (with_reducible first | exact HB.out | apply below_alloc | apply pw_below_drewN | apply below_drew1 | refine below_set ?_ GE138.out | refine below_set ?_ GE144.out) | exact HB.out)⟩
  · rw [if_neg c5] at H
    have c5b0 : (t143 == 0) = false := beq_eq_false_iff_ne.mpr c5
    have c5b1 : (t143 != 0) = true := bne_iff_ne.mpr c5
    simp only [Option.some.injEq, Prod.mk.injEq] at H
    obtain ⟨rfl, rfl, rfl, rfl⟩ := H
    go_enter Tryd.func31, Tryd.ntmps31
    go_wp2_with (first | ((with_reducible refine gate_dst (N := 6) rfl ?_); refine box_event ?hg (N := 6) ?hd (cs := #[.int .i64 0, .string (⟨#[]⟩ : ByteArray), .int .i64 0]) (t := 38) ?hr ?_; (case hd => rfl); (case hg => rfl); (case hr => first | (go_simp; done) | (go_simp; rfl)); intro gb138 hg w15 hbox hb; have n0_ := Aside0.mk (below_step (by repeat (first | (with_reducible first | exact HB.out | apply below_alloc | apply pw_below_drewN | apply below_drew1) | exact HB.out)) hb); have n1_ := Aside0.mk (hbox); have n2_ := Aside0.mk ((by rw [hg]; exact (below_size (by repeat (first | (with_reducible first | exact HB.out | apply below_alloc | apply pw_below_drewN | apply below_drew1) | exact HB.out))) : w.heap.size ≤ gb138)); have n3_ := Aside0.mk ((by rw [hg]; exact (below_size (by repeat (first | (with_reducible first | exact HB.out | apply below_alloc | apply pw_below_drewN | apply below_drew1) | exact HB.out))) : w.heap.size ≤ gb138)); clear HB; have HB := n0_; have BK138 := n1_; have GW138 := n2_; have GE138 := n3_; clear n0_ n1_ n2_ n3_; clear hb hbox hg) | ((with_reducible refine gate_callee (f := 25) rfl ?_); refine goesL_ (some 12) rfl rfl Tryd.func25 (by kernel_rfl) rfl #[.string a0] rfl (by (try simp only [List.map_toArray, List.map_cons, List.map_nil]); first | done | rfl | (simp only [List.length_drop, List.length_take]; rfl)) ?_; (with_reducible refine (seedcornref08_Read.calls k a0 t139 t142 t143 _ A4.out).mono ?_); rintro e w16 ⟨v140, rfl, ho0, hb⟩; refine ⟨_, rfl, ?_⟩; have n0_ := Aside0.mk (Kd.R_lower ho0 (below_size (by repeat (first | (with_reducible first | exact HB.out | apply below_alloc | apply pw_below_drewN | apply below_drew1 | refine below_set ?_ GE138.out) | exact HB.out)))); have n1_ := Aside0.mk (blk_below (g := gb138) (o := .cells #[.int .i64 0, .string (⟨#[]⟩ : ByteArray), .int .i64 0] 38 (0, 0)) (by (with_reducible repeat (first | refine blk_drewN ?_ _ | refine blk_drew ?_ | refine blk_alloc ?_ _)); exact BK138.out) hb); have n2_ := Aside0.mk (below_step (by repeat (first | (with_reducible first | exact HB.out | apply below_alloc | apply pw_below_drewN | apply below_drew1 | refine below_set ?_ GE138.out) | exact HB.out)) hb); clear BK138; clear HB; have HO141 := n0_; have BK138 := n1_; have HB := n2_; clear n0_ n1_ n2_; (try clear hb); (try clear hb2); (try clear hk); (try clear hi); (try clear ho0)) | ((with_reducible refine gate_dst (N := 8) rfl ?_); refine box_event ?hg (N := 8) ?hd (cs := #[.slice none 0 0, .int .i64 0]) (t := 28) ?hr ?_; (case hd => rfl); (case hg => rfl); (case hr => first | (go_simp; done) | (go_simp; rfl)); intro gb144 hg w17 hbox hb; have n0_ := Aside0.mk (Kd.R_below (by (with_reducible repeat (first | apply Kd.R_alloc | apply Kd.R_drewN | apply Kd.R_drew)); exact HO141.out) hb); have n1_ := Aside0.mk (blk_below (g := gb138) (o := .cells #[.int .i64 0, .string (⟨#[]⟩ : ByteArray), .int .i64 0] 38 (0, 0)) (by (with_reducible repeat (first | refine blk_drewN ?_ _ | refine blk_drew ?_ | refine blk_alloc ?_ _)); exact BK138.out) hb); have n2_ := Aside0.mk (below_step (by repeat (first | (with_reducible first | exact HB.out | apply below_alloc | apply pw_below_drewN | apply below_drew1 | refine below_set ?_ GE138.out) | exact HB.out)) hb); have n3_ := Aside0.mk (hbox); have n4_ := Aside0.mk ((by rw [hg]; exact (below_size (by repeat (first | (with_reducible first | exact HB.out | apply below_alloc | apply pw_below_drewN | apply below_drew1 | refine below_set ?_ GE138.out) | exact HB.out))) : w.heap.size ≤ gb144)); have n5_ := Aside0.mk ((by rw [hg]; exact (below_size (by repeat (first | (with_reducible first | exact HB.out | apply below_alloc | apply pw_below_drewN | apply below_drew1 | refine below_set ?_ GE138.out) | exact HB.out))) : w.heap.size ≤ gb144)); have n6_ := Aside0.mk ((by rw [hg]; exact Nat.ne_of_lt (blk_lt (g := gb138) (o := .cells #[.int .i64 0, .string (⟨#[]⟩ : ByteArray), .int .i64 0] 38 (0, 0)) (by (with_reducible repeat (first | refine blk_drewN ?_ _ | refine blk_drew ?_ | refine blk_alloc ?_ _)); exact BK138.out)) : gb138 ≠ gb144)); have n7_ := Aside0.mk ((by rw [hg]; exact Nat.ne_of_gt (blk_lt (g := gb138) (o := .cells #[.int .i64 0, .string (⟨#[]⟩ : ByteArray), .int .i64 0] 38 (0, 0)) (by (with_reducible repeat (first | refine blk_drewN ?_ _ | refine blk_drew ?_ | refine blk_alloc ?_ _)); exact BK138.out)) : gb144 ≠ gb138)); clear HO141; clear BK138; clear HB; have HO141 := n0_; have BK138 := n1_; have HB := n2_; have BK144 := n3_; have GW144 := n4_; have GE144 := n5_; have NB138_144 := n6_; have NB144_138 := n7_; clear n0_ n1_ n2_ n3_ n4_ n5_ n6_ n7_; clear hb hbox hg; obtain ⟨Ao18, co18, eo18⟩ := Kd.R_slice HO141.out; subst eo18; have hnb19 := NB144_138.out; have hnc19 := NB138_144.out; have hcz20_0 : w17.cell? ⟨gb144, 0, none⟩ = some (.slice none 0 0) := (blk_cell BK144.out 0).trans rfl; have hcz20_1 : w17.cell? ⟨gb144, 1, none⟩ = some (.int .i64 0) := (blk_cell BK144.out 1).trans rfl; have hfz20_0 := blk_frozen BK144.out 0; have hfz20_1 := blk_frozen BK144.out 1; have hcz21_0 : w17.cell? ⟨gb138, 0, none⟩ = some (.int .i64 0) := (blk_cell BK138.out 0).trans rfl; have hcz21_1 : w17.cell? ⟨gb138, 1, none⟩ = some (.string (⟨#[]⟩ : ByteArray)) := (blk_cell BK138.out 1).trans rfl; have hcz21_2 : w17.cell? ⟨gb138, 2, none⟩ = some (.int .i64 0) := (blk_cell BK138.out 2).trans rfl; have hfz21_0 := blk_frozen BK138.out 0; have hfz21_1 := blk_frozen BK138.out 1; have hfz21_2 := blk_frozen BK138.out 2))
    refine bodyPost_ret (results_ct rfl _ _ gb138 38 #[.int .i64 0, .string (⟨#[]⟩ : ByteArray), .int .i64 0] (0, 0) _ rfl (by (with_reducible repeat (first | refine blk_drewN ?_ _ | refine blk_drew ?_ | refine blk_alloc ?_ _)); refine blk_put (cs := #[.int .i64 0, .string (⟨#[]⟩ : ByteArray), .int .i64 0]) ?_ 2 _ rfl; (with_reducible repeat (first | refine blk_drewN ?_ _ | refine blk_drew ?_ | refine blk_alloc ?_ _)); refine blk_put (cs := #[.int .i64 0, .string (⟨#[]⟩ : ByteArray), .int .i64 0]) ?_ 1 _ rfl; (with_reducible repeat (first | refine blk_drewN ?_ _ | refine blk_drew ?_ | refine blk_alloc ?_ _)); refine blk_put (cs := #[.int .i64 0, .string (⟨#[]⟩ : ByteArray), .int .i64 0]) ?_ 0 _ rfl; (with_reducible repeat (first | refine blk_drewN ?_ _ | refine blk_drew ?_ | refine blk_alloc ?_ _)); refine blk_far ?_ NB138_144.out _; (with_reducible repeat (first | refine blk_drewN ?_ _ | refine blk_drew ?_ | refine blk_alloc ?_ _)); refine blk_far ?_ NB138_144.out _; (with_reducible repeat (first | refine blk_drewN ?_ _ | refine blk_drew ?_ | refine blk_alloc ?_ _)); exact BK138.out) Tryd.underlying38 rfl (by kernel_rfl)) rfl ?_
    exact ⟨by first | rfl | (simp [errW_none, errW_some] <;> rfl) | (simp [*, errW_none, errW_some] <;> rfl), by repeat (first | (with_reducible first | exact HB.out | apply below_alloc | apply pw_below_drewN | apply below_drew1 | refine below_set ?_ GE138.out | refine below_set ?_ GE144.out) | exact HB.out)⟩
end Go.Proofs.YtdhkmdgieflioaaDoor.F
namespace Go.Proofs.YtdhkmdgieflioaaDoor.F
open Go.RowKit Go.Proofs.YtdhkmdgieflioaaDoorW.PrintWords Go.Proofs.YtdhkmdgieflioaaDoorW.PrintLast Go.Proofs.YtdhkmdgieflioaaDoorW.PrintMore
attribute [local go_sem] max2_int min2_int max_two min_two max_three min_three max_four min_four
set_option linter.unusedVariables false
set_option linter.unusedSimpArgs false
def seedcornref50_Steps.f (a0 : Int) : Option (Int) := some (wrap64 (40 * (wrap64 (a0 + 1))))
set_option maxHeartbeats 8000000 in
set_option maxRecDepth 100000 in
theorem seedcornref50_Steps.calls (a0 : Int) (r : Int) (w : World) (h : seedcornref50_Steps.f a0 = some r) :
    Calls Tryd.prog 32 #[.int .i64 a0] w fun e w' => e = .returned (.int .i64 r) ∧ Drawn0 w w' := by
  have H : (some (wrap64 (40 * (wrap64 (a0 + 1))))) = some r := h
  clear h
  obtain rfl := Option.some.inj H
  go_enter Tryd.func32, Tryd.ntmps32
  go_wp2
  go_ret
  exact ⟨by first | rfl | (simp; done) | (simp [*]; done), by repeat (first | exact Drawn0.refl _ | apply Drawn0.step)⟩
end Go.Proofs.YtdhkmdgieflioaaDoor.F
namespace Go.Proofs.YtdhkmdgieflioaaDoor.F
open Go.RowKit Go.Proofs.YtdhkmdgieflioaaDoorW.PrintWords Go.Proofs.YtdhkmdgieflioaaDoorW.PrintLast Go.Proofs.YtdhkmdgieflioaaDoorW.PrintMore
attribute [local go_sem] max2_int min2_int max_two min_two max_three min_three max_four min_four
set_option linter.unusedVariables false
set_option linter.unusedSimpArgs false
def seedcornref50_Loads.f (k : Nat) (a0 : ByteArray) (a1 : ByteArray) : Option (Bool) := (seedcornref50_Steps.f (a1.size : Int)).bind fun t148 => ((seedcornref10_Bytes.f k a0 a1 t148).bind fun bt149 => (if bt149.2.2.2 = 0 then (if bt149.1 = 1 then ((seedcornref02_Load.f k a1).bind fun t154 => (some (bt149.2.1.toList == t154.toList))) else (some false)) else (some false)))
theorem seedcornref50_Loads.mono : ∀ a0 a1 k, LeO (seedcornref50_Loads.f k a0 a1) (seedcornref50_Loads.f (k + 1) a0 a1) := by
  intro a0 a1 k
  unfold seedcornref50_Loads.f
  repeat' first
      | (with_reducible exact seedcornref02_Load.mono _ _)
      | (with_reducible exact seedcornref10_Bytes.mono _ _ _ _)
      | (with_reducible exact LeO.refl _)
      | (with_reducible exact LeO.none _)
      | (with_reducible refine LeO.ite ?_ ?_)
      | (with_reducible refine LeO.bind ?_ (fun _ => ?_))
      | exact seedcornref02_Load.mono _ _
      | exact seedcornref10_Bytes.mono _ _ _ _
      | exact LeO.none _
      | refine LeO.ite ?_ ?_
      | refine LeO.bind ?_ (fun _ => ?_)
def seedcornref50_Loads.T2 : Bool × List (List Nat × List Nat) := (true, [([], []), ([0], [0]), ([1], [1]), ([2], [2]), ([3, 2], [2, 3]), ([4, 2], [2, 4]), ([2, 5], [2, 5]), ([6, 2], [6]), ([7], [7]), ([8, 7], [7, 8]), ([7], [7]), ([10, 7, 7], [7, 10]), ([9, 11, 7], [7, 9, 11]), ([7, 12], [7, 12]), ([13, 11, 0, 1, 2, 3, 4, 5, 6, 7, 8, 9, 10, 11, 12, 13], [13])])
def seedcornref50_Loads.B2 : List Nat := [0, 1, 3, 7, 15, 31, 63, 127, 255, 511, 255, 1279, 4095, 8191, 16383]
theorem seedcornref50_Loads.tab2 : rtab .any (opsOf Tryd.f23 2) = seedcornref50_Loads.T2 := by kernel_rfl
theorem seedcornref50_Loads.bits2 : waitsOk seedcornref50_Loads.T2.2 seedcornref50_Loads.B2 = true := by kernel_rfl
set_option maxHeartbeats 8000000 in
set_option maxRecDepth 100000 in
theorem seedcornref50_Loads.calls (k : Nat) (a0 : ByteArray) (a1 : ByteArray) (r : Bool) (w : World) (h : seedcornref50_Loads.f k a0 a1 = some r) :
    Calls Tryd.prog 23 #[.string a0, .string a1] w fun e w' => e = .returned (.bool r) ∧ Below w.heap.size w w' := by
  have hu38 := Tryd.underlying38
  have HB := Aside0.mk (Below.refl w.heap.size w)
  have H : ((seedcornref50_Steps.f (a1.size : Int)).bind fun t148 => ((seedcornref10_Bytes.f k a0 a1 t148).bind fun bt149 => (if bt149.2.2.2 = 0 then (if bt149.1 = 1 then ((seedcornref02_Load.f k a1).bind fun t154 => (some (bt149.2.1.toList == t154.toList))) else (some false)) else (some false)))) = some r := h
  clear h
  replace H := Option.bind_eq_some_iff.mp H
  obtain ⟨t148, A30, H⟩ := H
  replace H : ((seedcornref10_Bytes.f k a0 a1 t148).bind fun bt149 => (if bt149.2.2.2 = 0 then (if bt149.1 = 1 then ((seedcornref02_Load.f k a1).bind fun t154 => (some (bt149.2.1.toList == t154.toList))) else (some false)) else (some false))) = some r := H
  have A3 := Aside0.mk A30
  clear A30
  replace H := Option.bind_eq_some_iff.mp H
  obtain ⟨⟨t149, t150, t151, t152⟩, A40, H⟩ := H
  replace H : (if t152 = 0 then (if t149 = 1 then ((seedcornref02_Load.f k a1).bind fun t154 => (some (t150.toList == t154.toList))) else (some false)) else (some false)) = some r := H
  have A4 := Aside0.mk A40
  clear A40
  by_cases c5 : t152 = 0
  · rw [if_pos c5] at H
    have c5b0 : (t152 == 0) = true := beq_iff_eq.mpr c5
    have c5b1 : (t152 != 0) = false := bne_eq_false_iff_eq.mpr c5
    clear c5
    by_cases c6 : t149 = 1
    · rw [if_pos c6] at H
      have c6b0 : (t149 == 1) = true := beq_iff_eq.mpr c6
      have c6b1 : (t149 != 1) = false := bne_eq_false_iff_eq.mpr c6
      clear c6
      replace H := Option.bind_eq_some_iff.mp H
      obtain ⟨t154, A70, H⟩ := H
      replace H : (some (t150.toList == t154.toList)) = some r := H
      have A7 := Aside0.mk A70
      clear A70
      obtain rfl := Option.some.inj H
      go_enter Tryd.func23, Tryd.ntmps23
      try go_wp2_with (first | ((with_reducible refine gate_callee (f := 32) rfl ?_); refine goesL_ (some 12) rfl rfl Tryd.func32 (by kernel_rfl) rfl #[.int .i64 (a1.size : Int)] rfl (by (try simp only [List.map_toArray, List.map_cons, List.map_nil]); first | done | rfl | (simp only [List.length_drop, List.length_take]; rfl)) ?_; (with_reducible refine (seedcornref50_Steps.calls (a1.size : Int) t148 _ A3.out).mono ?_); rintro e w' ⟨rfl, ⟨nd, rfl⟩⟩; refine ⟨_, rfl, ?_⟩) | ((with_reducible refine gate_callee (f := 31) rfl ?_); refine goesL_ (some 13) rfl rfl Tryd.func31 (by kernel_rfl) rfl #[.string a0, .string a1, .int .i64 t148] rfl (by (try simp only [List.map_toArray, List.map_cons, List.map_nil]); first | done | rfl | (simp only [List.length_drop, List.length_take]; rfl)) ?_; (with_reducible refine (seedcornref10_Bytes.calls k a0 a1 t148 t149 t150 t151 t152 _ A4.out).mono ?_); rintro e w8 ⟨rfl, hb⟩; refine ⟨_, rfl, ?_⟩; have n0_ := Aside0.mk (below_step (by repeat (first | (with_reducible first | exact HB.out | apply below_alloc | apply pw_below_drewN | apply below_drew1) | exact HB.out)) hb); clear HB; have HB := n0_; clear n0_; (try clear hb); (try clear hb2); (try clear hk); (try clear hi)) | ((with_reducible refine gate_dst (N := 5) rfl ?_); refine box_event ?hg (N := 5) ?hd (cs := #[.int .i64 0, .string (⟨#[]⟩ : ByteArray), .int .i64 0]) (t := 38) ?hr ?_; (case hd => rfl); (case hg => rfl); (case hr => first | (go_simp; done) | (go_simp; rfl)); intro gb153 hg w9 hbox hb; have n0_ := Aside0.mk (below_step (by repeat (first | (with_reducible first | exact HB.out | apply below_alloc | apply pw_below_drewN | apply below_drew1) | exact HB.out)) hb); have n1_ := Aside0.mk (hbox); have n2_ := Aside0.mk ((by rw [hg]; exact (below_size (by repeat (first | (with_reducible first | exact HB.out | apply below_alloc | apply pw_below_drewN | apply below_drew1) | exact HB.out))) : w.heap.size ≤ gb153)); have n3_ := Aside0.mk ((by rw [hg]; exact (below_size (by repeat (first | (with_reducible first | exact HB.out | apply below_alloc | apply pw_below_drewN | apply below_drew1) | exact HB.out))) : w.heap.size ≤ gb153)); clear HB; have HB := n0_; have BK153 := n1_; have GW153 := n2_; have GE153 := n3_; clear n0_ n1_ n2_ n3_; clear hb hbox hg; have hcz10_0 : w9.cell? ⟨gb153, 0, none⟩ = some (.int .i64 0) := (blk_cell BK153.out 0).trans rfl; have hcz10_1 : w9.cell? ⟨gb153, 1, none⟩ = some (.string (⟨#[]⟩ : ByteArray)) := (blk_cell BK153.out 1).trans rfl; have hcz10_2 : w9.cell? ⟨gb153, 2, none⟩ = some (.int .i64 0) := (blk_cell BK153.out 2).trans rfl; have hfz10_0 := blk_frozen BK153.out 0; have hfz10_1 := blk_frozen BK153.out 1; have hfz10_2 := blk_frozen BK153.out 2))
      have n0_ : Aside0 ((((w9.setCell ⟨gb153, 0, none⟩ (.int .i64 t149)).setCell ⟨gb153, 1, none⟩ (.string t150)).setCell ⟨gb153, 2, none⟩ (.int .i64 t151)).heap[gb153]? = some (.cells #[.int .i64 t149, .string t150, .int .i64 t151] 38 (0, 0))) := ⟨by (with_reducible repeat (first | refine blk_drewN ?_ _ | refine blk_drew ?_ | refine blk_alloc ?_ _)); refine blk_put (cs := #[.int .i64 t149, .string t150, .int .i64 0]) ?_ 2 _ rfl; (with_reducible repeat (first | refine blk_drewN ?_ _ | refine blk_drew ?_ | refine blk_alloc ?_ _)); refine blk_put (cs := #[.int .i64 t149, .string (⟨#[]⟩ : ByteArray), .int .i64 0]) ?_ 1 _ rfl; (with_reducible repeat (first | refine blk_drewN ?_ _ | refine blk_drew ?_ | refine blk_alloc ?_ _)); refine blk_put (cs := #[.int .i64 0, .string (⟨#[]⟩ : ByteArray), .int .i64 0]) ?_ 0 _ rfl; (with_reducible repeat (first | refine blk_drewN ?_ _ | refine blk_drew ?_ | refine blk_alloc ?_ _)); exact BK153.out⟩
      have n1_ : Aside0 (Below w.heap.size w (((w9.setCell ⟨gb153, 0, none⟩ (.int .i64 t149)).setCell ⟨gb153, 1, none⟩ (.string t150)).setCell ⟨gb153, 2, none⟩ (.int .i64 t151))) := ⟨by repeat (first | (with_reducible first | exact HB.out | apply below_alloc | apply pw_below_drewN | apply below_drew1 | refine below_set ?_ GE153.out) | exact HB.out)⟩
      (try clear BK153)
      (try clear HB)
      generalize (((w9.setCell ⟨gb153, 0, none⟩ (.int .i64 t149)).setCell ⟨gb153, 1, none⟩ (.string t150)).setCell ⟨gb153, 2, none⟩ (.int .i64 t151)) = w11 at n0_ n1_ ⊢
      have BK153 := n0_
      have HB := n1_
      clear n0_ n1_
      have n0_ := Aside0.mk (blk_drew BK153.out)
      have n1_ := Aside0.mk (below_drew1 HB.out)
      clear BK153
      clear HB
      have BK153 := n0_
      have HB := n1_
      clear n0_ n1_
      refine start_ (n := 15) (S := fun w' => w'.cell? ⟨gb153, 0, none⟩ = some (.int .i64 t149) ∧ w'.cell? ⟨gb153, 1, none⟩ = some (.string t150) ∧ w'.cell? ⟨gb153, 2, none⟩ = some (.int .i64 t151)) (ds := []) #[false, false, false, false, false, false, false, false, false, false, false, false, false, false, false] (by kernel_rfl) rfl rfl ⟨(blk_cell BK153.out 0).trans rfl, (blk_cell BK153.out 1).trans rfl, (blk_cell BK153.out 2).trans rfl⟩ (fun hHeld => ?_); refine with_tabW seedcornref50_Loads.tab2 seedcornref50_Loads.bits2 (fun HT_ HW_ => ?_)
      generalize w11.drew = w12 at BK153 HB hHeld ⊢
      refine pure_ (i := 0) (N := some 16) (v := ?_) (a' := ?_) #[true, false, false, false, false, false, false, false, false, false, false, false, false, false, false] rfl rfl (any_of HT_.out (by kernel_rfl)) (fun _ _ _ h => h) (Or.inl ⟨by rfl, ?_⟩) ?_ ?_
      rotate_left
      · intro w'
        go_simp
        with_reducible rfl
      rotate_left
      · simp only [Act.put, List.setIfInBounds_toArray, List.set_cons_zero, List.set_cons_succ, i64_w, i32_w]
        rfl
      refine pure_ (i := 1) (N := some 17) (v := ?_) (a' := ?_) #[true, true, false, false, false, false, false, false, false, false, false, false, false, false, false] rfl rfl (any_of HT_.out (by kernel_rfl)) (fun _ _ _ h => h) (Or.inl ⟨by rfl, ?_⟩) ?_ ?_
      rotate_left
      · intro w'
        go_simp
        with_reducible rfl
      rotate_left
      · simp only [Act.put, List.setIfInBounds_toArray, List.set_cons_zero, List.set_cons_succ, i64_w, i32_w]
        rfl
      refine pure_ (i := 2) (N := some 18) (v := ?_) (a' := ?_) #[true, true, true, false, false, false, false, false, false, false, false, false, false, false, false] rfl rfl (any_of HT_.out (by kernel_rfl)) (fun _ _ _ h => h) (Or.inl ⟨by rfl, ?_⟩) ?_ ?_
      rotate_left
      · intro w'
        go_simp
        with_reducible rfl
      rotate_left
      · simp only [Act.put, List.setIfInBounds_toArray, List.set_cons_zero, List.set_cons_succ, i64_w, i32_w]
        rfl
      refine pure_ (i := 3) (N := some 19) (v := ?_) (a' := ?_) #[true, true, true, true, false, false, false, false, false, false, false, false, false, false, false] rfl rfl (any_of HT_.out (by kernel_rfl)) (fun _ _ _ h => h) (Or.inl ⟨by rfl, ?_⟩) ?_ ?_
      rotate_left
      · intro w'
        go_simp
        with_reducible rfl
      rotate_left
      · simp only [Act.put, List.setIfInBounds_toArray, List.set_cons_zero, List.set_cons_succ, i64_w, i32_w]
        rfl
      refine take_ (i := 4) (N := some 20) (v := ?_) (a' := ?_) #[true, true, true, true, true, false, false, false, false, false, false, false, false, false, false] rfl rfl (take_ofW HT_.out HW_.out (by kernel_rfl)) (fun _ _ _ h => h) (Or.inl ⟨by rfl, ?_⟩) hHeld ?_ ?_
      rotate_left
      · rintro w' ⟨s0, s1, s2⟩
        go_simp
        with_reducible rfl
      rotate_left
      · simp only [Act.put, List.setIfInBounds_toArray, List.set_cons_zero, List.set_cons_succ, i64_w, i32_w]
        rfl
      refine pure_ (i := 5) (N := some 21) (v := ?_) (a' := ?_) #[true, true, true, true, true, true, false, false, false, false, false, false, false, false, false] rfl rfl (any_of HT_.out (by kernel_rfl)) (fun _ _ _ h => h) (Or.inl ⟨by rfl, ?_⟩) ?_ ?_
      rotate_left
      · intro w'
        go_simp
        with_reducible rfl
      rotate_left
      · simp only [Act.put, List.setIfInBounds_toArray, List.set_cons_zero, List.set_cons_succ, i64_w, i32_w]
        rfl
      refine pure_ (i := 6) (N := some 22) (v := ?_) (a' := ?_) #[true, true, true, true, true, true, true, false, false, false, false, false, false, false, false] rfl rfl (any_of HT_.out (by kernel_rfl)) (fun _ _ _ h => h) (Or.inl ⟨by rfl, ?_⟩) ?_ ?_
      rotate_left
      · intro w'
        go_simp
        with_reducible rfl
      rotate_left
      · simp only [Act.put, List.setIfInBounds_toArray, List.set_cons_zero, List.set_cons_succ, i64_w, i32_w]
        rfl
      refine pure_ (i := 7) (N := some 23) (v := ?_) (a' := ?_) #[true, true, true, true, true, true, true, true, false, false, false, false, false, false, false] rfl rfl (any_of HT_.out (by kernel_rfl)) (fun _ _ _ h => h) (Or.inl ⟨by rfl, ?_⟩) ?_ ?_
      rotate_left
      · intro w'
        go_simp
        with_reducible rfl
      rotate_left
      · simp only [Act.put, List.setIfInBounds_toArray, List.set_cons_zero, List.set_cons_succ, i64_w, i32_w]
        rfl
      refine pure_ (i := 8) (N := some 24) (v := ?_) (a' := ?_) #[true, true, true, true, true, true, true, true, true, false, false, false, false, false, false] rfl rfl (any_of HT_.out (by kernel_rfl)) (fun _ _ _ h => h) (Or.inl ⟨by rfl, ?_⟩) ?_ ?_
      rotate_left
      · intro w'
        go_simp
        with_reducible rfl
      rotate_left
      · simp only [Act.put, List.setIfInBounds_toArray, List.set_cons_zero, List.set_cons_succ, i64_w, i32_w]
        rfl
      refine pure_ (i := 10) (N := some 26) (v := ?_) (a' := ?_) #[true, true, true, true, true, true, true, true, true, false, true, false, false, false, false] rfl rfl (any_of HT_.out (by kernel_rfl)) (fun _ _ _ h => h) (Or.inl ⟨by rfl, ?_⟩) ?_ ?_
      rotate_left
      · intro w'
        go_simp
        with_reducible rfl
      rotate_left
      · simp only [Act.put, List.setIfInBounds_toArray, List.set_cons_zero, List.set_cons_succ, i64_w, i32_w]
        rfl
      refine take_ (i := 9) (N := some 25) (v := ?_) (a' := ?_) #[true, true, true, true, true, true, true, true, true, true, true, false, false, false, false] rfl rfl (take_ofW HT_.out HW_.out (by kernel_rfl)) (fun _ _ _ h => h) (Or.inl ⟨by rfl, ?_⟩) hHeld ?_ ?_
      rotate_left
      · rintro w' ⟨s0, s1, s2⟩
        go_simp
        with_reducible rfl
      rotate_left
      · simp only [Act.put, List.setIfInBounds_toArray, List.set_cons_zero, List.set_cons_succ, i64_w, i32_w]
        rfl
      refine one_ (i := 11) (N := some 27) #[true, true, true, true, true, true, true, true, true, true, true, true, false, false, false] rfl rfl (one_of HT_.out (by kernel_rfl)) (by decide) (fun K hK => ?_)
      refine goes_ Tryd.func28 (by kernel_rfl) rfl #[.string a1] (by rfl) rfl rfl (by (try simp only [List.map_toArray, List.map_cons, List.map_nil]); first | done | rfl | (simp only [List.length_drop, List.length_take]; rfl)) ?_
      with_reducible refine (seedcornref02_Load.calls k a1 t154 _ A7.out).mono ?_
      rintro e w13 ⟨rfl, hb⟩
      refine ⟨_, rfl, ?_⟩
      have n0_ := Aside0.mk (blk_below (g := gb153) (o := .cells #[.int .i64 t149, .string t150, .int .i64 t151] 38 (0, 0)) (by (with_reducible repeat (first | refine blk_drewN ?_ _ | refine blk_drew ?_ | refine blk_alloc ?_ _)); exact BK153.out) hb)
      have n1_ := Aside0.mk (below_step (by repeat (first | (with_reducible first | exact HB.out | apply below_alloc | apply pw_below_drewN | apply below_drew1 | refine below_set ?_ GE153.out) | exact HB.out)) hb)
      clear BK153
      clear HB
      have BK153 := n0_
      have HB := n1_
      clear n0_ n1_
      (try clear hb)
      (try clear hb2)
      (try clear hk)
      (try clear hi)
      refine hK.out _ _ ⟨(blk_cell BK153.out 0).trans rfl, (blk_cell BK153.out 1).trans rfl, (blk_cell BK153.out 2).trans rfl⟩ (fun hHeld => ?_)
      clear hK K
      refine norm_ (a' := ?_) ?_ ?_
      rotate_left
      · show Act.put _ (some 27) _ = _
        simp only [Act.put, List.setIfInBounds_toArray, List.set_cons_zero, List.set_cons_succ, i64_w, i32_w]
        rfl
      refine pure_ (i := 12) (N := some 28) (v := ?_) (a' := ?_) #[true, true, true, true, true, true, true, true, true, true, true, true, true, false, false] rfl rfl (any_of HT_.out (by kernel_rfl)) (fun _ _ _ h => h) (Or.inl ⟨by rfl, ?_⟩) ?_ ?_
      rotate_left
      · intro w'
        go_simp
        with_reducible rfl
      rotate_left
      · simp only [Act.put, List.setIfInBounds_toArray, List.set_cons_zero, List.set_cons_succ, i64_w, i32_w]
        rfl
      refine pure_ (i := 13) (N := some 29) (v := ?_) (a' := ?_) #[true, true, true, true, true, true, true, true, true, true, true, true, true, true, false] rfl rfl (any_of HT_.out (by kernel_rfl)) (fun _ _ _ h => h) (Or.inl ⟨by rfl, ?_⟩) ?_ ?_
      rotate_left
      · intro w'
        go_simp
        with_reducible rfl
      rotate_left
      · simp only [Act.put, List.setIfInBounds_toArray, List.set_cons_zero, List.set_cons_succ, i64_w, i32_w]
        rfl
      refine pure_ (i := 14) (N := some 4) (v := ?_) (a' := ?_) #[true, true, true, true, true, true, true, true, true, true, true, true, true, true, true] rfl rfl (any_of HT_.out (by kernel_rfl)) (fun _ _ _ h => h) (Or.inl ⟨by rfl, ?_⟩) ?_ ?_
      rotate_left
      · intro w'
        go_simp
        with_reducible rfl
      rotate_left
      · simp only [Act.put, List.setIfInBounds_toArray, List.set_cons_zero, List.set_cons_succ, i64_w, i32_w]
        rfl
      refine done_ (done_of HT_.out (by kernel_rfl)) ?_
      try go_wp2
      go_ret
      exact ⟨by first | rfl | (simp [errW_none, errW_some] <;> rfl) | (simp [*, errW_none, errW_some] <;> rfl), by repeat (first | (with_reducible first | exact HB.out | apply below_alloc | apply pw_below_drewN | apply below_drew1 | refine below_set ?_ GE153.out) | exact HB.out)⟩
    · rw [if_neg c6] at H
      have c6b0 : (t149 == 1) = false := beq_eq_false_iff_ne.mpr c6
      have c6b1 : (t149 != 1) = true := bne_iff_ne.mpr c6
      obtain rfl := Option.some.inj H
      go_enter Tryd.func23, Tryd.ntmps23
      try go_wp2_with (first | ((with_reducible refine gate_callee (f := 32) rfl ?_); refine goesL_ (some 12) rfl rfl Tryd.func32 (by kernel_rfl) rfl #[.int .i64 (a1.size : Int)] rfl (by (try simp only [List.map_toArray, List.map_cons, List.map_nil]); first | done | rfl | (simp only [List.length_drop, List.length_take]; rfl)) ?_; (with_reducible refine (seedcornref50_Steps.calls (a1.size : Int) t148 _ A3.out).mono ?_); rintro e w' ⟨rfl, ⟨nd, rfl⟩⟩; refine ⟨_, rfl, ?_⟩) | ((with_reducible refine gate_callee (f := 31) rfl ?_); refine goesL_ (some 13) rfl rfl Tryd.func31 (by kernel_rfl) rfl #[.string a0, .string a1, .int .i64 t148] rfl (by (try simp only [List.map_toArray, List.map_cons, List.map_nil]); first | done | rfl | (simp only [List.length_drop, List.length_take]; rfl)) ?_; (with_reducible refine (seedcornref10_Bytes.calls k a0 a1 t148 t149 t150 t151 t152 _ A4.out).mono ?_); rintro e w14 ⟨rfl, hb⟩; refine ⟨_, rfl, ?_⟩; have n0_ := Aside0.mk (below_step (by repeat (first | (with_reducible first | exact HB.out | apply below_alloc | apply pw_below_drewN | apply below_drew1) | exact HB.out)) hb); clear HB; have HB := n0_; clear n0_; (try clear hb); (try clear hb2); (try clear hk); (try clear hi)) | ((with_reducible refine gate_dst (N := 5) rfl ?_); refine box_event ?hg (N := 5) ?hd (cs := #[.int .i64 0, .string (⟨#[]⟩ : ByteArray), .int .i64 0]) (t := 38) ?hr ?_; (case hd => rfl); (case hg => rfl); (case hr => first | (go_simp; done) | (go_simp; rfl)); intro gb153 hg w15 hbox hb; have n0_ := Aside0.mk (below_step (by repeat (first | (with_reducible first | exact HB.out | apply below_alloc | apply pw_below_drewN | apply below_drew1) | exact HB.out)) hb); have n1_ := Aside0.mk (hbox); have n2_ := Aside0.mk ((by rw [hg]; exact (below_size (by repeat (first | (with_reducible first | exact HB.out | apply below_alloc | apply pw_below_drewN | apply below_drew1) | exact HB.out))) : w.heap.size ≤ gb153)); have n3_ := Aside0.mk ((by rw [hg]; exact (below_size (by repeat (first | (with_reducible first | exact HB.out | apply below_alloc | apply pw_below_drewN | apply below_drew1) | exact HB.out))) : w.heap.size ≤ gb153)); clear HB; have HB := n0_; have BK153 := n1_; have GW153 := n2_; have GE153 := n3_; clear n0_ n1_ n2_ n3_; clear hb hbox hg; have hcz16_0 : w15.cell? ⟨gb153, 0, none⟩ = some (.int .i64 0) := (blk_cell BK153.out 0).trans rfl; have hcz16_1 : w15.cell? ⟨gb153, 1, none⟩ = some (.string (⟨#[]⟩ : ByteArray)) := (blk_cell BK153.out 1).trans rfl; have hcz16_2 : w15.cell? ⟨gb153, 2, none⟩ = some (.int .i64 0) := (blk_cell BK153.out 2).trans rfl; have hfz16_0 := blk_frozen BK153.out 0; have hfz16_1 := blk_frozen BK153.out 1; have hfz16_2 := blk_frozen BK153.out 2))
      have n0_ : Aside0 ((((w15.setCell ⟨gb153, 0, none⟩ (.int .i64 t149)).setCell ⟨gb153, 1, none⟩ (.string t150)).setCell ⟨gb153, 2, none⟩ (.int .i64 t151)).heap[gb153]? = some (.cells #[.int .i64 t149, .string t150, .int .i64 t151] 38 (0, 0))) := ⟨by (with_reducible repeat (first | refine blk_drewN ?_ _ | refine blk_drew ?_ | refine blk_alloc ?_ _)); refine blk_put (cs := #[.int .i64 t149, .string t150, .int .i64 0]) ?_ 2 _ rfl; (with_reducible repeat (first | refine blk_drewN ?_ _ | refine blk_drew ?_ | refine blk_alloc ?_ _)); refine blk_put (cs := #[.int .i64 t149, .string (⟨#[]⟩ : ByteArray), .int .i64 0]) ?_ 1 _ rfl; (with_reducible repeat (first | refine blk_drewN ?_ _ | refine blk_drew ?_ | refine blk_alloc ?_ _)); refine blk_put (cs := #[.int .i64 0, .string (⟨#[]⟩ : ByteArray), .int .i64 0]) ?_ 0 _ rfl; (with_reducible repeat (first | refine blk_drewN ?_ _ | refine blk_drew ?_ | refine blk_alloc ?_ _)); exact BK153.out⟩
      have n1_ : Aside0 (Below w.heap.size w (((w15.setCell ⟨gb153, 0, none⟩ (.int .i64 t149)).setCell ⟨gb153, 1, none⟩ (.string t150)).setCell ⟨gb153, 2, none⟩ (.int .i64 t151))) := ⟨by repeat (first | (with_reducible first | exact HB.out | apply below_alloc | apply pw_below_drewN | apply below_drew1 | refine below_set ?_ GE153.out) | exact HB.out)⟩
      (try clear BK153)
      (try clear HB)
      generalize (((w15.setCell ⟨gb153, 0, none⟩ (.int .i64 t149)).setCell ⟨gb153, 1, none⟩ (.string t150)).setCell ⟨gb153, 2, none⟩ (.int .i64 t151)) = w17 at n0_ n1_ ⊢
      have BK153 := n0_
      have HB := n1_
      clear n0_ n1_
      have n0_ := Aside0.mk (blk_drew BK153.out)
      have n1_ := Aside0.mk (below_drew1 HB.out)
      clear BK153
      clear HB
      have BK153 := n0_
      have HB := n1_
      clear n0_ n1_
      refine start_ (n := 15) (S := fun w' => w'.cell? ⟨gb153, 0, none⟩ = some (.int .i64 t149) ∧ w'.cell? ⟨gb153, 1, none⟩ = some (.string t150) ∧ w'.cell? ⟨gb153, 2, none⟩ = some (.int .i64 t151)) (ds := []) #[false, false, false, false, false, false, false, false, false, false, false, false, false, false, false] (by kernel_rfl) rfl rfl ⟨(blk_cell BK153.out 0).trans rfl, (blk_cell BK153.out 1).trans rfl, (blk_cell BK153.out 2).trans rfl⟩ (fun hHeld => ?_); refine with_tabW seedcornref50_Loads.tab2 seedcornref50_Loads.bits2 (fun HT_ HW_ => ?_)
      generalize w17.drew = w18 at BK153 HB hHeld ⊢
      refine pure_ (i := 0) (N := some 16) (v := ?_) (a' := ?_) #[true, false, false, false, false, false, false, false, false, false, false, false, false, false, false] rfl rfl (any_of HT_.out (by kernel_rfl)) (fun _ _ _ h => h) (Or.inl ⟨by rfl, ?_⟩) ?_ ?_
      rotate_left
      · intro w'
        go_simp
        with_reducible rfl
      rotate_left
      · simp only [Act.put, List.setIfInBounds_toArray, List.set_cons_zero, List.set_cons_succ, i64_w, i32_w]
        rfl
      refine pure_ (i := 1) (N := some 17) (v := ?_) (a' := ?_) #[true, true, false, false, false, false, false, false, false, false, false, false, false, false, false] rfl rfl (any_of HT_.out (by kernel_rfl)) (fun _ _ _ h => h) (Or.inl ⟨by rfl, ?_⟩) ?_ ?_
      rotate_left
      · intro w'
        go_simp
        with_reducible rfl
      rotate_left
      · simp only [Act.put, List.setIfInBounds_toArray, List.set_cons_zero, List.set_cons_succ, i64_w, i32_w]
        rfl
      refine pure_ (i := 2) (N := some 18) (v := ?_) (a' := ?_) #[true, true, true, false, false, false, false, false, false, false, false, false, false, false, false] rfl rfl (any_of HT_.out (by kernel_rfl)) (fun _ _ _ h => h) (Or.inl ⟨by rfl, ?_⟩) ?_ ?_
      rotate_left
      · intro w'
        go_simp
        with_reducible rfl
      rotate_left
      · simp only [Act.put, List.setIfInBounds_toArray, List.set_cons_zero, List.set_cons_succ, i64_w, i32_w]
        rfl
      refine pure_ (i := 3) (N := some 19) (v := ?_) (a' := ?_) #[true, true, true, true, false, false, false, false, false, false, false, false, false, false, false] rfl rfl (any_of HT_.out (by kernel_rfl)) (fun _ _ _ h => h) (Or.inl ⟨by rfl, ?_⟩) ?_ ?_
      rotate_left
      · intro w'
        go_simp
        with_reducible rfl
      rotate_left
      · simp only [Act.put, List.setIfInBounds_toArray, List.set_cons_zero, List.set_cons_succ, i64_w, i32_w]
        rfl
      refine take_ (i := 4) (N := some 20) (v := ?_) (a' := ?_) #[true, true, true, true, true, false, false, false, false, false, false, false, false, false, false] rfl rfl (take_ofW HT_.out HW_.out (by kernel_rfl)) (fun _ _ _ h => h) (Or.inl ⟨by rfl, ?_⟩) hHeld ?_ ?_
      rotate_left
      · rintro w' ⟨s0, s1, s2⟩
        go_simp
        with_reducible rfl
      rotate_left
      · simp only [Act.put, List.setIfInBounds_toArray, List.set_cons_zero, List.set_cons_succ, i64_w, i32_w]
        rfl
      refine pure_ (i := 5) (N := some 21) (v := ?_) (a' := ?_) #[true, true, true, true, true, true, false, false, false, false, false, false, false, false, false] rfl rfl (any_of HT_.out (by kernel_rfl)) (fun _ _ _ h => h) (Or.inl ⟨by rfl, ?_⟩) ?_ ?_
      rotate_left
      · intro w'
        go_simp
        with_reducible rfl
      rotate_left
      · simp only [Act.put, List.setIfInBounds_toArray, List.set_cons_zero, List.set_cons_succ, i64_w, i32_w]
        rfl
      refine pure_ (i := 6) (N := some 22) (v := ?_) (a' := ?_) #[true, true, true, true, true, true, true, false, false, false, false, false, false, false, false] rfl rfl (any_of HT_.out (by kernel_rfl)) (fun _ _ _ h => h) (Or.inl ⟨by rfl, ?_⟩) ?_ ?_
      rotate_left
      · intro w'
        go_simp
        with_reducible rfl
      rotate_left
      · simp only [Act.put, List.setIfInBounds_toArray, List.set_cons_zero, List.set_cons_succ, i64_w, i32_w]
        rfl
      refine pure_ (i := 7) (N := some 23) (v := ?_) (a' := ?_) #[true, true, true, true, true, true, true, true, false, false, false, false, false, false, false] rfl rfl (any_of HT_.out (by kernel_rfl)) (fun _ _ _ h => h) (Or.inl ⟨by rfl, ?_⟩) ?_ ?_
      rotate_left
      · intro w'
        go_simp
        with_reducible rfl
      rotate_left
      · simp only [Act.put, List.setIfInBounds_toArray, List.set_cons_zero, List.set_cons_succ, i64_w, i32_w]
        rfl
      refine pure_ (i := 8) (N := some 24) (v := undef) (a' := ?_) #[true, true, true, true, true, true, true, true, true, false, false, false, false, false, false] rfl rfl (any_of HT_.out (by kernel_rfl)) (fun _ _ _ h => h) (Or.inr ⟨by rfl, rfl⟩) ?_ ?_
      rotate_left
      · simp only [Act.put, List.setIfInBounds_toArray, List.set_cons_zero, List.set_cons_succ, i64_w, i32_w]
        rfl
      refine pure_ (i := 9) (N := some 25) (v := undef) (a' := ?_) #[true, true, true, true, true, true, true, true, true, true, false, false, false, false, false] rfl rfl (any_of HT_.out (by kernel_rfl)) (fun _ _ _ h => h) (Or.inr ⟨by rfl, rfl⟩) ?_ ?_
      rotate_left
      · simp only [Act.put, List.setIfInBounds_toArray, List.set_cons_zero, List.set_cons_succ, i64_w, i32_w]
        rfl
      refine pure_ (i := 10) (N := some 26) (v := undef) (a' := ?_) #[true, true, true, true, true, true, true, true, true, true, true, false, false, false, false] rfl rfl (any_of HT_.out (by kernel_rfl)) (fun _ _ _ h => h) (Or.inr ⟨by rfl, rfl⟩) ?_ ?_
      rotate_left
      · simp only [Act.put, List.setIfInBounds_toArray, List.set_cons_zero, List.set_cons_succ, i64_w, i32_w]
        rfl
      refine pure_ (i := 11) (N := some 27) (v := undef) (a' := ?_) #[true, true, true, true, true, true, true, true, true, true, true, true, false, false, false] rfl rfl (any_of HT_.out (by kernel_rfl)) (fun _ _ _ h => h) (Or.inr ⟨by rfl, rfl⟩) ?_ ?_
      rotate_left
      · simp only [Act.put, List.setIfInBounds_toArray, List.set_cons_zero, List.set_cons_succ, i64_w, i32_w]
        rfl
      refine pure_ (i := 12) (N := some 28) (v := undef) (a' := ?_) #[true, true, true, true, true, true, true, true, true, true, true, true, true, false, false] rfl rfl (any_of HT_.out (by kernel_rfl)) (fun _ _ _ h => h) (Or.inr ⟨by rfl, rfl⟩) ?_ ?_
      rotate_left
      · simp only [Act.put, List.setIfInBounds_toArray, List.set_cons_zero, List.set_cons_succ, i64_w, i32_w]
        rfl
      refine pure_ (i := 13) (N := some 29) (v := ?_) (a' := ?_) #[true, true, true, true, true, true, true, true, true, true, true, true, true, true, false] rfl rfl (any_of HT_.out (by kernel_rfl)) (fun _ _ _ h => h) (Or.inl ⟨by rfl, ?_⟩) ?_ ?_
      rotate_left
      · intro w'
        go_simp
        with_reducible rfl
      rotate_left
      · simp only [Act.put, List.setIfInBounds_toArray, List.set_cons_zero, List.set_cons_succ, i64_w, i32_w]
        rfl
      refine pure_ (i := 14) (N := some 4) (v := ?_) (a' := ?_) #[true, true, true, true, true, true, true, true, true, true, true, true, true, true, true] rfl rfl (any_of HT_.out (by kernel_rfl)) (fun _ _ _ h => h) (Or.inl ⟨by rfl, ?_⟩) ?_ ?_
      rotate_left
      · intro w'
        go_simp
        with_reducible rfl
      rotate_left
      · simp only [Act.put, List.setIfInBounds_toArray, List.set_cons_zero, List.set_cons_succ, i64_w, i32_w]
        rfl
      refine done_ (done_of HT_.out (by kernel_rfl)) ?_
      try go_wp2
      go_ret
      exact ⟨by first | rfl | (simp [errW_none, errW_some] <;> rfl) | (simp [*, errW_none, errW_some] <;> rfl), by repeat (first | (with_reducible first | exact HB.out | apply below_alloc | apply pw_below_drewN | apply below_drew1 | refine below_set ?_ GE153.out) | exact HB.out)⟩
  · rw [if_neg c5] at H
    have c5b0 : (t152 == 0) = false := beq_eq_false_iff_ne.mpr c5
    have c5b1 : (t152 != 0) = true := bne_iff_ne.mpr c5
    obtain rfl := Option.some.inj H
    go_enter Tryd.func23, Tryd.ntmps23
    try go_wp2_with (first | ((with_reducible refine gate_callee (f := 32) rfl ?_); refine goesL_ (some 12) rfl rfl Tryd.func32 (by kernel_rfl) rfl #[.int .i64 (a1.size : Int)] rfl (by (try simp only [List.map_toArray, List.map_cons, List.map_nil]); first | done | rfl | (simp only [List.length_drop, List.length_take]; rfl)) ?_; (with_reducible refine (seedcornref50_Steps.calls (a1.size : Int) t148 _ A3.out).mono ?_); rintro e w' ⟨rfl, ⟨nd, rfl⟩⟩; refine ⟨_, rfl, ?_⟩) | ((with_reducible refine gate_callee (f := 31) rfl ?_); refine goesL_ (some 13) rfl rfl Tryd.func31 (by kernel_rfl) rfl #[.string a0, .string a1, .int .i64 t148] rfl (by (try simp only [List.map_toArray, List.map_cons, List.map_nil]); first | done | rfl | (simp only [List.length_drop, List.length_take]; rfl)) ?_; (with_reducible refine (seedcornref10_Bytes.calls k a0 a1 t148 t149 t150 t151 t152 _ A4.out).mono ?_); rintro e w19 ⟨rfl, hb⟩; refine ⟨_, rfl, ?_⟩; have n0_ := Aside0.mk (below_step (by repeat (first | (with_reducible first | exact HB.out | apply below_alloc | apply pw_below_drewN | apply below_drew1) | exact HB.out)) hb); clear HB; have HB := n0_; clear n0_; (try clear hb); (try clear hb2); (try clear hk); (try clear hi)) | ((with_reducible refine gate_dst (N := 5) rfl ?_); refine box_event ?hg (N := 5) ?hd (cs := #[.int .i64 0, .string (⟨#[]⟩ : ByteArray), .int .i64 0]) (t := 38) ?hr ?_; (case hd => rfl); (case hg => rfl); (case hr => first | (go_simp; done) | (go_simp; rfl)); intro gb153 hg w20 hbox hb; have n0_ := Aside0.mk (below_step (by repeat (first | (with_reducible first | exact HB.out | apply below_alloc | apply pw_below_drewN | apply below_drew1) | exact HB.out)) hb); have n1_ := Aside0.mk (hbox); have n2_ := Aside0.mk ((by rw [hg]; exact (below_size (by repeat (first | (with_reducible first | exact HB.out | apply below_alloc | apply pw_below_drewN | apply below_drew1) | exact HB.out))) : w.heap.size ≤ gb153)); have n3_ := Aside0.mk ((by rw [hg]; exact (below_size (by repeat (first | (with_reducible first | exact HB.out | apply below_alloc | apply pw_below_drewN | apply below_drew1) | exact HB.out))) : w.heap.size ≤ gb153)); clear HB; have HB := n0_; have BK153 := n1_; have GW153 := n2_; have GE153 := n3_; clear n0_ n1_ n2_ n3_; clear hb hbox hg; have hcz21_0 : w20.cell? ⟨gb153, 0, none⟩ = some (.int .i64 0) := (blk_cell BK153.out 0).trans rfl; have hcz21_1 : w20.cell? ⟨gb153, 1, none⟩ = some (.string (⟨#[]⟩ : ByteArray)) := (blk_cell BK153.out 1).trans rfl; have hcz21_2 : w20.cell? ⟨gb153, 2, none⟩ = some (.int .i64 0) := (blk_cell BK153.out 2).trans rfl; have hfz21_0 := blk_frozen BK153.out 0; have hfz21_1 := blk_frozen BK153.out 1; have hfz21_2 := blk_frozen BK153.out 2))
    have n0_ : Aside0 ((((w20.setCell ⟨gb153, 0, none⟩ (.int .i64 t149)).setCell ⟨gb153, 1, none⟩ (.string t150)).setCell ⟨gb153, 2, none⟩ (.int .i64 t151)).heap[gb153]? = some (.cells #[.int .i64 t149, .string t150, .int .i64 t151] 38 (0, 0))) := ⟨by (with_reducible repeat (first | refine blk_drewN ?_ _ | refine blk_drew ?_ | refine blk_alloc ?_ _)); refine blk_put (cs := #[.int .i64 t149, .string t150, .int .i64 0]) ?_ 2 _ rfl; (with_reducible repeat (first | refine blk_drewN ?_ _ | refine blk_drew ?_ | refine blk_alloc ?_ _)); refine blk_put (cs := #[.int .i64 t149, .string (⟨#[]⟩ : ByteArray), .int .i64 0]) ?_ 1 _ rfl; (with_reducible repeat (first | refine blk_drewN ?_ _ | refine blk_drew ?_ | refine blk_alloc ?_ _)); refine blk_put (cs := #[.int .i64 0, .string (⟨#[]⟩ : ByteArray), .int .i64 0]) ?_ 0 _ rfl; (with_reducible repeat (first | refine blk_drewN ?_ _ | refine blk_drew ?_ | refine blk_alloc ?_ _)); exact BK153.out⟩
    have n1_ : Aside0 (Below w.heap.size w (((w20.setCell ⟨gb153, 0, none⟩ (.int .i64 t149)).setCell ⟨gb153, 1, none⟩ (.string t150)).setCell ⟨gb153, 2, none⟩ (.int .i64 t151))) := ⟨by repeat (first | (with_reducible first | exact HB.out | apply below_alloc | apply pw_below_drewN | apply below_drew1 | refine below_set ?_ GE153.out) | exact HB.out)⟩
    (try clear BK153)
    (try clear HB)
    generalize (((w20.setCell ⟨gb153, 0, none⟩ (.int .i64 t149)).setCell ⟨gb153, 1, none⟩ (.string t150)).setCell ⟨gb153, 2, none⟩ (.int .i64 t151)) = w22 at n0_ n1_ ⊢
    have BK153 := n0_
    have HB := n1_
    clear n0_ n1_
    have n0_ := Aside0.mk (blk_drew BK153.out)
    have n1_ := Aside0.mk (below_drew1 HB.out)
    clear BK153
    clear HB
    have BK153 := n0_
    have HB := n1_
    clear n0_ n1_
    refine start_ (n := 15) (S := fun w' => True) (ds := []) #[false, false, false, false, false, false, false, false, false, false, false, false, false, false, false] (by kernel_rfl) rfl rfl trivial (fun hHeld => ?_); refine with_tabW seedcornref50_Loads.tab2 seedcornref50_Loads.bits2 (fun HT_ HW_ => ?_)
    generalize w22.drew = w23 at BK153 HB hHeld ⊢
    refine pure_ (i := 0) (N := some 16) (v := ?_) (a' := ?_) #[true, false, false, false, false, false, false, false, false, false, false, false, false, false, false] rfl rfl (any_of HT_.out (by kernel_rfl)) (fun _ _ _ h => h) (Or.inl ⟨by rfl, ?_⟩) ?_ ?_
    rotate_left
    · intro w'
      go_simp
      with_reducible rfl
    rotate_left
    · simp only [Act.put, List.setIfInBounds_toArray, List.set_cons_zero, List.set_cons_succ, i64_w, i32_w]
      rfl
    refine pure_ (i := 1) (N := some 17) (v := ?_) (a' := ?_) #[true, true, false, false, false, false, false, false, false, false, false, false, false, false, false] rfl rfl (any_of HT_.out (by kernel_rfl)) (fun _ _ _ h => h) (Or.inl ⟨by rfl, ?_⟩) ?_ ?_
    rotate_left
    · intro w'
      go_simp
      with_reducible rfl
    rotate_left
    · simp only [Act.put, List.setIfInBounds_toArray, List.set_cons_zero, List.set_cons_succ, i64_w, i32_w]
      rfl
    refine pure_ (i := 2) (N := some 18) (v := ?_) (a' := ?_) #[true, true, true, false, false, false, false, false, false, false, false, false, false, false, false] rfl rfl (any_of HT_.out (by kernel_rfl)) (fun _ _ _ h => h) (Or.inl ⟨by rfl, ?_⟩) ?_ ?_
    rotate_left
    · intro w'
      go_simp
      with_reducible rfl
    rotate_left
    · simp only [Act.put, List.setIfInBounds_toArray, List.set_cons_zero, List.set_cons_succ, i64_w, i32_w]
      rfl
    refine pure_ (i := 3) (N := some 19) (v := undef) (a' := ?_) #[true, true, true, true, false, false, false, false, false, false, false, false, false, false, false] rfl rfl (any_of HT_.out (by kernel_rfl)) (fun _ _ _ h => h) (Or.inr ⟨by rfl, rfl⟩) ?_ ?_
    rotate_left
    · simp only [Act.put, List.setIfInBounds_toArray, List.set_cons_zero, List.set_cons_succ, i64_w, i32_w]
      rfl
    refine pure_ (i := 4) (N := some 20) (v := undef) (a' := ?_) #[true, true, true, true, true, false, false, false, false, false, false, false, false, false, false] rfl rfl (any_of HT_.out (by kernel_rfl)) (fun _ _ _ h => h) (Or.inr ⟨by rfl, rfl⟩) ?_ ?_
    rotate_left
    · simp only [Act.put, List.setIfInBounds_toArray, List.set_cons_zero, List.set_cons_succ, i64_w, i32_w]
      rfl
    refine pure_ (i := 5) (N := some 21) (v := undef) (a' := ?_) #[true, true, true, true, true, true, false, false, false, false, false, false, false, false, false] rfl rfl (any_of HT_.out (by kernel_rfl)) (fun _ _ _ h => h) (Or.inr ⟨by rfl, rfl⟩) ?_ ?_
    rotate_left
    · simp only [Act.put, List.setIfInBounds_toArray, List.set_cons_zero, List.set_cons_succ, i64_w, i32_w]
      rfl
    refine pure_ (i := 6) (N := some 22) (v := ?_) (a' := ?_) #[true, true, true, true, true, true, true, false, false, false, false, false, false, false, false] rfl rfl (any_of HT_.out (by kernel_rfl)) (fun _ _ _ h => h) (Or.inl ⟨by rfl, ?_⟩) ?_ ?_
    rotate_left
    · intro w'
      go_simp
      with_reducible rfl
    rotate_left
    · simp only [Act.put, List.setIfInBounds_toArray, List.set_cons_zero, List.set_cons_succ, i64_w, i32_w]
      rfl
    refine pure_ (i := 7) (N := some 23) (v := ?_) (a' := ?_) #[true, true, true, true, true, true, true, true, false, false, false, false, false, false, false] rfl rfl (any_of HT_.out (by kernel_rfl)) (fun _ _ _ h => h) (Or.inl ⟨by rfl, ?_⟩) ?_ ?_
    rotate_left
    · intro w'
      go_simp
      with_reducible rfl
    rotate_left
    · simp only [Act.put, List.setIfInBounds_toArray, List.set_cons_zero, List.set_cons_succ, i64_w, i32_w]
      rfl
    refine pure_ (i := 8) (N := some 24) (v := undef) (a' := ?_) #[true, true, true, true, true, true, true, true, true, false, false, false, false, false, false] rfl rfl (any_of HT_.out (by kernel_rfl)) (fun _ _ _ h => h) (Or.inr ⟨by rfl, rfl⟩) ?_ ?_
    rotate_left
    · simp only [Act.put, List.setIfInBounds_toArray, List.set_cons_zero, List.set_cons_succ, i64_w, i32_w]
      rfl
    refine pure_ (i := 9) (N := some 25) (v := undef) (a' := ?_) #[true, true, true, true, true, true, true, true, true, true, false, false, false, false, false] rfl rfl (any_of HT_.out (by kernel_rfl)) (fun _ _ _ h => h) (Or.inr ⟨by rfl, rfl⟩) ?_ ?_
    rotate_left
    · simp only [Act.put, List.setIfInBounds_toArray, List.set_cons_zero, List.set_cons_succ, i64_w, i32_w]
      rfl
    refine pure_ (i := 10) (N := some 26) (v := undef) (a' := ?_) #[true, true, true, true, true, true, true, true, true, true, true, false, false, false, false] rfl rfl (any_of HT_.out (by kernel_rfl)) (fun _ _ _ h => h) (Or.inr ⟨by rfl, rfl⟩) ?_ ?_
    rotate_left
    · simp only [Act.put, List.setIfInBounds_toArray, List.set_cons_zero, List.set_cons_succ, i64_w, i32_w]
      rfl
    refine pure_ (i := 11) (N := some 27) (v := undef) (a' := ?_) #[true, true, true, true, true, true, true, true, true, true, true, true, false, false, false] rfl rfl (any_of HT_.out (by kernel_rfl)) (fun _ _ _ h => h) (Or.inr ⟨by rfl, rfl⟩) ?_ ?_
    rotate_left
    · simp only [Act.put, List.setIfInBounds_toArray, List.set_cons_zero, List.set_cons_succ, i64_w, i32_w]
      rfl
    refine pure_ (i := 12) (N := some 28) (v := undef) (a' := ?_) #[true, true, true, true, true, true, true, true, true, true, true, true, true, false, false] rfl rfl (any_of HT_.out (by kernel_rfl)) (fun _ _ _ h => h) (Or.inr ⟨by rfl, rfl⟩) ?_ ?_
    rotate_left
    · simp only [Act.put, List.setIfInBounds_toArray, List.set_cons_zero, List.set_cons_succ, i64_w, i32_w]
      rfl
    refine pure_ (i := 13) (N := some 29) (v := ?_) (a' := ?_) #[true, true, true, true, true, true, true, true, true, true, true, true, true, true, false] rfl rfl (any_of HT_.out (by kernel_rfl)) (fun _ _ _ h => h) (Or.inl ⟨by rfl, ?_⟩) ?_ ?_
    rotate_left
    · intro w'
      go_simp
      with_reducible rfl
    rotate_left
    · simp only [Act.put, List.setIfInBounds_toArray, List.set_cons_zero, List.set_cons_succ, i64_w, i32_w]
      rfl
    refine pure_ (i := 14) (N := some 4) (v := ?_) (a' := ?_) #[true, true, true, true, true, true, true, true, true, true, true, true, true, true, true] rfl rfl (any_of HT_.out (by kernel_rfl)) (fun _ _ _ h => h) (Or.inl ⟨by rfl, ?_⟩) ?_ ?_
    rotate_left
    · intro w'
      go_simp
      with_reducible rfl
    rotate_left
    · simp only [Act.put, List.setIfInBounds_toArray, List.set_cons_zero, List.set_cons_succ, i64_w, i32_w]
      rfl
    refine done_ (done_of HT_.out (by kernel_rfl)) ?_
    try go_wp2
    go_ret
    exact ⟨by first | rfl | (simp [errW_none, errW_some] <;> rfl) | (simp [*, errW_none, errW_some] <;> rfl), by repeat (first | (with_reducible first | exact HB.out | apply below_alloc | apply pw_below_drewN | apply below_drew1 | refine below_set ?_ GE153.out) | exact HB.out)⟩
end Go.Proofs.YtdhkmdgieflioaaDoor.F
namespace Go.Proofs.YtdhkmdgieflioaaDoor.F
open Go.RowKit Go.Proofs.YtdhkmdgieflioaaDoorW.PrintWords Go.Proofs.YtdhkmdgieflioaaDoorW.PrintLast Go.Proofs.YtdhkmdgieflioaaDoorW.PrintMore
attribute [local go_sem] max2_int min2_int max_two min_two max_three min_three max_four min_four
set_option linter.unusedVariables false
set_option linter.unusedSimpArgs false
def image_Right.f (l0_0 : List Int) (a0_1 : Int) : Option (Bool) := if (l0_0.length : Int) ≤ 16384 then (if a0_1 ≥ 0 then (some (decide (a0_1 ≤ 32768))) else (some false)) else (some false)
set_option maxHeartbeats 8000000 in
set_option maxRecDepth 100000 in
theorem image_Right.calls (A0_0 : Option Addr) (c0_0 : Nat) (l0_0 : List Int) (a0_1 : Int) (r : Bool) (w : World) (hr0_0 : Kd.C (Kd.int .u32) w A0_0 l0_0.length l0_0) (hc0_0 : l0_0.length ≤ c0_0) (h : image_Right.f l0_0 a0_1 = some r) :
    Calls Tryd.prog 68 #[.agg #[.slice A0_0 l0_0.length c0_0, .int .i64 a0_1]] w fun e w' => e = .returned (.bool r) ∧ Below w.heap.size w w' := by
  have hu28 := Tryd.underlying28
  have HR0_0 := Aside0.mk hr0_0
  have HC0_0 := Aside0.mk hc0_0
  clear hr0_0 hc0_0
  have HB := Aside0.mk (Below.refl w.heap.size w)
  have H : (if (l0_0.length : Int) ≤ 16384 then (if a0_1 ≥ 0 then (some (decide (a0_1 ≤ 32768))) else (some false)) else (some false)) = some r := h
  clear h
  by_cases c2 : (l0_0.length : Int) ≤ 16384
  · rw [if_pos c2] at H
    have c2b0 : decide ((l0_0.length : Int) ≤ 16384) = true := decide_eq_true c2
    have c2b1 : decide (l0_0.length ≤ 16384) = true := decide_eq_true (by omega)
    clear c2
    by_cases c3 : a0_1 ≥ 0
    · rw [if_pos c3] at H
      have c3b0 : decide (0 ≤ a0_1) = true := decide_eq_true c3
      clear c3
      obtain rfl := Option.some.inj H
      go_enter Tryd.func68, Tryd.ntmps68
      go_wp2_with (first | ((with_reducible refine gate_dst (N := 1) rfl ?_); refine box_event ?hg (N := 1) ?hd (cs := #[.slice A0_0 l0_0.length c0_0, .int .i64 a0_1]) (t := 28) ?hr ?_; (case hd => rfl); (case hg => rfl); (case hr => first | (go_simp; done) | (go_simp; rfl)); intro gb155 hg w4 hbox hb; have n0_ := Aside0.mk (below_step (by repeat (first | (with_reducible first | exact HB.out | apply below_alloc | apply pw_below_drewN | apply below_drew1) | exact HB.out)) hb); have n1_ := Aside0.mk (hbox); have n2_ := Aside0.mk ((by rw [hg]; exact (below_size (by repeat (first | (with_reducible first | exact HB.out | apply below_alloc | apply pw_below_drewN | apply below_drew1) | exact HB.out))) : w.heap.size ≤ gb155)); have n3_ := Aside0.mk ((by rw [hg]; exact (below_size (by repeat (first | (with_reducible first | exact HB.out | apply below_alloc | apply pw_below_drewN | apply below_drew1) | exact HB.out))) : w.heap.size ≤ gb155)); clear HB; have HB := n0_; have BK155 := n1_; have GW155 := n2_; have GE155 := n3_; clear n0_ n1_ n2_ n3_; clear hb hbox hg; have hcz5_0 : w4.cell? ⟨gb155, 0, none⟩ = some (.slice A0_0 l0_0.length c0_0) := (blk_cell BK155.out 0).trans rfl; have hcz5_1 : w4.cell? ⟨gb155, 1, none⟩ = some (.int .i64 a0_1) := (blk_cell BK155.out 1).trans rfl; have hfz5_0 := blk_frozen BK155.out 0; have hfz5_1 := blk_frozen BK155.out 1))
      go_ret
      exact ⟨by first | rfl | (simp [errW_none, errW_some] <;> rfl) | (simp [*, errW_none, errW_some] <;> rfl), by repeat (first | (with_reducible first | exact HB.out | apply below_alloc | apply pw_below_drewN | apply below_drew1 | refine below_set ?_ GE155.out) | exact HB.out)⟩
    · rw [if_neg c3] at H
      have c3b0 : decide (0 ≤ a0_1) = false := decide_eq_false c3
      clear c3
      obtain rfl := Option.some.inj H
      go_enter Tryd.func68, Tryd.ntmps68
      go_wp2_with (first | ((with_reducible refine gate_dst (N := 1) rfl ?_); refine box_event ?hg (N := 1) ?hd (cs := #[.slice A0_0 l0_0.length c0_0, .int .i64 a0_1]) (t := 28) ?hr ?_; (case hd => rfl); (case hg => rfl); (case hr => first | (go_simp; done) | (go_simp; rfl)); intro gb155 hg w6 hbox hb; have n0_ := Aside0.mk (below_step (by repeat (first | (with_reducible first | exact HB.out | apply below_alloc | apply pw_below_drewN | apply below_drew1) | exact HB.out)) hb); have n1_ := Aside0.mk (hbox); have n2_ := Aside0.mk ((by rw [hg]; exact (below_size (by repeat (first | (with_reducible first | exact HB.out | apply below_alloc | apply pw_below_drewN | apply below_drew1) | exact HB.out))) : w.heap.size ≤ gb155)); have n3_ := Aside0.mk ((by rw [hg]; exact (below_size (by repeat (first | (with_reducible first | exact HB.out | apply below_alloc | apply pw_below_drewN | apply below_drew1) | exact HB.out))) : w.heap.size ≤ gb155)); clear HB; have HB := n0_; have BK155 := n1_; have GW155 := n2_; have GE155 := n3_; clear n0_ n1_ n2_ n3_; clear hb hbox hg; have hcz7_0 : w6.cell? ⟨gb155, 0, none⟩ = some (.slice A0_0 l0_0.length c0_0) := (blk_cell BK155.out 0).trans rfl; have hcz7_1 : w6.cell? ⟨gb155, 1, none⟩ = some (.int .i64 a0_1) := (blk_cell BK155.out 1).trans rfl; have hfz7_0 := blk_frozen BK155.out 0; have hfz7_1 := blk_frozen BK155.out 1))
      go_ret
      exact ⟨by first | rfl | (simp [errW_none, errW_some] <;> rfl) | (simp [*, errW_none, errW_some] <;> rfl), by repeat (first | (with_reducible first | exact HB.out | apply below_alloc | apply pw_below_drewN | apply below_drew1 | refine below_set ?_ GE155.out) | exact HB.out)⟩
  · rw [if_neg c2] at H
    have c2b0 : decide ((l0_0.length : Int) ≤ 16384) = false := decide_eq_false c2
    have c2b1 : decide (l0_0.length ≤ 16384) = false := decide_eq_false (by omega)
    clear c2
    obtain rfl := Option.some.inj H
    go_enter Tryd.func68, Tryd.ntmps68
    go_wp2_with (first | ((with_reducible refine gate_dst (N := 1) rfl ?_); refine box_event ?hg (N := 1) ?hd (cs := #[.slice A0_0 l0_0.length c0_0, .int .i64 a0_1]) (t := 28) ?hr ?_; (case hd => rfl); (case hg => rfl); (case hr => first | (go_simp; done) | (go_simp; rfl)); intro gb155 hg w8 hbox hb; have n0_ := Aside0.mk (below_step (by repeat (first | (with_reducible first | exact HB.out | apply below_alloc | apply pw_below_drewN | apply below_drew1) | exact HB.out)) hb); have n1_ := Aside0.mk (hbox); have n2_ := Aside0.mk ((by rw [hg]; exact (below_size (by repeat (first | (with_reducible first | exact HB.out | apply below_alloc | apply pw_below_drewN | apply below_drew1) | exact HB.out))) : w.heap.size ≤ gb155)); have n3_ := Aside0.mk ((by rw [hg]; exact (below_size (by repeat (first | (with_reducible first | exact HB.out | apply below_alloc | apply pw_below_drewN | apply below_drew1) | exact HB.out))) : w.heap.size ≤ gb155)); clear HB; have HB := n0_; have BK155 := n1_; have GW155 := n2_; have GE155 := n3_; clear n0_ n1_ n2_ n3_; clear hb hbox hg; have hcz9_0 : w8.cell? ⟨gb155, 0, none⟩ = some (.slice A0_0 l0_0.length c0_0) := (blk_cell BK155.out 0).trans rfl; have hcz9_1 : w8.cell? ⟨gb155, 1, none⟩ = some (.int .i64 a0_1) := (blk_cell BK155.out 1).trans rfl; have hfz9_0 := blk_frozen BK155.out 0; have hfz9_1 := blk_frozen BK155.out 1))
    go_ret
    exact ⟨by first | rfl | (simp [errW_none, errW_some] <;> rfl) | (simp [*, errW_none, errW_some] <;> rfl), by repeat (first | (with_reducible first | exact HB.out | apply below_alloc | apply pw_below_drewN | apply below_drew1 | refine below_set ?_ GE155.out) | exact HB.out)⟩
end Go.Proofs.YtdhkmdgieflioaaDoor.F
namespace Go.Proofs.YtdhkmdgieflioaaDoor.F
open Go.RowKit Go.Proofs.YtdhkmdgieflioaaDoorW.PrintWords Go.Proofs.YtdhkmdgieflioaaDoorW.PrintLast Go.Proofs.YtdhkmdgieflioaaDoorW.PrintMore
set_option linter.unusedVariables false
set_option linter.unusedSimpArgs false
namespace Mk
variable {P : Program} {ops : Array Oper} {Q : Exit → Act → World → Prop} {a : Act} {W : World} {rest : List Oper} {o : Oper}
variable {α : Type}
theorem R_make0 (d : Kd α) {w0 W : World} (base e : Nat) (hgd : o.guard = none) {N : Tmp} (hd : o.dst = some N) (t : TypeId) (x y : Operand) (ho : o.op = .makeSlice t x y) (n : Int) (hx : a.eval x = .int .i64 0) (hy : a.eval y = .int .i64 n)
    (ht : P.underlying t = some (.slice e)) (z : Value) (bytes : Nat) (hinfo : (P.info? e).map (fun i => (i.zero, i.size, i.bytes)) = some (some z, d.sz, bytes)) (hz : z.cells.size = d.sz) (hs0 : 0 < d.sz) (hb0 : 0 < bytes)
    (z0 : α) {ok okp : Nat → Prop} (hzero : d.M W base okp z0 z.cells.toList) (hok : ∀ k, okp k → ok k) (hfresh : ok W.heap.size) (h0 : 0 ≤ n) (hl : n.toNat * bytes ≤ 281474976710656) (HB : Below base w0 W) (hbase : base ≤ W.heap.size)
    (h : ∀ v1 w1, d.R e w1 base ok v1 [] → Below base w0 w1 → W.grownBy w1 none → (∃ b, v1.ownBlock = some b ∧ W.heap.size ≤ b) → wpList P ops Q rest (a.put o.dst v1) w1) : wpList P ops Q (o :: rest) a W := by
  obtain ⟨m, rfl⟩ := Int.eq_ofNat_of_zero_le h0
  simp only [Int.toNat_natCast] at hl
  obtain ⟨i0, hi, hzz⟩ := Option.map_eq_some_iff.1 hinfo
  simp only [Prod.mk.injEq] at hzz
  obtain ⟨hz0, hz1, hz2⟩ := hzz
  have hm : m ≤ 281474976710656 := Nat.le_trans (Nat.le_mul_of_pos_right _ hb0) hl
  have hr := run_make (P := P) W t e i0 z ht hi hz0 .i64 .i64 (0 : Int) (m : Int) (by omega) (by omega)
    (by
      have h3 : ((i0.bytes * m : Nat) : Int) ≤ 281474976710656 := by rw [hz2, Nat.mul_comm]; omega
      rwa [Int.natCast_mul] at h3) (by omega)
  simp only [Int.toNat_natCast] at hr
  rw [hz1] at hr
  refine Kd.event_run hgd (v := .slice (some ⟨W.heap.size, 0, none⟩) 0 m) (w1 := W.alloc (.cells (madeCells z.cells (m * d.sz)) e)) ?_ (h _ _ ⟨fun k hk => ?_, [], ?_, ?_⟩ (HB.alloc hbase _) (World.grownBy_alloc W _ none) ⟨W.heap.size, by simp [Value.ownBlock], Nat.le_refl _⟩)
  · have hr' : (Instr.makeSlice t (.int .i64 0) (.int .i64 (m : Int))).run P W = .ok (.slice (some ⟨W.heap.size, 0, none⟩) 0 m) (W.alloc (.cells (madeCells z.cells (m * d.sz)) e)) := by simpa using hr
    simp [execOp, ho, hx, hy, hr']
  · have : W.heap.size = k := by simpa [Value.ownBlock] using hk
    subst this
    exact hfresh
  · refine ⟨by simp, Or.inr ⟨W.heap.size, m, madeCells z.cells (m * d.sz), by simp, hbase, by simpa using heap_alloc_new W _, by simp, by unfold maxLen; omega, by rw [size_madeCells], by simp⟩⟩
  · exact Reps.none _ _
end Mk
end Go.Proofs.YtdhkmdgieflioaaDoor.F
namespace Go.Proofs.YtdhkmdgieflioaaDoor.F
open Go.RowKit Go.Proofs.YtdhkmdgieflioaaDoorW.PrintWords Go.Proofs.YtdhkmdgieflioaaDoorW.PrintLast Go.Proofs.YtdhkmdgieflioaaDoorW.PrintMore
attribute [local go_sem] max2_int min2_int max_two min_two max_three min_three max_four min_four
set_option linter.unusedVariables false
set_option linter.unusedSimpArgs false
def word_Bytes.l0 : Nat → List Int → List Int → Int → Int → Option (ByteArray)
  | 0, _, _, _, _ => none
  | k + 1, x3, x10, x11, x12 => if x12 < x11 then (if 0 ≤ x12 then (if x12 < (x10.length : Int) then ((some (([(rd x10 x12) % 256, ((rd x10 x12) / 256) % 256, ((rd x10 x12) / 65536) % 256, ((rd x10 x12) / 16777216) % 256] : List Int) : List Int)).bind fun y160 => (if x3.length + y160.length < 140737488355328 then (word_Bytes.l0 k (x3 ++ y160) x10 x11 (wrap64 (x12 + 1))) else (none))) else (none)) else (none)) else (some (strOfNums x3))
def word_Bytes.f (k : Nat) (l0 : List Int) : Option (ByteArray) := if 0 ≤ (wrap64 (4 * (l0.length : Int))) then (if (wrap64 (4 * (l0.length : Int)) : Int).toNat ≤ 281474976710656 then (word_Bytes.l0 k ([]) l0 (l0.length : Int) 0) else (none)) else (none)
theorem word_Bytes.mono_l : ∀ k, (∀ y0 y1 y2 y3, LeO (word_Bytes.l0 k y0 y1 y2 y3) (word_Bytes.l0 (k + 1) y0 y1 y2 y3))
  | 0 => fun _ _ _ _ r h => by simp [word_Bytes.l0] at h
  | k + 1 => by
    have ih0 := word_Bytes.mono_l k
    · intro y0 y1 y2 y3
      unfold word_Bytes.l0
      repeat' first
      | (with_reducible exact ih0 _ _ _ _)
      | (with_reducible exact LeO.refl _)
      | (with_reducible exact LeO.none _)
      | (with_reducible refine LeO.ite ?_ ?_)
      | (with_reducible refine LeO.bind ?_ (fun _ => ?_))
      | exact ih0 _ _ _ _
      | exact LeO.none _
      | refine LeO.ite ?_ ?_
      | refine LeO.bind ?_ (fun _ => ?_)
theorem word_Bytes.mono : ∀ a0 k, LeO (word_Bytes.f k a0) (word_Bytes.f (k + 1) a0) := by
  intro a0 k
  have ih0 := word_Bytes.mono_l k
  unfold word_Bytes.f
  repeat' first
      | (with_reducible exact ih0 _ _ _ _)
      | (with_reducible exact LeO.refl _)
      | (with_reducible exact LeO.none _)
      | (with_reducible refine LeO.ite ?_ ?_)
      | (with_reducible refine LeO.bind ?_ (fun _ => ?_))
      | exact ih0 _ _ _ _
      | exact LeO.none _
      | refine LeO.ite ?_ ?_
      | refine LeO.bind ?_ (fun _ => ?_)
set_option maxHeartbeats 8000000 in
set_option maxRecDepth 100000 in
theorem word_Bytes.calls (k : Nat) (A0 : Option Addr) (c0 : Nat) (l0 : List Int) (r : ByteArray) (w : World) (hr0 : Kd.C (Kd.int .u32) w A0 l0.length l0) (hc0 : l0.length ≤ c0) (h : word_Bytes.f k l0 = some r) :
    Calls Tryd.prog 91 #[.slice A0 l0.length c0] w fun e w' => e = .returned (.string r) ∧ Below w.heap.size w w' := by
  have HR0 := Aside0.mk hr0
  have HC0 := Aside0.mk hc0
  clear hr0 hc0
  have HB := Aside0.mk (Below.refl w.heap.size w)
  have H : (if 0 ≤ (wrap64 (4 * (l0.length : Int))) then (if (wrap64 (4 * (l0.length : Int)) : Int).toNat ≤ 281474976710656 then (word_Bytes.l0 k ([]) l0 (l0.length : Int) 0) else (none)) else (none)) = some r := h
  clear h
  obtain ⟨ji2, hji2⟩ : ∃ j_ : Int, (wrap64 (4 * (l0.length : Int))) = j_ := ⟨_, rfl⟩
  replace H : (if 0 ≤ (ji2) then (if (ji2 : Int).toNat ≤ 281474976710656 then (word_Bytes.l0 k ([]) l0 (l0.length : Int) 0) else (none)) else (none)) = some r := by first | (rw [hji2] at H; exact H) | (simp only [hji2] at H ⊢; exact H)
  have hji2w : (IntKind.i64.wrap (4 * (l0.length : Int))) = ji2 := (i64_w _).trans hji2
  by_cases c3 : 0 ≤ (ji2)
  · rw [if_pos c3] at H
    have c3b0 := eq_true c3
    have c3b1 : decide (0 ≤ (ji2)) = true := decide_eq_true c3
    clear c3
    by_cases c4 : (ji2 : Int).toNat ≤ 281474976710656
    · rw [if_pos c4] at H
      have c4b0 := eq_true c4
      have c4b1 : decide ((ji2 : Int).toNat ≤ 281474976710656) = true := decide_eq_true c4
      clear c4
      obtain ⟨y156, hy156⟩ : ∃ y_ : List Int, y_ = ([]) := ⟨_, rfl⟩
      replace H : (word_Bytes.l0 k y156 l0 (l0.length : Int) 0) = some r := by first | (rw [hy156]; with_reducible exact H) | (have H2_ := (Option.bind_some _ _).symm.trans H; rw [hy156]; with_reducible exact H2_) | (have H2_ := (Option.bind_some _ _).symm.trans H; with_reducible exact H2_) | with_reducible exact H | (rw [hy156]; exact H) | exact H
      have Ny156 := Aside0.mk hy156
      clear hy156
      have H' := Aside0.mk H
      clear H
      go_enter Tryd.func91, Tryd.ntmps91
      go_wp2_with (first | ((with_reducible refine gate_dst (N := 9) rfl ?_); refine Mk.R_make0 (Kd.int .u8) _ 5 rfl (N := 9) rfl 72 _ _ rfl ji2 rfl rfl Tryd.underlying72 (.int .u8 0) 1 info5 rfl (by decide) (by omega) 0 (ok := fun _ => True) (okp := fun _ => True) rfl (fun _ hk => hk) trivial (of_decide_eq_true (by first | (with_reducible assumption) | assumption)) (Nat.le_trans (Nat.mul_le_mul_right _ (of_decide_eq_true (by first | (with_reducible assumption) | assumption) : ji2.toNat ≤ 281474976710656)) (by omega)) (Below.refl _ _) (Nat.le_refl _) ?_; intro v157 w5 ho6 hb hg_ hnew_; clear hg_ hnew_; (first | rw [← Ny156.out] at ho6 | (simp only [Int.reduceToNat] at ho6; rw [← Ny156.out] at ho6)); have n0_ := Aside0.mk (Kd.R_lower ho6 (below_size (by repeat (first | (with_reducible first | exact HB.out | apply below_alloc | apply pw_below_drewN | apply below_drew1) | exact HB.out)))); have n1_ := Aside0.mk (below_step (by repeat (first | (with_reducible first | exact HB.out | apply below_alloc | apply pw_below_drewN | apply below_drew1) | exact HB.out)) hb); clear HB; have HO158 := n0_; have HB := n1_; clear n0_ n1_; clear hb ho6))
      go_loopg [3, 12] k (fun kq v3 v12 w' => ∃ (x3_1 : List Int) (x12_1 : Int), v12 = .int .i64 x12_1 ∧ Aside0 (word_Bytes.l0 kq x3_1 l0 (l0.length : Int) x12_1 = some r) ∧ Aside0 (kq ≤ k) ∧ Aside0 (Kd.R (Kd.int .u8) 5 w' w.heap.size (fun _ => True) v3 x3_1) ∧ Aside0 (Below w.heap.size w w'))
      case atStart => exact ⟨(y156), (0), (by first | rfl | (simp; done) | (simp [*]; done)), H', ⟨Nat.le_refl _⟩, ⟨by (with_reducible repeat (first | apply Kd.R_alloc | apply Kd.R_drewN | apply Kd.R_drew)); exact HO158.out⟩, ⟨by repeat (first | (with_reducible first | exact HB.out | apply below_alloc | apply pw_below_drewN | apply below_drew1) | exact HB.out)⟩⟩
      case round =>
        clear H'
        try clear p2
        try clear c3
        try clear c3b0
        try clear c3b1
        try clear c4
        try clear c4b0
        try clear c4b1
        try clear p6
        obtain ⟨x3_1, x12_1, rfl, HA, HK1, HO_3, HB⟩ := hrel
        cases gk with
        | zero => exact absurd HA.out (by simp [word_Bytes.l0])
        | succ k1 =>
          have H := HA.out
          clear HA
          simp only [word_Bytes.l0] at H
          by_cases c7 : x12_1 < (l0.length : Int)
          · rw [if_pos c7] at H
            have c7b0 : decide (x12_1 < (l0.length : Int)) = true := decide_eq_true c7
            clear c7
            by_cases c8 : 0 ≤ x12_1
            · rw [if_pos c8] at H
              have c8b0 : decide (0 ≤ x12_1) = true := decide_eq_true c8
              clear c8
              by_cases c9 : x12_1 < (l0.length : Int)
              · rw [if_pos c9] at H
                have c9b0 : decide (x12_1 < (l0.length : Int)) = true := decide_eq_true c9
                clear c9
                obtain ⟨y160, hy160⟩ : ∃ y_ : List Int, y_ = (([(rd l0 x12_1) % 256, ((rd l0 x12_1) / 256) % 256, ((rd l0 x12_1) / 65536) % 256, ((rd l0 x12_1) / 16777216) % 256] : List Int)) := ⟨_, rfl⟩
                replace H : (if x3_1.length + y160.length < 140737488355328 then (word_Bytes.l0 k1 (x3_1 ++ y160) l0 (l0.length : Int) (wrap64 (x12_1 + 1))) else (none)) = some r := by first | (rw [hy160]; with_reducible exact H) | (have H2_ := (Option.bind_some _ _).symm.trans H; rw [hy160]; with_reducible exact H2_) | (have H2_ := (Option.bind_some _ _).symm.trans H; with_reducible exact H2_) | with_reducible exact H | (rw [hy160]; exact H) | exact H
                have Ny160 := Aside0.mk hy160
                clear hy160
                by_cases c10 : x3_1.length + y160.length < 140737488355328
                · rw [if_pos c10] at H
                  have LMc10 := Aside0.mk c10
                  clear c10
                  obtain ⟨y163, hy163⟩ : ∃ y_ : List Int, y_ = (x3_1 ++ y160) := ⟨_, rfl⟩
                  replace H : (word_Bytes.l0 k1 y163 l0 (l0.length : Int) (wrap64 (x12_1 + 1))) = some r := by first | (rw [hy163]; with_reducible exact H) | (have H2_ := (Option.bind_some _ _).symm.trans H; rw [hy163]; with_reducible exact H2_) | (have H2_ := (Option.bind_some _ _).symm.trans H; with_reducible exact H2_) | with_reducible exact H | (rw [hy163]; exact H) | exact H
                  have Ny163 := Aside0.mk hy163
                  clear hy163
                  have H' := Aside0.mk H
                  clear H
                  have p159 : 0 ≤ (x12_1 : Int) := of_decide_eq_true (by first | (with_reducible assumption) | assumption)
                  have q159 : x12_1 < (l0.length : Int) := of_decide_eq_true (by first | (with_reducible assumption) | assumption)
                  obtain ⟨ad159, e159, hx159_0⟩ := Kd.at_int HR0.out x12_1 p159 q159
                  cases e159
                  replace hx159_0 := (HB.out.cell (World.block_lt_of_cell? w _ hx159_0)).trans hx159_0
                  replace p159 := eq_true p159
                  replace q159 := eq_true q159
                  go_wp2_with (first | ((with_reducible refine gate_dst (N := 28) rfl ?_); refine Kd.R_lit (Kd.int .u8) _ 5 ?hg (N := 28) ?hd (xs := ([(rd l0 x12_1) % 256, ((rd l0 x12_1) / 256) % 256, ((rd l0 x12_1) / 65536) % 256, ((rd l0 x12_1) / 16777216) % 256] : List Int)) (inner := [.int .u8 ((rd l0 x12_1) % 256), .int .u8 (((rd l0 x12_1) / 256) % 256), .int .u8 (((rd l0 x12_1) / 65536) % 256), .int .u8 (((rd l0 x12_1) / 16777216) % 256)]) (ok := fun _ => True) (okp := fun _ => True) ?hr ?hp (fun _ hk => hk) trivial (Below.refl _ _) (Nat.le_refl _) (by simp) ?_; (case hd => rfl); (case hg => rfl); (case hr => first | (go_simp; done) | (go_simp; rfl)); (case hp => exact (Reps.one (show Kd.M (Kd.int .u8) _ _ _ ((rd l0 x12_1) % 256) [.int .u8 ((rd l0 x12_1) % 256)] from rfl) (Reps.one (show Kd.M (Kd.int .u8) _ _ _ (((rd l0 x12_1) / 256) % 256) [.int .u8 (((rd l0 x12_1) / 256) % 256)] from rfl) (Reps.one (show Kd.M (Kd.int .u8) _ _ _ (((rd l0 x12_1) / 65536) % 256) [.int .u8 (((rd l0 x12_1) / 65536) % 256)] from rfl) (Reps.one (show Kd.M (Kd.int .u8) _ _ _ (((rd l0 x12_1) / 16777216) % 256) [.int .u8 (((rd l0 x12_1) / 16777216) % 256)] from rfl) (Reps.none _ _)))))); intro v161 w11 ho12 hb hg_ hnew_; clear hg_ hnew_; (first | rw [← Ny160.out] at ho12 | (simp only [Int.reduceToNat] at ho12; rw [← Ny160.out] at ho12)); have n0_ := Aside0.mk (Kd.R_elder' (by (with_reducible repeat (first | apply Kd.R_alloc | apply Kd.R_drewN | apply Kd.R_drew)); exact HO_3.out) (Kd.R_base ho12) hb); have n1_ := Aside0.mk (Kd.R_lower (Kd.R_new' ho12 (Kd.R_lt (by (with_reducible repeat (first | apply Kd.R_alloc | apply Kd.R_drewN | apply Kd.R_drew)); exact HO_3.out))) (below_size (by repeat (first | (with_reducible first | exact HB.out | apply below_alloc | apply pw_below_drewN | apply below_drew1) | exact HB.out)))); have n2_ := Aside0.mk (below_step (by repeat (first | (with_reducible first | exact HB.out | apply below_alloc | apply pw_below_drewN | apply below_drew1) | exact HB.out)) hb); clear HO_3; clear HB; have HO_3 := n0_; have HO162 := n1_; have HB := n2_; clear n0_ n1_ n2_; clear hb ho12; obtain ⟨Ao14, co14, eo14⟩ := Kd.R_slice HO162.out; subst eo14) | ((with_reducible refine gate_builtin (b := .append) (xs := #[.tmp 16, .tmp 28]) rfl ?_); at_builtin; refine Kd.R_append_rows (Kd.int .u8) (w0 := w) w.heap.size rfl (.tmp 16) (.tmp 28) 72 5 (.int .u8 0) 1 rfl Tryd.underlying72 info5 rfl (by decide) (by omega) u3 x3_1 y160 _ _ _ (fun k_ => some k_ ≠ (.slice Ao14 y160.length co14 : Value).ownBlock) (fun _ => False) rfl rfl ?aO ?aR (fun _ _ h => h) (fun _ h => h.elim) ?aF ?aB ?aS ?aL ?_; (case aR => repeat (first | exact (Kd.R_reads' HO162.out).2.2 | (with_reducible refine Kd.C_alloc ?_ _) | (with_reducible refine Kd.C_drewN ?_ _) | (with_reducible refine Kd.C_drew ?_))); (case aB => exact (by repeat (first | (with_reducible first | exact HB.out | apply below_alloc | apply pw_below_drewN | apply below_drew1) | exact HB.out))); (case aF => exact (fun k_ hk => Kd.fresh' (Kd.R_lt (by (with_reducible repeat (first | apply Kd.R_alloc | apply Kd.R_drewN | apply Kd.R_drew)); exact HO162.out)) k_ hk)); (case aO => exact (by (with_reducible repeat (first | apply Kd.R_alloc | apply Kd.R_drewN | apply Kd.R_drew)); exact Kd.R_mono HO_3.out (fun _ hk => hk.2))); (case aS => exact (below_size (by repeat (first | (with_reducible first | exact HB.out | apply below_alloc | apply pw_below_drewN | apply below_drew1) | exact HB.out)))); (case aL => have := LMc10.out; omega); intro v164 w13 ho hb hg hat; rw [← Ny163.out] at ho; have n0_ := Aside0.mk (Kd.R_after (ok := (fun _ => True)) (by (with_reducible repeat (first | apply Kd.R_alloc | apply Kd.R_drewN | apply Kd.R_drew)); exact HO162.out) hg hat); have n1_ := Aside0.mk (hb); have n2_ := Aside0.mk (ho); clear HO162; clear HB; clear HO_3; have HO162 := n0_; have HB := n1_; have HO165 := n2_; clear n0_ n1_ n2_; clear ho hb hg hat))
                  go_roundg k1
                  case measure => have := HK1.out; omega
                  case rel => exact ⟨(y163), (wrap64 (x12_1 + 1)), (by first | rfl | (simp; done) | (simp [*]; done)), H', ⟨by have := HK1.out; omega⟩, ⟨by (with_reducible repeat (first | apply Kd.R_alloc | apply Kd.R_drewN | apply Kd.R_drew)); exact Kd.R_mono HO165.out (fun _ hk => trivial)⟩, ⟨by repeat (first | (with_reducible first | exact HB.out | apply below_alloc | apply pw_below_drewN | apply below_drew1) | exact HB.out)⟩⟩
                · rw [if_neg c10] at H
                  exact absurd H (by simp)
              · rw [if_neg c9] at H
                exact absurd H (by simp)
            · rw [if_neg c8] at H
              exact absurd H (by simp)
          · rw [if_neg c7] at H
            have c7b0 : decide (x12_1 < (l0.length : Int)) = false := decide_eq_false c7
            clear c7
            obtain rfl := Option.some.inj H
            have hcv15 := own_string (P := Tryd.prog) Tryd.underlying72 Tryd.underlying5 Tryd.underlying9 (Kd.own_of_R HO_3.out)
            go_wp2
            go_ret
            exact ⟨by first | rfl | (simp [errW_none, errW_some] <;> rfl) | (simp only [← hji2]; first | rfl | (simp [errW_none, errW_some] <;> rfl)) | (simp [*, errW_none, errW_some] <;> rfl), by repeat (first | (with_reducible first | exact HB.out | apply below_alloc | apply pw_below_drewN | apply below_drew1) | exact HB.out)⟩
    · rw [if_neg c4] at H
      exact absurd H (by simp)
  · rw [if_neg c3] at H
    exact absurd H (by simp)
end Go.Proofs.YtdhkmdgieflioaaDoor.F
namespace Go.Proofs.YtdhkmdgieflioaaDoor.F
open Go.RowKit Go.Proofs.YtdhkmdgieflioaaDoorW.PrintWords Go.Proofs.YtdhkmdgieflioaaDoorW.PrintLast Go.Proofs.YtdhkmdgieflioaaDoorW.PrintMore
attribute [local go_sem] max2_int min2_int max_two min_two max_three min_three max_four min_four
set_option linter.unusedVariables false
set_option linter.unusedSimpArgs false
def image_Put.f (k : Nat) (l0_0 : List Int) (a0_1 : Int) : Option (ByteArray × Int) := (image_Right.f l0_0 a0_1).bind fun t167 => (if t167 = true then ((word_Bytes.f k (([((l0_0.length : Int)) % 4294967296, (a0_1) % 4294967296] : List Int))).bind fun t171 => (if 4 + t171.size ≤ 9223372036854775807 then ((word_Bytes.f k l0_0).bind fun t172 => (if ((⟨#[83, 69, 69, 68]⟩ : ByteArray) ++ t171).size + t172.size ≤ 9223372036854775807 then (some (((⟨#[83, 69, 69, 68]⟩ : ByteArray) ++ t171) ++ t172, 0)) else (none))) else (none))) else (some ((⟨#[]⟩ : ByteArray), 1)))
theorem image_Put.mono : ∀ a0 a1 k, LeO (image_Put.f k a0 a1) (image_Put.f (k + 1) a0 a1) := by
  intro a0 a1 k
  unfold image_Put.f
  repeat' first
      | (with_reducible exact word_Bytes.mono _ _)
      | (with_reducible exact LeO.refl _)
      | (with_reducible exact LeO.none _)
      | (with_reducible refine LeO.ite ?_ ?_)
      | (with_reducible refine LeO.bind ?_ (fun _ => ?_))
      | exact word_Bytes.mono _ _
      | exact LeO.none _
      | refine LeO.ite ?_ ?_
      | refine LeO.bind ?_ (fun _ => ?_)
set_option maxHeartbeats 8000000 in
set_option maxRecDepth 100000 in
theorem image_Put.calls (k : Nat) (A0_0 : Option Addr) (c0_0 : Nat) (l0_0 : List Int) (a0_1 : Int) (r1 : ByteArray) (r2 : Int) (w : World) (hr0_0 : Kd.C (Kd.int .u32) w A0_0 l0_0.length l0_0) (hc0_0 : l0_0.length ≤ c0_0) (h : image_Put.f k l0_0 a0_1 = some (r1, r2)) :
    Calls Tryd.prog 58 #[.agg #[.slice A0_0 l0_0.length c0_0, .int .i64 a0_1]] w fun e w' => e = .returned (.tuple #[.string r1, .int .i64 r2]) ∧ Below w.heap.size w w' := by
  have hu28 := Tryd.underlying28
  have HR0_0 := Aside0.mk hr0_0
  have HC0_0 := Aside0.mk hc0_0
  clear hr0_0 hc0_0
  have HB := Aside0.mk (Below.refl w.heap.size w)
  have H : ((image_Right.f l0_0 a0_1).bind fun t167 => (if t167 = true then ((word_Bytes.f k (([((l0_0.length : Int)) % 4294967296, (a0_1) % 4294967296] : List Int))).bind fun t171 => (if 4 + t171.size ≤ 9223372036854775807 then ((word_Bytes.f k l0_0).bind fun t172 => (if ((⟨#[83, 69, 69, 68]⟩ : ByteArray) ++ t171).size + t172.size ≤ 9223372036854775807 then (some (((⟨#[83, 69, 69, 68]⟩ : ByteArray) ++ t171) ++ t172, 0)) else (none))) else (none))) else (some ((⟨#[]⟩ : ByteArray), 1)))) = some (r1, r2) := h
  clear h
  replace H := Option.bind_eq_some_iff.mp H
  obtain ⟨t167, A20, H⟩ := H
  replace H : (if t167 = true then ((word_Bytes.f k (([((l0_0.length : Int)) % 4294967296, (a0_1) % 4294967296] : List Int))).bind fun t171 => (if 4 + t171.size ≤ 9223372036854775807 then ((word_Bytes.f k l0_0).bind fun t172 => (if ((⟨#[83, 69, 69, 68]⟩ : ByteArray) ++ t171).size + t172.size ≤ 9223372036854775807 then (some (((⟨#[83, 69, 69, 68]⟩ : ByteArray) ++ t171) ++ t172, 0)) else (none))) else (none))) else (some ((⟨#[]⟩ : ByteArray), 1))) = some (r1, r2) := H
  have A2 := Aside0.mk A20
  clear A20
  by_cases c3 : t167 = true
  · subst c3
    have H1 : ((word_Bytes.f k (([((l0_0.length : Int)) % 4294967296, (a0_1) % 4294967296] : List Int))).bind fun t171 => (if 4 + t171.size ≤ 9223372036854775807 then ((word_Bytes.f k l0_0).bind fun t172 => (if ((⟨#[83, 69, 69, 68]⟩ : ByteArray) ++ t171).size + t172.size ≤ 9223372036854775807 then (some (((⟨#[83, 69, 69, 68]⟩ : ByteArray) ++ t171) ++ t172, 0)) else (none))) else (none))) = some (r1, r2) := by rw [if_pos rfl] at H; exact H
    clear H
    have H := H1
    clear H1
    obtain ⟨y168, hy168⟩ : ∃ y_ : List Int, y_ = (([((l0_0.length : Int)) % 4294967296, (a0_1) % 4294967296] : List Int)) := ⟨_, rfl⟩
    replace H : ((word_Bytes.f k y168).bind fun t171 => (if 4 + t171.size ≤ 9223372036854775807 then ((word_Bytes.f k l0_0).bind fun t172 => (if ((⟨#[83, 69, 69, 68]⟩ : ByteArray) ++ t171).size + t172.size ≤ 9223372036854775807 then (some (((⟨#[83, 69, 69, 68]⟩ : ByteArray) ++ t171) ++ t172, 0)) else (none))) else (none))) = some (r1, r2) := by first | (rw [hy168]; with_reducible exact H) | (have H2_ := (Option.bind_some _ _).symm.trans H; rw [hy168]; with_reducible exact H2_) | (have H2_ := (Option.bind_some _ _).symm.trans H; with_reducible exact H2_) | with_reducible exact H | (rw [hy168]; exact H) | exact H
    have Ny168 := Aside0.mk hy168
    clear hy168
    replace H := Option.bind_eq_some_iff.mp H
    obtain ⟨t171, A40, H⟩ := H
    replace H : (if 4 + t171.size ≤ 9223372036854775807 then ((word_Bytes.f k l0_0).bind fun t172 => (if ((⟨#[83, 69, 69, 68]⟩ : ByteArray) ++ t171).size + t172.size ≤ 9223372036854775807 then (some (((⟨#[83, 69, 69, 68]⟩ : ByteArray) ++ t171) ++ t172, 0)) else (none))) else (none)) = some (r1, r2) := H
    have A4 := Aside0.mk A40
    clear A40
    by_cases c5 : 4 + t171.size ≤ 9223372036854775807
    · rw [if_pos c5] at H
      have c5b0 := eq_true c5
      have c5b1 : decide (4 + t171.size ≤ 9223372036854775807) = true := decide_eq_true c5
      try have c5b2 : (9223372036854775807 < 4 + t171.size) = False := eq_false (Nat.not_lt.2 c5)
      replace H := Option.bind_eq_some_iff.mp H
      obtain ⟨t172, A60, H⟩ := H
      replace H : (if ((⟨#[83, 69, 69, 68]⟩ : ByteArray) ++ t171).size + t172.size ≤ 9223372036854775807 then (some (((⟨#[83, 69, 69, 68]⟩ : ByteArray) ++ t171) ++ t172, 0)) else (none)) = some (r1, r2) := H
      have A6 := Aside0.mk A60
      clear A60
      by_cases c7 : ((⟨#[83, 69, 69, 68]⟩ : ByteArray) ++ t171).size + t172.size ≤ 9223372036854775807
      · rw [if_pos c7] at H
        have c7b0 := eq_true c7
        have c7b1 : decide (((⟨#[83, 69, 69, 68]⟩ : ByteArray) ++ t171).size + t172.size ≤ 9223372036854775807) = true := decide_eq_true c7
        try have c7b2 : (9223372036854775807 < ((⟨#[83, 69, 69, 68]⟩ : ByteArray) ++ t171).size + t172.size) = False := eq_false (Nat.not_lt.2 c7)
        try have c7b3 : (9223372036854775807 < 4 + t171.size + t172.size) = False := eq_false (by have c7z := c7; simp only [ByteArray.size_append] at c7z; (try rw [show (⟨#[83, 69, 69, 68]⟩ : ByteArray).size = 4 from rfl] at c7z); omega)
        simp only [Option.some.injEq, Prod.mk.injEq] at H
        obtain ⟨rfl, rfl⟩ := H
        go_enter Tryd.func58, Tryd.ntmps58
        go_wp2_with (first | ((with_reducible refine gate_dst (N := 1) rfl ?_); refine box_event ?hg (N := 1) ?hd (cs := #[.slice A0_0 l0_0.length c0_0, .int .i64 a0_1]) (t := 28) ?hr ?_; (case hd => rfl); (case hg => rfl); (case hr => first | (go_simp; done) | (go_simp; rfl)); intro gb166 hg w8 hbox hb; have n0_ := Aside0.mk (below_step (by repeat (first | (with_reducible first | exact HB.out | apply below_alloc | apply pw_below_drewN | apply below_drew1) | exact HB.out)) hb); have n1_ := Aside0.mk (hbox); have n2_ := Aside0.mk ((by rw [hg]; exact (below_size (by repeat (first | (with_reducible first | exact HB.out | apply below_alloc | apply pw_below_drewN | apply below_drew1) | exact HB.out))) : w.heap.size ≤ gb166)); have n3_ := Aside0.mk ((by rw [hg]; exact (below_size (by repeat (first | (with_reducible first | exact HB.out | apply below_alloc | apply pw_below_drewN | apply below_drew1) | exact HB.out))) : w.heap.size ≤ gb166)); clear HB; have HB := n0_; have BK166 := n1_; have GW166 := n2_; have GE166 := n3_; clear n0_ n1_ n2_ n3_; clear hb hbox hg; have hcz9_0 : w8.cell? ⟨gb166, 0, none⟩ = some (.slice A0_0 l0_0.length c0_0) := (blk_cell BK166.out 0).trans rfl; have hcz9_1 : w8.cell? ⟨gb166, 1, none⟩ = some (.int .i64 a0_1) := (blk_cell BK166.out 1).trans rfl; have hfz9_0 := blk_frozen BK166.out 0; have hfz9_1 := blk_frozen BK166.out 1) | ((with_reducible refine gate_callee (f := 68) rfl ?_); refine goesL_ (some 6) rfl rfl Tryd.func68 (by kernel_rfl) rfl #[.agg #[.slice A0_0 l0_0.length c0_0, .int .i64 a0_1]] rfl (by (try simp only [List.map_toArray, List.map_cons, List.map_nil]); first | done | rfl | (simp only [List.length_drop, List.length_take]; rfl)) ?_; (with_reducible refine (image_Right.calls _ _ l0_0 a0_1 true _ ?side1 ?side2 A2.out).mono ?_); (case side1 => repeat (first | exact (Kd.C_below HR0_0.out HB.out) | (with_reducible refine Kd.C_alloc ?_ _) | (with_reducible refine Kd.C_drewN ?_ _) | (with_reducible refine Kd.C_drew ?_))); (case side2 => exact HC0_0.out); rintro e w10 ⟨rfl, hb⟩; refine ⟨_, rfl, ?_⟩; have n0_ := Aside0.mk (blk_below (g := gb166) (o := .cells #[.slice A0_0 l0_0.length c0_0, .int .i64 a0_1] 28 (0, 0)) (by (with_reducible repeat (first | refine blk_drewN ?_ _ | refine blk_drew ?_ | refine blk_alloc ?_ _)); exact BK166.out) hb); have n1_ := Aside0.mk (below_step (by repeat (first | (with_reducible first | exact HB.out | apply below_alloc | apply pw_below_drewN | apply below_drew1 | refine below_set ?_ GE166.out) | exact HB.out)) hb); clear BK166; clear HB; have BK166 := n0_; have HB := n1_; clear n0_ n1_; (try clear hb); (try clear hb2); (try clear hk); (try clear hi); have hcz11_0 : w10.cell? ⟨gb166, 0, none⟩ = some (.slice A0_0 l0_0.length c0_0) := (blk_cell BK166.out 0).trans rfl; have hcz11_1 : w10.cell? ⟨gb166, 1, none⟩ = some (.int .i64 a0_1) := (blk_cell BK166.out 1).trans rfl; have hfz11_0 := blk_frozen BK166.out 0; have hfz11_1 := blk_frozen BK166.out 1) | ((with_reducible refine gate_dst (N := 15) rfl ?_); refine Kd.R_lit (Kd.int .u32) _ 47 ?hg (N := 15) ?hd (xs := ([((l0_0.length : Int)) % 4294967296, (a0_1) % 4294967296] : List Int)) (inner := [.int .u32 (((l0_0.length : Int)) % 4294967296), .int .u32 ((a0_1) % 4294967296)]) (ok := fun _ => True) (okp := fun _ => True) ?hr ?hp (fun _ hk => hk) trivial (Below.refl _ _) (Nat.le_refl _) (by simp) ?_; (case hd => rfl); (case hg => rfl); (case hr => first | (go_simp; done) | (go_simp; rfl)); (case hp => exact (Reps.one (show Kd.M (Kd.int .u32) _ _ _ (((l0_0.length : Int)) % 4294967296) [.int .u32 (((l0_0.length : Int)) % 4294967296)] from rfl) (Reps.one (show Kd.M (Kd.int .u32) _ _ _ ((a0_1) % 4294967296) [.int .u32 ((a0_1) % 4294967296)] from rfl) (Reps.none _ _)))); intro v169 w12 ho13 hb hg_ hnew_; clear hg_ hnew_; (first | rw [← Ny168.out] at ho13 | (simp only [Int.reduceToNat] at ho13; rw [← Ny168.out] at ho13)); have n0_ := Aside0.mk (Kd.R_lower ho13 (below_size (by repeat (first | (with_reducible first | exact HB.out | apply below_alloc | apply pw_below_drewN | apply below_drew1 | refine below_set ?_ GE166.out) | exact HB.out)))); have n1_ := Aside0.mk (blk_below (g := gb166) (o := .cells #[.slice A0_0 l0_0.length c0_0, .int .i64 a0_1] 28 (0, 0)) (by (with_reducible repeat (first | refine blk_drewN ?_ _ | refine blk_drew ?_ | refine blk_alloc ?_ _)); exact BK166.out) hb); have n2_ := Aside0.mk (below_step (by repeat (first | (with_reducible first | exact HB.out | apply below_alloc | apply pw_below_drewN | apply below_drew1 | refine below_set ?_ GE166.out) | exact HB.out)) hb); clear BK166; clear HB; have HO170 := n0_; have BK166 := n1_; have HB := n2_; clear n0_ n1_ n2_; clear hb ho13; obtain ⟨Ao14, co14, eo14⟩ := Kd.R_slice HO170.out; subst eo14) | ((with_reducible refine gate_callee (f := 91) rfl ?_); refine goesL_ (some 16) rfl rfl Tryd.func91 (by kernel_rfl) rfl #[.slice Ao14 y168.length co14] rfl (by (try simp only [List.map_toArray, List.map_cons, List.map_nil]); first | done | rfl | (simp only [List.length_drop, List.length_take]; rfl)) ?_; (with_reducible refine (word_Bytes.calls k _ _ y168 t171 _ ?side1 ?side2 A4.out).mono ?_); (case side1 => repeat (first | exact (Kd.R_reads' HO170.out).2.2 | (with_reducible refine Kd.C_alloc ?_ _) | (with_reducible refine Kd.C_drewN ?_ _) | (with_reducible refine Kd.C_drew ?_))); (case side2 => exact (Kd.R_reads' HO170.out).2.1); rintro e w15 ⟨rfl, hb⟩; refine ⟨_, rfl, ?_⟩; have n0_ := Aside0.mk (Kd.R_below (by (with_reducible repeat (first | apply Kd.R_alloc | apply Kd.R_drewN | apply Kd.R_drew)); exact HO170.out) hb); have n1_ := Aside0.mk (blk_below (g := gb166) (o := .cells #[.slice A0_0 l0_0.length c0_0, .int .i64 a0_1] 28 (0, 0)) (by (with_reducible repeat (first | refine blk_drewN ?_ _ | refine blk_drew ?_ | refine blk_alloc ?_ _)); exact BK166.out) hb); have n2_ := Aside0.mk (below_step (by repeat (first | (with_reducible first | exact HB.out | apply below_alloc | apply pw_below_drewN | apply below_drew1 | refine below_set ?_ GE166.out) | exact HB.out)) hb); clear HO170; clear BK166; clear HB; have HO170 := n0_; have BK166 := n1_; have HB := n2_; clear n0_ n1_ n2_; (try clear hb); (try clear hb2); (try clear hk); (try clear hi); have hcz16_0 : w15.cell? ⟨gb166, 0, none⟩ = some (.slice A0_0 l0_0.length c0_0) := (blk_cell BK166.out 0).trans rfl; have hcz16_1 : w15.cell? ⟨gb166, 1, none⟩ = some (.int .i64 a0_1) := (blk_cell BK166.out 1).trans rfl; have hfz16_0 := blk_frozen BK166.out 0; have hfz16_1 := blk_frozen BK166.out 1) | ((with_reducible refine gate_callee (f := 91) rfl ?_); refine goesL_ (some 21) rfl rfl Tryd.func91 (by kernel_rfl) rfl #[.slice A0_0 l0_0.length c0_0] rfl (by (try simp only [List.map_toArray, List.map_cons, List.map_nil]); first | done | rfl | (simp only [List.length_drop, List.length_take]; rfl)) ?_; (with_reducible refine (word_Bytes.calls k _ _ l0_0 t172 _ ?side1 ?side2 A6.out).mono ?_); (case side1 => repeat (first | exact (Kd.C_below HR0_0.out HB.out) | (with_reducible refine Kd.C_alloc ?_ _) | (with_reducible refine Kd.C_drewN ?_ _) | (with_reducible refine Kd.C_drew ?_))); (case side2 => exact HC0_0.out); rintro e w17 ⟨rfl, hb⟩; refine ⟨_, rfl, ?_⟩; have n0_ := Aside0.mk (Kd.R_below (by (with_reducible repeat (first | apply Kd.R_alloc | apply Kd.R_drewN | apply Kd.R_drew)); exact HO170.out) hb); have n1_ := Aside0.mk (blk_below (g := gb166) (o := .cells #[.slice A0_0 l0_0.length c0_0, .int .i64 a0_1] 28 (0, 0)) (by (with_reducible repeat (first | refine blk_drewN ?_ _ | refine blk_drew ?_ | refine blk_alloc ?_ _)); exact BK166.out) hb); have n2_ := Aside0.mk (below_step (by repeat (first | (with_reducible first | exact HB.out | apply below_alloc | apply pw_below_drewN | apply below_drew1 | refine below_set ?_ GE166.out) | exact HB.out)) hb); clear HO170; clear BK166; clear HB; have HO170 := n0_; have BK166 := n1_; have HB := n2_; clear n0_ n1_ n2_; (try clear hb); (try clear hb2); (try clear hk); (try clear hi)))
        go_ret2
        exact ⟨by first | rfl | (simp [errW_none, errW_some] <;> rfl) | (simp [*, errW_none, errW_some] <;> rfl), by repeat (first | (with_reducible first | exact HB.out | apply below_alloc | apply pw_below_drewN | apply below_drew1 | refine below_set ?_ GE166.out) | exact HB.out)⟩
      · rw [if_neg c7] at H
        exact absurd H (by simp)
    · rw [if_neg c5] at H
      exact absurd H (by simp)
  · replace c3 := Bool.eq_false_iff.mpr c3
    subst c3
    have H1 : (some ((⟨#[]⟩ : ByteArray), 1)) = some (r1, r2) := by rw [if_neg (show ¬ (false = true) by decide)] at H; exact H
    clear H
    have H := H1
    clear H1
    simp only [Option.some.injEq, Prod.mk.injEq] at H
    obtain ⟨rfl, rfl⟩ := H
    go_enter Tryd.func58, Tryd.ntmps58
    go_wp2_with (first | ((with_reducible refine gate_dst (N := 1) rfl ?_); refine box_event ?hg (N := 1) ?hd (cs := #[.slice A0_0 l0_0.length c0_0, .int .i64 a0_1]) (t := 28) ?hr ?_; (case hd => rfl); (case hg => rfl); (case hr => first | (go_simp; done) | (go_simp; rfl)); intro gb166 hg w18 hbox hb; have n0_ := Aside0.mk (below_step (by repeat (first | (with_reducible first | exact HB.out | apply below_alloc | apply pw_below_drewN | apply below_drew1) | exact HB.out)) hb); have n1_ := Aside0.mk (hbox); have n2_ := Aside0.mk ((by rw [hg]; exact (below_size (by repeat (first | (with_reducible first | exact HB.out | apply below_alloc | apply pw_below_drewN | apply below_drew1) | exact HB.out))) : w.heap.size ≤ gb166)); have n3_ := Aside0.mk ((by rw [hg]; exact (below_size (by repeat (first | (with_reducible first | exact HB.out | apply below_alloc | apply pw_below_drewN | apply below_drew1) | exact HB.out))) : w.heap.size ≤ gb166)); clear HB; have HB := n0_; have BK166 := n1_; have GW166 := n2_; have GE166 := n3_; clear n0_ n1_ n2_ n3_; clear hb hbox hg; have hcz19_0 : w18.cell? ⟨gb166, 0, none⟩ = some (.slice A0_0 l0_0.length c0_0) := (blk_cell BK166.out 0).trans rfl; have hcz19_1 : w18.cell? ⟨gb166, 1, none⟩ = some (.int .i64 a0_1) := (blk_cell BK166.out 1).trans rfl; have hfz19_0 := blk_frozen BK166.out 0; have hfz19_1 := blk_frozen BK166.out 1) | ((with_reducible refine gate_callee (f := 68) rfl ?_); refine goesL_ (some 6) rfl rfl Tryd.func68 (by kernel_rfl) rfl #[.agg #[.slice A0_0 l0_0.length c0_0, .int .i64 a0_1]] rfl (by (try simp only [List.map_toArray, List.map_cons, List.map_nil]); first | done | rfl | (simp only [List.length_drop, List.length_take]; rfl)) ?_; (with_reducible refine (image_Right.calls _ _ l0_0 a0_1 false _ ?side1 ?side2 A2.out).mono ?_); (case side1 => repeat (first | exact (Kd.C_below HR0_0.out HB.out) | (with_reducible refine Kd.C_alloc ?_ _) | (with_reducible refine Kd.C_drewN ?_ _) | (with_reducible refine Kd.C_drew ?_))); (case side2 => exact HC0_0.out); rintro e w20 ⟨rfl, hb⟩; refine ⟨_, rfl, ?_⟩; have n0_ := Aside0.mk (blk_below (g := gb166) (o := .cells #[.slice A0_0 l0_0.length c0_0, .int .i64 a0_1] 28 (0, 0)) (by (with_reducible repeat (first | refine blk_drewN ?_ _ | refine blk_drew ?_ | refine blk_alloc ?_ _)); exact BK166.out) hb); have n1_ := Aside0.mk (below_step (by repeat (first | (with_reducible first | exact HB.out | apply below_alloc | apply pw_below_drewN | apply below_drew1 | refine below_set ?_ GE166.out) | exact HB.out)) hb); clear BK166; clear HB; have BK166 := n0_; have HB := n1_; clear n0_ n1_; (try clear hb); (try clear hb2); (try clear hk); (try clear hi)))
    go_ret2
    exact ⟨by first | rfl | (simp [errW_none, errW_some] <;> rfl) | (simp [*, errW_none, errW_some] <;> rfl), by repeat (first | (with_reducible first | exact HB.out | apply below_alloc | apply pw_below_drewN | apply below_drew1 | refine below_set ?_ GE166.out) | exact HB.out)⟩
end Go.Proofs.YtdhkmdgieflioaaDoor.F
namespace Go.Proofs.YtdhkmdgieflioaaDoor.F
open Go.RowKit Go.Proofs.YtdhkmdgieflioaaDoorW.PrintWords Go.Proofs.YtdhkmdgieflioaaDoorW.PrintLast Go.Proofs.YtdhkmdgieflioaaDoorW.PrintMore
attribute [local go_sem] max2_int min2_int max_two min_two max_three min_three max_four min_four
set_option linter.unusedVariables false
set_option linter.unusedSimpArgs false
def seed_Image.f (k : Nat)  : Option (ByteArray) := (seed_made.f).bind fun bt177 => ((image_Put.f k bt177.1 bt177.2).bind fun bt181 => (some bt181.1))
theorem seed_Image.mono : ∀ k, LeO (seed_Image.f k ) (seed_Image.f (k + 1) ) := by
  intro  k
  unfold seed_Image.f
  repeat' first
      | (with_reducible exact image_Put.mono _ _ _)
      | (with_reducible exact LeO.refl _)
      | (with_reducible exact LeO.none _)
      | (with_reducible refine LeO.ite ?_ ?_)
      | (with_reducible refine LeO.bind ?_ (fun _ => ?_))
      | exact image_Put.mono _ _ _
      | exact LeO.none _
      | refine LeO.ite ?_ ?_
      | refine LeO.bind ?_ (fun _ => ?_)
set_option maxHeartbeats 8000000 in
set_option maxRecDepth 100000 in
theorem seed_Image.calls (k : Nat)  (r : ByteArray) (w : World) (hGC : GC w) (hGK : GK w) (h : seed_Image.f k  = some r) :
    Calls Tryd.prog 24 #[] w fun e w' => e = .returned (.string r) ∧ Below w.heap.size w w' := by
  have HGC := Aside0.mk hGC
  clear hGC
  have HGK := Aside0.mk hGK
  clear hGK
  have HB := Aside0.mk (Below.refl w.heap.size w)
  have H : ((seed_made.f).bind fun bt177 => ((image_Put.f k bt177.1 bt177.2).bind fun bt181 => (some bt181.1))) = some r := h
  clear h
  replace H := Option.bind_eq_some_iff.mp H
  obtain ⟨⟨t177, t180⟩, A10, H⟩ := H
  replace H : ((image_Put.f k t177 t180).bind fun bt181 => (some bt181.1)) = some r := H
  have A1 := Aside0.mk A10
  clear A10
  replace H := Option.bind_eq_some_iff.mp H
  obtain ⟨⟨t181, t182⟩, A20, H⟩ := H
  replace H : (some t181) = some r := H
  have A2 := Aside0.mk A20
  clear A20
  obtain rfl := Option.some.inj H
  go_enter Tryd.func24, Tryd.ntmps24
  go_wp2_with (first | ((with_reducible refine gate_callee (f := 59) rfl ?_); refine goesL_ (some 4) rfl rfl Tryd.func59 (by kernel_rfl) rfl #[] rfl (by (try simp only [List.map_toArray, List.map_cons, List.map_nil]); first | done | rfl | (simp only [List.length_drop, List.length_take]; rfl)) ?_; (with_reducible refine (seed_made.calls  t177 t180 _ ?side1 ?side2 A1.out).mono ?_); (case side1 => exact GC.below HGC.out (by repeat (first | (with_reducible first | exact HB.out | apply below_alloc | apply pw_below_drewN | apply below_drew1) | exact HB.out))); (case side2 => exact GK.below HGK.out (by repeat (first | (with_reducible first | exact HB.out | apply below_alloc | apply pw_below_drewN | apply below_drew1) | exact HB.out))); rintro e w3 ⟨v178, rfl, ho0, hb⟩; refine ⟨_, rfl, ?_⟩; have n0_ := Aside0.mk (Kd.R_lower ho0 (below_size (by repeat (first | (with_reducible first | exact HB.out | apply below_alloc | apply pw_below_drewN | apply below_drew1) | exact HB.out)))); have n1_ := Aside0.mk (below_step (by repeat (first | (with_reducible first | exact HB.out | apply below_alloc | apply pw_below_drewN | apply below_drew1) | exact HB.out)) hb); clear HB; have HO179 := n0_; have HB := n1_; clear n0_ n1_; (try clear hb); (try clear hb2); (try clear hk); (try clear hi); (try clear ho0); obtain ⟨Ao4, co4, eo4⟩ := Kd.R_slice HO179.out; subst eo4) | ((with_reducible refine gate_callee (f := 58) rfl ?_); refine goesL_ (some 5) rfl rfl Tryd.func58 (by kernel_rfl) rfl #[.agg #[.slice Ao4 t177.length co4, .int .i64 t180]] rfl (by (try simp only [List.map_toArray, List.map_cons, List.map_nil]); first | done | rfl | (simp only [List.length_drop, List.length_take]; rfl)) ?_; (with_reducible refine (image_Put.calls k _ _ t177 t180 t181 t182 _ ?side1 ?side2 A2.out).mono ?_); (case side1 => repeat (first | exact (Kd.R_reads' HO179.out).2.2 | (with_reducible refine Kd.C_alloc ?_ _) | (with_reducible refine Kd.C_drewN ?_ _) | (with_reducible refine Kd.C_drew ?_))); (case side2 => exact (Kd.R_reads' HO179.out).2.1); rintro e w5 ⟨rfl, hb⟩; refine ⟨_, rfl, ?_⟩; have n0_ := Aside0.mk (Kd.R_below (by (with_reducible repeat (first | apply Kd.R_alloc | apply Kd.R_drewN | apply Kd.R_drew)); exact HO179.out) hb); have n1_ := Aside0.mk (below_step (by repeat (first | (with_reducible first | exact HB.out | apply below_alloc | apply pw_below_drewN | apply below_drew1) | exact HB.out)) hb); clear HO179; clear HB; have HO179 := n0_; have HB := n1_; clear n0_ n1_; (try clear hb); (try clear hb2); (try clear hk); (try clear hi)))
  go_ret
  exact ⟨by first | rfl | (simp [errW_none, errW_some] <;> rfl) | (simp [*, errW_none, errW_some] <;> rfl), by repeat (first | (with_reducible first | exact HB.out | apply below_alloc | apply pw_below_drewN | apply below_drew1) | exact HB.out)⟩
end Go.Proofs.YtdhkmdgieflioaaDoor.F
namespace Go.Proofs.YtdhkmdgieflioaaDoor.F
open Go.RowKit Go.Proofs.YtdhkmdgieflioaaDoorW.PrintWords Go.Proofs.YtdhkmdgieflioaaDoorW.PrintLast Go.Proofs.YtdhkmdgieflioaaDoorW.PrintMore
attribute [local go_sem] max2_int min2_int max_two min_two max_three min_three max_four min_four
set_option linter.unusedVariables false
set_option linter.unusedSimpArgs false
def seedcornlaw50_awake.f (k : Nat)  : Option (Bool) := (seed_Image.f k).bind fun t183 => (if (t183.size : Int) ≤ 160 then ((seed_Image.f k).bind fun t184 => ((seedcornref50_Loads.f k t184 (⟨#[53, 51, 32, 52, 53, 32, 35, 32, 57, 57]⟩ : ByteArray)).bind fun t185 => (some t185))) else (some false))
theorem seedcornlaw50_awake.mono : ∀ k, LeO (seedcornlaw50_awake.f k ) (seedcornlaw50_awake.f (k + 1) ) := by
  intro  k
  unfold seedcornlaw50_awake.f
  repeat' first
      | (with_reducible exact seed_Image.mono _)
      | (with_reducible exact seedcornref50_Loads.mono _ _ _)
      | (with_reducible exact LeO.refl _)
      | (with_reducible exact LeO.none _)
      | (with_reducible refine LeO.ite ?_ ?_)
      | (with_reducible refine LeO.bind ?_ (fun _ => ?_))
      | exact seed_Image.mono _
      | exact seedcornref50_Loads.mono _ _ _
      | exact LeO.none _
      | refine LeO.ite ?_ ?_
      | refine LeO.bind ?_ (fun _ => ?_)
set_option maxHeartbeats 8000000 in
set_option maxRecDepth 100000 in
theorem seedcornlaw50_awake.calls (k : Nat)  (r : Bool) (w : World) (hGC : GC w) (hGK : GK w) (h : seedcornlaw50_awake.f k  = some r) :
    Calls Tryd.prog 22 #[] w fun e w' => e = .returned (.bool r) ∧ Below w.heap.size w w' := by
  have HGC := Aside0.mk hGC
  clear hGC
  have HGK := Aside0.mk hGK
  clear hGK
  have HB := Aside0.mk (Below.refl w.heap.size w)
  have H : ((seed_Image.f k).bind fun t183 => (if (t183.size : Int) ≤ 160 then ((seed_Image.f k).bind fun t184 => ((seedcornref50_Loads.f k t184 (⟨#[53, 51, 32, 52, 53, 32, 35, 32, 57, 57]⟩ : ByteArray)).bind fun t185 => (some t185))) else (some false))) = some r := h
  clear h
  replace H := Option.bind_eq_some_iff.mp H
  obtain ⟨t183, A10, H⟩ := H
  replace H : (if (t183.size : Int) ≤ 160 then ((seed_Image.f k).bind fun t184 => ((seedcornref50_Loads.f k t184 (⟨#[53, 51, 32, 52, 53, 32, 35, 32, 57, 57]⟩ : ByteArray)).bind fun t185 => (some t185))) else (some false)) = some r := H
  have A1 := Aside0.mk A10
  clear A10
  by_cases c2 : (t183.size : Int) ≤ 160
  · rw [if_pos c2] at H
    have c2b0 : decide ((t183.size : Int) ≤ 160) = true := decide_eq_true c2
    have c2b1 : decide (t183.size ≤ 160) = true := decide_eq_true (by omega)
    clear c2
    replace H := Option.bind_eq_some_iff.mp H
    obtain ⟨t184, A30, H⟩ := H
    replace H : ((seedcornref50_Loads.f k t184 (⟨#[53, 51, 32, 52, 53, 32, 35, 32, 57, 57]⟩ : ByteArray)).bind fun t185 => (some t185)) = some r := H
    have A3 := Aside0.mk A30
    clear A30
    replace H := Option.bind_eq_some_iff.mp H
    obtain ⟨t185, A40, H⟩ := H
    replace H : (some t185) = some r := H
    have A4 := Aside0.mk A40
    clear A40
    obtain rfl := Option.some.inj H
    go_enter Tryd.func22, Tryd.ntmps22
    go_wp2_with (first | ((with_reducible refine gate_callee (f := 24) rfl ?_); refine goesL_ (some 1) rfl rfl Tryd.func24 (by kernel_rfl) rfl #[] rfl (by (try simp only [List.map_toArray, List.map_cons, List.map_nil]); first | done | rfl | (simp only [List.length_drop, List.length_take]; rfl)) ?_; (with_reducible refine (seed_Image.calls k  t183 _ ?side1 ?side2 A1.out).mono ?_); (case side1 => exact GC.below HGC.out (by repeat (first | (with_reducible first | exact HB.out | apply below_alloc | apply pw_below_drewN | apply below_drew1) | exact HB.out))); (case side2 => exact GK.below HGK.out (by repeat (first | (with_reducible first | exact HB.out | apply below_alloc | apply pw_below_drewN | apply below_drew1) | exact HB.out))); rintro e w5 ⟨rfl, hb⟩; refine ⟨_, rfl, ?_⟩; have n0_ := Aside0.mk (below_step (by repeat (first | (with_reducible first | exact HB.out | apply below_alloc | apply pw_below_drewN | apply below_drew1) | exact HB.out)) hb); clear HB; have HB := n0_; clear n0_; (try clear hb); (try clear hb2); (try clear hk); (try clear hi)) | (go_at_call 24; (with_reducible refine (seed_Image.calls k  t184 _ ?side1 ?side2 A3.out).mono ?_); (case side1 => exact GC.below HGC.out (by repeat (first | (with_reducible first | exact HB.out | apply below_alloc | apply pw_below_drewN | apply below_drew1) | exact HB.out))); (case side2 => exact GK.below HGK.out (by repeat (first | (with_reducible first | exact HB.out | apply below_alloc | apply pw_below_drewN | apply below_drew1) | exact HB.out))); rintro e w6 ⟨rfl, hb⟩; have n0_ := Aside0.mk (below_step (by repeat (first | (with_reducible first | exact HB.out | apply below_alloc | apply pw_below_drewN | apply below_drew1) | exact HB.out)) hb); clear HB; have HB := n0_; clear n0_; (try clear hb); (try clear hb2); (try clear hk); (try clear hi)) | (go_at_call 23; (with_reducible refine (seedcornref50_Loads.calls k t184 (⟨#[53, 51, 32, 52, 53, 32, 35, 32, 57, 57]⟩ : ByteArray) t185 _ A4.out).mono ?_); rintro e w7 ⟨rfl, hb⟩; have n0_ := Aside0.mk (below_step (by repeat (first | (with_reducible first | exact HB.out | apply below_alloc | apply pw_below_drewN | apply below_drew1) | exact HB.out)) hb); clear HB; have HB := n0_; clear n0_; (try clear hb); (try clear hb2); (try clear hk); (try clear hi)))
    go_ret
    exact ⟨by first | rfl | (simp [errW_none, errW_some] <;> rfl) | (simp [*, errW_none, errW_some] <;> rfl), by repeat (first | (with_reducible first | exact HB.out | apply below_alloc | apply pw_below_drewN | apply below_drew1) | exact HB.out)⟩
  · rw [if_neg c2] at H
    have c2b0 : decide ((t183.size : Int) ≤ 160) = false := decide_eq_false c2
    have c2b1 : decide (t183.size ≤ 160) = false := decide_eq_false (by omega)
    clear c2
    obtain rfl := Option.some.inj H
    go_enter Tryd.func22, Tryd.ntmps22
    go_wp2_with (first | ((with_reducible refine gate_callee (f := 24) rfl ?_); refine goesL_ (some 1) rfl rfl Tryd.func24 (by kernel_rfl) rfl #[] rfl (by (try simp only [List.map_toArray, List.map_cons, List.map_nil]); first | done | rfl | (simp only [List.length_drop, List.length_take]; rfl)) ?_; (with_reducible refine (seed_Image.calls k  t183 _ ?side1 ?side2 A1.out).mono ?_); (case side1 => exact GC.below HGC.out (by repeat (first | (with_reducible first | exact HB.out | apply below_alloc | apply pw_below_drewN | apply below_drew1) | exact HB.out))); (case side2 => exact GK.below HGK.out (by repeat (first | (with_reducible first | exact HB.out | apply below_alloc | apply pw_below_drewN | apply below_drew1) | exact HB.out))); rintro e w8 ⟨rfl, hb⟩; refine ⟨_, rfl, ?_⟩; have n0_ := Aside0.mk (below_step (by repeat (first | (with_reducible first | exact HB.out | apply below_alloc | apply pw_below_drewN | apply below_drew1) | exact HB.out)) hb); clear HB; have HB := n0_; clear n0_; (try clear hb); (try clear hb2); (try clear hk); (try clear hi)))
    go_ret
    exact ⟨by first | rfl | (simp [errW_none, errW_some] <;> rfl) | (simp [*, errW_none, errW_some] <;> rfl), by repeat (first | (with_reducible first | exact HB.out | apply below_alloc | apply pw_below_drewN | apply below_drew1) | exact HB.out)⟩
end Go.Proofs.YtdhkmdgieflioaaDoor.F
namespace Go.Proofs.YtdhkmdgieflioaaDoor.F
open Go.RowKit Go.Proofs.YtdhkmdgieflioaaDoorW.PrintWords Go.Proofs.YtdhkmdgieflioaaDoorW.PrintLast Go.Proofs.YtdhkmdgieflioaaDoorW.PrintMore
set_option linter.unusedVariables false
set_option linter.unusedSimpArgs false
theorem sizeBld : (Tryd.prog.info? 81).map (·.size) = some 2 := Tryd.Builder_Extra_169.sizeBuilder
set_option maxRecDepth 100000 in
theorem liesBld : liesAt Tryd.prog Tryd.prog.depth 81 (2 / Tryd.prog.cellsOf 81) 0 81 1 = true := Tryd.Builder_Extra_169.liesBuilder
set_option maxHeartbeats 4000000 in
set_option maxRecDepth 100000 in
theorem bld_copyCheck_used (b : Nat) (w : World) (h0 : w.cell? ⟨b, 0, none⟩ = some (.pointer (some ⟨b, 0, none⟩))) :
    Calls Tryd.prog 97 #[.pointer (some ⟨b, 0, none⟩)] w fun e w' => e = .returned (.tuple #[]) ∧ w' = w := by
  obtain ⟨j, hj, _⟩ := Option.map_eq_some_iff.1 sizeBld
  go_enter Tryd.func97, Tryd.ntmps97
  go_wp2
  rw [Lib.run_neq_ptr_same w _ Tryd.underlying79 hj]
  go_wp2
  go_end0
  exact ⟨rfl, rfl⟩
set_option maxHeartbeats 4000000 in
set_option maxRecDepth 100000 in
theorem bld_copyCheck_fresh (b : Nat) (w : World) (h0 : w.cell? ⟨b, 0, none⟩ = some (.pointer none)) (hsh : w.shape? b = some (81, 2)) (hfz : w.frozen? ⟨b, 0, none⟩ = false) :
    Calls Tryd.prog 97 #[.pointer (some ⟨b, 0, none⟩)] w fun e w' => e = .returned (.tuple #[]) ∧ w' = w.setCell ⟨b, 0, none⟩ (.pointer (some ⟨b, 0, none⟩)) := by
  obtain ⟨j, hj, hjs⟩ := Option.map_eq_some_iff.1 sizeBld
  go_enter Tryd.func97, Tryd.ntmps97
  go_wp2
  rw [Lib.run_to_unsafe w ⟨b, 0, none⟩ Tryd.underlying79 Tryd.underlying134 hj (by rw [hjs]; decide) hsh (Nat.zero_lt_succ 1)]
  simp only [Result.andThen]
  rw [Oper.upon_value]
  go_wp2
  rw [run_callFunc_extern Tryd.func121 (by kernel_rfl) (by kernel_rfl) (by kernel_rfl) (e := Extern.AbiNoEscape.same) (by kernel_rfl)]
  rw [Lib.run_noEscape]
  simp only [Result.andThen]
  rw [Oper.upon_value]
  go_wp2
  rw [Lib.run_from_unsafe w ⟨b, 0, none⟩ Tryd.underlying134 Tryd.underlying79 hj hsh liesBld]
  simp only [Result.andThen]
  rw [Oper.upon_value]
  go_wp2
  go_end0
  exact ⟨rfl, rfl⟩
set_option maxHeartbeats 4000000 in
set_option maxRecDepth 100000 in
theorem bld_copyCheck_k (B b : Nat) (bs : List Value) (w : World) (h : Lib.IsBuilderF 81 5 B b bs w) :
    Calls Tryd.prog 97 #[.pointer (some ⟨b, 0, none⟩)] w fun e w' => e = .returned (.tuple #[]) ∧ (Lib.BuilderAtF 81 5 B b (.pointer (some ⟨b, 0, none⟩)) bs w' ∧ Below B w w' ∧ Lib.OthersKept 5 (some b) w w') := by
  rcases h with h | h
  · refine (bld_copyCheck_fresh b w h.cell0 h.shape h.frozen0).mono ?_
    rintro e w' ⟨rfl, rfl⟩
    exact ⟨rfl, h.used _, (Below.refl B w).setCell (p := ⟨b, 0, none⟩) h.1 _, (Lib.OthersKept.refl _ _ w).setCell ⟨b, 0, none⟩ rfl _⟩
  · refine (bld_copyCheck_used b w h.cell0).mono ?_
    rintro e w' ⟨rfl, rfl⟩
    exact ⟨rfl, h, Below.refl B _, Lib.OthersKept.refl _ _ _⟩
set_option maxHeartbeats 4000000 in
set_option maxRecDepth 100000 in
theorem bld_WriteString_k (B b : Nat) (bs : List Value) (s : ByteArray) (w : World) (h : Lib.IsBuilderF 81 5 B b bs w) (hlen : bs.length + s.size ≤ 140737488355328) (hBw : B ≤ w.heap.size) :
    Calls Tryd.prog 70 #[.pointer (some ⟨b, 0, none⟩), .string s] w fun e w' => e = .returned (.tuple #[.int .i64 s.size, .nilIface]) ∧ (Lib.BuilderAtF 81 5 B b (.pointer (some ⟨b, 0, none⟩)) (bs ++ Lib.strCells s) w' ∧ Below B w w' ∧ Lib.OthersKept 5 (some b) w w') := by
  obtain ⟨i0, hi, hz0, hz1, hz2⟩ := info_parts info5
  go_enter Tryd.func70, Tryd.ntmps70
  go_wp2_with (go_at_call 97; refine (bld_copyCheck_k B b bs _ h).mono ?_)
  rintro e w1 ⟨rfl, h1, hb1, hk1⟩
  obtain ⟨hB, v, hbk, hown, hne⟩ := h1
  have c0 : w1.cell? ⟨b, 0, none⟩ = some (.pointer (some ⟨b, 0, none⟩)) := by rw [Lib.cell_of_heap hbk]; rfl
  have c1 : w1.cell? ⟨b, 1, none⟩ = some v := by rw [Lib.cell_of_heap hbk]; rfl
  go_wp2_with (at_builtin; refine Lib.wpList_append_own_stringF _ rfl _ _ 72 9 rfl B 5 i0 Tryd.underlying72 Tryd.underlying9 hi hz0 hz1 hz2 _ _ _ rfl hown s rfl ?c3 ?c4 ?c5 ?_)
  case c3 => unfold maxLen; omega
  case c4 => omega
  case c5 => have := hb1.size; omega
  intro v' w2 hown' hgrow _
  have hlt : b < w1.heap.size := by
    rcases Nat.lt_or_ge b w1.heap.size with h' | h'
    · exact h'
    · simp [Array.getElem?_eq_none h'] at hbk
  have hb2 : w2.heap[b]? = some (.cells #[.pointer (some ⟨b, 0, none⟩), v] 81 (0, 0)) := by
    rw [hgrow.block b hlt (fun e => hne e.symm)]
    exact hbk
  have d0 : w2.cell? ⟨b, 0, none⟩ = some (.pointer (some ⟨b, 0, none⟩)) := by rw [Lib.cell_of_heap hb2]; rfl
  have d1 : w2.cell? ⟨b, 1, none⟩ = some v := by rw [Lib.cell_of_heap hb2]; rfl
  have f1 : w2.frozen? ⟨b, 1, none⟩ = false := Lib.frozen_of_heap hb2 1
  obtain ⟨ao, n', cap, rfl⟩ : ∃ ao n' cap, v' = .slice ao n' cap := by
    rcases hown'.2 with ⟨hv, _⟩ | ⟨g, cap, cur, fz, hv, _⟩
    · exact ⟨_, _, _, hv⟩
    · exact ⟨_, _, _, hv⟩
  go_wp2
  go_ret2
  refine ⟨rfl, ?_, ?_, (hk1.grown hgrow (Lib.ownsRowF_kind hown)).setCell ⟨b, 1, none⟩ rfl _⟩
  · exact Lib.BuilderAtF.put (T := 81) (e := 5) hB hb2 (bs' := bs ++ Lib.strCells s) (by simpa [Lib.strCells_length] using hown') (by decide)
  · exact (hb1.grown hgrow (by have := hb1.size; omega) (fun k hk => (hown.lt k hk).1)).setCell (p := ⟨b, 1, none⟩) hB _
end Go.Proofs.YtdhkmdgieflioaaDoor.F
namespace Go.Proofs.YtdhkmdgieflioaaDoor.F
open Go.RowKit Go.Proofs.YtdhkmdgieflioaaDoorW.PrintWords Go.Proofs.YtdhkmdgieflioaaDoorW.PrintLast Go.Proofs.YtdhkmdgieflioaaDoorW.PrintMore
set_option linter.unusedVariables false
set_option linter.unusedSimpArgs false
theorem bld_below {B ob : Nat} {bs : List Value} {w w' : World} (h : Lib.IsBuilderF 81 5 B ob bs w) (hb : Below w.heap.size w w') : Lib.IsBuilderF 81 5 B ob bs w' := by
  have key : ∀ p, Lib.BuilderAtF 81 5 B ob p bs w → Lib.BuilderAtF 81 5 B ob p bs w' := by
    rintro p ⟨hB, v, hbk, hown, hne⟩
    refine ⟨hB, v, (hb.block ob (Array.getElem?_eq_some_iff.1 hbk).1).trans hbk, ?_, hne⟩
    obtain ⟨h1, h2⟩ := hown
    refine ⟨h1, ?_⟩
    rcases h2 with h2 | ⟨g, cap, cur, fz, hv, hg, hh, r⟩
    · exact .inl h2
    · exact .inr ⟨g, cap, cur, fz, hv, hg, (hb.block g (Array.getElem?_eq_some_iff.1 hh).1).trans hh, r⟩
  rcases h with h | h
  · exact .inl (key _ h)
  · exact .inr (key _ h)
theorem bld_blk {B ob : Nat} {bs : List Value} {w : World} (h : Lib.IsBuilderF 81 5 B ob bs w) : B ≤ ob ∧ ob < w.heap.size ∧ ∃ cs, w.heap[ob]? = some (.cells cs 81 (0, 0)) := by
  rcases h with ⟨hB, v, hbk, _⟩ | ⟨hB, v, hbk, _⟩
  · exact ⟨hB, (Array.getElem?_eq_some_iff.1 hbk).1, _, hbk⟩
  · exact ⟨hB, (Array.getElem?_eq_some_iff.1 hbk).1, _, hbk⟩
end Go.Proofs.YtdhkmdgieflioaaDoor.F
namespace Go.Proofs.YtdhkmdgieflioaaDoor.F
open Go.RowKit Go.Proofs.YtdhkmdgieflioaaDoorW.PrintWords Go.Proofs.YtdhkmdgieflioaaDoorW.PrintLast Go.Proofs.YtdhkmdgieflioaaDoorW.PrintMore
attribute [local go_sem] max2_int min2_int max_two min_two max_three min_three max_four min_four
set_option linter.unusedVariables false
set_option linter.unusedSimpArgs false
def hex_two.f (a0 : Int) : Option (List Int) := if 0 ≤ (a0 / 16) then (if (a0 / 16) < 16 then (if 0 ≤ (Go.bits .and .u8 a0 15) then (if (Go.bits .and .u8 a0 15) < 16 then (some (([bt (⟨#[48, 49, 50, 51, 52, 53, 54, 55, 56, 57, 97, 98, 99, 100, 101, 102]⟩ : ByteArray) (a0 / 16), bt (⟨#[48, 49, 50, 51, 52, 53, 54, 55, 56, 57, 97, 98, 99, 100, 101, 102]⟩ : ByteArray) (Go.bits .and .u8 a0 15)] : List Int))) else (none)) else (none)) else (none)) else (none)
def hex_two.T1 : Bool × List (List Nat × List Nat) := (true, [([], []), ([0], [0]), ([1], [1]), ([], []), ([3], [3]), ([4], [4]), ([2, 5], [2, 5]), ([6, 0, 1, 2, 3, 4, 5, 6], [6])])
def hex_two.B1 : List Nat := [0, 1, 3, 0, 8, 24, 63, 127]
theorem hex_two.tab1 : rtab .any (opsOf Tryd.f108 1) = hex_two.T1 := by kernel_rfl
theorem hex_two.bits1 : waitsOk hex_two.T1.2 hex_two.B1 = true := by kernel_rfl
set_option maxHeartbeats 8000000 in
set_option maxRecDepth 100000 in
theorem hex_two.calls (a0 : Int) (r : List Int) (w : World) (h : hex_two.f a0 = some r) :
    Calls Tryd.prog 108 #[.int .u8 a0] w fun e w' => ∃ v0_ : Value, e = .returned (v0_) ∧ Kd.R (Kd.int .u8) 5 w' w.heap.size (fun _ => True) v0_ r ∧ Below w.heap.size w w' := by
  have HB := Aside0.mk (Below.refl w.heap.size w)
  have H : (if 0 ≤ (a0 / 16) then (if (a0 / 16) < 16 then (if 0 ≤ (Go.bits .and .u8 a0 15) then (if (Go.bits .and .u8 a0 15) < 16 then (some (([bt (⟨#[48, 49, 50, 51, 52, 53, 54, 55, 56, 57, 97, 98, 99, 100, 101, 102]⟩ : ByteArray) (a0 / 16), bt (⟨#[48, 49, 50, 51, 52, 53, 54, 55, 56, 57, 97, 98, 99, 100, 101, 102]⟩ : ByteArray) (Go.bits .and .u8 a0 15)] : List Int))) else (none)) else (none)) else (none)) else (none)) = some r := h
  clear h
  obtain ⟨ji2, hji2⟩ : ∃ j_ : Int, (a0 / 16) = j_ := ⟨_, rfl⟩
  replace H : (if 0 ≤ (ji2) then (if (ji2) < 16 then (if 0 ≤ (Go.bits .and .u8 a0 15) then (if (Go.bits .and .u8 a0 15) < 16 then (some (([bt (⟨#[48, 49, 50, 51, 52, 53, 54, 55, 56, 57, 97, 98, 99, 100, 101, 102]⟩ : ByteArray) (ji2), bt (⟨#[48, 49, 50, 51, 52, 53, 54, 55, 56, 57, 97, 98, 99, 100, 101, 102]⟩ : ByteArray) (Go.bits .and .u8 a0 15)] : List Int))) else (none)) else (none)) else (none)) else (none)) = some r := by first | (rw [hji2] at H; exact H) | (simp only [hji2] at H ⊢; exact H)
  by_cases c3 : 0 ≤ (ji2)
  · rw [if_pos c3] at H
    have c3b0 : decide (0 ≤ (ji2)) = true := decide_eq_true c3
    clear c3
    by_cases c4 : (ji2) < 16
    · rw [if_pos c4] at H
      have c4b0 : decide ((ji2) < 16) = true := decide_eq_true c4
      clear c4
      by_cases c6 : 0 ≤ (Go.bits .and .u8 a0 15)
      · rw [if_pos c6] at H
        have c6b0 : decide (0 ≤ (Go.bits .and .u8 a0 15)) = true := decide_eq_true c6
        clear c6
        by_cases c7 : (Go.bits .and .u8 a0 15) < 16
        · rw [if_pos c7] at H
          have c7b0 : decide ((Go.bits .and .u8 a0 15) < 16) = true := decide_eq_true c7
          clear c7
          obtain ⟨y706, hy706⟩ : ∃ y_ : List Int, y_ = (([bt (⟨#[48, 49, 50, 51, 52, 53, 54, 55, 56, 57, 97, 98, 99, 100, 101, 102]⟩ : ByteArray) (ji2), bt (⟨#[48, 49, 50, 51, 52, 53, 54, 55, 56, 57, 97, 98, 99, 100, 101, 102]⟩ : ByteArray) (Go.bits .and .u8 a0 15)] : List Int)) := ⟨_, rfl⟩
          replace H : (some y706) = some r := by first | (rw [hy706]; with_reducible exact H) | (have H2_ := (Option.bind_some _ _).symm.trans H; rw [hy706]; with_reducible exact H2_) | (have H2_ := (Option.bind_some _ _).symm.trans H; with_reducible exact H2_) | with_reducible exact H | (rw [hy706]; exact H) | exact H
          have Ny706 := Aside0.mk hy706
          clear hy706
          obtain rfl := Option.some.inj H
          go_enter Tryd.func108, Tryd.ntmps108
          try go_wp2
          have n0_ := Aside0.mk (below_drew1 HB.out)
          clear HB
          have HB := n0_
          clear n0_
          have p5 : 0 ≤ ((ji2) : Int) := of_decide_eq_true (by first | (with_reducible assumption) | assumption)
          have q5 : (ji2) < (16 : Int) := of_decide_eq_true (by first | (with_reducible assumption) | assumption)
          have hx5 := bt_at (⟨#[48, 49, 50, 51, 52, 53, 54, 55, 56, 57, 97, 98, 99, 100, 101, 102]⟩ : ByteArray) (ji2)
          replace p5 := eq_true p5
          replace q5 := eq_true q5
          have p8 : 0 ≤ ((Go.bits .and .u8 a0 15) : Int) := of_decide_eq_true (by first | (with_reducible assumption) | assumption)
          have q8 : (Go.bits .and .u8 a0 15) < (16 : Int) := of_decide_eq_true (by first | (with_reducible assumption) | assumption)
          have hx8 := bt_at (⟨#[48, 49, 50, 51, 52, 53, 54, 55, 56, 57, 97, 98, 99, 100, 101, 102]⟩ : ByteArray) (Go.bits .and .u8 a0 15)
          replace p8 := eq_true p8
          replace q8 := eq_true q8
          refine start_ (n := 8) (S := fun w' => True) (ds := []) #[false, false, false, false, false, false, false, false] (by kernel_rfl) rfl rfl trivial (fun hHeld => ?_); refine with_tabW hex_two.tab1 hex_two.bits1 (fun HT_ HW_ => ?_)
          generalize w.drew = w9 at HB hHeld ⊢
          refine pure_ (i := 0) (N := some 3) (v := ?_) (a' := ?_) #[true, false, false, false, false, false, false, false] rfl rfl (any_of HT_.out (by kernel_rfl)) (fun _ _ _ h => h) (Or.inl ⟨by rfl, ?_⟩) ?_ ?_
          rotate_left
          · intro w'
            go_simp
            with_reducible rfl
          rotate_left
          · simp only [Act.put, List.setIfInBounds_toArray, List.set_cons_zero, List.set_cons_succ, i64_w, i32_w]
            rfl
          refine pure_ (i := 1) (N := some 4) (v := ?_) (a' := ?_) #[true, true, false, false, false, false, false, false] rfl rfl (any_of HT_.out (by kernel_rfl)) (fun _ _ _ h => h) (Or.inl ⟨by rfl, ?_⟩) ?_ ?_
          rotate_left
          · intro w'
            go_simp
            with_reducible rfl
          rotate_left
          · simp only [Act.put, List.setIfInBounds_toArray, List.set_cons_zero, List.set_cons_succ, i64_w, i32_w]
            rfl
          refine pure_ (i := 3) (N := some 6) (v := ?_) (a' := ?_) #[true, true, false, true, false, false, false, false] rfl rfl (any_of HT_.out (by kernel_rfl)) (fun _ _ _ h => h) (Or.inl ⟨by rfl, ?_⟩) ?_ ?_
          rotate_left
          · intro w'
            go_simp
            with_reducible rfl
          rotate_left
          · simp only [Act.put, List.setIfInBounds_toArray, List.set_cons_zero, List.set_cons_succ, i64_w, i32_w]
            rfl
          refine pure_ (i := 4) (N := some 7) (v := ?_) (a' := ?_) #[true, true, false, true, true, false, false, false] rfl rfl (any_of HT_.out (by kernel_rfl)) (fun _ _ _ h => h) (Or.inl ⟨by rfl, ?_⟩) ?_ ?_
          rotate_left
          · intro w'
            go_simp
            with_reducible rfl
          rotate_left
          · simp only [Act.put, List.setIfInBounds_toArray, List.set_cons_zero, List.set_cons_succ, i64_w, i32_w]
            rfl
          refine take_ (i := 2) (N := some 5) (v := ?_) (a' := ?_) #[true, true, true, true, true, false, false, false] rfl rfl (take_ofW HT_.out HW_.out (by kernel_rfl)) (fun _ _ _ h => h) (Or.inl ⟨by rfl, ?_⟩) hHeld ?_ ?_
          rotate_left
          · intro w' _
            go_simp
            with_reducible rfl
          rotate_left
          · simp only [Act.put, List.setIfInBounds_toArray, List.set_cons_zero, List.set_cons_succ, i64_w, i32_w]
            rfl
          refine take_ (i := 5) (N := some 8) (v := ?_) (a' := ?_) #[true, true, true, true, true, true, false, false] rfl rfl (take_ofW HT_.out HW_.out (by kernel_rfl)) (fun _ _ _ h => h) (Or.inl ⟨by rfl, ?_⟩) hHeld ?_ ?_
          rotate_left
          · intro w' _
            go_simp
            with_reducible rfl
          rotate_left
          · simp only [Act.put, List.setIfInBounds_toArray, List.set_cons_zero, List.set_cons_succ, i64_w, i32_w]
            rfl
          refine one_ (i := 6) (N := some 9) #[true, true, true, true, true, true, true, false] rfl rfl (one_of HT_.out (by kernel_rfl)) (by decide) (fun K hK => ?_)
          refine Kd.R_lit_step (Kd.int .u8) _ 5 ?hg (N := 9) ?hd (xs := ([bt (⟨#[48, 49, 50, 51, 52, 53, 54, 55, 56, 57, 97, 98, 99, 100, 101, 102]⟩ : ByteArray) (ji2), bt (⟨#[48, 49, 50, 51, 52, 53, 54, 55, 56, 57, 97, 98, 99, 100, 101, 102]⟩ : ByteArray) (Go.bits .and .u8 a0 15)] : List Int)) (inner := [.int .u8 (bt (⟨#[48, 49, 50, 51, 52, 53, 54, 55, 56, 57, 97, 98, 99, 100, 101, 102]⟩ : ByteArray) (ji2)), .int .u8 (bt (⟨#[48, 49, 50, 51, 52, 53, 54, 55, 56, 57, 97, 98, 99, 100, 101, 102]⟩ : ByteArray) (Go.bits .and .u8 a0 15))]) (ok := fun _ => True) (okp := fun _ => True) ?hr ?hp (fun _ hk => hk) trivial (Below.refl _ _) (Nat.le_refl _) (by simp) ?_; (case hd => rfl); (case hg => rfl); (case hr => first | (go_simp; done) | (go_simp; rfl)); (case hp => exact (Reps.one (show Kd.M (Kd.int .u8) _ _ _ (bt (⟨#[48, 49, 50, 51, 52, 53, 54, 55, 56, 57, 97, 98, 99, 100, 101, 102]⟩ : ByteArray) (ji2)) [.int .u8 (bt (⟨#[48, 49, 50, 51, 52, 53, 54, 55, 56, 57, 97, 98, 99, 100, 101, 102]⟩ : ByteArray) (ji2))] from rfl) (Reps.one (show Kd.M (Kd.int .u8) _ _ _ (bt (⟨#[48, 49, 50, 51, 52, 53, 54, 55, 56, 57, 97, 98, 99, 100, 101, 102]⟩ : ByteArray) (Go.bits .and .u8 a0 15)) [.int .u8 (bt (⟨#[48, 49, 50, 51, 52, 53, 54, 55, 56, 57, 97, 98, 99, 100, 101, 102]⟩ : ByteArray) (Go.bits .and .u8 a0 15))] from rfl) (Reps.none _ _))))
          intro v707 w10 ho11 hb hg_ hnew_
          clear hg_ hnew_
          (first | rw [← Ny706.out] at ho11 | (simp only [Int.reduceToNat] at ho11; rw [← Ny706.out] at ho11))
          have n0_ := Aside0.mk (Kd.R_lower ho11 (below_size (by repeat (first | (with_reducible first | exact HB.out | apply below_alloc | apply pw_below_drewN | apply below_drew1) | exact HB.out))))
          have n1_ := Aside0.mk (below_step (by repeat (first | (with_reducible first | exact HB.out | apply below_alloc | apply pw_below_drewN | apply below_drew1) | exact HB.out)) hb)
          clear HB
          have HO708 := n0_
          have HB := n1_
          clear n0_ n1_
          clear hb ho11
          refine hK.out _ _ trivial (fun hHeld => ?_)
          clear hK K
          refine norm_ (a' := ?_) ?_ ?_
          rotate_left
          · show Act.put _ (some 9) _ = _
            simp only [Act.put, List.setIfInBounds_toArray, List.set_cons_zero, List.set_cons_succ, i64_w, i32_w]
            rfl
          refine pure_ (i := 7) (N := some 2) (v := ?_) (a' := ?_) #[true, true, true, true, true, true, true, true] rfl rfl (any_of HT_.out (by kernel_rfl)) (fun _ _ _ h => h) (Or.inl ⟨by rfl, ?_⟩) ?_ ?_
          rotate_left
          · intro w'
            go_simp
            with_reducible rfl
          rotate_left
          · simp only [Act.put, List.setIfInBounds_toArray, List.set_cons_zero, List.set_cons_succ, i64_w, i32_w]
            rfl
          refine done_ (done_of HT_.out (by kernel_rfl)) ?_
          try go_wp2
          go_ret
          exact ⟨_, by first | rfl | (simp [errW_none, errW_some] <;> rfl) | (simp only [← hji2]; first | rfl | (simp [errW_none, errW_some] <;> rfl)) | (simp [*, errW_none, errW_some] <;> rfl), by (with_reducible repeat (first | apply Kd.R_alloc | apply Kd.R_drewN | apply Kd.R_drew)); exact HO708.out, by repeat (first | (with_reducible first | exact HB.out | apply below_alloc | apply pw_below_drewN | apply below_drew1) | exact HB.out)⟩
        · rw [if_neg c7] at H
          exact absurd H (by simp)
      · rw [if_neg c6] at H
        exact absurd H (by simp)
    · rw [if_neg c4] at H
      exact absurd H (by simp)
  · rw [if_neg c3] at H
    exact absurd H (by simp)
end Go.Proofs.YtdhkmdgieflioaaDoor.F
namespace Go.Proofs.YtdhkmdgieflioaaDoor.F
open Go.RowKit Go.Proofs.YtdhkmdgieflioaaDoorW.PrintWords Go.Proofs.YtdhkmdgieflioaaDoorW.PrintLast Go.Proofs.YtdhkmdgieflioaaDoorW.PrintMore
set_option linter.unusedVariables false
set_option linter.unusedSimpArgs false
theorem nameOf_cell (op : Int) (h1 : 0 ≤ op) (h2 : op < 28) : kindsCells[op.toNat * 2]? = some (.string (nameOf op)) := by
  obtain ⟨n, rfl⟩ : ∃ n : Nat, op = n := ⟨op.toNat, by omega⟩
  have h3 : n < 28 := by omega
  clear h2
  have all : ∀ n, n < 28 → (kindRows.flatMap fun k => [Value.string ⟨k.1.toArray⟩, Value.string ⟨k.2.toArray⟩])[n * 2]? = some (.string (nameOf (n : Nat))) := by
    intro n hn
    have : n = 0 ∨ n = 1 ∨ n = 2 ∨ n = 3 ∨ n = 4 ∨ n = 5 ∨ n = 6 ∨ n = 7 ∨ n = 8 ∨ n = 9 ∨ n = 10 ∨ n = 11 ∨ n = 12 ∨ n = 13 ∨ n = 14 ∨ n = 15 ∨ n = 16 ∨ n = 17 ∨ n = 18 ∨ n = 19 ∨ n = 20 ∨ n = 21 ∨ n = 22 ∨ n = 23 ∨ n = 24 ∨ n = 25 ∨ n = 26 ∨ n = 27 := by omega
    rcases this with rfl | rfl | rfl | rfl | rfl | rfl | rfl | rfl | rfl | rfl | rfl | rfl | rfl | rfl | rfl | rfl | rfl | rfl | rfl | rfl | rfl | rfl | rfl | rfl | rfl | rfl | rfl | rfl
    all_goals rfl
  unfold kindsCells
  simpa using all n h3
set_option maxRecDepth 100000 in
set_option maxHeartbeats 1000000 in
theorem name_lt (a0 : Int) (w : World) (h : a0 < 0) : Calls Tryd.prog 49 #[.int .i64 a0] w fun e w' => e = .returned (.string ⟨#[]⟩) ∧ w = w' := by
  have h1 : decide (a0 < 0) = true := decide_eq_true h
  go_enter Tryd.func49, Tryd.ntmps49
  go_wp2
  go_ret
  exact ⟨rfl, rfl⟩
set_option maxRecDepth 100000 in
set_option maxHeartbeats 1000000 in
theorem name_ge (a0 : Int) (w : World) (h : 28 ≤ a0) : Calls Tryd.prog 49 #[.int .i64 a0] w fun e w' => e = .returned (.string ⟨#[]⟩) ∧ w = w' := by
  have h1 : decide (a0 < 0) = false := decide_eq_false (by omega)
  go_enter Tryd.func49, Tryd.ntmps49
  go_wp2
  go_ret
  exact ⟨rfl, rfl⟩
set_option maxRecDepth 100000 in
set_option maxHeartbeats 1000000 in
theorem name_in (a0 : Int) (n : ByteArray) (w : World) (h : 0 ≤ a0) (h2 : a0 < 28) (hp : w.cell? ⟨0, a0.toNat * 2, none⟩ = some (.string n)) : Calls Tryd.prog 49 #[.int .i64 a0] w fun e w' => e = .returned (.string n) ∧ w = w' := by
  have h1 : decide (a0 < 0) = false := decide_eq_false (by omega)
  go_enter Tryd.func49, Tryd.ntmps49
  go_wp2
  go_ret
  exact ⟨rfl, rfl⟩
theorem name_any (a0 : Int) (w : World) (hGK : GK w) : Calls Tryd.prog 49 #[.int .i64 a0] w fun e w' => e = .returned (.string (nameOf a0)) ∧ w = w' := by
  by_cases h1 : 0 ≤ a0
  · by_cases h2 : a0 < 28
    · exact name_in a0 _ w h1 h2 (kind_cell hGK _ _ (nameOf_cell a0 h1 h2))
    · have e : nameOf a0 = ⟨#[]⟩ := if_neg (by omega)
      rw [e]
      exact name_ge a0 w (by omega)
  · have e : nameOf a0 = ⟨#[]⟩ := if_neg (by omega)
    rw [e]
    exact name_lt a0 w (by omega)
end Go.Proofs.YtdhkmdgieflioaaDoor.F
namespace Go.Proofs.YtdhkmdgieflioaaDoor.F
open Go.RowKit Go.Proofs.YtdhkmdgieflioaaDoorW.PrintWords Go.Proofs.YtdhkmdgieflioaaDoorW.PrintLast Go.Proofs.YtdhkmdgieflioaaDoorW.PrintMore
set_option linter.unusedVariables false
set_option linter.unusedSimpArgs false
def itemOf (a b c : Int) (ch : UInt8) : ByteArray :=
  if ch = 97 then ⟨#[114]⟩ ++ ⟨(Lib.itoa a).toArray⟩ else if ch = 98 then ⟨#[114]⟩ ++ ⟨(Lib.itoa b).toArray⟩ else if ch = 114 then ⟨#[114]⟩ ++ ⟨(Lib.itoa c).toArray⟩ else ⟨(Lib.itoa c).toArray⟩
def itemsOf (op a b c : Int) : List ByteArray := (partsOf op).data.toList.map (itemOf a b c)
def textOf (op a b c : Int) : ByteArray :=
  if rightB op a b c = false then ⟨#[]⟩ else if itemsOf op a b c = [] then nameOf op
  else nameOf op ++ (⟨#[32]⟩ : ByteArray) ++ ⟨(Lib.join ((itemsOf op a b c).map (·.data.toList)) [44, 32]).toArray⟩
def inst_Text.f (a0_0 : Int) (a0_1 : Int) (a0_2 : Int) (a0_3 : Int) : Option ByteArray := some (textOf a0_0 a0_1 a0_2 a0_3)
theorem item_size (a b c : Int) (ch : UInt8) (ha : 0 ≤ a ∧ a ≤ 65535) (hb : 0 ≤ b ∧ b ≤ 65535) (hc : 0 ≤ c ∧ c ≤ 65535) : (itemOf a b c ch).size ≤ 22 := by
  have h (n : Int) (hn : 0 ≤ n ∧ n ≤ 65535) : (⟨(Lib.itoa n).toArray⟩ : ByteArray).size ≤ 21 := by
    have := Lib.itoa_length_le n (by omega) (by omega)
    simpa [ByteArray.size] using this
  have h1 := h a ha
  have h2 := h b hb
  have h3 := h c hc
  have h0 : (⟨#[114]⟩ : ByteArray).size = 1 := rfl
  unfold itemOf
  split
  · rw [ByteArray.size_append]; omega
  · split
    · rw [ByteArray.size_append]; omega
    · split
      · rw [ByteArray.size_append]; omega
      · omega
theorem lens_small : ∀ l : List ByteArray, (∀ x ∈ l, x.size ≤ 22) → Lib.lens (l.map (·.data.toList)) ≤ 22 * l.length
  | [], _ => by simp [Lib.lens]
  | x :: r, h => by
    have h1 := lens_small r (fun y hy => h y (List.mem_cons_of_mem _ hy))
    have h2 := h x (List.mem_cons_self ..)
    have h3 : x.data.toList.length = x.size := rfl
    simp only [List.map_cons, Lib.lens, List.length_cons, List.sum_cons] at *
    omega
theorem join_small (l : List ByteArray) (h : ∀ x ∈ l, x.size ≤ 22) (hl : l.length ≤ 100) : (Lib.join (l.map (·.data.toList)) [44, 32]).length ≤ 10000 := by
  cases l with
  | nil => simp [Lib.join]
  | cons x r =>
    have h1 := lens_small (x :: r) h
    rw [List.map_cons] at h1 ⊢
    rw [Lib.join_length]
    simp only [List.length_cons, List.length_map, List.length_nil] at *
    omega
theorem name_as (op : Int) (n : ByteArray) (w : World) (hGK : GK w) (hn : n = nameOf op) : Calls Tryd.prog 49 #[.int .i64 op] w fun e w' => e = .returned (.string n) ∧ w = w' := by
  subst hn
  exact name_any op w hGK
theorem join_as (g cap : Nat) (items : List ByteArray) (j : ByteArray) (w : World) (hc : ∀ (j : Nat) x, items[j]? = some x → w.cell? ⟨g, 0 + j, none⟩ = some (.string x)) (hg : g < w.heap.size) (h1 : items.length ≤ 100) (h2 : items.length ≤ cap)
    (h3 : (Lib.join (items.map (·.data.toList)) [44, 32]).length ≤ 10000) (hj : j = ⟨(Lib.join (items.map (·.data.toList)) [44, 32]).toArray⟩) :
    Calls Tryd.prog 80 #[.slice (some ⟨g, 0, none⟩) items.length cap, .string ⟨#[44, 32]⟩] w fun e w' => e = .returned (.string j) ∧ Below w.heap.size w w' := by
  subst hj
  exact Tryd.strings_Join g 0 cap items ⟨#[44, 32]⟩ w hc hg (by omega) h2 (Nat.le_trans h3 (by decide))
theorem name_size (op : Int) (h1 : 1 ≤ op) (h2 : op < 28) : (nameOf op).size ≤ 100 := by
  obtain ⟨n, rfl⟩ : ∃ n : Nat, op = n := ⟨op.toNat, by omega⟩
  have h3 : n < 28 := by omega
  clear h1 h2
  have : n = 0 ∨ n = 1 ∨ n = 2 ∨ n = 3 ∨ n = 4 ∨ n = 5 ∨ n = 6 ∨ n = 7 ∨ n = 8 ∨ n = 9 ∨ n = 10 ∨ n = 11 ∨ n = 12 ∨ n = 13 ∨ n = 14 ∨ n = 15 ∨ n = 16 ∨ n = 17 ∨ n = 18 ∨ n = 19 ∨ n = 20 ∨ n = 21 ∨ n = 22 ∨ n = 23 ∨ n = 24 ∨ n = 25 ∨ n = 26 ∨ n = 27 := by omega
  rcases this with rfl | rfl | rfl | rfl | rfl | rfl | rfl | rfl | rfl | rfl | rfl | rfl | rfl | rfl | rfl | rfl | rfl | rfl | rfl | rfl | rfl | rfl | rfl | rfl | rfl | rfl | rfl | rfl
  all_goals decide
theorem own_iterAt {w : World} {k : Nat} {v : Value} {n : Nat} {xs : List Value} (h : w.ownsRow (k + 1) 9 1 v n xs) (s : ByteArray) (pos : Nat) : (w.iterAt k s pos).ownsRow (k + 1) 9 1 v n xs := by
  obtain ⟨h1, h2⟩ := h
  refine ⟨h1, ?_⟩
  rcases h2 with h2 | ⟨g, cap, cur, hv, hg, hc, h3⟩
  · exact Or.inl h2
  · exact Or.inr ⟨g, cap, cur, hv, hg, (Lib.iterAt_other w k g s pos (by omega)).trans hc, h3⟩
theorem itoa_calls (n : Int) (t : ByteArray) (w : World) (hGT : GT w) (h0 : 0 ≤ n) (h1 : n ≤ 65535) (ht : t = ⟨(Lib.itoa n).toArray⟩) :
    Calls Tryd.prog 79 #[.int .i64 n] w fun e w' => e = .returned (.string t) ∧ Below w.heap.size w w' := by
  refine (Tryd.strconv_Itoa n (by omega) (by omega) w hGT.out).mono ?_
  rintro e W1 ⟨rfl, k, os, rfl⟩
  exact ⟨by rw [ht], Lib.below_grow _ w (Nat.le_refl _) k os⟩
set_option maxRecDepth 100000 in
set_option maxHeartbeats 1000000 in
theorem text_wrong (op a b c : Int) (w : World) (hGK : GK w) (hr : rightB op a b c = false) :
    Calls Tryd.prog 42 #[.agg #[.int .i64 op, .int .i64 a, .int .i64 b, .int .i64 c]] w fun e w' => e = .returned (.string ⟨#[]⟩) ∧ Below w.heap.size w w' := by
  have hu46 := Tryd.underlying46
  have HR := Lib.hid hr
  have HGK := Lib.hid (GK.below hGK ((Below.refl w.heap.size w).alloc (Nat.le_refl _) (.cells #[.int .i64 op, .int .i64 a, .int .i64 b, .int .i64 c] 46)))
  clear hGK hr
  go_enter Tryd.func42, Tryd.ntmps42
  go_wp2_with (go_at_call 40; refine (inst_Right.calls op a b c false _ HGK.out (congrArg some HR.out)).mono ?_; rintro e w1 ⟨rfl, hb⟩)
  go_ret
  exact ⟨rfl, below_step ((Below.refl _ _).alloc (Nat.le_refl _) _) hb⟩
set_option maxRecDepth 100000 in
set_option maxHeartbeats 1000000 in
theorem text_right (op a b c : Int) (p : ByteArray) (w : World) (hGK : GK w) (hGT : GT w) (hr : rightB op a b c = true) (h1 : 1 ≤ op) (h2 : op < 28) (hpar : partsOf op = p)
    (hp : ∀ ch ∈ p.data.toList, ch.toNat < 128) (hps : p.size ≤ 100) (ha : 0 ≤ a ∧ a ≤ 65535) (hb : 0 ≤ b ∧ b ≤ 65535) (hc : 0 ≤ c ∧ c ≤ 65535) :
    Calls Tryd.prog 42 #[.agg #[.int .i64 op, .int .i64 a, .int .i64 b, .int .i64 c]] w fun e w' => e = .returned (.string (textOf op a b c)) ∧ Below w.heap.size w w' := by
  have hu46 := Tryd.underlying46
  have hu65 := Tryd.underlying65
  have HR := Lib.hid hr
  have HGK0 := Lib.hid hGK
  have HGT := Lib.hid hGT
  have HGK := Lib.hid (GK.below hGK ((Below.refl w.heap.size w).alloc (Nat.le_refl _) (.cells #[.int .i64 op, .int .i64 a, .int .i64 b, .int .i64 c] 46)))
  have hpos := hGK.pos
  clear hGK hr hGT
  go_enter Tryd.func42, Tryd.ntmps42
  have HPC := Lib.hid (partsOf_size op h1 h2).2
  rw [hpar] at HPC
  go_wp2_with (go_at_call 40; refine (inst_Right.calls op a b c true _ HGK.out (congrArg some HR.out)).mono ?_; rintro e w1 ⟨rfl, hb⟩; have hbox := Lib.hid (blk_below (blk_new w (.cells #[.int .i64 op, .int .i64 a, .int .i64 b, .int .i64 c] 46)) hb); have HB := Lib.hid (below_step ((Below.refl w.heap.size w).alloc (Nat.le_refl _) _) hb); have HGK1 := Lib.hid (GK.below HGK0.out HB.out); have hpp := kind_cell HGK1.out _ _ HPC.out; have hpos1 := HGK1.out.pos; have hsz1 : w.heap.size < w1.heap.size := blk_lt hbox.out; clear hb; have hcz_0 : w1.cell? ⟨w.heap.size, 0, none⟩ = some (.int .i64 op) := (blk_cell hbox.out 0).trans rfl)
  go_loopg [3] (p.size + 1) (fun kq v3 wr => ∃ (pos : Nat) (xs : List Value), Aside0 (kq + pos = p.size + 1) ∧ Aside0 (pos ≤ p.size) ∧ Aside0 (xs = ((p.data.toList.take pos).map (itemOf a b c)).map .string) ∧ Aside0 (wr.ownsRow (w1.heap.size + 1) 9 1 v3 xs.length xs) ∧ Aside0 (wr.heap[w1.heap.size]? = some (.stringIter p pos)) ∧ Aside0 (wr.heap[w.heap.size]? = some (.cells #[.int .i64 op, .int .i64 a, .int .i64 b, .int .i64 c] 46 (0, 0))) ∧ Aside0 (Below w.heap.size w wr))
  case atStart =>
    refine ⟨0, [], ⟨rfl⟩, ⟨by omega⟩, ⟨rfl⟩, ⟨⟨rfl, Or.inl ⟨rfl, rfl⟩⟩⟩, ⟨?_⟩, ⟨blk_alloc hbox.out _⟩, ⟨below_alloc HB.out _⟩⟩
    have := World.iter_heap w1 p 0
    simpa using this
  case round =>
    obtain ⟨pos, xs, HK1, HK2, HX, HO, HI, HBX, HB2⟩ := hrel
    have hsz2 : w1.heap.size < wr.heap.size := blk_lt HI.out
    have hxl : xs.length ≤ 100 := by have := HK2.out; rw [HX.out]; simp; omega
    by_cases hpos2 : pos < p.size
    · have hnx : ∀ ty, (Instr.next (.pointer (some ⟨w1.heap.size, 0, none⟩)) true ty).run Tryd.prog wr = _ := fun ty => Lib.run_next_ascii_at wr w1.heap.size p pos ty HI.out hpos2 (hp _ (Array.getElem_mem_toList ..))
      have hnext : p.data.toList.take (pos + 1) = p.data.toList.take pos ++ [p[pos]'hpos2] := by
        rw [List.take_add_one]
        congr 1
        have : p.data.toList[pos]? = some (p[pos]'hpos2) := by rw [Array.getElem?_toList]; exact Array.getElem?_eq_getElem (by simpa using hpos2)
        rw [this]
        rfl
      replace hnext : (p.data.toList.take (pos + 1)).map (itemOf a b c) = (p.data.toList.take pos).map (itemOf a b c) ++ [itemOf a b c (p[pos]'hpos2)] := by rw [hnext, List.map_append]; rfl
      generalize hch : p[pos]'hpos2 = ch at hnx hnext
      clear hch
      have HI2 := Lib.hid (Lib.iterAt_heap wr w1.heap.size p pos (pos + 1) HI.out)
      have HBX2 := Lib.hid ((Lib.iterAt_other wr w1.heap.size w.heap.size p (pos + 1) (by omega)).trans HBX.out)
      have HB3 := Lib.hid (Lib.below_iterAt HB2.out (k := w1.heap.size) (by omega) p (pos + 1))
      have HO2 := Lib.hid (own_iterAt HO.out p (pos + 1))
      have hsz3 : w1.heap.size < (wr.iterAt w1.heap.size p (pos + 1)).heap.size := blk_lt HI2.out
      by_cases k97 : ch = 97
      · have k98 : ch ≠ 98 := by rw [k97]; decide
        have k114 : ch ≠ 114 := by rw [k97]; decide
        have hcz_1 : (wr.iterAt w1.heap.size p (pos + 1)).cell? ⟨w.heap.size, 1, none⟩ = some (.int .i64 a) := (blk_cell HBX2.out 1).trans rfl
        generalize wr.iterAt w1.heap.size p (pos + 1) = W2 at hnx HI2 HBX2 HB3 HO2 hsz3 hcz_1
        obtain ⟨t, ht⟩ : ∃ t : ByteArray, t = ⟨(Lib.itoa a).toArray⟩ := ⟨_, rfl⟩
        have hit : itemOf a b c ch = (⟨#[114]⟩ ++ t : ByteArray) := by rw [ht]; simp [itemOf, k97, k98, k114]
        rw [hit] at hnext
        clear hit
        have hts := Lib.itoa_length_le a (by omega) (by omega)
        have htl : t.size ≤ 21 := by rw [ht]; simpa [ByteArray.size] using hts
        have HT := Lib.hid ht
        clear ht
        clear hts
        have HN := Lib.hid hnext
        clear hnext
        go_wp2_with (first | (go_at_call 79; refine (itoa_calls a t _ (GT.below HGT.out HB3.out) (by omega) (by omega) HT.out).mono ?_; rintro e W3 ⟨rfl, hb3⟩; have HB4 := Lib.hid (below_step HB3.out hb3); have HI3 := Lib.hid (blk_below HI2.out hb3); have HBX3 := Lib.hid (blk_below HBX2.out hb3); have HO3 := Lib.hid (pw_own_below HO2.out hb3); clear HI2 HBX2 HB3 HO2; have hsz4 : w1.heap.size + 1 ≤ W3.heap.size := blk_lt HI3.out) | (at_builtin; go_must (refine print_append (w1.heap.size + 1) ?hgd (.tmp 27) (.tmp 32) 65 9 (.string ⟨#[]⟩) 16 ?hop Tryd.underlying65 info9 rfl (by decide) u3 xs (.string (⟨#[114]⟩ ++ t : ByteArray)) ?hs ?hx rfl HO3.out (Below.refl _ _) ?hba ?hle ?_; (case hgd => rfl); (case hop => rfl); (case hs => rfl); (case hx => rfl); (case hba => exact hsz4); (case hle => omega)); intro v1 w4 hown hbb hgg hat))
        go_roundg (gk - 1)
        case measure => have := HK1.out; omega
        case rel =>
          refine ⟨pos + 1, xs ++ [.string (⟨#[114]⟩ ++ t : ByteArray)], ⟨by have := HK1.out; omega⟩, ⟨by omega⟩, ⟨by rw [HN.out, List.map_append, HX.out]; rfl⟩, ⟨hown⟩, ⟨(hbb.block _ (by omega)).trans HI3.out⟩, ⟨(hbb.block _ (by omega)).trans HBX3.out⟩, ⟨HB4.out.trans (hbb.mono (by omega))⟩⟩
      · have e97 : ((ch.toNat : Int) == 97) = false := by rw [beq_eq_false_iff_ne]; exact fun h => k97 (UInt8.toNat_inj.1 (by have : (97 : UInt8).toNat = 97 := rfl; omega))
        by_cases k98 : ch = 98
        · have k114 : ch ≠ 114 := by rw [k98]; decide
          have hcz_1 : (wr.iterAt w1.heap.size p (pos + 1)).cell? ⟨w.heap.size, 2, none⟩ = some (.int .i64 b) := (blk_cell HBX2.out 2).trans rfl
          generalize wr.iterAt w1.heap.size p (pos + 1) = W2 at hnx HI2 HBX2 HB3 HO2 hsz3 hcz_1
          obtain ⟨t, ht⟩ : ∃ t : ByteArray, t = ⟨(Lib.itoa b).toArray⟩ := ⟨_, rfl⟩
          have hit : itemOf a b c ch = (⟨#[114]⟩ ++ t : ByteArray) := by rw [ht]; simp [itemOf, k97, k98, k114]
          rw [hit] at hnext
          clear hit
          have hts := Lib.itoa_length_le b (by omega) (by omega)
          have htl : t.size ≤ 21 := by rw [ht]; simpa [ByteArray.size] using hts
          have HT := Lib.hid ht
          clear ht
          clear hts
          have HN := Lib.hid hnext
          clear hnext
          go_wp2_with (first | (go_at_call 79; refine (itoa_calls b t _ (GT.below HGT.out HB3.out) (by omega) (by omega) HT.out).mono ?_; rintro e W3 ⟨rfl, hb3⟩; have HB4 := Lib.hid (below_step HB3.out hb3); have HI3 := Lib.hid (blk_below HI2.out hb3); have HBX3 := Lib.hid (blk_below HBX2.out hb3); have HO3 := Lib.hid (pw_own_below HO2.out hb3); clear HI2 HBX2 HB3 HO2; have hsz4 : w1.heap.size + 1 ≤ W3.heap.size := blk_lt HI3.out) | (at_builtin; go_must (refine print_append (w1.heap.size + 1) ?hgd (.tmp 36) (.tmp 41) 65 9 (.string ⟨#[]⟩) 16 ?hop Tryd.underlying65 info9 rfl (by decide) u3 xs (.string (⟨#[114]⟩ ++ t : ByteArray)) ?hs ?hx rfl HO3.out (Below.refl _ _) ?hba ?hle ?_; (case hgd => rfl); (case hop => rfl); (case hs => rfl); (case hx => rfl); (case hba => exact hsz4); (case hle => omega)); intro v1 w4 hown hbb hgg hat))
          go_roundg (gk - 1)
          case measure => have := HK1.out; omega
          case rel =>
            refine ⟨pos + 1, xs ++ [.string (⟨#[114]⟩ ++ t : ByteArray)], ⟨by have := HK1.out; omega⟩, ⟨by omega⟩, ⟨by rw [HN.out, List.map_append, HX.out]; rfl⟩, ⟨hown⟩, ⟨(hbb.block _ (by omega)).trans HI3.out⟩, ⟨(hbb.block _ (by omega)).trans HBX3.out⟩, ⟨HB4.out.trans (hbb.mono (by omega))⟩⟩
        · have e98 : ((ch.toNat : Int) == 98) = false := by rw [beq_eq_false_iff_ne]; exact fun h => k98 (UInt8.toNat_inj.1 (by have : (98 : UInt8).toNat = 98 := rfl; omega))
          by_cases k114 : ch = 114
          · skip
            have hcz_1 : (wr.iterAt w1.heap.size p (pos + 1)).cell? ⟨w.heap.size, 3, none⟩ = some (.int .i64 c) := (blk_cell HBX2.out 3).trans rfl
            generalize wr.iterAt w1.heap.size p (pos + 1) = W2 at hnx HI2 HBX2 HB3 HO2 hsz3 hcz_1
            obtain ⟨t, ht⟩ : ∃ t : ByteArray, t = ⟨(Lib.itoa c).toArray⟩ := ⟨_, rfl⟩
            have hit : itemOf a b c ch = (⟨#[114]⟩ ++ t : ByteArray) := by rw [ht]; simp [itemOf, k97, k98, k114]
            rw [hit] at hnext
            clear hit
            have hts := Lib.itoa_length_le c (by omega) (by omega)
            have htl : t.size ≤ 21 := by rw [ht]; simpa [ByteArray.size] using hts
            have HT := Lib.hid ht
            clear ht
            clear hts
            have HN := Lib.hid hnext
            clear hnext
            go_wp2_with (first | (go_at_call 79; refine (itoa_calls c t _ (GT.below HGT.out HB3.out) (by omega) (by omega) HT.out).mono ?_; rintro e W3 ⟨rfl, hb3⟩; have HB4 := Lib.hid (below_step HB3.out hb3); have HI3 := Lib.hid (blk_below HI2.out hb3); have HBX3 := Lib.hid (blk_below HBX2.out hb3); have HO3 := Lib.hid (pw_own_below HO2.out hb3); clear HI2 HBX2 HB3 HO2; have hsz4 : w1.heap.size + 1 ≤ W3.heap.size := blk_lt HI3.out) | (at_builtin; go_must (refine print_append (w1.heap.size + 1) ?hgd (.tmp 45) (.tmp 50) 65 9 (.string ⟨#[]⟩) 16 ?hop Tryd.underlying65 info9 rfl (by decide) u3 xs (.string (⟨#[114]⟩ ++ t : ByteArray)) ?hs ?hx rfl HO3.out (Below.refl _ _) ?hba ?hle ?_; (case hgd => rfl); (case hop => rfl); (case hs => rfl); (case hx => rfl); (case hba => exact hsz4); (case hle => omega)); intro v1 w4 hown hbb hgg hat))
            go_roundg (gk - 1)
            case measure => have := HK1.out; omega
            case rel =>
              refine ⟨pos + 1, xs ++ [.string (⟨#[114]⟩ ++ t : ByteArray)], ⟨by have := HK1.out; omega⟩, ⟨by omega⟩, ⟨by rw [HN.out, List.map_append, HX.out]; rfl⟩, ⟨hown⟩, ⟨(hbb.block _ (by omega)).trans HI3.out⟩, ⟨(hbb.block _ (by omega)).trans HBX3.out⟩, ⟨HB4.out.trans (hbb.mono (by omega))⟩⟩
          · have e114 : ((ch.toNat : Int) == 114) = false := by rw [beq_eq_false_iff_ne]; exact fun h => k114 (UInt8.toNat_inj.1 (by have : (114 : UInt8).toNat = 114 := rfl; omega))
            have hcz_1 : (wr.iterAt w1.heap.size p (pos + 1)).cell? ⟨w.heap.size, 3, none⟩ = some (.int .i64 c) := (blk_cell HBX2.out 3).trans rfl
            generalize wr.iterAt w1.heap.size p (pos + 1) = W2 at hnx HI2 HBX2 HB3 HO2 hsz3 hcz_1
            obtain ⟨t, ht⟩ : ∃ t : ByteArray, t = ⟨(Lib.itoa c).toArray⟩ := ⟨_, rfl⟩
            have hit : itemOf a b c ch = (t : ByteArray) := by rw [ht]; simp [itemOf, k97, k98, k114]
            rw [hit] at hnext
            clear hit
            have hts := Lib.itoa_length_le c (by omega) (by omega)
            have htl : t.size ≤ 21 := by rw [ht]; simpa [ByteArray.size] using hts
            have HT := Lib.hid ht
            clear ht
            clear hts
            have HN := Lib.hid hnext
            clear hnext
            go_wp2_with (first | (go_at_call 79; refine (itoa_calls c t _ (GT.below HGT.out HB3.out) (by omega) (by omega) HT.out).mono ?_; rintro e W3 ⟨rfl, hb3⟩; have HB4 := Lib.hid (below_step HB3.out hb3); have HI3 := Lib.hid (blk_below HI2.out hb3); have HBX3 := Lib.hid (blk_below HBX2.out hb3); have HO3 := Lib.hid (pw_own_below HO2.out hb3); clear HI2 HBX2 HB3 HO2; have hsz4 : w1.heap.size + 1 ≤ W3.heap.size := blk_lt HI3.out) | (at_builtin; go_must (refine print_append (w1.heap.size + 1) ?hgd (.tmp 19) (.tmp 23) 65 9 (.string ⟨#[]⟩) 16 ?hop Tryd.underlying65 info9 rfl (by decide) u3 xs (.string (t : ByteArray)) ?hs ?hx rfl HO3.out (Below.refl _ _) ?hba ?hle ?_; (case hgd => rfl); (case hop => rfl); (case hs => rfl); (case hx => rfl); (case hba => exact hsz4); (case hle => omega)); intro v1 w4 hown hbb hgg hat))
            go_roundg (gk - 1)
            case measure => have := HK1.out; omega
            case rel =>
              refine ⟨pos + 1, xs ++ [.string (t : ByteArray)], ⟨by have := HK1.out; omega⟩, ⟨by omega⟩, ⟨by rw [HN.out, List.map_append, HX.out]; rfl⟩, ⟨hown⟩, ⟨(hbb.block _ (by omega)).trans HI3.out⟩, ⟨(hbb.block _ (by omega)).trans HBX3.out⟩, ⟨HB4.out.trans (hbb.mono (by omega))⟩⟩
    · have hnx : ∀ ty, (Instr.next (.pointer (some ⟨w1.heap.size, 0, none⟩)) true ty).run Tryd.prog wr = _ := fun ty => Lib.run_next_end_at wr w1.heap.size p pos ty HI.out hpos2
      have hcz_1 : wr.cell? ⟨w.heap.size, 0, none⟩ = some (.int .i64 op) := (blk_cell HBX.out 0).trans rfl
      have HGK3 := Lib.hid (GK.below HGK0.out HB2.out)
      have hfull : p.data.toList.take pos = p.data.toList := List.take_of_length_le (by have : p.data.toList.length = p.size := rfl; omega)
      rw [hfull] at HX
      have HXS := Lib.hid HX.out
      clear HX
      by_cases hxe : xs = []
      · subst hxe
        have hit : textOf op a b c = nameOf op := by
          have h0 : itemsOf op a b c = [] := by have := HXS.out; unfold itemsOf; rw [hpar]; exact (List.map_eq_nil_iff.1 this.symm)
          unfold textOf
          rw [if_neg (by rw [HR.out]; decide), if_pos h0]
        have HE := Lib.hid hit
        clear hit
        obtain ⟨av, cv, rfl⟩ : ∃ av cv, u3 = .slice av 0 cv := by
          rcases HO.out.2 with ⟨h, _⟩ | ⟨g, cap, cur, h, _⟩
          · exact ⟨_, _, h⟩
          · exact ⟨_, _, h⟩
        go_wp2_with (go_at_call 49; refine (name_any op _ HGK3.out).mono ?_; rintro e W3 ⟨rfl, rfl⟩)
        go_ret
        exact ⟨by rw [HE.out]; rfl, HB2.out⟩
      · obtain ⟨items, hitems⟩ : ∃ items, items = p.data.toList.map (itemOf a b c) := ⟨_, rfl⟩
        have hxs := HXS.out
        rw [← hitems] at hxs
        clear HXS
        subst hxs
        have hne : items ≠ [] := fun h => hxe (by rw [h]; rfl)
        have hit : textOf op a b c = nameOf op ++ (⟨#[32]⟩ : ByteArray) ++ ⟨(Lib.join (items.map (·.data.toList)) [44, 32]).toArray⟩ := by
          have h0 : itemsOf op a b c = items := by unfold itemsOf; rw [hpar, hitems]
          unfold textOf
          rw [if_neg (by rw [HR.out]; decide), h0, if_neg hne]
        have hsm : ∀ x ∈ items, x.size ≤ 22 := by
          intro x hx
          rw [hitems] at hx
          obtain ⟨ch, _, rfl⟩ := List.mem_map.1 hx
          exact item_size a b c ch ha hb hc
        have hil : items.length ≤ 100 := by rw [List.length_map] at hxl; exact hxl
        have HJL := Lib.hid (join_small items hsm hil)
        have HE := Lib.hid hit
        have hi1 : items.length ≠ 0 := fun h => hne (List.eq_nil_of_length_eq_zero h)
        clear hit hitems hsm hxe hne
        rcases HO.out.2 with ⟨_, h⟩ | ⟨g, cap, cur, hv, hg, hcur, hcap, hmax, hcs, htk⟩
        · rw [List.length_map] at h; exact absurd h hi1
        · rw [List.length_map] at hv hcap htk
          subst hv
          have hbk := blk_lt hcur
          have hcells : ∀ (j : Nat) x, items[j]? = some x → wr.cell? ⟨g, 0 + j, none⟩ = some (.string x) := by
            intro j x hj
            have hlt : j < items.length := (List.getElem?_eq_some_iff.1 hj).1
            rw [Nat.zero_add, cell_of_row wr g j cur 9 (0, 0) hcur]
            have : (cur.toList.take (items.length * 1))[j]? = some (.string x) := by rw [htk, List.getElem?_map, hj]; rfl
            rw [List.getElem?_take_of_lt (by omega)] at this
            simpa using this
          have HC := Lib.hid hcells
          obtain ⟨nm, hnm⟩ : ∃ nm, nm = nameOf op := ⟨_, rfl⟩
          obtain ⟨jn, hjn⟩ : ∃ jn : ByteArray, jn = ⟨(Lib.join (items.map (·.data.toList)) [44, 32]).toArray⟩ := ⟨_, rfl⟩
          have hnms : nm.size ≤ 100 := by rw [hnm]; exact name_size op h1 h2
          have hjns : jn.size ≤ 10000 := by have := HJL.out; rw [hjn]; simpa [ByteArray.size] using this
          have hns : (nm ++ (⟨#[32]⟩ : ByteArray)).size ≤ 101 := by rw [ByteArray.size_append]; have : (⟨#[32]⟩ : ByteArray).size = 1 := rfl; omega
          have he := HE.out
          rw [← hnm, ← hjn] at he
          have HE2 := Lib.hid he
          have HNM := Lib.hid hnm
          have HJN := Lib.hid hjn
          clear he hnm hjn HE
          have hd : ((items.length : Int) == 0) = false := by rw [beq_eq_false_iff_ne]; omega
          clear hcells hcur hcs htk HO
          go_wp2_with (first | (go_at_call 49; refine (name_as op nm _ HGK3.out HNM.out).mono ?_; rintro e W3 ⟨rfl, rfl⟩) | (go_at_call 80; refine (join_as g cap items jn _ HC.out hbk (by omega) hcap HJL.out HJN.out).mono ?_; rintro e W4 ⟨rfl, hb4⟩))
          go_ret
          exact ⟨by rw [HE2.out]; rfl, below_step HB2.out hb4⟩
theorem right_facts (op a b c : Int) (h : rightB op a b c = true) : 1 ≤ op ∧ op < 28 ∧ (0 ≤ a ∧ a ≤ 65535) ∧ (0 ≤ b ∧ b ≤ 65535) ∧ (0 ≤ c ∧ c ≤ 65535) := by
  have hb : ∀ (p : ByteArray) (ch n m : Int), m ≤ 65535 → hasB p ch n m = true → 0 ≤ n ∧ n ≤ 65535 := by
    intro p ch n m hm hh
    unfold hasB at hh
    split at hh
    · have := eq_of_beq hh; omega
    · split at hh
      · have := of_decide_eq_true hh; omega
      · cases hh
  unfold rightB at h
  split at h
  · cases h
  · rename_i h0
    split at h
    · cases h
    · rename_i h1
      split at h
      · cases h
      · rename_i h2
        have h1 : hasB (partsOf op) 97 a 15 = true := by simpa using h1
        have h2 : hasB (partsOf op) 98 b 15 = true := by simpa using h2
        refine ⟨by omega, by omega, hb _ _ _ _ (by decide) h1, hb _ _ _ _ (by decide) h2, ?_⟩
        split at h
        · split at h
          · have := of_decide_eq_true h; omega
          · cases h
        · exact hb _ _ _ _ (by decide) h
theorem parts_ascii (op : Int) (h1 : 1 ≤ op) (h2 : op < 28) : (partsOf op).size ≤ 100 ∧ ∀ ch ∈ (partsOf op).data.toList, ch.toNat < 128 := by
  obtain ⟨n, rfl⟩ : ∃ n : Nat, op = n := ⟨op.toNat, by omega⟩
  have h3 : n < 28 := by omega
  clear h1 h2
  have : n = 0 ∨ n = 1 ∨ n = 2 ∨ n = 3 ∨ n = 4 ∨ n = 5 ∨ n = 6 ∨ n = 7 ∨ n = 8 ∨ n = 9 ∨ n = 10 ∨ n = 11 ∨ n = 12 ∨ n = 13 ∨ n = 14 ∨ n = 15 ∨ n = 16 ∨ n = 17 ∨ n = 18 ∨ n = 19 ∨ n = 20 ∨ n = 21 ∨ n = 22 ∨ n = 23 ∨ n = 24 ∨ n = 25 ∨ n = 26 ∨ n = 27 := by omega
  rcases this with rfl | rfl | rfl | rfl | rfl | rfl | rfl | rfl | rfl | rfl | rfl | rfl | rfl | rfl | rfl | rfl | rfl | rfl | rfl | rfl | rfl | rfl | rfl | rfl | rfl | rfl | rfl | rfl
  all_goals exact ⟨by decide, by decide⟩
theorem inst_Text.calls (a0_0 : Int) (a0_1 : Int) (a0_2 : Int) (a0_3 : Int) (r : ByteArray) (w : World) (hGK : GK w) (hGT : GT w) (h : inst_Text.f a0_0 a0_1 a0_2 a0_3 = some r) :
    Calls Tryd.prog 42 #[.agg #[.int .i64 a0_0, .int .i64 a0_1, .int .i64 a0_2, .int .i64 a0_3]] w fun e w' => e = .returned (.string r) ∧ Below w.heap.size w w' := by
  obtain rfl := Option.some.inj h
  by_cases hr : rightB a0_0 a0_1 a0_2 a0_3 = true
  · obtain ⟨h1, h2, ha, hb, hc⟩ := right_facts _ _ _ _ hr
    obtain ⟨hs, hp⟩ := parts_ascii _ h1 h2
    exact text_right _ _ _ _ _ w hGK hGT hr h1 h2 rfl hp hs ha hb hc
  · have hr : rightB a0_0 a0_1 a0_2 a0_3 = false := by simpa using hr
    have : textOf a0_0 a0_1 a0_2 a0_3 = ⟨#[]⟩ := by unfold textOf; rw [if_pos hr]
    rw [this]
    exact text_wrong _ _ _ _ w hGK hr
end Go.Proofs.YtdhkmdgieflioaaDoor.F
namespace Go.Proofs.YtdhkmdgieflioaaDoor.F
open Go.RowKit Go.Proofs.YtdhkmdgieflioaaDoorW.PrintWords Go.Proofs.YtdhkmdgieflioaaDoorW.PrintLast Go.Proofs.YtdhkmdgieflioaaDoorW.PrintMore
set_option linter.unusedVariables false
set_option linter.unusedSimpArgs false
def num (n : Int) : List UInt8 := Lib.itoa n
end Go.Proofs.YtdhkmdgieflioaaDoor.F
namespace Go.Proofs.YtdhkmdgieflioaaDoor.F
open Go.RowKit Go.Proofs.YtdhkmdgieflioaaDoorW.PrintWords Go.Proofs.YtdhkmdgieflioaaDoorW.PrintLast Go.Proofs.YtdhkmdgieflioaaDoorW.PrintMore
set_option linter.unusedVariables false
set_option linter.unusedSimpArgs false
open Go.Maps
theorem baL (a b : ByteArray) : (a ++ b).data.toList = a.data.toList ++ b.data.toList := by rw [ByteArray.data_append, Array.toList_append]
end Go.Proofs.YtdhkmdgieflioaaDoor.F
namespace Go.Proofs.YtdhkmdgieflioaaDoor.F
open Go.RowKit Go.Proofs.YtdhkmdgieflioaaDoorW.PrintWords Go.Proofs.YtdhkmdgieflioaaDoorW.PrintLast Go.Proofs.YtdhkmdgieflioaaDoorW.PrintMore
set_option linter.unusedVariables false
set_option linter.unusedSimpArgs false
def hx (n : Nat) : UInt8 := if n < 10 then UInt8.ofNat (48 + n) else UInt8.ofNat (87 + n)
def hexS (l : List UInt8) : List UInt8 := l.flatMap fun c => [hx (c.toNat / 16), hx (c.toNat % 16)]
def twoOk (n : Nat) : Bool := hex_two.f (n : Int) == some [((hx (n / 16)).toNat : Int), ((hx (n % 16)).toNat : Int)]
set_option maxRecDepth 100000 in
theorem two_all : ((List.range 256).all twoOk) = true := by kernel_rfl
theorem two_f (c : UInt8) : hex_two.f (c.toNat : Int) = some [((hx (c.toNat / 16)).toNat : Int), ((hx (c.toNat % 16)).toNat : Int)] := by
  have h := List.all_eq_true.1 two_all c.toNat (List.mem_range.2 c.toNat_lt)
  exact eq_of_beq h
theorem bld_copyCheck_k2 (B b : Nat) (bs : List Value) (w : World) (h : Lib.IsBuilderF 81 5 B b bs w) :
    Calls Tryd.prog 97 #[.pointer (some ⟨b, 0, none⟩)] w fun e w' => e = .returned (.tuple #[]) ∧ (Lib.BuilderAtF 81 5 B b (.pointer (some ⟨b, 0, none⟩)) bs w' ∧ Below B w w' ∧ Lib.OthersKept 5 (some b) w w' ∧ ∀ k, k ≠ b → w'.heap[k]? = w.heap[k]?) := by
  rcases h with h | h
  · refine (bld_copyCheck_fresh b w h.cell0 h.shape h.frozen0).mono ?_
    rintro e w' ⟨rfl, rfl⟩
    exact ⟨rfl, h.used _, (Below.refl B w).setCell (p := ⟨b, 0, none⟩) h.1 _, (Lib.OthersKept.refl _ _ w).setCell ⟨b, 0, none⟩ rfl _, fun k hk => Below.heap_setCell w ⟨b, 0, none⟩ _ k hk⟩
  · refine (bld_copyCheck_used b w h.cell0).mono ?_
    rintro e w' ⟨rfl, rfl⟩
    exact ⟨rfl, h, Below.refl B _, Lib.OthersKept.refl _ _ _, fun k hk => rfl⟩
set_option maxHeartbeats 4000000 in
set_option maxRecDepth 100000 in
theorem bld_Write_k (B b g cap : Nat) (bs news : List Value) (w : World) (h : Lib.IsBuilderF 81 5 B b bs w) (hg : g ≠ b) (hnews : ∀ j u, news[j]? = some u → w.cell? ((⟨g, 0, none⟩ : Addr).add j) = some u) (h1 : ∀ u ∈ news, u.oneCell' = true) (hlen : bs.length + news.length ≤ 140737488355328) (hpos : 0 < news.length) (hBw : B ≤ w.heap.size) :
    Calls Tryd.prog 107 #[.pointer (some ⟨b, 0, none⟩), .slice (some ⟨g, 0, none⟩) news.length cap] w fun e w' => e = .returned (.tuple #[.int .i64 news.length, .nilIface]) ∧ (Lib.BuilderAtF 81 5 B b (.pointer (some ⟨b, 0, none⟩)) (bs ++ news) w' ∧ Below B w w' ∧ Lib.OthersKept 5 (some b) w w') := by
  obtain ⟨i0, hi, hz0, hz1, hz2⟩ := info_parts info5
  have HN := Aside0.mk hnews
  have HO := Aside0.mk h1
  have HP := Aside0.mk hpos
  have HL := Aside0.mk hlen
  clear hnews h1 hpos hlen
  generalize hn : news.length = n at HL HP ⊢
  have HNL := Aside0.mk hn
  clear hn
  go_enter Tryd.func107, Tryd.ntmps107
  go_wp2_with (go_at_call 97; refine (bld_copyCheck_k2 B b bs _ h).mono ?_)
  rintro e w1 ⟨rfl, h1, hb1, hk1, hall⟩
  obtain ⟨hB, v, hbk, hown, hne⟩ := h1
  have c0 : w1.cell? ⟨b, 0, none⟩ = some (.pointer (some ⟨b, 0, none⟩)) := by rw [Lib.cell_of_heap hbk]; rfl
  have c1 : w1.cell? ⟨b, 1, none⟩ = some v := by rw [Lib.cell_of_heap hbk]; rfl
  go_wp2_with (at_builtin; refine wpList_append_ownF _ rfl _ _ 72 rfl B 5 i0 (.int .u8 0) 1 1 Tryd.underlying72 hi hz0 hz1 hz2 rfl (by decide) _ _ _ rfl hown ⟨g, 0, none⟩ n cap news rfl ?c1 ?c2 HO.out ?c3 ?c4 ?c5 ?_)
  case c1 => rw [HNL.out, Nat.mul_one]
  case c2 =>
    intro j u hj
    have h2 := HN.out j u hj
    have hadd : ((⟨g, 0, none⟩ : Addr).add j).block = g := by unfold Addr.add; split <;> rfl
    have h3 := hall g hg
    unfold World.cell? at h2 ⊢
    rw [hadd] at h2 ⊢
    rw [h3]
    exact h2
  case c3 => have := HL.out; unfold maxLen; omega
  case c4 => have := HL.out; omega
  case c5 => have := hb1.size; omega
  intro v' w2 hown' hgrow _
  have hlt : b < w1.heap.size := by
    rcases Nat.lt_or_ge b w1.heap.size with h' | h'
    · exact h'
    · simp [Array.getElem?_eq_none h'] at hbk
  have hb2 : w2.heap[b]? = some (.cells #[.pointer (some ⟨b, 0, none⟩), v] 81 (0, 0)) := by
    rw [hgrow.block b hlt (fun e => hne e.symm)]
    exact hbk
  have d0 : w2.cell? ⟨b, 0, none⟩ = some (.pointer (some ⟨b, 0, none⟩)) := by rw [Lib.cell_of_heap hb2]; rfl
  have d1 : w2.cell? ⟨b, 1, none⟩ = some v := by rw [Lib.cell_of_heap hb2]; rfl
  have f1 : w2.frozen? ⟨b, 1, none⟩ = false := Lib.frozen_of_heap hb2 1
  obtain ⟨ao, n', cap', rfl⟩ : ∃ ao n' cap', v' = .slice ao n' cap' := by
    rcases hown'.2 with ⟨hv, _⟩ | ⟨g, cap, cur, fz, hv, _⟩
    · exact ⟨_, _, _, hv⟩
    · exact ⟨_, _, _, hv⟩
  go_wp2
  go_ret2
  refine ⟨rfl, ?_, ?_, (hk1.grown hgrow (Lib.ownsRowF_kind hown)).setCell ⟨b, 1, none⟩ rfl _⟩
  · exact Lib.BuilderAtF.put (T := 81) (e := 5) hB hb2 (bs' := bs ++ news) (by rw [List.length_append, HNL.out]; exact hown') (by decide)
  · exact ((hb1.grown hgrow (by have := hb1.size; omega) (fun k hk => (hown.lt k hk).1)).setCell (p := ⟨b, 1, none⟩) hB _)
end Go.Proofs.YtdhkmdgieflioaaDoor.F
namespace Go.Proofs.YtdhkmdgieflioaaDoor.F
open Go.RowKit Go.Proofs.YtdhkmdgieflioaaDoorW.PrintWords Go.Proofs.YtdhkmdgieflioaaDoorW.PrintLast Go.Proofs.YtdhkmdgieflioaaDoorW.PrintMore
set_option linter.unusedVariables false
set_option linter.unusedSimpArgs false
theorem nat_bt (s : ByteArray) (i : Nat) (c : UInt8) (h : s.data.toList[i]? = some c) (hi : i < s.size) : s[i] = c := by
  have h1 : s.data.toList[i]? = some s[i] := by
    rw [Array.getElem?_toList, Array.getElem?_eq_getElem (show i < s.data.size from hi)]
    rfl
  rw [h1] at h
  exact Option.some.inj h
set_option maxHeartbeats 4000000 in
set_option maxRecDepth 100000 in
theorem hex_any (s : ByteArray) (w : World) (hs : s.size ≤ 100000) :
    Calls Tryd.prog 87 #[.string s] w fun e w' => e = .returned (.string ⟨(hexS s.data.toList).toArray⟩) ∧ Below w.heap.size w w' := by
  have hu81 := Tryd.underlying81
  have HS := Aside0.mk hs
  clear hs
  go_enter Tryd.func87, Tryd.ntmps87
  go_wp2
  go_loopw [7] (fun v7 wr => ∃ i : Nat, v7 = .int .i64 i ∧ Aside0 (i ≤ s.size) ∧ Aside0 (Lib.IsBuilderF 81 5 w.heap.size w.heap.size (Lib.byteCells (hexS (s.data.toList.take i))) wr) ∧ Aside0 (Below w.heap.size w wr))
    (fun v7 _ => s.size - (intOf v7).toNat)
  case atStart => exact ⟨0, rfl, ⟨Nat.zero_le _⟩, ⟨.inl ⟨Nat.le_refl _, .slice none 0 0, blk_new w _, ⟨rfl, .inl ⟨rfl, rfl⟩⟩, by simp [Value.ownBlock]⟩⟩, ⟨(Below.refl _ _).alloc (Nat.le_refl _) _⟩⟩
  case round =>
    obtain ⟨i, rfl, HI, HBd, HB⟩ := hrel
    have hss := HS.out
    have hdl : s.data.toList.length = s.size := rfl
    by_cases hlt : i < s.size
    · obtain ⟨c, hc⟩ : ∃ c, s.data.toList[i]? = some c := ⟨s.data.toList[i], List.getElem?_eq_getElem (by omega)⟩
      have hsi : ∀ h : i < s.size, s[i] = c := fun h => nat_bt s i c hc h
      have p4 := eq_true (show 0 ≤ (i : Int) by omega)
      have q4 := eq_true (show (i : Int) < (s.size : Int) by omega)
      have HST := Aside0.mk (show hexS (s.data.toList.take (i + 1)) = hexS (s.data.toList.take i) ++ [hx (c.toNat / 16), hx (c.toNat % 16)] by
        unfold hexS
        rw [List.take_add_one, hc, List.flatMap_append]
        simp)
      have HLN := Aside0.mk (show (hexS (s.data.toList.take i)).length ≤ 200000 by
        have : ∀ l : List UInt8, (hexS l).length = 2 * l.length := by
          intro l
          induction l with
          | nil => rfl
          | cons a l ih => show ([hx (a.toNat / 16), hx (a.toNat % 16)] ++ hexS l).length = _; rw [List.length_append, ih]; simp; omega
        rw [this, List.length_take]
        omega)
      have H2 := Aside0.mk (two_f c)
      clear hc hdl
      go_wp2_with (first
        | (go_at_call 107; refine (bld_Write_k w.heap.size w.heap.size g2 cp2 _ [.int .u8 ((hx (c.toNat / 16)).toNat : Int), .int .u8 ((hx (c.toNat % 16)).toNat : Int)] _ HBd2.out HG2.out HN2.out (by intro u hu; simp only [List.mem_cons, List.not_mem_nil, or_false] at hu; rcases hu with rfl | rfl <;> rfl) (by rw [Lib.byteCells_length]; have := HLN.out; simp only [List.length_cons, List.length_nil]; omega) (by simp) HB2.out.size).mono ?_; rintro e w3 ⟨rfl, hb3, hbl3, hok3⟩)
        | (go_at_call 108; refine (hex_two.calls (c.toNat : Int) _ _ H2.out).mono ?_; rintro e w2 ⟨v0, rfl, hv0, hb2⟩; obtain ⟨g2, cp2, rfl, hge, hlt2, cells, hcl⟩ := Kd.R_form hv0 (by simp); have HB2 := Aside0.mk (below_step HB.out hb2); have HBd2 := Aside0.mk (bld_below HBd.out hb2); have HG2 := Aside0.mk (show g2 ≠ w.heap.size by have h1 := (bld_blk HBd.out).2.1; omega); have HN2 := Aside0.mk (show ∀ j u, ([.int .u8 ((hx (c.toNat / 16)).toNat : Int), .int .u8 ((hx (c.toNat % 16)).toNat : Int)] : List Value)[j]? = some u → w2.cell? ((⟨g2, 0, none⟩ : Addr).add j) = some u by
            intro j u hj
            have hadd : (⟨g2, 0, none⟩ : Addr).add j = ⟨g2, j, none⟩ := by unfold Addr.add; split <;> simp_all
            rw [hadd]
            have hj2 : j < 2 := (List.getElem?_eq_some_iff.1 hj).1
            have h1 := (Kd.R_cell (enc := Value.int .u8) (h1 := fun _ => rfl) (0 : Int) hv0 (j : Int) (by omega) (by show (j : Int) < ((2 : Nat) : Int); omega)).1
            rw [Int.toNat_natCast] at h1
            rw [h1, ← hj]
            rcases (show j = 0 ∨ j = 1 by omega) with rfl | rfl <;> rfl); clear hv0 hb2 hge hlt2 hcl))
      go_roundw
      case rel =>
        refine ⟨i + 1, by go_num, ⟨by omega⟩, ⟨.inr ?_⟩, ⟨HB2.out.trans hbl3⟩⟩
        rw [HST.out, Lib.byteCells_append]
        exact hb3
      case measure => simp [intOf]; omega
    · have hk : i = s.size := by have := HI.out; omega
      subst hk
      have q4 := eq_false (show ¬ (s.size : Int) < (s.size : Int) by omega)
      rw [List.take_of_length_le (by rw [hdl]; exact Nat.le_refl _)] at HBd
      go_wp2_with (go_at_call 74; refine (Tryd.Builder_String_any_k w.heap.size w.heap.size _ _ HBd.out HB.out.size).mono ?_; rintro e w11 ⟨rfl, hb11, hbel11, hok11⟩)
      go_ret
      exact ⟨rfl, HB.out.trans hbel11⟩
end Go.Proofs.YtdhkmdgieflioaaDoor.F
namespace Go.Proofs.YtdhkmdgieflioaaDoor.F
open Go.RowKit Go.Proofs.YtdhkmdgieflioaaDoorW.PrintWords Go.Proofs.YtdhkmdgieflioaaDoorW.PrintLast Go.Proofs.YtdhkmdgieflioaaDoorW.PrintMore
set_option linter.unusedVariables false
set_option linter.unusedSimpArgs false
def lineS (four note : List UInt8) : List UInt8 := hexS four ++ [32, 32, 35, 32] ++ note ++ [10]
theorem hexS_len (l : List UInt8) : (hexS l).length = 2 * l.length := by
  induction l with
  | nil => rfl
  | cons a l ih => show ([hx (a.toNat / 16), hx (a.toNat % 16)] ++ hexS l).length = _; rw [List.length_append, ih]; simp; omega
theorem bld_set {B ob sb t : Nat} {bs : List Value} {cs : Array Value} {w : World} (h : Lib.IsBuilderF 81 5 B ob bs w) (hs : w.heap[sb]? = some (.cells cs t (0, 0))) (hne : sb ≠ ob) (ht : t ≠ 5) (v : Value) : Lib.IsBuilderF 81 5 B ob bs (w.setCell ⟨sb, 0, none⟩ v) := by
  have key : ∀ p, Lib.BuilderAtF 81 5 B ob p bs w → Lib.BuilderAtF 81 5 B ob p bs (w.setCell ⟨sb, 0, none⟩ v) := by
    rintro p ⟨hB, v1, hbk, hown, hn⟩
    refine ⟨hB, v1, (Below.heap_setCell w ⟨sb, 0, none⟩ v ob (fun e => hne e.symm)).trans hbk, ?_, hn⟩
    obtain ⟨h1, h2⟩ := hown
    refine ⟨h1, ?_⟩
    rcases h2 with h2 | ⟨g, cap, cur, fz, hv, hg, hh, r⟩
    · exact .inl h2
    · refine .inr ⟨g, cap, cur, fz, hv, hg, (Below.heap_setCell w ⟨sb, 0, none⟩ v g (fun e => ?_)).trans hh, r⟩
      have e' : g = sb := e
      subst e'
      rw [hs] at hh
      injection hh with hh
      injection hh with _ e2 _
      exact ht e2
  rcases h with h | h
  · exact .inl (key _ h)
  · exact .inr (key _ h)
theorem below_le3 {B : Nat} {w w' : World} (h : Below w.heap.size w w') (hB : B ≤ w.heap.size) : Below B w w' := ⟨h.os, h.tape, h.output, h.size, fun i hi => h.block i (Nat.lt_of_lt_of_le hi hB)⟩
set_option maxHeartbeats 4000000 in
set_option maxRecDepth 100000 in
theorem write_any (B ob sb : Nat) (L : List UInt8) (s note : ByteArray) (w : World) (h : Lib.IsBuilderF 81 5 B ob (Lib.byteCells L) w) (hs : w.heap[sb]? = some (.cells #[.string s] 9 (0, 0))) (h4 : 4 ≤ s.size) (hsz : s.size ≤ 1000) (hn : note.size ≤ 1000) (hL : L.length ≤ 1000000) (hBs : B ≤ sb) (hBw : B ≤ w.heap.size) :
    Calls Tryd.prog 86 #[.int .i64 4, .string note, .pointer (some ⟨ob, 0, none⟩), .pointer (some ⟨sb, 0, none⟩)] w fun e w' => e = .returned (.tuple #[]) ∧ Lib.IsBuilderF 81 5 B ob (Lib.byteCells (L ++ lineS (s.extract 0 4).data.toList note.data.toList)) w' ∧ w'.heap[sb]? = some (.cells #[.string (s.extract 4 s.size)] 9 (0, 0)) ∧ Below B w w' := by
  obtain ⟨hBo, hlo, cso, hco⟩ := bld_blk h
  have hne : sb ≠ ob := by
    intro e
    subst e
    rw [hs] at hco
    simp at hco
  have HH := Aside0.mk h
  have HSB := Aside0.mk hs
  have HNE := Aside0.mk hne
  have HBS := Aside0.mk hBs
  have HBW := Aside0.mk hBw
  have HL := Aside0.mk hL
  have hcz : w.cell? ⟨sb, 0, none⟩ = some (.string s) := (blk_cell hs 0).trans rfl
  have h4s : (s.extract 0 4).size = 4 := by rw [ByteArray.size_extract]; omega
  obtain ⟨hxs, hhx⟩ : ∃ x : ByteArray, x = ⟨(hexS (s.extract 0 4).data.toList).toArray⟩ := ⟨_, rfl⟩
  have hx8 : hxs.size = 8 := by
    rw [hhx]
    show (hexS (s.extract 0 4).data.toList).toArray.size = 8
    rw [List.size_toArray, hexS_len]
    have : (s.extract 0 4).data.toList.length = (s.extract 0 4).size := rfl
    omega
  have hq4 : (⟨#[32, 32, 35, 32]⟩ : ByteArray).size = 4 := rfl
  have hq1 : (⟨#[10]⟩ : ByteArray).size = 1 := rfl
  have g1 : (hxs ++ (⟨#[32, 32, 35, 32]⟩ : ByteArray)).size = 12 := by rw [ByteArray.size_append, hx8]; rfl
  have g2 : ((hxs ++ (⟨#[32, 32, 35, 32]⟩ : ByteArray)) ++ note).size ≤ 1012 := by rw [ByteArray.size_append]; omega
  have HLINE := Aside0.mk (show ((((hxs ++ (⟨#[32, 32, 35, 32]⟩ : ByteArray)) ++ note) ++ (⟨#[10]⟩ : ByteArray))).data.toList = lineS (s.extract 0 4).data.toList note.data.toList by
    rw [baL, baL, baL, hhx]; rfl)
  have HLS := Aside0.mk (show ((((hxs ++ (⟨#[32, 32, 35, 32]⟩ : ByteArray)) ++ note) ++ (⟨#[10]⟩ : ByteArray))).size ≤ 1013 by rw [ByteArray.size_append, hq1]; omega)
  have HHX := Aside0.mk hhx.symm
  have q1 := eq_true (show (4 : Int) ≤ (s.size : Int) by omega)
  have q2 := eq_true (show 4 ≤ s.size by omega)
  clear h hs hne hBs hBw hhx hL hco hlo hBo
  go_enter Tryd.func86, Tryd.ntmps86
  go_wp2_with (first
    | (go_at_call 70; refine (bld_WriteString_k B ob _ _ _ HB2d.out (by rw [Lib.byteCells_length]; have := HL.out; have := HLS.out; omega) HW2.out).mono ?_; rintro e w3 ⟨rfl, hb3, hbl3, hok3⟩; have BX3 := Aside0.mk ((hok3 sb _ BX2.out (by intro e; exact HNE.out (Option.some.inj e)) (by rintro c fz ⟨⟩))); have HB3 := Aside0.mk hb3; have HBL3 := Aside0.mk (HBL2.out.trans hbl3); clear hb3 hbl3 hok3 hcz; have hcz : w3.cell? ⟨sb, 0, none⟩ = some (.string s) := (blk_cell BX3.out 0).trans rfl; have hfz := blk_frozen BX3.out 0)
    | (go_at_call 87; refine (hex_any (s.extract 0 4) _ (by omega)).mono ?_; rintro e w2 ⟨rfl, hb2⟩; rw [HHX.out]; have HBL2 := Aside0.mk (below_le3 hb2 HBW.out); have HB2d := Aside0.mk (bld_below HH.out hb2); have BX2 := Aside0.mk (blk_below HSB.out hb2); have HW2 := Aside0.mk (Nat.le_trans HBW.out hb2.size); clear hb2))
  go_end0
  refine ⟨rfl, ?_, ?_, ?_⟩
  · refine bld_set ?_ BX3.out HNE.out (by decide) _
    rw [Lib.byteCells_append, ← HLINE.out, ← Lib.strCells_eq]
    exact .inr HB3.out
  · exact blk_put (cs := #[.string s]) BX3.out 0 _ rfl
  · exact HBL3.out.setCell (p := ⟨sb, 0, none⟩) HBS.out _
end Go.Proofs.YtdhkmdgieflioaaDoor.F
namespace Go.Proofs.YtdhkmdgieflioaaDoor.F
open Go.RowKit Go.Proofs.YtdhkmdgieflioaaDoorW.PrintWords Go.Proofs.YtdhkmdgieflioaaDoorW.PrintLast Go.Proofs.YtdhkmdgieflioaaDoorW.PrintMore
set_option linter.unusedVariables false
set_option linter.unusedSimpArgs false
open SeedSim
theorem wrapS {x : Int} (h0 : -9223372036854775808 ≤ x) (h1 : x ≤ 9223372036854775807) : wrap64 x = x := by unfold wrap64; omega
theorem digit_j1 (k : Nat) (c : Int) (h0 : 0 ≤ c) (h1 : c ≤ 255) (hc : ¬ (48 ≤ c ∧ c ≤ 57)) (b : Bool) (hb : b = decide (97 ≤ c ∧ c ≤ 102)) : seedcornref02_Digit.j1 (k + 1) c b = some (digit c) := by
  subst hb
  simp only [seedcornref02_Digit.j1]
  unfold digit
  rw [if_neg hc]
  by_cases h : 97 ≤ c ∧ c ≤ 102
  · rw [if_pos (decide_eq_true h), if_pos h, wrapS (x := c) (by omega) (by omega), wrapS (x := c - 97) (by omega) (by omega), wrapS (by omega) (by omega)]
  · rw [if_neg (by simpa using h), if_neg h]
    by_cases h2 : c ≥ 65
    · rw [if_pos h2]
      by_cases h3 : c ≤ 70
      · rw [if_pos h3, if_pos ⟨h2, h3⟩, wrapS (x := c) (by omega) (by omega), wrapS (x := c - 65) (by omega) (by omega), wrapS (by omega) (by omega)]
      · rw [if_neg h3, if_neg (by omega)]
    · rw [if_neg h2, if_neg (by omega)]
theorem digit_ev (c : Int) (h0 : 0 ≤ c) (h1 : c ≤ 255) : Ev (fun k => seedcornref02_Digit.f k c) (digit c) := by
  refine ⟨2, fun n hn => ?_⟩
  obtain ⟨k, rfl⟩ : ∃ k, n = k + 2 := ⟨n - 2, by omega⟩
  show seedcornref02_Digit.f (k + 1 + 1) c = _
  have hj0 : ∀ b : Bool, b = decide (48 ≤ c ∧ c ≤ 57) → seedcornref02_Digit.j0 (k + 1 + 1) c b = some (digit c) := by
    intro b hb
    subst hb
    simp only [seedcornref02_Digit.j0]
    by_cases h : 48 ≤ c ∧ c ≤ 57
    · rw [if_pos (decide_eq_true h), wrapS (x := c) (by omega) (by omega), wrapS (by omega) (by omega)]
      unfold digit
      rw [if_pos h]
    · rw [if_neg (by simpa using h)]
      by_cases h2 : c ≥ 97
      · rw [if_pos h2]
        exact digit_j1 k c h0 h1 h _ (by by_cases h3 : c ≤ 102 <;> simp [h2, h3])
      · rw [if_neg h2]
        exact digit_j1 k c h0 h1 h _ (by simp [h2])
  unfold seedcornref02_Digit.f
  by_cases h : c ≥ 48
  · rw [if_pos h]
    exact hj0 _ (by by_cases h3 : c ≤ 57 <;> simp [h, h3])
  · rw [if_neg h]
    exact hj0 _ (by simp [h])
theorem bt_inp (t : ByteArray) (i : Nat) (h : i < t.size) (h' : i < (inpL t).length) : (inpL t)[i]'h' = bt t (i : Int) := by
  have h2 : (inpL t)[i]'h' = (t[i].toNat : Int) := by simp [inpL]; rfl
  unfold bt
  rw [dif_pos (by simpa using h)]
  exact h2
theorem digit_range (c : Int) : -1 ≤ digit c ∧ digit c ≤ 15 := by unfold digit; split <;> (try split) <;> (try split) <;> omega
theorem load_ev (t : ByteArray) (d : Nat) : ∀ (i : Nat) (xs : List Int) (note : Bool) (high : Int), i + d = t.size → t.size < 1000000000 → -1 ≤ high → high ≤ 15 → xs.length ≤ i →
    Ev (fun k => seedcornref02_Load.l0 k t xs note high (i : Int)) (strOfNums (loads ⟨note, high, xs⟩ ((inpL t).drop i)).out) := by
  induction d with
  | zero =>
    intro i xs note high hi hs h0 h1 hx
    have hl : (inpL t).length = t.size := inpL_len t
    rw [List.drop_eq_nil_of_le (by omega)]
    refine Ev.step (f := fun _ => some (strOfNums xs)) (fun k => ?_) (Ev.now _)
    simp only [seedcornref02_Load.l0]
    rw [if_neg (by omega)]
  | succ d ih =>
    intro i xs note high hi hs h0 h1 hx
    have hlt : i < t.size := by omega
    have hl : (inpL t).length = t.size := inpL_len t
    rw [List.drop_eq_getElem_cons (by omega), bt_inp t i hlt]
    have hb := bt_range t (i : Int)
    generalize hc : bt t (i : Int) = c at hb
    have hwi : wrap64 ((i : Int) + 1) = ((i + 1 : Nat) : Int) := by rw [wrapS (by omega) (by omega)]; omega
    obtain ⟨n1, hn1⟩ : ∃ n1 : Bool, n1 = (if c = 35 then true else note) := ⟨_, rfl⟩
    obtain ⟨n2, hn2⟩ : ∃ n2 : Bool, n2 = (if c = 10 then false else n1) := ⟨_, rfl⟩
    have hn3 : (if c = 10 then false else if c = 35 then true else note) = n2 := by rw [hn2, hn1]
    refine Ev.step (f := fun k => seedcornref02_Load.j1 k t xs n1 high (i : Int)) (fun k => ?_) ?_
    · simp only [seedcornref02_Load.l0]
      rw [if_pos (by omega), if_pos (by omega), hc, hn1]
      split <;> rfl
    refine Ev.step (f := fun k => seedcornref02_Load.j2 k t xs n2 high (i : Int)) (fun k => ?_) ?_
    · simp only [seedcornref02_Load.j1]
      rw [if_pos (by omega), if_pos (by omega), hc, hn2]
      split <;> rfl
    refine Ev.step (f := fun k => (seedcornref02_Digit.f k c).bind fun t101 => (if n2 = true then (seedcornref02_Load.j3 k t xs n2 high i t101 true) else (seedcornref02_Load.j3 k t xs n2 high i t101 (decide (t101 < 0))))) (fun k => ?_) ?_
    · simp only [seedcornref02_Load.j2]
      rw [if_pos (by omega), if_pos (by omega), hc]
    refine Ev.bind (digit_ev c hb.1 hb.2) ?_
    have hd := digit_range c
    have hstep : loads ⟨note, high, xs⟩ (c :: (inpL t).drop (i + 1)) = loads (lstep ⟨note, high, xs⟩ c) ((inpL t).drop (i + 1)) := rfl
    rw [hstep]
    by_cases hskip : n2 = true ∨ digit c < 0
    · have hls : lstep ⟨note, high, xs⟩ c = ⟨n2, high, xs⟩ := by
        unfold lstep
        simp only [hn3]
        rw [if_pos hskip]
      rw [hls]
      have hj : ∀ k, seedcornref02_Load.j3 (k + 1) t xs n2 high (i : Int) (digit c) true = seedcornref02_Load.l0 k t xs n2 high ((i + 1 : Nat) : Int) := by
        intro k
        simp only [seedcornref02_Load.j3, if_true, hwi]
      have := ih (i + 1) xs n2 high (by omega) hs h0 h1 (by omega)
      rcases hskip with h | h
      · subst h
        refine Ev.congr (f := fun k => seedcornref02_Load.j3 k t xs true high i (digit c) true) (fun k => by rw [if_pos rfl]) ?_
        exact Ev.step hj this
      · refine Ev.congr (f := fun k => seedcornref02_Load.j3 k t xs n2 high i (digit c) true) (fun k => by rw [decide_eq_true h]; split <;> rfl) ?_
        exact Ev.step hj this
    · have hn : n2 = false := by cases hq : n2 with
        | true => exact absurd (.inl hq) hskip
        | false => rfl
      have hge : ¬ digit c < 0 := fun h => hskip (.inr h)
      subst hn
      refine Ev.congr (f := fun k => seedcornref02_Load.j3 k t xs false high i (digit c) false) (fun k => by rw [if_neg (by decide), decide_eq_false hge]) ?_
      by_cases hh : high < 0
      · have hls : lstep ⟨note, high, xs⟩ c = ⟨false, digit c, xs⟩ := by
          unfold lstep
          simp only [hn3]
          rw [if_neg hskip, if_pos hh]
        rw [hls]
        refine Ev.step (fun k => ?_) (ih (i + 1) xs false (digit c) (by omega) hs (by omega) (by omega) (by omega))
        simp only [seedcornref02_Load.j3]
        rw [if_neg (by decide), if_pos hh, hwi]
      · have hls : lstep ⟨note, high, xs⟩ c = ⟨false, -1, xs ++ [16 * high + digit c]⟩ := by
          unfold lstep
          simp only [hn3]
          rw [if_neg hskip, if_neg hh]
        rw [hls]
        refine Ev.step (fun k => ?_) (ih (i + 1) (xs ++ [16 * high + digit c]) false (-1) (by omega) hs (by omega) (by omega) (by rw [List.length_append]; simp; omega))
        simp only [seedcornref02_Load.j3]
        rw [if_neg (by decide), if_neg hh, if_pos (by omega), hwi, wrapS (x := 16 * high) (by omega) (by omega), wrapS (by omega) (by omega)]
        rw [show (16 * high + digit c) % 256 = 16 * high + digit c by omega]
def loadOf (t : ByteArray) : ByteArray := strOfNums (loads ⟨false, -1, []⟩ (inpL t)).out
theorem load_f (t : ByteArray) (hs : t.size < 1000000000) : Ev (fun k => seedcornref02_Load.f k t) (loadOf t) := by
  have := load_ev t t.size 0 [] false (-1) (by omega) hs (by omega) (by omega) (by simp)
  exact this
def seedImg : ByteArray := ⟨#[83, 69, 69, 68, 37, 0, 0, 0, 0, 0, 0, 0, 16, 0, 160, 1, 10, 0, 176, 1, 0, 0, 16, 23, 0, 1, 32, 1, 2, 0, 81, 15, 36, 0, 80, 20, 35, 0, 32, 1, 2, 0, 81, 15, 29, 0, 80, 20, 48, 0, 32, 1, 2, 0, 97, 5, 11, 0, 86, 14, 21, 0, 80, 20, 32, 0, 32, 1, 2, 0, 97, 10, 97, 0, 32, 1, 2, 0, 102, 5, 6, 0, 32, 1, 2, 0, 86, 14, 2, 0, 80, 19, 11, 0, 102, 4, 25, 0, 64, 20, 10, 0, 54, 6, 1, 0, 64, 1, 2, 0, 0, 18, 6, 0, 51, 4, 0, 0, 48, 24, 0, 0, 64, 1, 2, 0, 0, 18, 0, 0, 16, 23, 0, 1, 32, 1, 2, 0, 81, 15, 36, 0, 80, 20, 11, 0, 81, 15, 29, 0, 80, 19, 2, 0, 0, 18, 0, 0, 0, 26]⟩
theorem image_60 : seed_Image.f 60 = some seedImg := by kernel_rfl
theorem image_ev : Ev (fun k => seed_Image.f k) seedImg := Ev.of seed_Image.mono image_60
theorem read_60 : seedcornref08_Read.f 60 seedImg = some (seedWords, 0, 0) := by kernel_rfl
theorem read_ev : Ev (fun k => seedcornref08_Read.f k seedImg) (seedWords, 0, 0) := Ev.of (seedcornref08_Read.mono seedImg) read_60
theorem run_f (t : ByteArray) (hs : t.size < 20000) : ∃ st, seedcornref10_Run.f seedWords 0 t (40 * ((t.size : Int) + 1)) = some (1, loadOf t, st) := by
  have h := seed_loads (inpL t) (inpL_byte t) (40 * (t.size + 1)) (by rw [inpL_len]; exact Nat.le_refl _)
  have ho := loads_out (inpL t) ⟨false, -1, []⟩
  rw [inpL_len] at ho
  have hf : (40 * ((t.size : Int) + 1)).toNat = 40 * (t.size + 1) := by omega
  refine ⟨((SeedSim.run (inpL t) (40 * (t.size + 1)) init).steps : Int), ?_⟩
  unfold seedcornref10_Run.f
  rw [hf, if_pos ⟨rfl, rfl, by omega, by omega, by omega, by rw [h.2]; simp at ho; omega⟩]
  unfold runEnd loadOf
  rw [h.1, h.2]
  rfl
theorem bytes_run (t : ByteArray) (hs : t.size < 20000) : ∃ st, Ev (fun k => seedcornref10_Bytes.f k seedImg t (40 * ((t.size : Int) + 1))) (1, loadOf t, st, 0) := by
  obtain ⟨st, h⟩ := run_f t hs
  refine ⟨st, ?_⟩
  unfold seedcornref10_Bytes.f
  refine Ev.bind read_ev ?_
  simp only [if_true]
  rw [h]
  exact Ev.now _
theorem steps_f (n : Int) (h0 : 0 ≤ n) (h1 : n < 20000) : seedcornref50_Steps.f n = some (40 * (n + 1)) := by
  unfold seedcornref50_Steps.f
  rw [wrapS (x := n + 1) (by omega) (by omega), wrapS (by omega) (by omega)]
theorem loads_f (t : ByteArray) (hs : t.size < 20000) : Ev (fun k => seedcornref50_Loads.f k seedImg t) true := by
  obtain ⟨st, h⟩ := bytes_run t hs
  unfold seedcornref50_Loads.f
  rw [steps_f _ (by omega) (by omega)]
  refine Ev.bind (a := 40 * ((t.size : Int) + 1)) (Ev.now _) ?_
  refine Ev.bind h ?_
  refine Ev.congr (f := fun k => (seedcornref02_Load.f k t).bind fun t154 => (some ((loadOf t).toList == t154.toList))) (fun k => rfl) ?_
  refine Ev.bind (load_f t (by omega)) ?_
  rw [show ((loadOf t).toList == (loadOf t).toList) = true from beq_self_eq_true _]
  exact Ev.now _
set_option maxRecDepth 100000 in
theorem awake_f : Ev (fun k => seedcornlaw50_awake.f k) true := by
  unfold seedcornlaw50_awake.f
  refine Ev.bind image_ev ?_
  refine Ev.congr (f := fun k => (seed_Image.f k).bind fun t184 => ((seedcornref50_Loads.f k t184 (⟨#[53, 51, 32, 52, 53, 32, 35, 32, 57, 57]⟩ : ByteArray)).bind fun t185 => (some t185))) (fun k => by rw [if_pos (by decide +kernel)]) ?_
  refine Ev.bind image_ev ?_
  refine Ev.bind (loads_f _ (by decide)) ?_
  exact Ev.now _
end Go.Proofs.YtdhkmdgieflioaaDoor.F
namespace Go.Proofs.YtdhkmdgieflioaaDoor.F
open Go.RowKit Go.Proofs.YtdhkmdgieflioaaDoorW.PrintWords Go.Proofs.YtdhkmdgieflioaaDoorW.PrintLast Go.Proofs.YtdhkmdgieflioaaDoorW.PrintMore
set_option linter.unusedVariables false
set_option linter.unusedSimpArgs false
def opK (k : Nat) : Int := (codeRows.getD k ([], [])).1.getD 0 0
def raK (k : Nat) : Int := (codeRows.getD k ([], [])).1.getD 1 0
def rbK (k : Nat) : Int := (codeRows.getD k ([], [])).1.getD 2 0
def rcK (k : Nat) : Int := (codeRows.getD k ([], [])).1.getD 3 0
def ntK (k : Nat) : ByteArray := ⟨((codeRows.getD k ([], [])).2).toArray⟩
theorem code_ix (k : Nat) (hk : k < 37) : ∀ W, (Instr.index 102 (.agg codeCells) (.int .i64 (k : Int))).run Tryd.prog W = .ok (.agg #[.int .i64 (opK k), .int .i64 (raK k), .int .i64 (rbK k), .int .i64 (rcK k), .string (ntK k)]) W := by
  have hc : k = 0 ∨ k = 1 ∨ k = 2 ∨ k = 3 ∨ k = 4 ∨ k = 5 ∨ k = 6 ∨ k = 7 ∨ k = 8 ∨ k = 9 ∨ k = 10 ∨ k = 11 ∨ k = 12 ∨ k = 13 ∨ k = 14 ∨ k = 15 ∨ k = 16 ∨ k = 17 ∨ k = 18 ∨ k = 19 ∨ k = 20 ∨ k = 21 ∨ k = 22 ∨ k = 23 ∨ k = 24 ∨ k = 25 ∨ k = 26 ∨ k = 27 ∨ k = 28 ∨ k = 29 ∨ k = 30 ∨ k = 31 ∨ k = 32 ∨ k = 33 ∨ k = 34 ∨ k = 35 ∨ k = 36 := by omega
  rcases hc with rfl | rfl | rfl | rfl | rfl | rfl | rfl | rfl | rfl | rfl | rfl | rfl | rfl | rfl | rfl | rfl | rfl | rfl | rfl | rfl | rfl | rfl | rfl | rfl | rfl | rfl | rfl | rfl | rfl | rfl | rfl | rfl | rfl | rfl | rfl | rfl | rfl
  · exact fun W => (code_0.2.2 W).trans (by rfl)
  · exact fun W => (code_1.2.2 W).trans (by rfl)
  · exact fun W => (code_2.2.2 W).trans (by rfl)
  · exact fun W => (code_3.2.2 W).trans (by rfl)
  · exact fun W => (code_4.2.2 W).trans (by rfl)
  · exact fun W => (code_5.2.2 W).trans (by rfl)
  · exact fun W => (code_6.2.2 W).trans (by rfl)
  · exact fun W => (code_7.2.2 W).trans (by rfl)
  · exact fun W => (code_8.2.2 W).trans (by rfl)
  · exact fun W => (code_9.2.2 W).trans (by rfl)
  · exact fun W => (code_10.2.2 W).trans (by rfl)
  · exact fun W => (code_11.2.2 W).trans (by rfl)
  · exact fun W => (code_12.2.2 W).trans (by rfl)
  · exact fun W => (code_13.2.2 W).trans (by rfl)
  · exact fun W => (code_14.2.2 W).trans (by rfl)
  · exact fun W => (code_15.2.2 W).trans (by rfl)
  · exact fun W => (code_16.2.2 W).trans (by rfl)
  · exact fun W => (code_17.2.2 W).trans (by rfl)
  · exact fun W => (code_18.2.2 W).trans (by rfl)
  · exact fun W => (code_19.2.2 W).trans (by rfl)
  · exact fun W => (code_20.2.2 W).trans (by rfl)
  · exact fun W => (code_21.2.2 W).trans (by rfl)
  · exact fun W => (code_22.2.2 W).trans (by rfl)
  · exact fun W => (code_23.2.2 W).trans (by rfl)
  · exact fun W => (code_24.2.2 W).trans (by rfl)
  · exact fun W => (code_25.2.2 W).trans (by rfl)
  · exact fun W => (code_26.2.2 W).trans (by rfl)
  · exact fun W => (code_27.2.2 W).trans (by rfl)
  · exact fun W => (code_28.2.2 W).trans (by rfl)
  · exact fun W => (code_29.2.2 W).trans (by rfl)
  · exact fun W => (code_30.2.2 W).trans (by rfl)
  · exact fun W => (code_31.2.2 W).trans (by rfl)
  · exact fun W => (code_32.2.2 W).trans (by rfl)
  · exact fun W => (code_33.2.2 W).trans (by rfl)
  · exact fun W => (code_34.2.2 W).trans (by rfl)
  · exact fun W => (code_35.2.2 W).trans (by rfl)
  · exact fun W => (code_36.2.2 W).trans (by rfl)
def noteK (k : Nat) : List UInt8 := (textOf (opK k) (raK k) (rbK k) (rcK k)).data.toList ++ (if (ntK k).size = 0 then [] else [58, 32] ++ (ntK k).data.toList)
def rowOk (k : Nat) : Bool := rightB (opK k) (raK k) (rbK k) (rcK k) && decide ((nameOf (opK k)).size ≤ 5) && decide ((partsOf (opK k)).size ≤ 3) && decide ((ntK k).size ≤ 30) && (ntK k).data.toList.all (fun c => c != 10) && decide (0 ≤ raK k ∧ raK k ≤ 65535 ∧ 0 ≤ rbK k ∧ rbK k ≤ 65535 ∧ 0 ≤ rcK k ∧ rcK k ≤ 65535 ∧ 1 ≤ opK k ∧ opK k < 28)
set_option maxRecDepth 100000 in
theorem rows_ok : ((List.range 37).all rowOk) = true := by kernel_rfl
theorem row_facts (k : Nat) (hk : k < 37) : rightB (opK k) (raK k) (rbK k) (rcK k) = true ∧ (nameOf (opK k)).size ≤ 5 ∧ (partsOf (opK k)).size ≤ 3 ∧ (ntK k).size ≤ 30 ∧ (∀ c ∈ (ntK k).data.toList, c ≠ 10) ∧ (0 ≤ raK k ∧ raK k ≤ 65535 ∧ 0 ≤ rbK k ∧ rbK k ≤ 65535 ∧ 0 ≤ rcK k ∧ rcK k ≤ 65535 ∧ 1 ≤ opK k ∧ opK k < 28) := by
  have h := List.all_eq_true.1 rows_ok k (List.mem_range.2 hk)
  unfold rowOk at h
  simp only [Bool.and_eq_true, decide_eq_true_eq, List.all_eq_true, bne_iff_ne] at h
  obtain ⟨⟨⟨⟨⟨h1, h2⟩, h3⟩, h4⟩, h5⟩, h6⟩ := h
  exact ⟨h1, h2, h3, h4, h5, h6⟩
theorem text_small (k : Nat) (hk : k < 37) : (textOf (opK k) (raK k) (rbK k) (rcK k)).size ≤ 80 := by
  obtain ⟨hr, h2, h3, _, _, ha1, ha2, hb1, hb2, hc1, hc2, _, _⟩ := row_facts k hk
  unfold textOf
  rw [hr, if_neg (by decide)]
  split
  · omega
  · rw [ByteArray.size_append, ByteArray.size_append]
    have h0 : (⟨#[32]⟩ : ByteArray).size = 1 := rfl
    have hil : (itemsOf (opK k) (raK k) (rbK k) (rcK k)).length ≤ 3 := by
      unfold itemsOf
      rw [List.length_map]
      exact Nat.le_trans (Nat.le_refl _) h3
    have his : ∀ x ∈ itemsOf (opK k) (raK k) (rbK k) (rcK k), x.size ≤ 22 := by
      intro x hx
      obtain ⟨ch, _, rfl⟩ := List.mem_map.1 hx
      exact item_size _ _ _ ch ⟨ha1, ha2⟩ ⟨hb1, hb2⟩ ⟨hc1, hc2⟩
    generalize itemsOf (opK k) (raK k) (rbK k) (rcK k) = its at hil his
    have hj : (⟨(Lib.join (its.map (·.data.toList)) [44, 32]).toArray⟩ : ByteArray).size = (Lib.join (its.map (·.data.toList)) [44, 32]).length := by simp [ByteArray.size]
    have hb : (Lib.join (its.map (·.data.toList)) [44, 32]).length ≤ 72 := by
      cases its with
      | nil => simp [Lib.join]
      | cons x r =>
        have h1 := lens_small (x :: r) his
        rw [List.map_cons] at h1 ⊢
        rw [Lib.join_length]
        simp only [List.length_cons, List.length_map, List.length_nil] at *
        omega
    omega
theorem note_len (k : Nat) (hk : k < 37) : (noteK k).length ≤ 112 := by
  have h1 := text_small k hk
  obtain ⟨_, _, _, h4, _⟩ := row_facts k hk
  have e1 : (textOf (opK k) (raK k) (rbK k) (rcK k)).data.toList.length = (textOf (opK k) (raK k) (rbK k) (rcK k)).size := rfl
  have e2 : (ntK k).data.toList.length = (ntK k).size := rfl
  unfold noteK
  split
  · simp only [List.append_nil]; omega
  · simp only [List.length_append, List.length_cons, List.length_nil]; omega
def four (m : Nat) : List UInt8 := (seedImg.extract (4 * m) (4 * m + 4)).data.toList
def headT : List UInt8 := lineS (four 0) [83, 69, 69, 68] ++ lineS (four 1) [104, 111, 119, 32, 109, 97, 110, 121, 32, 119, 111, 114, 100, 115, 32, 111, 102, 32, 99, 111, 100, 101] ++ lineS (four 2) [110, 111, 32, 109, 101, 109, 111, 114, 121]
def bodyT (k : Nat) : List UInt8 := (List.range k).flatMap fun j => lineS (four (3 + j)) (noteK j)
theorem bodyT_step (k : Nat) : bodyT (k + 1) = bodyT k ++ lineS (four (3 + k)) (noteK k) := by
  unfold bodyT
  rw [List.range_succ, List.flatMap_append]
  simp
theorem img_size : seedImg.size = 160 := by kernel_rfl
theorem rem_four (m : Nat) (h : 4 * m + 4 ≤ 160) : (seedImg.extract (4 * m) 160).extract 0 4 = seedImg.extract (4 * m) (4 * m + 4) := by
  have hs := img_size
  generalize seedImg = im at hs
  rw [ByteArray.extract_extract]
  congr 1
  omega
theorem rem_next (m : Nat) (h : 4 * m + 4 ≤ 160) : (seedImg.extract (4 * m) 160).extract 4 (seedImg.extract (4 * m) 160).size = seedImg.extract (4 * (m + 1)) 160 := by
  have hs := img_size
  generalize seedImg = im at hs
  rw [ByteArray.extract_extract, ByteArray.size_extract, hs]
  congr 1
  omega
theorem rem_size (m : Nat) (h : 4 * m ≤ 160) : (seedImg.extract (4 * m) 160).size = 160 - 4 * m := by rw [ByteArray.size_extract, img_size]; omega
theorem line_len2 (a b : List UInt8) : (lineS a b).length = 2 * a.length + b.length + 5 := by unfold lineS; simp [hexS_len]; omega
theorem four_len (m : Nat) : (four m).length ≤ 4 := by
  unfold four
  show (seedImg.extract (4 * m) (4 * m + 4)).size ≤ 4
  rw [ByteArray.size_extract]
  omega
theorem body_lenT : ∀ k : Nat, k ≤ 37 → (bodyT k).length ≤ 125 * k
  | 0, _ => by simp [bodyT]
  | k + 1, h => by
    have h1 := body_lenT k (by omega)
    have h2 := note_len k (by omega)
    have h3 := four_len (3 + k)
    rw [bodyT_step, List.length_append, line_len2]
    omega
theorem headT_len : headT.length ≤ 100 := by
  have h0 := four_len 0
  have h1 := four_len 1
  have h2 := four_len 2
  unfold headT
  rw [List.length_append, List.length_append, line_len2, line_len2, line_len2]
  simp only [List.length_cons, List.length_nil]
  omega
def seedT : List UInt8 := headT ++ bodyT 37
def seed_Text.f : Option ByteArray := some ⟨seedT.toArray⟩
end Go.Proofs.YtdhkmdgieflioaaDoor.F
namespace Go.Proofs.YtdhkmdgieflioaaDoor.F
open Go.RowKit Go.Proofs.YtdhkmdgieflioaaDoorW.PrintWords Go.Proofs.YtdhkmdgieflioaaDoorW.PrintLast Go.Proofs.YtdhkmdgieflioaaDoorW.PrintMore
set_option linter.unusedVariables false
set_option linter.unusedSimpArgs false
theorem img_rem1 : seedImg.extract 4 seedImg.size = seedImg.extract (4 * 1) 160 := by rw [img_size]
theorem bld_new (w1 : World) (B : Nat) (s : ByteArray) (h : B ≤ w1.heap.size) : Lib.IsBuilderF 81 5 B (w1.heap.size + 1) (Lib.byteCells []) ((w1.alloc (.cells #[.string s] 9)).alloc (.cells #[.pointer none, .slice none 0 0] 81)) :=
  .inl ⟨by omega, .slice none 0 0, heap_alloc2_new _ _ _, ⟨rfl, .inl ⟨rfl, rfl⟩⟩, by simp [Value.ownBlock]⟩
theorem l0_len : (lineS (four 0) [83, 69, 69, 68]).length ≤ 200 := by have := four_len 0; rw [line_len2]; simp only [List.length_cons, List.length_nil]; omega
theorem l1_len : (lineS (four 0) [83, 69, 69, 68] ++ lineS (four 1) [104, 111, 119, 32, 109, 97, 110, 121, 32, 119, 111, 114, 100, 115, 32, 111, 102, 32, 99, 111, 100, 101]).length ≤ 400 := by have := four_len 0; have := four_len 1; rw [List.length_append, line_len2, line_len2]; simp only [List.length_cons, List.length_nil]; omega
set_option maxHeartbeats 4000000 in
set_option maxRecDepth 100000 in
theorem seed_text_any (w : World) (hGC : GC w) (hGK : GK w) (hGT : GT w) :
    Calls Tryd.prog 53 #[] w fun e w' => e = .returned (.string ⟨seedT.toArray⟩) ∧ Below w.heap.size w w' := by
  have hmf : ∀ (fn : Fn) (first cap : Array Value) (w : World), (Instr.makeFunc fn first cap).run Tryd.prog w = .ok (.func fn first cap) w := fun _ _ _ _ => rfl
  have hu46 := Tryd.underlying46
  have hu101 := Tryd.underlying101
  have hu81 := Tryd.underlying81
  have HC := Aside0.mk hGC
  have HK := Aside0.mk hGK
  have HT := Aside0.mk hGT
  have hsz : (Tryd.prog.info? 102).map (·.size) = some codeCells.size := by kernel_rfl
  have hld := code_load
  have hat := code_ix
  generalize codeCells = CV at hsz hld hat
  have HS := Aside0.mk hsz
  have HLD := Aside0.mk hld
  have HAT := Aside0.mk hat
  clear hGC hGK hGT hsz hld hat
  go_enter Tryd.func53, Tryd.ntmps53
  go_wp2_with (first
    | ((with_reducible refine gate_dst (N := 15) rfl ?_); obtain ⟨tg, fr, hg⟩ := HLD.out w4 (HC.out.below HBw4.out); refine wpList_load_row rfl 102 _ rfl 1 rfl tg CV fr _ hg Tryd.underlying102 rfl HS.out ?_; clear hg)
    | (go_at_call 86; refine (write_any w.heap.size (w1.heap.size + 1) w1.heap.size (lineS (four 0) [83, 69, 69, 68] ++ lineS (four 1) [104, 111, 119, 32, 109, 97, 110, 121, 32, 119, 111, 114, 100, 115, 32, 111, 102, 32, 99, 111, 100, 101]) (seedImg.extract (4 * (2)) 160) ⟨#[110, 111, 32, 109, 101, 109, 111, 114, 121]⟩ _ BLw3.out BSw3.out (by rw [rem_size _ (by omega)]; omega) (by rw [rem_size _ (by omega)]; omega) (by decide) (Nat.le_trans l1_len (by decide)) HB1.out.size HBw3.out.size).mono ?_; rintro e w4 ⟨rfl, hb_, hs_, hl_⟩; rw [rem_four _ (by omega)] at hb_; rw [rem_next _ (by omega)] at hs_; have BLw4 := Aside0.mk hb_; have BSw4 := Aside0.mk hs_; have HBw4 := Aside0.mk (Below.trans HBw3.out hl_); clear hb_ hs_ hl_)
    | (go_at_call 86; refine (write_any w.heap.size (w1.heap.size + 1) w1.heap.size (lineS (four 0) [83, 69, 69, 68]) (seedImg.extract (4 * (1)) 160) ⟨#[104, 111, 119, 32, 109, 97, 110, 121, 32, 119, 111, 114, 100, 115, 32, 111, 102, 32, 99, 111, 100, 101]⟩ _ BLw2.out BSw2.out (by rw [rem_size _ (by omega)]; omega) (by rw [rem_size _ (by omega)]; omega) (by decide) (Nat.le_trans l0_len (by decide)) HB1.out.size HBw2.out.size).mono ?_; rintro e w3 ⟨rfl, hb_, hs_, hl_⟩; rw [rem_four _ (by omega)] at hb_; rw [rem_next _ (by omega)] at hs_; have BLw3 := Aside0.mk hb_; have BSw3 := Aside0.mk hs_; have HBw3 := Aside0.mk (Below.trans HBw2.out hl_); clear hb_ hs_ hl_)
    | (go_at_call 86; refine (write_any w.heap.size (w1.heap.size + 1) w1.heap.size [] seedImg ⟨#[83, 69, 69, 68]⟩ _ (bld_new w1 w.heap.size seedImg HB1.out.size) (heap_alloc2_old _ _ _) (by rw [img_size]; decide) (by rw [img_size]; decide) (by decide) (by decide) HB1.out.size (by have := HB1.out.size; simp; omega)).mono ?_; rintro e w2 ⟨rfl, hb_, hs_, hl_⟩; rw [img_rem1] at hs_; have BLw2 := Aside0.mk (show Lib.IsBuilderF 81 5 w.heap.size (w1.heap.size + 1) (Lib.byteCells (lineS (four 0) [83, 69, 69, 68])) w2 from hb_); have BSw2 := Aside0.mk hs_; have HBw2 := Aside0.mk (Below.trans (((HB1.out).alloc HB1.out.size _).alloc (by have := HB1.out.size; simp; omega) _) hl_); clear hb_ hs_ hl_)
    | (go_at_call 24; refine (seed_Image.calls 60 seedImg _ HC.out HK.out image_60).mono ?_; rintro e w1 ⟨rfl, hb1⟩; have HB1 := Aside0.mk hb1; clear hb1))
  go_loopw [16] (fun v16 wr => ∃ k : Nat, v16 = .int .i64 k ∧ Aside0 (k ≤ 37) ∧ Aside0 (Lib.IsBuilderF 81 5 w.heap.size (w1.heap.size + 1) (Lib.byteCells (headT ++ bodyT k)) wr) ∧ Aside0 (wr.heap[w1.heap.size]? = some (.cells #[.string (seedImg.extract (4 * (3 + k)) 160)] 9 (0, 0))) ∧ Aside0 (Below w.heap.size w wr))
    (fun v16 _ => 37 - (intOf v16).toNat)
  case atStart => exact ⟨0, rfl, ⟨Nat.zero_le _⟩, ⟨by rw [show headT ++ bodyT 0 = headT by unfold bodyT; simp]; exact BLw4.out⟩, ⟨BSw4.out⟩, HBw4⟩
  case round =>
    obtain ⟨k, rfl, HI, BL, BS, HB⟩ := hrel
    by_cases hk : k < 37
    · have hix := HAT.out k hk
      have hst := bodyT_step k
      have HBL := Aside0.mk (show (headT ++ bodyT k).length ≤ 10000 by have h1 := headT_len; have h2 := body_lenT k (by omega); rw [List.length_append]; omega)
      have hts := text_small k hk
      obtain ⟨_, _, _, hns, _⟩ := row_facts k hk
      obtain ⟨tx, htx⟩ : ∃ tx, tx = textOf (opK k) (raK k) (rbK k) (rcK k) := ⟨_, rfl⟩
      have HTX := Aside0.mk (show inst_Text.f (opK k) (raK k) (rbK k) (rcK k) = some tx by rw [htx]; rfl)
      have hnk : noteK k = tx.data.toList ++ (if (ntK k).size = 0 then [] else [58, 32] ++ (ntK k).data.toList) := by rw [htx]; rfl
      rw [← htx] at hts
      clear htx
      generalize opK k = x0 at hix HTX
      generalize raK k = x1 at hix HTX
      generalize rbK k = x2 at hix HTX
      generalize rcK k = x3 at hix HTX
      generalize ntK k = nt at hix hnk hns
      by_cases hn0 : nt.size = 0
      · have : nt = ⟨#[]⟩ := by
          cases nt with
          | mk d => congr 1; exact Array.eq_empty_of_size_eq_zero hn0
        subst this
        rw [if_pos hn0, List.append_nil] at hnk
        have HST := Aside0.mk (show headT ++ bodyT (k + 1) = (headT ++ bodyT k) ++ lineS (four (3 + k)) tx.data.toList by rw [hst, hnk, List.append_assoc])
        clear hst hnk hn0 hns
        go_wp2_with (first
          | (go_at_call 86; refine (write_any w.heap.size (w1.heap.size + 1) w1.heap.size (headT ++ bodyT k) (seedImg.extract (4 * (3 + k)) 160) tx _ BL5.out BS5.out (by rw [rem_size _ (by omega)]; omega) (by rw [rem_size _ (by omega)]; omega) (by omega) (Nat.le_trans HBL.out (by decide)) HB1.out.size HB5.out.size).mono ?_; rintro e w6 ⟨rfl, hb_, hs_, hl_⟩; rw [rem_four _ (by omega)] at hb_; rw [rem_next _ (by omega)] at hs_; have BLw6 := Aside0.mk hb_; have BSw6 := Aside0.mk hs_; have HBw6 := Aside0.mk (Below.trans HB5.out hl_); clear hb_ hs_ hl_)
          | (go_at_call 42; refine (inst_Text.calls x0 x1 x2 x3 _ _ (GK.below HK.out (below_alloc HB.out _)) (GT.below HT.out (below_alloc HB.out _)) HTX.out).mono ?_; rintro e w5 ⟨rfl, hb5⟩; have HB5 := Aside0.mk (below_step (below_alloc HB.out _) hb5); have BL5 := Aside0.mk (bld_below (bld_below BL.out (below_alloc (Below.refl wr.heap.size wr) _)) hb5); have BS5 := Aside0.mk (blk_below (blk_alloc BS.out _) hb5); have BX5 := Aside0.mk (blk_below (blk_new wr (.cells #[.int .i64 x0, .int .i64 x1, .int .i64 x2, .int .i64 x3, .string ⟨#[]⟩] 101)) hb5); have hcn : w5.cell? ⟨wr.heap.size, 4, none⟩ = some (.string ⟨#[]⟩) := (blk_cell BX5.out 4).trans rfl; clear hb5 hix))
        go_roundw
        case rel => exact ⟨k + 1, by go_num, ⟨by omega⟩, ⟨by rw [HST.out]; exact BLw6.out⟩, ⟨by rw [show 3 + (k + 1) = 3 + k + 1 by omega]; exact BSw6.out⟩, HBw6⟩
        case measure => simp [intOf]; omega
      · rw [if_neg hn0] at hnk
        have h2 : (⟨#[58, 32]⟩ : ByteArray).size = 2 := rfl
        have g1 : ((⟨#[58, 32]⟩ : ByteArray) ++ nt).size ≤ 32 := by rw [ByteArray.size_append, h2]; omega
        have HGS := Aside0.mk (show (tx ++ ((⟨#[58, 32]⟩ : ByteArray) ++ nt)).size ≤ 1000 by rw [ByteArray.size_append]; omega)
        have HST := Aside0.mk (show headT ++ bodyT (k + 1) = (headT ++ bodyT k) ++ lineS (four (3 + k)) (tx ++ ((⟨#[58, 32]⟩ : ByteArray) ++ nt)).data.toList by rw [hst, hnk, List.append_assoc, baL, baL])
        have HNZ := Aside0.mk hn0
        have e1 : nt.toList.isEmpty = false := by
          cases hl : nt.toList with
          | nil =>
            exfalso
            have h := congrArg List.length hl
            rw [ByteArray.toList_eq] at h
            exact hn0 h
          | cons a l => rfl
        clear hst hnk
        go_wp2_with (first
          | (go_at_call 86; refine (write_any w.heap.size (w1.heap.size + 1) w1.heap.size (headT ++ bodyT k) (seedImg.extract (4 * (3 + k)) 160) (tx ++ ((⟨#[58, 32]⟩ : ByteArray) ++ nt)) _ BL5.out BS5.out (by rw [rem_size _ (by omega)]; omega) (by rw [rem_size _ (by omega)]; omega) HGS.out (Nat.le_trans HBL.out (by decide)) HB1.out.size HB5.out.size).mono ?_; rintro e w6 ⟨rfl, hb_, hs_, hl_⟩; rw [rem_four _ (by omega)] at hb_; rw [rem_next _ (by omega)] at hs_; have BLw6 := Aside0.mk hb_; have BSw6 := Aside0.mk hs_; have HBw6 := Aside0.mk (Below.trans HB5.out hl_); clear hb_ hs_ hl_)
          | (go_at_call 42; refine (inst_Text.calls x0 x1 x2 x3 _ _ (GK.below HK.out (below_alloc HB.out _)) (GT.below HT.out (below_alloc HB.out _)) HTX.out).mono ?_; rintro e w5 ⟨rfl, hb5⟩; have HB5 := Aside0.mk (below_step (below_alloc HB.out _) hb5); have BL5 := Aside0.mk (bld_below (bld_below BL.out (below_alloc (Below.refl wr.heap.size wr) _)) hb5); have BS5 := Aside0.mk (blk_below (blk_alloc BS.out _) hb5); have BX5 := Aside0.mk (blk_below (blk_new wr (.cells #[.int .i64 x0, .int .i64 x1, .int .i64 x2, .int .i64 x3, .string nt] 101)) hb5); have hcn : w5.cell? ⟨wr.heap.size, 4, none⟩ = some (.string nt) := (blk_cell BX5.out 4).trans rfl; clear hb5 hix))
        go_roundw
        case rel => exact ⟨k + 1, by go_num, ⟨by omega⟩, ⟨by rw [HST.out]; exact BLw6.out⟩, ⟨by rw [show 3 + (k + 1) = 3 + k + 1 by omega]; exact BSw6.out⟩, HBw6⟩
        case measure => simp [intOf]; omega
    · have hk37 : k = 37 := by have := HI.out; omega
      subst hk37
      go_wp2_with (go_at_call 74; refine (Tryd.Builder_String_any_k w.heap.size (w1.heap.size + 1) _ _ BL.out HB.out.size).mono ?_; rintro e w11 ⟨rfl, hb11, hbel11, hok11⟩)
      go_ret
      exact ⟨rfl, HB.out.trans hbel11⟩
theorem seed_Text.calls (r : ByteArray) (w : World) (hGC : GC w) (hGK : GK w) (hGT : GT w) (h : seed_Text.f = some r) :
    Calls Tryd.prog 53 #[] w fun e w' => e = .returned (.string r) ∧ Below w.heap.size w w' := by
  obtain rfl := Option.some.inj h
  exact seed_text_any w hGC hGK hGT
end Go.Proofs.YtdhkmdgieflioaaDoor.F
namespace Go.Proofs.YtdhkmdgieflioaaDoor.F
open Go.RowKit Go.Proofs.YtdhkmdgieflioaaDoorW.PrintWords Go.Proofs.YtdhkmdgieflioaaDoorW.PrintLast Go.Proofs.YtdhkmdgieflioaaDoorW.PrintMore
attribute [local go_sem] max2_int min2_int max_two min_two max_three min_three max_four min_four
set_option linter.unusedVariables false
set_option linter.unusedSimpArgs false
def seedcornlaw50_SeedItself.f (k : Nat)  : Option (Bool) := (seedcornlaw50_awake.f k).bind fun t290 => (if t290 = true then ((seed_Text.f).bind fun t291 => (if (t291.size : Int) ≤ 6000 then ((seed_Text.f).bind fun t292 => ((seedcornref02_Load.f k t292).bind fun t293 => ((seed_Image.f k).bind fun t294 => (if t293.toList = t294.toList then ((seed_Image.f k).bind fun t295 => ((seed_Text.f).bind fun t296 => ((seedcornref50_Loads.f k t295 t296).bind fun t297 => (some t297)))) else (some false))))) else (some false))) else (some false))
theorem seedcornlaw50_SeedItself.mono : ∀ k, LeO (seedcornlaw50_SeedItself.f k ) (seedcornlaw50_SeedItself.f (k + 1) ) := by
  intro  k
  unfold seedcornlaw50_SeedItself.f
  repeat' first
      | (with_reducible exact seed_Image.mono _)
      | (with_reducible exact seedcornlaw50_awake.mono _)
      | (with_reducible exact seedcornref02_Load.mono _ _)
      | (with_reducible exact seedcornref50_Loads.mono _ _ _)
      | (with_reducible exact LeO.refl _)
      | (with_reducible exact LeO.none _)
      | (with_reducible refine LeO.ite ?_ ?_)
      | (with_reducible refine LeO.bind ?_ (fun _ => ?_))
      | exact seed_Image.mono _
      | exact seedcornlaw50_awake.mono _
      | exact seedcornref02_Load.mono _ _
      | exact seedcornref50_Loads.mono _ _ _
      | exact LeO.none _
      | refine LeO.ite ?_ ?_
      | refine LeO.bind ?_ (fun _ => ?_)
set_option maxHeartbeats 8000000 in
set_option maxRecDepth 100000 in
theorem seedcornlaw50_SeedItself.calls (k : Nat)  (r : Bool) (w : World) (hGC : GC w) (hGK : GK w) (hGT : GT w) (h : seedcornlaw50_SeedItself.f k  = some r) :
    Calls Tryd.prog 16 #[] w fun e w' => e = .returned (.bool r) ∧ Below w.heap.size w w' := by
  have HGC := Aside0.mk hGC
  clear hGC
  have HGK := Aside0.mk hGK
  clear hGK
  have HGT := Aside0.mk hGT
  clear hGT
  have HB := Aside0.mk (Below.refl w.heap.size w)
  have H : ((seedcornlaw50_awake.f k).bind fun t290 => (if t290 = true then ((seed_Text.f).bind fun t291 => (if (t291.size : Int) ≤ 6000 then ((seed_Text.f).bind fun t292 => ((seedcornref02_Load.f k t292).bind fun t293 => ((seed_Image.f k).bind fun t294 => (if t293.toList = t294.toList then ((seed_Image.f k).bind fun t295 => ((seed_Text.f).bind fun t296 => ((seedcornref50_Loads.f k t295 t296).bind fun t297 => (some t297)))) else (some false))))) else (some false))) else (some false))) = some r := h
  clear h
  replace H := Option.bind_eq_some_iff.mp H
  obtain ⟨t290, A10, H⟩ := H
  replace H : (if t290 = true then ((seed_Text.f).bind fun t291 => (if (t291.size : Int) ≤ 6000 then ((seed_Text.f).bind fun t292 => ((seedcornref02_Load.f k t292).bind fun t293 => ((seed_Image.f k).bind fun t294 => (if t293.toList = t294.toList then ((seed_Image.f k).bind fun t295 => ((seed_Text.f).bind fun t296 => ((seedcornref50_Loads.f k t295 t296).bind fun t297 => (some t297)))) else (some false))))) else (some false))) else (some false)) = some r := H
  have A1 := Aside0.mk A10
  clear A10
  by_cases c2 : t290 = true
  · subst c2
    have H1 : ((seed_Text.f).bind fun t291 => (if (t291.size : Int) ≤ 6000 then ((seed_Text.f).bind fun t292 => ((seedcornref02_Load.f k t292).bind fun t293 => ((seed_Image.f k).bind fun t294 => (if t293.toList = t294.toList then ((seed_Image.f k).bind fun t295 => ((seed_Text.f).bind fun t296 => ((seedcornref50_Loads.f k t295 t296).bind fun t297 => (some t297)))) else (some false))))) else (some false))) = some r := by rw [if_pos rfl] at H; exact H
    clear H
    have H := H1
    clear H1
    replace H := Option.bind_eq_some_iff.mp H
    obtain ⟨t291, A30, H⟩ := H
    replace H : (if (t291.size : Int) ≤ 6000 then ((seed_Text.f).bind fun t292 => ((seedcornref02_Load.f k t292).bind fun t293 => ((seed_Image.f k).bind fun t294 => (if t293.toList = t294.toList then ((seed_Image.f k).bind fun t295 => ((seed_Text.f).bind fun t296 => ((seedcornref50_Loads.f k t295 t296).bind fun t297 => (some t297)))) else (some false))))) else (some false)) = some r := H
    have A3 := Aside0.mk A30
    clear A30
    by_cases c4 : (t291.size : Int) ≤ 6000
    · rw [if_pos c4] at H
      have c4b0 : decide ((t291.size : Int) ≤ 6000) = true := decide_eq_true c4
      have c4b1 : decide (t291.size ≤ 6000) = true := decide_eq_true (by omega)
      clear c4
      replace H := Option.bind_eq_some_iff.mp H
      obtain ⟨t292, A50, H⟩ := H
      replace H : ((seedcornref02_Load.f k t292).bind fun t293 => ((seed_Image.f k).bind fun t294 => (if t293.toList = t294.toList then ((seed_Image.f k).bind fun t295 => ((seed_Text.f).bind fun t296 => ((seedcornref50_Loads.f k t295 t296).bind fun t297 => (some t297)))) else (some false)))) = some r := H
      have A5 := Aside0.mk A50
      clear A50
      obtain rfl : t291 = t292 := Option.some.inj (A3.out.symm.trans A5.out)
      replace H := Option.bind_eq_some_iff.mp H
      obtain ⟨t293, A60, H⟩ := H
      replace H : ((seed_Image.f k).bind fun t294 => (if t293.toList = t294.toList then ((seed_Image.f k).bind fun t295 => ((seed_Text.f).bind fun t296 => ((seedcornref50_Loads.f k t295 t296).bind fun t297 => (some t297)))) else (some false))) = some r := H
      have A6 := Aside0.mk A60
      clear A60
      replace H := Option.bind_eq_some_iff.mp H
      obtain ⟨t294, A70, H⟩ := H
      replace H : (if t293.toList = t294.toList then ((seed_Image.f k).bind fun t295 => ((seed_Text.f).bind fun t296 => ((seedcornref50_Loads.f k t295 t296).bind fun t297 => (some t297)))) else (some false)) = some r := H
      have A7 := Aside0.mk A70
      clear A70
      by_cases c8 : t293.toList = t294.toList
      · rw [if_pos c8] at H
        have c8b0 : (t293.toList == t294.toList) = true := beq_iff_eq.mpr c8
        have c8b1 : (t293.toList != t294.toList) = false := bne_eq_false_iff_eq.mpr c8
        clear c8
        replace H := Option.bind_eq_some_iff.mp H
        obtain ⟨t295, A90, H⟩ := H
        replace H : ((seed_Text.f).bind fun t296 => ((seedcornref50_Loads.f k t295 t296).bind fun t297 => (some t297))) = some r := H
        have A9 := Aside0.mk A90
        clear A90
        obtain rfl : t294 = t295 := Option.some.inj (A7.out.symm.trans A9.out)
        replace H := Option.bind_eq_some_iff.mp H
        obtain ⟨t296, A100, H⟩ := H
        replace H : ((seedcornref50_Loads.f k t294 t296).bind fun t297 => (some t297)) = some r := H
        have A10 := Aside0.mk A100
        clear A100
        obtain rfl : t291 = t296 := Option.some.inj (A3.out.symm.trans A10.out)
        replace H := Option.bind_eq_some_iff.mp H
        obtain ⟨t297, A110, H⟩ := H
        replace H : (some t297) = some r := H
        have A11 := Aside0.mk A110
        clear A110
        obtain rfl := Option.some.inj H
        go_enter Tryd.func16, Tryd.ntmps16
        go_wp2_with (first | ((with_reducible refine gate_callee (f := 22) rfl ?_); refine goesL_ (some 1) rfl rfl Tryd.func22 (by kernel_rfl) rfl #[] rfl (by (try simp only [List.map_toArray, List.map_cons, List.map_nil]); first | done | rfl | (simp only [List.length_drop, List.length_take]; rfl)) ?_; (with_reducible refine (seedcornlaw50_awake.calls k  true _ ?side1 ?side2 A1.out).mono ?_); (case side1 => exact GC.below HGC.out (by repeat (first | (with_reducible first | exact HB.out | apply below_alloc | apply pw_below_drewN | apply below_drew1) | exact HB.out))); (case side2 => exact GK.below HGK.out (by repeat (first | (with_reducible first | exact HB.out | apply below_alloc | apply pw_below_drewN | apply below_drew1) | exact HB.out))); rintro e w12 ⟨rfl, hb⟩; refine ⟨_, rfl, ?_⟩; have n0_ := Aside0.mk (below_step (by repeat (first | (with_reducible first | exact HB.out | apply below_alloc | apply pw_below_drewN | apply below_drew1) | exact HB.out)) hb); clear HB; have HB := n0_; clear n0_; (try clear hb); (try clear hb2); (try clear hk); (try clear hi)) | (go_at_call 53; (with_reducible refine (seed_Text.calls  t291 _ ?side1 ?side2 ?side3 A3.out).mono ?_); (case side1 => exact GC.below HGC.out (by repeat (first | (with_reducible first | exact HB.out | apply below_alloc | apply pw_below_drewN | apply below_drew1) | exact HB.out))); (case side2 => exact GK.below HGK.out (by repeat (first | (with_reducible first | exact HB.out | apply below_alloc | apply pw_below_drewN | apply below_drew1) | exact HB.out))); (case side3 => exact GT.below HGT.out (by repeat (first | (with_reducible first | exact HB.out | apply below_alloc | apply pw_below_drewN | apply below_drew1) | exact HB.out))); rintro e w13 ⟨rfl, hb⟩; have n0_ := Aside0.mk (below_step (by repeat (first | (with_reducible first | exact HB.out | apply below_alloc | apply pw_below_drewN | apply below_drew1) | exact HB.out)) hb); clear HB; have HB := n0_; clear n0_; (try clear hb); (try clear hb2); (try clear hk); (try clear hi)) | (go_at_call 53; (with_reducible refine (seed_Text.calls  t291 _ ?side1 ?side2 ?side3 A5.out).mono ?_); (case side1 => exact GC.below HGC.out (by repeat (first | (with_reducible first | exact HB.out | apply below_alloc | apply pw_below_drewN | apply below_drew1) | exact HB.out))); (case side2 => exact GK.below HGK.out (by repeat (first | (with_reducible first | exact HB.out | apply below_alloc | apply pw_below_drewN | apply below_drew1) | exact HB.out))); (case side3 => exact GT.below HGT.out (by repeat (first | (with_reducible first | exact HB.out | apply below_alloc | apply pw_below_drewN | apply below_drew1) | exact HB.out))); rintro e w14 ⟨rfl, hb⟩; have n0_ := Aside0.mk (below_step (by repeat (first | (with_reducible first | exact HB.out | apply below_alloc | apply pw_below_drewN | apply below_drew1) | exact HB.out)) hb); clear HB; have HB := n0_; clear n0_; (try clear hb); (try clear hb2); (try clear hk); (try clear hi)) | (go_at_call 28; (with_reducible refine (seedcornref02_Load.calls k t291 t293 _ A6.out).mono ?_); rintro e w15 ⟨rfl, hb⟩; have n0_ := Aside0.mk (below_step (by repeat (first | (with_reducible first | exact HB.out | apply below_alloc | apply pw_below_drewN | apply below_drew1) | exact HB.out)) hb); clear HB; have HB := n0_; clear n0_; (try clear hb); (try clear hb2); (try clear hk); (try clear hi)) | (go_at_call 24; (with_reducible refine (seed_Image.calls k  t294 _ ?side1 ?side2 A7.out).mono ?_); (case side1 => exact GC.below HGC.out (by repeat (first | (with_reducible first | exact HB.out | apply below_alloc | apply pw_below_drewN | apply below_drew1) | exact HB.out))); (case side2 => exact GK.below HGK.out (by repeat (first | (with_reducible first | exact HB.out | apply below_alloc | apply pw_below_drewN | apply below_drew1) | exact HB.out))); rintro e w16 ⟨rfl, hb⟩; have n0_ := Aside0.mk (below_step (by repeat (first | (with_reducible first | exact HB.out | apply below_alloc | apply pw_below_drewN | apply below_drew1) | exact HB.out)) hb); clear HB; have HB := n0_; clear n0_; (try clear hb); (try clear hb2); (try clear hk); (try clear hi)) | (go_at_call 24; (with_reducible refine (seed_Image.calls k  t294 _ ?side1 ?side2 A9.out).mono ?_); (case side1 => exact GC.below HGC.out (by repeat (first | (with_reducible first | exact HB.out | apply below_alloc | apply pw_below_drewN | apply below_drew1) | exact HB.out))); (case side2 => exact GK.below HGK.out (by repeat (first | (with_reducible first | exact HB.out | apply below_alloc | apply pw_below_drewN | apply below_drew1) | exact HB.out))); rintro e w17 ⟨rfl, hb⟩; have n0_ := Aside0.mk (below_step (by repeat (first | (with_reducible first | exact HB.out | apply below_alloc | apply pw_below_drewN | apply below_drew1) | exact HB.out)) hb); clear HB; have HB := n0_; clear n0_; (try clear hb); (try clear hb2); (try clear hk); (try clear hi)) | (go_at_call 53; (with_reducible refine (seed_Text.calls  t291 _ ?side1 ?side2 ?side3 A10.out).mono ?_); (case side1 => exact GC.below HGC.out (by repeat (first | (with_reducible first | exact HB.out | apply below_alloc | apply pw_below_drewN | apply below_drew1) | exact HB.out))); (case side2 => exact GK.below HGK.out (by repeat (first | (with_reducible first | exact HB.out | apply below_alloc | apply pw_below_drewN | apply below_drew1) | exact HB.out))); (case side3 => exact GT.below HGT.out (by repeat (first | (with_reducible first | exact HB.out | apply below_alloc | apply pw_below_drewN | apply below_drew1) | exact HB.out))); rintro e w18 ⟨rfl, hb⟩; have n0_ := Aside0.mk (below_step (by repeat (first | (with_reducible first | exact HB.out | apply below_alloc | apply pw_below_drewN | apply below_drew1) | exact HB.out)) hb); clear HB; have HB := n0_; clear n0_; (try clear hb); (try clear hb2); (try clear hk); (try clear hi)) | (go_at_call 23; (with_reducible refine (seedcornref50_Loads.calls k t294 t291 t297 _ A11.out).mono ?_); rintro e w19 ⟨rfl, hb⟩; have n0_ := Aside0.mk (below_step (by repeat (first | (with_reducible first | exact HB.out | apply below_alloc | apply pw_below_drewN | apply below_drew1) | exact HB.out)) hb); clear HB; have HB := n0_; clear n0_; (try clear hb); (try clear hb2); (try clear hk); (try clear hi)))
        go_ret
        exact ⟨by first | rfl | (simp [errW_none, errW_some] <;> rfl) | (simp [*, errW_none, errW_some] <;> rfl), by repeat (first | (with_reducible first | exact HB.out | apply below_alloc | apply pw_below_drewN | apply below_drew1) | exact HB.out)⟩
      · rw [if_neg c8] at H
        have c8b0 : (t293.toList == t294.toList) = false := beq_eq_false_iff_ne.mpr c8
        have c8b1 : (t293.toList != t294.toList) = true := bne_iff_ne.mpr c8
        obtain rfl := Option.some.inj H
        go_enter Tryd.func16, Tryd.ntmps16
        go_wp2_with (first | ((with_reducible refine gate_callee (f := 22) rfl ?_); refine goesL_ (some 1) rfl rfl Tryd.func22 (by kernel_rfl) rfl #[] rfl (by (try simp only [List.map_toArray, List.map_cons, List.map_nil]); first | done | rfl | (simp only [List.length_drop, List.length_take]; rfl)) ?_; (with_reducible refine (seedcornlaw50_awake.calls k  true _ ?side1 ?side2 A1.out).mono ?_); (case side1 => exact GC.below HGC.out (by repeat (first | (with_reducible first | exact HB.out | apply below_alloc | apply pw_below_drewN | apply below_drew1) | exact HB.out))); (case side2 => exact GK.below HGK.out (by repeat (first | (with_reducible first | exact HB.out | apply below_alloc | apply pw_below_drewN | apply below_drew1) | exact HB.out))); rintro e w20 ⟨rfl, hb⟩; refine ⟨_, rfl, ?_⟩; have n0_ := Aside0.mk (below_step (by repeat (first | (with_reducible first | exact HB.out | apply below_alloc | apply pw_below_drewN | apply below_drew1) | exact HB.out)) hb); clear HB; have HB := n0_; clear n0_; (try clear hb); (try clear hb2); (try clear hk); (try clear hi)) | (go_at_call 53; (with_reducible refine (seed_Text.calls  t291 _ ?side1 ?side2 ?side3 A3.out).mono ?_); (case side1 => exact GC.below HGC.out (by repeat (first | (with_reducible first | exact HB.out | apply below_alloc | apply pw_below_drewN | apply below_drew1) | exact HB.out))); (case side2 => exact GK.below HGK.out (by repeat (first | (with_reducible first | exact HB.out | apply below_alloc | apply pw_below_drewN | apply below_drew1) | exact HB.out))); (case side3 => exact GT.below HGT.out (by repeat (first | (with_reducible first | exact HB.out | apply below_alloc | apply pw_below_drewN | apply below_drew1) | exact HB.out))); rintro e w21 ⟨rfl, hb⟩; have n0_ := Aside0.mk (below_step (by repeat (first | (with_reducible first | exact HB.out | apply below_alloc | apply pw_below_drewN | apply below_drew1) | exact HB.out)) hb); clear HB; have HB := n0_; clear n0_; (try clear hb); (try clear hb2); (try clear hk); (try clear hi)) | (go_at_call 53; (with_reducible refine (seed_Text.calls  t291 _ ?side1 ?side2 ?side3 A5.out).mono ?_); (case side1 => exact GC.below HGC.out (by repeat (first | (with_reducible first | exact HB.out | apply below_alloc | apply pw_below_drewN | apply below_drew1) | exact HB.out))); (case side2 => exact GK.below HGK.out (by repeat (first | (with_reducible first | exact HB.out | apply below_alloc | apply pw_below_drewN | apply below_drew1) | exact HB.out))); (case side3 => exact GT.below HGT.out (by repeat (first | (with_reducible first | exact HB.out | apply below_alloc | apply pw_below_drewN | apply below_drew1) | exact HB.out))); rintro e w22 ⟨rfl, hb⟩; have n0_ := Aside0.mk (below_step (by repeat (first | (with_reducible first | exact HB.out | apply below_alloc | apply pw_below_drewN | apply below_drew1) | exact HB.out)) hb); clear HB; have HB := n0_; clear n0_; (try clear hb); (try clear hb2); (try clear hk); (try clear hi)) | (go_at_call 28; (with_reducible refine (seedcornref02_Load.calls k t291 t293 _ A6.out).mono ?_); rintro e w23 ⟨rfl, hb⟩; have n0_ := Aside0.mk (below_step (by repeat (first | (with_reducible first | exact HB.out | apply below_alloc | apply pw_below_drewN | apply below_drew1) | exact HB.out)) hb); clear HB; have HB := n0_; clear n0_; (try clear hb); (try clear hb2); (try clear hk); (try clear hi)) | (go_at_call 24; (with_reducible refine (seed_Image.calls k  t294 _ ?side1 ?side2 A7.out).mono ?_); (case side1 => exact GC.below HGC.out (by repeat (first | (with_reducible first | exact HB.out | apply below_alloc | apply pw_below_drewN | apply below_drew1) | exact HB.out))); (case side2 => exact GK.below HGK.out (by repeat (first | (with_reducible first | exact HB.out | apply below_alloc | apply pw_below_drewN | apply below_drew1) | exact HB.out))); rintro e w24 ⟨rfl, hb⟩; have n0_ := Aside0.mk (below_step (by repeat (first | (with_reducible first | exact HB.out | apply below_alloc | apply pw_below_drewN | apply below_drew1) | exact HB.out)) hb); clear HB; have HB := n0_; clear n0_; (try clear hb); (try clear hb2); (try clear hk); (try clear hi)))
        go_ret
        exact ⟨by first | rfl | (simp [errW_none, errW_some] <;> rfl) | (simp [*, errW_none, errW_some] <;> rfl), by repeat (first | (with_reducible first | exact HB.out | apply below_alloc | apply pw_below_drewN | apply below_drew1) | exact HB.out)⟩
    · rw [if_neg c4] at H
      have c4b0 : decide ((t291.size : Int) ≤ 6000) = false := decide_eq_false c4
      have c4b1 : decide (t291.size ≤ 6000) = false := decide_eq_false (by omega)
      clear c4
      obtain rfl := Option.some.inj H
      go_enter Tryd.func16, Tryd.ntmps16
      go_wp2_with (first | ((with_reducible refine gate_callee (f := 22) rfl ?_); refine goesL_ (some 1) rfl rfl Tryd.func22 (by kernel_rfl) rfl #[] rfl (by (try simp only [List.map_toArray, List.map_cons, List.map_nil]); first | done | rfl | (simp only [List.length_drop, List.length_take]; rfl)) ?_; (with_reducible refine (seedcornlaw50_awake.calls k  true _ ?side1 ?side2 A1.out).mono ?_); (case side1 => exact GC.below HGC.out (by repeat (first | (with_reducible first | exact HB.out | apply below_alloc | apply pw_below_drewN | apply below_drew1) | exact HB.out))); (case side2 => exact GK.below HGK.out (by repeat (first | (with_reducible first | exact HB.out | apply below_alloc | apply pw_below_drewN | apply below_drew1) | exact HB.out))); rintro e w25 ⟨rfl, hb⟩; refine ⟨_, rfl, ?_⟩; have n0_ := Aside0.mk (below_step (by repeat (first | (with_reducible first | exact HB.out | apply below_alloc | apply pw_below_drewN | apply below_drew1) | exact HB.out)) hb); clear HB; have HB := n0_; clear n0_; (try clear hb); (try clear hb2); (try clear hk); (try clear hi)) | (go_at_call 53; (with_reducible refine (seed_Text.calls  t291 _ ?side1 ?side2 ?side3 A3.out).mono ?_); (case side1 => exact GC.below HGC.out (by repeat (first | (with_reducible first | exact HB.out | apply below_alloc | apply pw_below_drewN | apply below_drew1) | exact HB.out))); (case side2 => exact GK.below HGK.out (by repeat (first | (with_reducible first | exact HB.out | apply below_alloc | apply pw_below_drewN | apply below_drew1) | exact HB.out))); (case side3 => exact GT.below HGT.out (by repeat (first | (with_reducible first | exact HB.out | apply below_alloc | apply pw_below_drewN | apply below_drew1) | exact HB.out))); rintro e w26 ⟨rfl, hb⟩; have n0_ := Aside0.mk (below_step (by repeat (first | (with_reducible first | exact HB.out | apply below_alloc | apply pw_below_drewN | apply below_drew1) | exact HB.out)) hb); clear HB; have HB := n0_; clear n0_; (try clear hb); (try clear hb2); (try clear hk); (try clear hi)))
      go_ret
      exact ⟨by first | rfl | (simp [errW_none, errW_some] <;> rfl) | (simp [*, errW_none, errW_some] <;> rfl), by repeat (first | (with_reducible first | exact HB.out | apply below_alloc | apply pw_below_drewN | apply below_drew1) | exact HB.out)⟩
  · replace c2 := Bool.eq_false_iff.mpr c2
    subst c2
    have H1 : (some false) = some r := by rw [if_neg (show ¬ (false = true) by decide)] at H; exact H
    clear H
    have H := H1
    clear H1
    obtain rfl := Option.some.inj H
    go_enter Tryd.func16, Tryd.ntmps16
    go_wp2_with (first | ((with_reducible refine gate_callee (f := 22) rfl ?_); refine goesL_ (some 1) rfl rfl Tryd.func22 (by kernel_rfl) rfl #[] rfl (by (try simp only [List.map_toArray, List.map_cons, List.map_nil]); first | done | rfl | (simp only [List.length_drop, List.length_take]; rfl)) ?_; (with_reducible refine (seedcornlaw50_awake.calls k  false _ ?side1 ?side2 A1.out).mono ?_); (case side1 => exact GC.below HGC.out (by repeat (first | (with_reducible first | exact HB.out | apply below_alloc | apply pw_below_drewN | apply below_drew1) | exact HB.out))); (case side2 => exact GK.below HGK.out (by repeat (first | (with_reducible first | exact HB.out | apply below_alloc | apply pw_below_drewN | apply below_drew1) | exact HB.out))); rintro e w27 ⟨rfl, hb⟩; refine ⟨_, rfl, ?_⟩; have n0_ := Aside0.mk (below_step (by repeat (first | (with_reducible first | exact HB.out | apply below_alloc | apply pw_below_drewN | apply below_drew1) | exact HB.out)) hb); clear HB; have HB := n0_; clear n0_; (try clear hb); (try clear hb2); (try clear hk); (try clear hi)))
    go_ret
    exact ⟨by first | rfl | (simp [errW_none, errW_some] <;> rfl) | (simp [*, errW_none, errW_some] <;> rfl), by repeat (first | (with_reducible first | exact HB.out | apply below_alloc | apply pw_below_drewN | apply below_drew1) | exact HB.out)⟩
end Go.Proofs.YtdhkmdgieflioaaDoor.F
