/- Texts of this claim: contracts of functions that the law reaches, and plain lemmas. -/
import Derived.Outline
import Derived.WalkLawsBesides
import Derived.WalkSpells
import Derived.RegionTactic
import Derived.BigRegion
import Derived.Deep.QuietTactic
import Derived.BigQuiet
import Derived.Laws.Tables
import Derived.Laws.CopyOwn
import Derived.Laws.Rows
import Derived.Deep.RegionHeld3
import Derived.Deep.MidRow
import Derived.Deep.Cut
import Derived.Test.YtdhkmdgieflioaaDoorZ1
import Derived.Test.YtdhkmdgieflioaaDoorZ3
namespace Go.Proofs.YtdhkmdgieflioaaDoor.F
open Go.RowKit Go.Proofs.YtdhkmdgieflioaaDoorW.PrintWords Go.Proofs.YtdhkmdgieflioaaDoorW.PrintLast Go.Proofs.YtdhkmdgieflioaaDoorW.PrintMore
set_option linter.unusedVariables false
set_option linter.unusedSimpArgs false
open SeedSim
set_option maxRecDepth 100000 in
set_option maxHeartbeats 4000000 in
theorem run_calls (A : Option Addr) (c : Nat) (W : World) (inp : ByteArray) (fuel : Nat) (rws : List S46) (oks : List Bool) (hc : 37 ≤ c) (hC : Kd.C (Kd.int .u32) W A seedWords.length seedWords)
    (hcode : seedcornref10_Code.f 40 seedWords 0 = some (rws, oks)) (hl1 : rws.length = 37) (hl2 : oks.length = 37) (hrw : ∀ (w : World) (B : Nat) (v1 v2 : Value) (bc co1 bo co2 : Nat), v1 = .slice (some ⟨bc, 0, none⟩) 37 co1 → v2 = .slice (some ⟨bo, 0, none⟩) 37 co2 → Kd.R k46 46 w B (fun _ => True) v1 rws → Kd.R Kd.bool 4 w B (fun _ => True) v2 oks → ∃ CC OK, w.heap[bc]? = some (.cells CC 46 (0, 0)) ∧ w.heap[bo]? = some (.cells OK 4 (0, 0)) ∧ Rows CC OK)
    (hfu : fuel < 1000000) (hsz : inp.size < 1000000) (hout : (SeedSim.run (inpL inp) fuel init).out.length < 65536) :
    Calls Tryd.prog 109 #[.agg #[.slice A seedWords.length c, .int .i64 0], .string inp, .agg Z109c, .int .i64 fuel] W fun e w' => ∃ (mem v : Value), mem.oneCell' = true ∧ e = .returned (.tuple #[.agg (FC (SeedSim.run (inpL inp) fuel init) mem), v]) ∧ Below W.heap.size W w' := by
  have hu28 := Tryd.underlying28
  have HC := Aside0.mk hC
  have HCO := Aside0.mk hcode
  have HL1 := Aside0.mk hl1
  have HL2 := Aside0.mk hl2
  have HRW := Aside0.mk hrw
  have HFU := Aside0.mk hfu
  have HSZ := Aside0.mk hsz
  have HOUT := Aside0.mk hout
  clear hC hcode hl1 hl2 hrw hfu hsz hout
  have HB := Aside0.mk (Below.refl W.heap.size W)
  have hlen : seedWords.length = 37 := by kernel_rfl
  have HL := Aside0.mk hlen
  clear hlen
  generalize seedWords = sw at *
  go_enter Tryd.func109, Tryd.ntmps109
  go_wp2_with (first | (go_at_call 130; (with_reducible refine (seedcornref10_Code.calls 40 A c sw 0 rws oks _ ?s1 ?s2 HCO.out).mono ?_); (case s1 => exact Kd.C_alloc (Kd.C_alloc (Kd.C_alloc HC.out _) _) _); (case s2 => rw [HL.out]; exact hc); rintro e w2 ⟨v1, v2, rfl, ho1, ho2, hb⟩; obtain ⟨bc, co1, e1, hbc1, hbc2, hbc3⟩ := Kd.R_form ho1 (by rw [HL1.out]; decide); obtain ⟨bo, co2, e2, hbo1, hbo2, hbo3⟩ := Kd.R_form ho2 (by rw [HL2.out]; decide); rw [HL1.out] at e1; rw [HL2.out] at e2; obtain ⟨CC, OK, hcc, hok, hrows⟩ := HRW.out _ _ _ _ _ _ _ _ e1 e2 ho1 ho2; have RCC := Aside0.mk hcc; have ROK := Aside0.mk hok; have RRO := Aside0.mk hrows; clear hcc hok hrows; subst e1 e2; clear hbc1 hbc2 hbc3 hbo1 hbo2 hbo3; have BM := Aside0.mk (blk_below (g := W.heap.size) (o := .cells #[.slice A sw.length c, .int .i64 0] 28 (0, 0)) (blk_alloc (blk_alloc (heap_alloc_new W _) _) _) hb); have BZ := Aside0.mk (blk_below (g := W.heap.size + 1) (o := .cells Z109c 109 (0, 0)) (blk_alloc (blk_newat (by simp)) _) hb); have BR := Aside0.mk (blk_below (g := W.heap.size + 1 + 1) (o := .cells Z109c 109 (0, 0)) (blk_newat (by simp)) hb); have HB2 := Aside0.mk (below_step (below_alloc (below_alloc (below_alloc HB.out _) _) _) hb); have HO1 := Aside0.mk ho1; have HO2 := Aside0.mk ho2; clear hb ho1 ho2))
  go_cut [12] from 20 (fun v12 w' => ∃ (ob mb : Nat), v12 = .pointer (some ⟨ob, 0, none⟩) ∧ w'.heap[ob]? = some (.cells #[.int .i64 0, .int .u32 0, .int .u32 0, .int .u32 0, .int .u32 0, .int .u32 0, .int .u32 0, .int .u32 0, .int .u32 0, .int .u32 0, .int .u32 0, .int .u32 0, .int .u32 0, .int .u32 0, .int .u32 0, .int .u32 0, .int .u32 0, .slice (some ⟨mb, 0, none⟩) 0 0, .int .i64 0, .string ⟨#[]⟩, .int .i64 0, .int .i64 0] 109 (0, 0)) ∧ Below w2.heap.size w2 w')
  case first =>
    refine start_ (n := 17) (S := fun w' => Below w2.heap.size w2 w') (ds := []) #[false, false, false, false, false, false, false, false, false, false, false, false, false, false, false, false, false] (by kernel_rfl) rfl rfl ((by repeat (first | (with_reducible exact Below.refl _ _) | (with_reducible apply below_alloc) | (with_reducible apply below_drew1) | (with_reducible apply pw_below_drewN) | (with_reducible assumption)))) (fun hHeld => ?_)
    refine pure_ (i := 0) (N := some 20) (v := ?_) (a' := ?_) #[true, false, false, false, false, false, false, false, false, false, false, false, false, false, false, false, false] rfl rfl (by kernel_rfl) (fun _ _ _ h => h) (Or.inl ⟨by rfl, ?_⟩) ?_ ?_
    rotate_left
    · intro w'
      go_simp
      with_reducible rfl
    rotate_left
    · simp only [Act.put, List.setIfInBounds_toArray, List.set_cons_zero, List.set_cons_succ, i64_w, i32_w]
      rfl
    refine pure_ (i := 2) (N := some 22) (v := ?_) (a' := ?_) #[true, false, true, false, false, false, false, false, false, false, false, false, false, false, false, false, false] rfl rfl (by kernel_rfl) (fun _ _ _ h => h) (Or.inl ⟨by rfl, ?_⟩) ?_ ?_
    rotate_left
    · intro w'
      go_simp
      with_reducible rfl
    rotate_left
    · simp only [Act.put, List.setIfInBounds_toArray, List.set_cons_zero, List.set_cons_succ, i64_w, i32_w]
      rfl
    refine pure_ (i := 5) (N := some 25) (v := ?_) (a' := ?_) #[true, false, true, false, false, true, false, false, false, false, false, false, false, false, false, false, false] rfl rfl (by kernel_rfl) (fun _ _ _ h => h) (Or.inl ⟨by rfl, ?_⟩) ?_ ?_
    rotate_left
    · intro w'
      go_simp
      with_reducible rfl
    rotate_left
    · simp only [Act.put, List.setIfInBounds_toArray, List.set_cons_zero, List.set_cons_succ, i64_w, i32_w]
      rfl
    refine pure_ (i := 8) (N := some 28) (v := ?_) (a' := ?_) #[true, false, true, false, false, true, false, false, true, false, false, false, false, false, false, false, false] rfl rfl (by kernel_rfl) (fun _ _ _ h => h) (Or.inl ⟨by rfl, ?_⟩) ?_ ?_
    rotate_left
    · intro w'
      go_simp
      with_reducible rfl
    rotate_left
    · simp only [Act.put, List.setIfInBounds_toArray, List.set_cons_zero, List.set_cons_succ, i64_w, i32_w]
      rfl
    refine pure_ (i := 10) (N := some 30) (v := ?_) (a' := ?_) #[true, false, true, false, false, true, false, false, true, false, true, false, false, false, false, false, false] rfl rfl (by kernel_rfl) (fun _ _ _ h => h) (Or.inl ⟨by rfl, ?_⟩) ?_ ?_
    rotate_left
    · intro w'
      go_simp
      with_reducible rfl
    rotate_left
    · simp only [Act.put, List.setIfInBounds_toArray, List.set_cons_zero, List.set_cons_succ, i64_w, i32_w]
      rfl
    refine pure_ (i := 12) (N := some 32) (v := ?_) (a' := ?_) #[true, false, true, false, false, true, false, false, true, false, true, false, true, false, false, false, false] rfl rfl (by kernel_rfl) (fun _ _ _ h => h) (Or.inl ⟨by rfl, ?_⟩) ?_ ?_
    rotate_left
    · intro w'
      go_simp
      with_reducible rfl
    rotate_left
    · simp only [Act.put, List.setIfInBounds_toArray, List.set_cons_zero, List.set_cons_succ, i64_w, i32_w]
      rfl
    refine take_ (i := 1) (N := some 21) (v := ?_) (a' := ?_) #[true, true, true, false, false, true, false, false, true, false, true, false, true, false, false, false, false] rfl rfl (by kernel_rfl) (fun _ _ _ h => h) (Or.inl ⟨by rfl, ?_⟩) hHeld ?_ ?_
    rotate_left
    · intro w' s0
      have hz := blk_below BZ.out s0; have hc0 : w'.cell? ⟨W.heap.size + 1, 0, none⟩ = some (.int .i64 0) := (blk_cell hz 0).trans rfl; have hc17 : w'.cell? ⟨W.heap.size + 1, 17, none⟩ = some (.slice none 0 0) := (blk_cell hz 17).trans rfl; have hc18 : w'.cell? ⟨W.heap.size + 1, 18, none⟩ = some (.int .i64 0) := (blk_cell hz 18).trans rfl; have hc20 : w'.cell? ⟨W.heap.size + 1, 20, none⟩ = some (.int .i64 0) := (blk_cell hz 20).trans rfl; have hc21 : w'.cell? ⟨W.heap.size + 1, 21, none⟩ = some (.int .i64 0) := (blk_cell hz 21).trans rfl; clear hz s0
      go_simp
      with_reducible rfl
    rotate_left
    · simp only [Act.put, List.setIfInBounds_toArray, List.set_cons_zero, List.set_cons_succ, i64_w, i32_w]
      rfl
    refine take_ (i := 3) (N := some 23) (v := ?_) (a' := ?_) #[true, true, true, true, false, true, false, false, true, false, true, false, true, false, false, false, false] rfl rfl (by kernel_rfl) (fun _ _ _ h => h) (Or.inl ⟨by rfl, ?_⟩) hHeld ?_ ?_
    rotate_left
    · intro w' s0
      refine exec_reg (.tmp 22) ?_ (W.heap.size + 1) 1 ?_ (range_of_row (blk_below BZ.out s0) 1 Z16 Z109c_mid)
      · rfl
      · rfl
    rotate_left
    · simp only [Act.put, List.setIfInBounds_toArray, List.set_cons_zero, List.set_cons_succ, i64_w, i32_w]
      rfl
    refine take_ (i := 6) (N := some 26) (v := ?_) (a' := ?_) #[true, true, true, true, false, true, true, false, true, false, true, false, true, false, false, false, false] rfl rfl (by kernel_rfl) (fun _ _ _ h => h) (Or.inl ⟨by rfl, ?_⟩) hHeld ?_ ?_
    rotate_left
    · intro w' s0
      have hz := blk_below BZ.out s0; have hc0 : w'.cell? ⟨W.heap.size + 1, 0, none⟩ = some (.int .i64 0) := (blk_cell hz 0).trans rfl; have hc17 : w'.cell? ⟨W.heap.size + 1, 17, none⟩ = some (.slice none 0 0) := (blk_cell hz 17).trans rfl; have hc18 : w'.cell? ⟨W.heap.size + 1, 18, none⟩ = some (.int .i64 0) := (blk_cell hz 18).trans rfl; have hc20 : w'.cell? ⟨W.heap.size + 1, 20, none⟩ = some (.int .i64 0) := (blk_cell hz 20).trans rfl; have hc21 : w'.cell? ⟨W.heap.size + 1, 21, none⟩ = some (.int .i64 0) := (blk_cell hz 21).trans rfl; clear hz s0
      go_simp
      with_reducible rfl
    rotate_left
    · simp only [Act.put, List.setIfInBounds_toArray, List.set_cons_zero, List.set_cons_succ, i64_w, i32_w]
      rfl
    refine take_ (i := 9) (N := some 29) (v := ?_) (a' := ?_) #[true, true, true, true, false, true, true, false, true, true, true, false, true, false, false, false, false] rfl rfl (by kernel_rfl) (fun _ _ _ h => h) (Or.inl ⟨by rfl, ?_⟩) hHeld ?_ ?_
    rotate_left
    · intro w' s0
      have hz := blk_below BZ.out s0; have hc0 : w'.cell? ⟨W.heap.size + 1, 0, none⟩ = some (.int .i64 0) := (blk_cell hz 0).trans rfl; have hc17 : w'.cell? ⟨W.heap.size + 1, 17, none⟩ = some (.slice none 0 0) := (blk_cell hz 17).trans rfl; have hc18 : w'.cell? ⟨W.heap.size + 1, 18, none⟩ = some (.int .i64 0) := (blk_cell hz 18).trans rfl; have hc20 : w'.cell? ⟨W.heap.size + 1, 20, none⟩ = some (.int .i64 0) := (blk_cell hz 20).trans rfl; have hc21 : w'.cell? ⟨W.heap.size + 1, 21, none⟩ = some (.int .i64 0) := (blk_cell hz 21).trans rfl; clear hz s0
      go_simp
      with_reducible rfl
    rotate_left
    · simp only [Act.put, List.setIfInBounds_toArray, List.set_cons_zero, List.set_cons_succ, i64_w, i32_w]
      rfl
    refine take_ (i := 11) (N := some 31) (v := ?_) (a' := ?_) #[true, true, true, true, false, true, true, false, true, true, true, true, true, false, false, false, false] rfl rfl (by kernel_rfl) (fun _ _ _ h => h) (Or.inl ⟨by rfl, ?_⟩) hHeld ?_ ?_
    rotate_left
    · intro w' s0
      have hz := blk_below BZ.out s0; have hc0 : w'.cell? ⟨W.heap.size + 1, 0, none⟩ = some (.int .i64 0) := (blk_cell hz 0).trans rfl; have hc17 : w'.cell? ⟨W.heap.size + 1, 17, none⟩ = some (.slice none 0 0) := (blk_cell hz 17).trans rfl; have hc18 : w'.cell? ⟨W.heap.size + 1, 18, none⟩ = some (.int .i64 0) := (blk_cell hz 18).trans rfl; have hc20 : w'.cell? ⟨W.heap.size + 1, 20, none⟩ = some (.int .i64 0) := (blk_cell hz 20).trans rfl; have hc21 : w'.cell? ⟨W.heap.size + 1, 21, none⟩ = some (.int .i64 0) := (blk_cell hz 21).trans rfl; clear hz s0
      go_simp
      with_reducible rfl
    rotate_left
    · simp only [Act.put, List.setIfInBounds_toArray, List.set_cons_zero, List.set_cons_succ, i64_w, i32_w]
      rfl
    refine take_ (i := 13) (N := some 33) (v := ?_) (a' := ?_) #[true, true, true, true, false, true, true, false, true, true, true, true, true, true, false, false, false] rfl rfl (by kernel_rfl) (fun _ _ _ h => h) (Or.inl ⟨by rfl, ?_⟩) hHeld ?_ ?_
    rotate_left
    · intro w' s0
      have hz := blk_below BZ.out s0; have hc0 : w'.cell? ⟨W.heap.size + 1, 0, none⟩ = some (.int .i64 0) := (blk_cell hz 0).trans rfl; have hc17 : w'.cell? ⟨W.heap.size + 1, 17, none⟩ = some (.slice none 0 0) := (blk_cell hz 17).trans rfl; have hc18 : w'.cell? ⟨W.heap.size + 1, 18, none⟩ = some (.int .i64 0) := (blk_cell hz 18).trans rfl; have hc20 : w'.cell? ⟨W.heap.size + 1, 20, none⟩ = some (.int .i64 0) := (blk_cell hz 20).trans rfl; have hc21 : w'.cell? ⟨W.heap.size + 1, 21, none⟩ = some (.int .i64 0) := (blk_cell hz 21).trans rfl; clear hz s0
      go_simp
      with_reducible rfl
    rotate_left
    · simp only [Act.put, List.setIfInBounds_toArray, List.set_cons_zero, List.set_cons_succ, i64_w, i32_w]
      rfl
    refine join_ (σ := Nat × Nat) 1 #[true, true, true, true, true, true, true, true, true, true, true, true, true, true, true, true, false] (fun s => [(24, .slice (some ⟨s.1, 0, none⟩) 0 0), (27, .slice (some ⟨s.1, 0, none⟩) 0 0), (34, .agg #[.int .i64 0, .int .u32 0, .int .u32 0, .int .u32 0, .int .u32 0, .int .u32 0, .int .u32 0, .int .u32 0, .int .u32 0, .int .u32 0, .int .u32 0, .int .u32 0, .int .u32 0, .int .u32 0, .int .u32 0, .int .u32 0, .int .u32 0, (.slice (some ⟨s.1, 0, none⟩) 0 0), .int .i64 0, .string ⟨#[]⟩, .int .i64 0, .int .i64 0]), (12, .pointer (some ⟨s.2, 0, none⟩))]) (fun s w' => w'.heap[s.2]? = some (.cells Z109c 109 (0, 0)) ∧ w2.heap.size ≤ s.2 ∧ Below w2.heap.size w2 w') ?_ ?_
    rotate_left
    · intro hCont
      refine two_ (i := 4) (j := 15) (Ni := some 24) (Nj := some 12) #[true, true, true, true, true, true, true, false, true, true, true, true, true, true, false, false, false] #[true, true, true, true, false, true, true, false, true, true, true, true, true, true, false, true, false] rfl rfl rfl rfl (by kernel_rfl) (by decide) (by decide) (fun K hK => ?_) (fun K hK => ?_)
      · skip
        refine value_ (w1 := ?_) (v := ?_) (by rfl) rfl ?_ ?_
        rotate_left 2
        · go_simp
          constructor
          · rfl
          · rfl
        refine hK.out _ _ ((by repeat (first | (with_reducible exact Below.refl _ _) | (with_reducible apply below_alloc) | (with_reducible apply below_drew1) | (with_reducible apply pw_below_drewN) | (with_reducible assumption)))) (fun hHeld => ?_)
        clear hK K
        refine norm_ (a' := ?_) ?_ ?_
        rotate_left
        · show Act.put _ (some 24) _ = _
          simp only [Act.put, List.setIfInBounds_toArray, List.set_cons_zero, List.set_cons_succ, i64_w, i32_w]
          rfl
        refine two_ (i := 7) (j := 15) (Ni := some 27) (Nj := some 12) #[true, true, true, true, true, true, true, true, true, true, true, true, true, true, false, false, false] #[true, true, true, true, true, true, true, false, true, true, true, true, true, true, false, true, false] rfl rfl rfl rfl (by kernel_rfl) (by decide) (by decide) (fun K hK => ?_) (fun K hK => ?_)
        · skip
          refine value_ (w1 := ?_) (v := ?_) (by rfl) rfl ?_ ?_
          rotate_left 2
          · go_simp
            constructor
            · rfl
            · rfl
          refine hK.out _ _ ((by repeat (first | (with_reducible exact Below.refl _ _) | (with_reducible apply below_alloc) | (with_reducible apply below_drew1) | (with_reducible apply pw_below_drewN) | (with_reducible assumption)))) (fun hHeld => ?_)
          clear hK K
          refine norm_ (a' := ?_) ?_ ?_
          rotate_left
          · show Act.put _ (some 27) _ = _
            simp only [Act.put, List.setIfInBounds_toArray, List.set_cons_zero, List.set_cons_succ, i64_w, i32_w]
            rfl
          refine pure_ (i := 14) (N := some 34) (v := ?_) (a' := ?_) #[true, true, true, true, true, true, true, true, true, true, true, true, true, true, true, false, false] rfl rfl (by kernel_rfl) (fun _ _ _ h => h) (Or.inl ⟨by rfl, ?_⟩) ?_ ?_
          rotate_left
          · intro w'
            go_simp
            with_reducible rfl
          rotate_left
          · simp only [Act.put, List.setIfInBounds_toArray, List.set_cons_zero, List.set_cons_succ, i64_w, i32_w]
            rfl
          refine one_ (i := 15) (N := some 12) #[true, true, true, true, true, true, true, true, true, true, true, true, true, true, true, true, false] rfl rfl (by kernel_rfl) (by decide) (fun K hK => ?_)
          refine value_ (w1 := ?_) (v := ?_) (by rfl) rfl ?_ ?_
          rotate_left 2
          · go_simp
            constructor
            · rfl
            · rfl
          refine hK.out _ _ ((by repeat (first | (with_reducible exact Below.refl _ _) | (with_reducible apply below_alloc) | (with_reducible apply below_drew1) | (with_reducible apply pw_below_drewN) | (with_reducible assumption)))) (fun hHeld => ?_)
          clear hK K
          refine norm_ (a' := ?_) ?_ ?_
          rotate_left
          · show Act.put _ (some 12) _ = _
            simp only [Act.put, List.setIfInBounds_toArray, List.set_cons_zero, List.set_cons_succ, i64_w, i32_w]
            rfl
          exact norm_ (by simp only [putAll, Act.put, List.setIfInBounds_toArray, List.set_cons_zero, List.set_cons_succ]) (hCont (w2.heap.size, w2.heap.size + 1) _ ⟨(by show _ = _; first | exact blk_newat (by simp [World.drew]) | exact blk_alloc (blk_newat (by simp [World.drew])) _), (by first | exact Nat.le_refl _ | exact Nat.le_add_right _ _), (by repeat (first | (with_reducible exact Below.refl _ _) | (with_reducible apply below_alloc) | (with_reducible apply below_drew1) | (with_reducible apply pw_below_drewN) | (with_reducible assumption)))⟩)
        · skip
          refine value_ (w1 := ?_) (v := ?_) (by rfl) rfl ?_ ?_
          rotate_left 2
          · go_simp
            constructor
            · rfl
            · rfl
          refine hK.out _ _ ((by repeat (first | (with_reducible exact Below.refl _ _) | (with_reducible apply below_alloc) | (with_reducible apply below_drew1) | (with_reducible apply pw_below_drewN) | (with_reducible assumption)))) (fun hHeld => ?_)
          clear hK K
          refine norm_ (a' := ?_) ?_ ?_
          rotate_left
          · show Act.put _ (some 12) _ = _
            simp only [Act.put, List.setIfInBounds_toArray, List.set_cons_zero, List.set_cons_succ, i64_w, i32_w]
            rfl
          refine one_ (i := 7) (N := some 27) #[true, true, true, true, true, true, true, true, true, true, true, true, true, true, false, true, false] rfl rfl (by kernel_rfl) (by decide) (fun K hK => ?_)
          refine value_ (w1 := ?_) (v := ?_) (by rfl) rfl ?_ ?_
          rotate_left 2
          · go_simp
            constructor
            · rfl
            · rfl
          refine hK.out _ _ ((by repeat (first | (with_reducible exact Below.refl _ _) | (with_reducible apply below_alloc) | (with_reducible apply below_drew1) | (with_reducible apply pw_below_drewN) | (with_reducible assumption)))) (fun hHeld => ?_)
          clear hK K
          refine norm_ (a' := ?_) ?_ ?_
          rotate_left
          · show Act.put _ (some 27) _ = _
            simp only [Act.put, List.setIfInBounds_toArray, List.set_cons_zero, List.set_cons_succ, i64_w, i32_w]
            rfl
          refine pure_ (i := 14) (N := some 34) (v := ?_) (a' := ?_) #[true, true, true, true, true, true, true, true, true, true, true, true, true, true, true, true, false] rfl rfl (by kernel_rfl) (fun _ _ _ h => h) (Or.inl ⟨by rfl, ?_⟩) ?_ ?_
          rotate_left
          · intro w'
            go_simp
            with_reducible rfl
          rotate_left
          · simp only [Act.put, List.setIfInBounds_toArray, List.set_cons_zero, List.set_cons_succ, i64_w, i32_w]
            rfl
          exact norm_ (by simp only [putAll, Act.put, List.setIfInBounds_toArray, List.set_cons_zero, List.set_cons_succ]) (hCont (w2.heap.size, w2.heap.size + 1) _ ⟨(by show _ = _; first | exact blk_newat (by simp [World.drew]) | exact blk_alloc (blk_newat (by simp [World.drew])) _), (by first | exact Nat.le_refl _ | exact Nat.le_add_right _ _), (by repeat (first | (with_reducible exact Below.refl _ _) | (with_reducible apply below_alloc) | (with_reducible apply below_drew1) | (with_reducible apply pw_below_drewN) | (with_reducible assumption)))⟩)
      · skip
        refine value_ (w1 := ?_) (v := ?_) (by rfl) rfl ?_ ?_
        rotate_left 2
        · go_simp
          constructor
          · rfl
          · rfl
        refine hK.out _ _ ((by repeat (first | (with_reducible exact Below.refl _ _) | (with_reducible apply below_alloc) | (with_reducible apply below_drew1) | (with_reducible apply pw_below_drewN) | (with_reducible assumption)))) (fun hHeld => ?_)
        clear hK K
        refine norm_ (a' := ?_) ?_ ?_
        rotate_left
        · show Act.put _ (some 12) _ = _
          simp only [Act.put, List.setIfInBounds_toArray, List.set_cons_zero, List.set_cons_succ, i64_w, i32_w]
          rfl
        refine one_ (i := 4) (N := some 24) #[true, true, true, true, true, true, true, false, true, true, true, true, true, true, false, true, false] rfl rfl (by kernel_rfl) (by decide) (fun K hK => ?_)
        refine value_ (w1 := ?_) (v := ?_) (by rfl) rfl ?_ ?_
        rotate_left 2
        · go_simp
          constructor
          · rfl
          · rfl
        refine hK.out _ _ ((by repeat (first | (with_reducible exact Below.refl _ _) | (with_reducible apply below_alloc) | (with_reducible apply below_drew1) | (with_reducible apply pw_below_drewN) | (with_reducible assumption)))) (fun hHeld => ?_)
        clear hK K
        refine norm_ (a' := ?_) ?_ ?_
        rotate_left
        · show Act.put _ (some 24) _ = _
          simp only [Act.put, List.setIfInBounds_toArray, List.set_cons_zero, List.set_cons_succ, i64_w, i32_w]
          rfl
        refine one_ (i := 7) (N := some 27) #[true, true, true, true, true, true, true, true, true, true, true, true, true, true, false, true, false] rfl rfl (by kernel_rfl) (by decide) (fun K hK => ?_)
        refine value_ (w1 := ?_) (v := ?_) (by rfl) rfl ?_ ?_
        rotate_left 2
        · go_simp
          constructor
          · rfl
          · rfl
        refine hK.out _ _ ((by repeat (first | (with_reducible exact Below.refl _ _) | (with_reducible apply below_alloc) | (with_reducible apply below_drew1) | (with_reducible apply pw_below_drewN) | (with_reducible assumption)))) (fun hHeld => ?_)
        clear hK K
        refine norm_ (a' := ?_) ?_ ?_
        rotate_left
        · show Act.put _ (some 27) _ = _
          simp only [Act.put, List.setIfInBounds_toArray, List.set_cons_zero, List.set_cons_succ, i64_w, i32_w]
          rfl
        refine pure_ (i := 14) (N := some 34) (v := ?_) (a' := ?_) #[true, true, true, true, true, true, true, true, true, true, true, true, true, true, true, true, false] rfl rfl (by kernel_rfl) (fun _ _ _ h => h) (Or.inl ⟨by rfl, ?_⟩) ?_ ?_
        rotate_left
        · intro w'
          go_simp
          with_reducible rfl
        rotate_left
        · simp only [Act.put, List.setIfInBounds_toArray, List.set_cons_zero, List.set_cons_succ, i64_w, i32_w]
          rfl
        exact norm_ (by simp only [putAll, Act.put, List.setIfInBounds_toArray, List.set_cons_zero, List.set_cons_succ]) (hCont (w2.heap.size + 1, w2.heap.size) _ ⟨(by show _ = _; first | exact blk_newat (by simp [World.drew]) | exact blk_alloc (blk_newat (by simp [World.drew])) _), (by first | exact Nat.le_refl _ | exact Nat.le_add_right _ _), (by repeat (first | (with_reducible exact Below.refl _ _) | (with_reducible apply below_alloc) | (with_reducible apply below_drew1) | (with_reducible apply pw_below_drewN) | (with_reducible assumption)))⟩)
    rintro ⟨mb, ob⟩ w' ⟨hob, hoge, hbel⟩
    have hHeld := hbel
    dsimp only at hob hoge
    refine norm_ (a' := ?_) ?_ ?_
    rotate_left
    · simp only [putAll, Act.put, List.setIfInBounds_toArray, List.set_cons_zero, List.set_cons_succ]
      rfl
    refine one_ (i := 16) (N := none) #[true, true, true, true, true, true, true, true, true, true, true, true, true, true, true, true, true] rfl rfl (by kernel_rfl) (by decide) (fun K hK => ?_)
    refine skip_ (w1 := _) (by rfl) rfl (exec_store_row 109 (.tmp 12) (.tmp 34) ?_ ob (#[.int .i64 0, .int .u32 0, .int .u32 0, .int .u32 0, .int .u32 0, .int .u32 0, .int .u32 0, .int .u32 0, .int .u32 0, .int .u32 0, .int .u32 0, .int .u32 0, .int .u32 0, .int .u32 0, .int .u32 0, .int .u32 0, .int .u32 0, (.slice (some ⟨mb, 0, none⟩) 0 0), .int .i64 0, .string ⟨#[]⟩, .int .i64 0, .int .i64 0]) ?_ ?_ 109 Z109c hob ?_ ?_ ?_) ?_
    · rfl
    · rfl
    · rfl
    · exact Z109_size
    · rfl
    · simp [Value.oneCell']
    refine hK.out _ _ ((below_setRow hHeld hoge _)) (fun hHeld => ?_)
    clear hK K
    refine done_ (by kernel_rfl) ?_
    go_wp2_with fail
    go_meet
    case rel => exact ⟨ob, mb, rfl, setRow_heap _ _ _ _ _ _ hob, hHeld⟩
  case rest =>
    obtain ⟨ob, mb, rfl, hob, hbel⟩ := hcut
    have HOB := Aside0.mk hob
    have BZC := Aside0.mk (blk_below BZ.out hbel)
    have BMC := Aside0.mk (blk_below BM.out hbel)
    have HBC := Aside0.mk (below_step HB2.out hbel)
    have HB3 := Aside0.mk hbel
    clear hob hbel
    go_wp2_with fail
    go_cut [13] from 20 (fun v13 w' => ∃ (gb cb xb xc B : Nat), v13 = .pointer (some ⟨gb, 0, none⟩) ∧ w'.heap[gb]? = some (.cells (WC bc bo cb co1 co2 37 (.slice (some ⟨mb, 0, none⟩) 0 0) (.slice A sw.length c) ⟨#[]⟩ inp init (.slice (some ⟨xb, 0, none⟩) 0 xc)) 145 (0, 0)) ∧ OutOk w' B (.slice (some ⟨xb, 0, none⟩) 0 xc) [] ∧ (∃ cs, w'.heap[cb]? = some (.cells cs 3 (0, 0)) ∧ Counts cs) ∧ w2.heap.size ≤ B ∧ B ≤ w'.heap.size ∧ B ≤ gb ∧ B ≤ cb ∧ Below w2.heap.size w2 w')
    case first =>
      refine start_ (n := 16) (S := fun w' => Below wc.heap.size wc w') (ds := []) #[false, false, false, false, false, false, false, false, false, false, false, false, false, false, false, false] (by kernel_rfl) rfl rfl ((by repeat (first | (with_reducible exact Below.refl _ _) | (with_reducible apply below_alloc) | (with_reducible apply below_drew1) | (with_reducible apply pw_below_drewN) | (with_reducible apply below_bytes) | (with_reducible assumption)))) (fun hHeld => ?_)
      refine pure_ (i := 1) (N := some 36) (v := ?_) (a' := ?_) #[false, true, false, false, false, false, false, false, false, false, false, false, false, false, false, false] rfl rfl (by kernel_rfl) (fun _ _ _ h => h) (Or.inl ⟨by rfl, ?_⟩) ?_ ?_
      rotate_left
      · intro w'
        go_simp
        with_reducible rfl
      rotate_left
      · simp only [Act.put, List.setIfInBounds_toArray, List.set_cons_zero, List.set_cons_succ, i64_w, i32_w]
        rfl
      refine pure_ (i := 4) (N := some 39) (v := ?_) (a' := ?_) #[false, true, false, false, true, false, false, false, false, false, false, false, false, false, false, false] rfl rfl (by kernel_rfl) (fun _ _ _ h => h) (Or.inl ⟨by rfl, ?_⟩) ?_ ?_
      rotate_left
      · intro w'
        go_simp
        with_reducible rfl
      rotate_left
      · simp only [Act.put, List.setIfInBounds_toArray, List.set_cons_zero, List.set_cons_succ, i64_w, i32_w]
        rfl
      refine pure_ (i := 5) (N := some 40) (v := ?_) (a' := ?_) #[false, true, false, false, true, true, false, false, false, false, false, false, false, false, false, false] rfl rfl (by kernel_rfl) (fun _ _ _ h => h) (Or.inl ⟨by rfl, ?_⟩) ?_ ?_
      rotate_left
      · intro w'
        go_simp
        with_reducible rfl
      rotate_left
      · simp only [Act.put, List.setIfInBounds_toArray, List.set_cons_zero, List.set_cons_succ, i64_w, i32_w]
        rfl
      refine pure_ (i := 6) (N := some 41) (v := ?_) (a' := ?_) #[false, true, false, false, true, true, true, false, false, false, false, false, false, false, false, false] rfl rfl (by kernel_rfl) (fun _ _ _ h => h) (Or.inl ⟨by rfl, ?_⟩) ?_ ?_
      rotate_left
      · intro w'
        go_simp
        with_reducible rfl
      rotate_left
      · simp only [Act.put, List.setIfInBounds_toArray, List.set_cons_zero, List.set_cons_succ, i64_w, i32_w]
        rfl
      refine pure_ (i := 8) (N := some 43) (v := ?_) (a' := ?_) #[false, true, false, false, true, true, true, false, true, false, false, false, false, false, false, false] rfl rfl (by kernel_rfl) (fun _ _ _ h => h) (Or.inl ⟨by rfl, ?_⟩) ?_ ?_
      rotate_left
      · intro w'
        go_simp
        with_reducible rfl
      rotate_left
      · simp only [Act.put, List.setIfInBounds_toArray, List.set_cons_zero, List.set_cons_succ, i64_w, i32_w]
        rfl
      refine pure_ (i := 9) (N := some 44) (v := ?_) (a' := ?_) #[false, true, false, false, true, true, true, false, true, true, false, false, false, false, false, false] rfl rfl (by kernel_rfl) (fun _ _ _ h => h) (Or.inl ⟨by rfl, ?_⟩) ?_ ?_
      rotate_left
      · intro w'
        go_simp
        with_reducible rfl
      rotate_left
      · simp only [Act.put, List.setIfInBounds_toArray, List.set_cons_zero, List.set_cons_succ, i64_w, i32_w]
        rfl
      refine take_ (i := 0) (N := some 35) (v := ?_) (a' := ?_) #[true, true, false, false, true, true, true, false, true, true, false, false, false, false, false, false] rfl rfl (by kernel_rfl) (fun _ _ _ h => h) (Or.inl ⟨by rfl, ?_⟩) hHeld ?_ ?_
      rotate_left
      · intro w' s0
        refine exec_load109 (.tmp 12) ?_ ob ?_ #[.int .i64 0, .int .u32 0, .int .u32 0, .int .u32 0, .int .u32 0, .int .u32 0, .int .u32 0, .int .u32 0, .int .u32 0, .int .u32 0, .int .u32 0, .int .u32 0, .int .u32 0, .int .u32 0, .int .u32 0, .int .u32 0, .int .u32 0, (.slice (some ⟨mb, 0, none⟩) 0 0), .int .i64 0, .string ⟨#[]⟩, .int .i64 0, .int .i64 0] (blk_below HOB.out s0) ?_
        · rfl
        · rfl
        · exact Z109_size
      rotate_left
      · simp only [Act.put, List.setIfInBounds_toArray, List.set_cons_zero, List.set_cons_succ, i64_w, i32_w]
        rfl
      refine take_ (i := 2) (N := some 37) (v := ?_) (a' := ?_) #[true, true, true, false, true, true, true, false, true, true, false, false, false, false, false, false] rfl rfl (by kernel_rfl) (fun _ _ _ h => h) (Or.inl ⟨by rfl, ?_⟩) hHeld ?_ ?_
      rotate_left
      · intro w' s0
        have hc19 : w'.cell? ⟨W.heap.size + 1, 19, none⟩ = some (.string ⟨#[]⟩) := (blk_cell (blk_below BZC.out s0) 19).trans rfl
        go_simp
        with_reducible rfl
      rotate_left
      · simp only [Act.put, List.setIfInBounds_toArray, List.set_cons_zero, List.set_cons_succ, i64_w, i32_w]
        rfl
      refine take_ (i := 7) (N := some 42) (v := ?_) (a' := ?_) #[true, true, true, false, true, true, true, true, true, true, false, false, false, false, false, false] rfl rfl (by kernel_rfl) (fun _ _ _ h => h) (Or.inl ⟨by rfl, ?_⟩) hHeld ?_ ?_
      rotate_left
      · intro w' s0
        have hc0 : w'.cell? ⟨W.heap.size, 0, none⟩ = some (.slice A sw.length c) := (blk_cell (blk_below BMC.out s0) 0).trans rfl
        go_simp
        with_reducible rfl
      rotate_left
      · simp only [Act.put, List.setIfInBounds_toArray, List.set_cons_zero, List.set_cons_succ, i64_w, i32_w]
        rfl
      refine take_ (i := 10) (N := some 45) (v := ?_) (a' := ?_) #[true, true, true, false, true, true, true, true, true, true, true, false, false, false, false, false] rfl rfl (by kernel_rfl) (fun _ _ _ h => h) (Or.inl ⟨by rfl, ?_⟩) hHeld ?_ ?_
      rotate_left
      · intro w' s0
        have hc0 : w'.cell? ⟨W.heap.size, 0, none⟩ = some (.slice A sw.length c) := (blk_cell (blk_below BMC.out s0) 0).trans rfl
        go_simp
        with_reducible rfl
      rotate_left
      · simp only [Act.put, List.setIfInBounds_toArray, List.set_cons_zero, List.set_cons_succ, i64_w, i32_w]
        rfl
      refine pure_ (i := 11) (N := some 46) (v := ?_) (a' := ?_) #[true, true, true, false, true, true, true, true, true, true, true, true, false, false, false, false] rfl rfl (by kernel_rfl) (fun _ _ _ h => h) (Or.inl ⟨by rfl, ?_⟩) ?_ ?_
      rotate_left
      · intro w'
        go_simp
        with_reducible rfl
      rotate_left
      · simp only [Act.put, List.setIfInBounds_toArray, List.set_cons_zero, List.set_cons_succ, i64_w, i32_w]
        rfl
      refine join_ (σ := Nat × Nat × Nat × Nat) 1 #[true, true, true, true, true, true, true, true, true, true, true, true, true, true, true, false] (fun s => [(38, .slice (some ⟨s.1, 0, none⟩) 0 s.2.1), (47, .slice (some ⟨s.2.2.1, 0, none⟩) 37 37), (48, .agg #[.int .i64 0, .int .u32 0, .int .u32 0, .int .u32 0, .int .u32 0, .int .u32 0, .int .u32 0, .int .u32 0, .int .u32 0, .int .u32 0, .int .u32 0, .int .u32 0, .int .u32 0, .int .u32 0, .int .u32 0, .int .u32 0, .int .u32 0, (.slice (some ⟨mb, 0, none⟩) 0 0), .int .i64 0, .string ⟨#[]⟩, .int .i64 0, .int .i64 0, .slice (some ⟨s.1, 0, none⟩) 0 s.2.1, .slice (some ⟨bc, 0, none⟩) 37 co1, .slice (some ⟨bo, 0, none⟩) 37 co2, .slice A sw.length c, .string inp, .slice (some ⟨s.2.2.1, 0, none⟩) 37 37]), (13, .pointer (some ⟨s.2.2.2, 0, none⟩))]) (fun s w' => OutOk w' wc.heap.size (.slice (some ⟨s.1, 0, none⟩) 0 s.2.1) [] ∧ w'.heap[s.2.2.1]? = some (.cells (madeCells #[.int .i64 0] 37) 3 (0, 0)) ∧ w'.heap[s.2.2.2]? = some (.cells Z145c 145 (0, 0)) ∧ wc.heap.size ≤ s.2.2.1 ∧ wc.heap.size ≤ s.2.2.2 ∧ Below wc.heap.size wc w') ?_ ?_
      rotate_left
      · intro hCont
        refine three_ (i := 3) (j := 12) (k := 14) (Ni := some 38) (Nj := some 47) (Nk := some 13) #[true, true, true, true, true, true, true, true, true, true, true, true, false, false, false, false] #[true, true, true, false, true, true, true, true, true, true, true, true, true, false, false, false] #[true, true, true, false, true, true, true, true, true, true, true, true, false, false, true, false] rfl rfl rfl rfl rfl rfl (by kernel_rfl) (by decide) (by decide) (by decide) (fun K hK => ?_) (fun K hK => ?_) (fun K hK => ?_)
        · skip
          refine value_ (by rfl) rfl (exec_bytes (.tmp 37) ?_ ?_ (wc.heap.size) ?_) ?_
          · rfl
          · rfl
          · simp only [sz_drew, sz_alloc, sz_bytes]
          refine hK.out _ _ ((by repeat (first | (with_reducible exact Below.refl _ _) | (with_reducible apply below_alloc) | (with_reducible apply below_drew1) | (with_reducible apply pw_below_drewN) | (with_reducible apply below_bytes) | (with_reducible assumption)))) (fun hHeld => ?_)
          clear hK K
          refine norm_ (a' := ?_) ?_ ?_
          rotate_left
          · show Act.put _ (some 38) _ = _
            simp only [Act.put, List.setIfInBounds_toArray, List.set_cons_zero, List.set_cons_succ, i64_w, i32_w]
            rfl
          refine two_ (i := 12) (j := 14) (Ni := some 47) (Nj := some 13) #[true, true, true, true, true, true, true, true, true, true, true, true, true, false, false, false] #[true, true, true, true, true, true, true, true, true, true, true, true, false, false, true, false] rfl rfl rfl rfl (by kernel_rfl) (by decide) (by decide) (fun K hK => ?_) (fun K hK => ?_)
          · skip
            refine value_ (by rfl) rfl (exec_make (.tmp 46) ?_ sw.length ?_ HL.out (wc.heap.size + 1) ?_) ?_
            · rfl
            · rfl
            · simp only [sz_drew, sz_alloc, sz_bytes]
            refine hK.out _ _ ((by repeat (first | (with_reducible exact Below.refl _ _) | (with_reducible apply below_alloc) | (with_reducible apply below_drew1) | (with_reducible apply pw_below_drewN) | (with_reducible apply below_bytes) | (with_reducible assumption)))) (fun hHeld => ?_)
            clear hK K
            refine norm_ (a' := ?_) ?_ ?_
            rotate_left
            · show Act.put _ (some 47) _ = _
              simp only [Act.put, List.setIfInBounds_toArray, List.set_cons_zero, List.set_cons_succ, i64_w, i32_w]
              rfl
            refine pure_ (i := 13) (N := some 48) (v := ?_) (a' := ?_) #[true, true, true, true, true, true, true, true, true, true, true, true, true, true, false, false] rfl rfl (by kernel_rfl) (fun _ _ _ h => h) (Or.inl ⟨by rfl, ?_⟩) ?_ ?_
            rotate_left
            · intro w'
              go_simp
              with_reducible rfl
            rotate_left
            · simp only [Act.put, List.setIfInBounds_toArray, List.set_cons_zero, List.set_cons_succ, i64_w, i32_w]
              rfl
            refine one_ (i := 14) (N := some 13) #[true, true, true, true, true, true, true, true, true, true, true, true, true, true, true, false] rfl rfl (by kernel_rfl) (by decide) (fun K hK => ?_)
            refine value_ (by rfl) rfl (exec_alloc145 ?_ (wc.heap.size + 1 + 1) ?_) ?_
            · rfl
            · simp only [sz_drew, sz_alloc, sz_bytes]
            refine hK.out _ _ ((by repeat (first | (with_reducible exact Below.refl _ _) | (with_reducible apply below_alloc) | (with_reducible apply below_drew1) | (with_reducible apply pw_below_drewN) | (with_reducible apply below_bytes) | (with_reducible assumption)))) (fun hHeld => ?_)
            clear hK K
            refine norm_ (a' := ?_) ?_ ?_
            rotate_left
            · show Act.put _ (some 13) _ = _
              simp only [Act.put, List.setIfInBounds_toArray, List.set_cons_zero, List.set_cons_succ, i64_w, i32_w]
              rfl
            exact norm_ (by first | (simp only [putAll, Act.put, List.setIfInBounds_toArray, List.set_cons_zero, List.set_cons_succ]; done) | (simp only [putAll, Act.put, List.setIfInBounds_toArray, List.set_cons_zero, List.set_cons_succ]; rfl)) (hCont ((wc.heap.size), _, (wc.heap.size + 1), (wc.heap.size + 1 + 1)) _ ⟨(by repeat (first | (with_reducible apply OutOk.alloc) | exact out_made' _ _ _ (by first | exact Nat.le_refl _ | (simp only [sz_drew, sz_alloc, sz_bytes]; omega)) (by simp only [sz_drew, sz_alloc, sz_bytes]))), (by repeat (first | (with_reducible exact blk_new _ _) | exact blk_newat (by simp only [sz_drew, sz_alloc, sz_bytes]) | (with_reducible apply blk_alloc) | (with_reducible apply blk_drew) | (with_reducible apply blk_bytes))), (by repeat (first | (with_reducible exact blk_new _ _) | exact blk_newat (by simp only [sz_drew, sz_alloc, sz_bytes]) | (with_reducible apply blk_alloc) | (with_reducible apply blk_drew) | (with_reducible apply blk_bytes))), (by first | exact Nat.le_refl _ | (simp only [sz_drew, sz_alloc, sz_bytes]; omega)), (by first | exact Nat.le_refl _ | (simp only [sz_drew, sz_alloc, sz_bytes]; omega)), (by repeat (first | (with_reducible exact Below.refl _ _) | (with_reducible apply below_alloc) | (with_reducible apply below_drew1) | (with_reducible apply pw_below_drewN) | (with_reducible apply below_bytes) | (with_reducible assumption)))⟩)
          · skip
            refine value_ (by rfl) rfl (exec_alloc145 ?_ (wc.heap.size + 1) ?_) ?_
            · rfl
            · simp only [sz_drew, sz_alloc, sz_bytes]
            refine hK.out _ _ ((by repeat (first | (with_reducible exact Below.refl _ _) | (with_reducible apply below_alloc) | (with_reducible apply below_drew1) | (with_reducible apply pw_below_drewN) | (with_reducible apply below_bytes) | (with_reducible assumption)))) (fun hHeld => ?_)
            clear hK K
            refine norm_ (a' := ?_) ?_ ?_
            rotate_left
            · show Act.put _ (some 13) _ = _
              simp only [Act.put, List.setIfInBounds_toArray, List.set_cons_zero, List.set_cons_succ, i64_w, i32_w]
              rfl
            refine one_ (i := 12) (N := some 47) #[true, true, true, true, true, true, true, true, true, true, true, true, true, false, true, false] rfl rfl (by kernel_rfl) (by decide) (fun K hK => ?_)
            refine value_ (by rfl) rfl (exec_make (.tmp 46) ?_ sw.length ?_ HL.out (wc.heap.size + 1 + 1) ?_) ?_
            · rfl
            · rfl
            · simp only [sz_drew, sz_alloc, sz_bytes]
            refine hK.out _ _ ((by repeat (first | (with_reducible exact Below.refl _ _) | (with_reducible apply below_alloc) | (with_reducible apply below_drew1) | (with_reducible apply pw_below_drewN) | (with_reducible apply below_bytes) | (with_reducible assumption)))) (fun hHeld => ?_)
            clear hK K
            refine norm_ (a' := ?_) ?_ ?_
            rotate_left
            · show Act.put _ (some 47) _ = _
              simp only [Act.put, List.setIfInBounds_toArray, List.set_cons_zero, List.set_cons_succ, i64_w, i32_w]
              rfl
            refine pure_ (i := 13) (N := some 48) (v := ?_) (a' := ?_) #[true, true, true, true, true, true, true, true, true, true, true, true, true, true, true, false] rfl rfl (by kernel_rfl) (fun _ _ _ h => h) (Or.inl ⟨by rfl, ?_⟩) ?_ ?_
            rotate_left
            · intro w'
              go_simp
              with_reducible rfl
            rotate_left
            · simp only [Act.put, List.setIfInBounds_toArray, List.set_cons_zero, List.set_cons_succ, i64_w, i32_w]
              rfl
            exact norm_ (by first | (simp only [putAll, Act.put, List.setIfInBounds_toArray, List.set_cons_zero, List.set_cons_succ]; done) | (simp only [putAll, Act.put, List.setIfInBounds_toArray, List.set_cons_zero, List.set_cons_succ]; rfl)) (hCont ((wc.heap.size), _, (wc.heap.size + 1 + 1), (wc.heap.size + 1)) _ ⟨(by repeat (first | (with_reducible apply OutOk.alloc) | exact out_made' _ _ _ (by first | exact Nat.le_refl _ | (simp only [sz_drew, sz_alloc, sz_bytes]; omega)) (by simp only [sz_drew, sz_alloc, sz_bytes]))), (by repeat (first | (with_reducible exact blk_new _ _) | exact blk_newat (by simp only [sz_drew, sz_alloc, sz_bytes]) | (with_reducible apply blk_alloc) | (with_reducible apply blk_drew) | (with_reducible apply blk_bytes))), (by repeat (first | (with_reducible exact blk_new _ _) | exact blk_newat (by simp only [sz_drew, sz_alloc, sz_bytes]) | (with_reducible apply blk_alloc) | (with_reducible apply blk_drew) | (with_reducible apply blk_bytes))), (by first | exact Nat.le_refl _ | (simp only [sz_drew, sz_alloc, sz_bytes]; omega)), (by first | exact Nat.le_refl _ | (simp only [sz_drew, sz_alloc, sz_bytes]; omega)), (by repeat (first | (with_reducible exact Below.refl _ _) | (with_reducible apply below_alloc) | (with_reducible apply below_drew1) | (with_reducible apply pw_below_drewN) | (with_reducible apply below_bytes) | (with_reducible assumption)))⟩)
        · skip
          refine value_ (by rfl) rfl (exec_make (.tmp 46) ?_ sw.length ?_ HL.out (wc.heap.size) ?_) ?_
          · rfl
          · rfl
          · simp only [sz_drew, sz_alloc, sz_bytes]
          refine hK.out _ _ ((by repeat (first | (with_reducible exact Below.refl _ _) | (with_reducible apply below_alloc) | (with_reducible apply below_drew1) | (with_reducible apply pw_below_drewN) | (with_reducible apply below_bytes) | (with_reducible assumption)))) (fun hHeld => ?_)
          clear hK K
          refine norm_ (a' := ?_) ?_ ?_
          rotate_left
          · show Act.put _ (some 47) _ = _
            simp only [Act.put, List.setIfInBounds_toArray, List.set_cons_zero, List.set_cons_succ, i64_w, i32_w]
            rfl
          refine two_ (i := 3) (j := 14) (Ni := some 38) (Nj := some 13) #[true, true, true, true, true, true, true, true, true, true, true, true, true, false, false, false] #[true, true, true, false, true, true, true, true, true, true, true, true, true, false, true, false] rfl rfl rfl rfl (by kernel_rfl) (by decide) (by decide) (fun K hK => ?_) (fun K hK => ?_)
          · skip
            refine value_ (by rfl) rfl (exec_bytes (.tmp 37) ?_ ?_ (wc.heap.size + 1) ?_) ?_
            · rfl
            · rfl
            · simp only [sz_drew, sz_alloc, sz_bytes]
            refine hK.out _ _ ((by repeat (first | (with_reducible exact Below.refl _ _) | (with_reducible apply below_alloc) | (with_reducible apply below_drew1) | (with_reducible apply pw_below_drewN) | (with_reducible apply below_bytes) | (with_reducible assumption)))) (fun hHeld => ?_)
            clear hK K
            refine norm_ (a' := ?_) ?_ ?_
            rotate_left
            · show Act.put _ (some 38) _ = _
              simp only [Act.put, List.setIfInBounds_toArray, List.set_cons_zero, List.set_cons_succ, i64_w, i32_w]
              rfl
            refine pure_ (i := 13) (N := some 48) (v := ?_) (a' := ?_) #[true, true, true, true, true, true, true, true, true, true, true, true, true, true, false, false] rfl rfl (by kernel_rfl) (fun _ _ _ h => h) (Or.inl ⟨by rfl, ?_⟩) ?_ ?_
            rotate_left
            · intro w'
              go_simp
              with_reducible rfl
            rotate_left
            · simp only [Act.put, List.setIfInBounds_toArray, List.set_cons_zero, List.set_cons_succ, i64_w, i32_w]
              rfl
            refine one_ (i := 14) (N := some 13) #[true, true, true, true, true, true, true, true, true, true, true, true, true, true, true, false] rfl rfl (by kernel_rfl) (by decide) (fun K hK => ?_)
            refine value_ (by rfl) rfl (exec_alloc145 ?_ (wc.heap.size + 1 + 1) ?_) ?_
            · rfl
            · simp only [sz_drew, sz_alloc, sz_bytes]
            refine hK.out _ _ ((by repeat (first | (with_reducible exact Below.refl _ _) | (with_reducible apply below_alloc) | (with_reducible apply below_drew1) | (with_reducible apply pw_below_drewN) | (with_reducible apply below_bytes) | (with_reducible assumption)))) (fun hHeld => ?_)
            clear hK K
            refine norm_ (a' := ?_) ?_ ?_
            rotate_left
            · show Act.put _ (some 13) _ = _
              simp only [Act.put, List.setIfInBounds_toArray, List.set_cons_zero, List.set_cons_succ, i64_w, i32_w]
              rfl
            exact norm_ (by first | (simp only [putAll, Act.put, List.setIfInBounds_toArray, List.set_cons_zero, List.set_cons_succ]; done) | (simp only [putAll, Act.put, List.setIfInBounds_toArray, List.set_cons_zero, List.set_cons_succ]; rfl)) (hCont ((wc.heap.size + 1), _, (wc.heap.size), (wc.heap.size + 1 + 1)) _ ⟨(by repeat (first | (with_reducible apply OutOk.alloc) | exact out_made' _ _ _ (by first | exact Nat.le_refl _ | (simp only [sz_drew, sz_alloc, sz_bytes]; omega)) (by simp only [sz_drew, sz_alloc, sz_bytes]))), (by repeat (first | (with_reducible exact blk_new _ _) | exact blk_newat (by simp only [sz_drew, sz_alloc, sz_bytes]) | (with_reducible apply blk_alloc) | (with_reducible apply blk_drew) | (with_reducible apply blk_bytes))), (by repeat (first | (with_reducible exact blk_new _ _) | exact blk_newat (by simp only [sz_drew, sz_alloc, sz_bytes]) | (with_reducible apply blk_alloc) | (with_reducible apply blk_drew) | (with_reducible apply blk_bytes))), (by first | exact Nat.le_refl _ | (simp only [sz_drew, sz_alloc, sz_bytes]; omega)), (by first | exact Nat.le_refl _ | (simp only [sz_drew, sz_alloc, sz_bytes]; omega)), (by repeat (first | (with_reducible exact Below.refl _ _) | (with_reducible apply below_alloc) | (with_reducible apply below_drew1) | (with_reducible apply pw_below_drewN) | (with_reducible apply below_bytes) | (with_reducible assumption)))⟩)
          · skip
            refine value_ (by rfl) rfl (exec_alloc145 ?_ (wc.heap.size + 1) ?_) ?_
            · rfl
            · simp only [sz_drew, sz_alloc, sz_bytes]
            refine hK.out _ _ ((by repeat (first | (with_reducible exact Below.refl _ _) | (with_reducible apply below_alloc) | (with_reducible apply below_drew1) | (with_reducible apply pw_below_drewN) | (with_reducible apply below_bytes) | (with_reducible assumption)))) (fun hHeld => ?_)
            clear hK K
            refine norm_ (a' := ?_) ?_ ?_
            rotate_left
            · show Act.put _ (some 13) _ = _
              simp only [Act.put, List.setIfInBounds_toArray, List.set_cons_zero, List.set_cons_succ, i64_w, i32_w]
              rfl
            refine one_ (i := 3) (N := some 38) #[true, true, true, true, true, true, true, true, true, true, true, true, true, false, true, false] rfl rfl (by kernel_rfl) (by decide) (fun K hK => ?_)
            refine value_ (by rfl) rfl (exec_bytes (.tmp 37) ?_ ?_ (wc.heap.size + 1 + 1) ?_) ?_
            · rfl
            · rfl
            · simp only [sz_drew, sz_alloc, sz_bytes]
            refine hK.out _ _ ((by repeat (first | (with_reducible exact Below.refl _ _) | (with_reducible apply below_alloc) | (with_reducible apply below_drew1) | (with_reducible apply pw_below_drewN) | (with_reducible apply below_bytes) | (with_reducible assumption)))) (fun hHeld => ?_)
            clear hK K
            refine norm_ (a' := ?_) ?_ ?_
            rotate_left
            · show Act.put _ (some 38) _ = _
              simp only [Act.put, List.setIfInBounds_toArray, List.set_cons_zero, List.set_cons_succ, i64_w, i32_w]
              rfl
            refine pure_ (i := 13) (N := some 48) (v := ?_) (a' := ?_) #[true, true, true, true, true, true, true, true, true, true, true, true, true, true, true, false] rfl rfl (by kernel_rfl) (fun _ _ _ h => h) (Or.inl ⟨by rfl, ?_⟩) ?_ ?_
            rotate_left
            · intro w'
              go_simp
              with_reducible rfl
            rotate_left
            · simp only [Act.put, List.setIfInBounds_toArray, List.set_cons_zero, List.set_cons_succ, i64_w, i32_w]
              rfl
            exact norm_ (by first | (simp only [putAll, Act.put, List.setIfInBounds_toArray, List.set_cons_zero, List.set_cons_succ]; done) | (simp only [putAll, Act.put, List.setIfInBounds_toArray, List.set_cons_zero, List.set_cons_succ]; rfl)) (hCont ((wc.heap.size + 1 + 1), _, (wc.heap.size), (wc.heap.size + 1)) _ ⟨(by repeat (first | (with_reducible apply OutOk.alloc) | exact out_made' _ _ _ (by first | exact Nat.le_refl _ | (simp only [sz_drew, sz_alloc, sz_bytes]; omega)) (by simp only [sz_drew, sz_alloc, sz_bytes]))), (by repeat (first | (with_reducible exact blk_new _ _) | exact blk_newat (by simp only [sz_drew, sz_alloc, sz_bytes]) | (with_reducible apply blk_alloc) | (with_reducible apply blk_drew) | (with_reducible apply blk_bytes))), (by repeat (first | (with_reducible exact blk_new _ _) | exact blk_newat (by simp only [sz_drew, sz_alloc, sz_bytes]) | (with_reducible apply blk_alloc) | (with_reducible apply blk_drew) | (with_reducible apply blk_bytes))), (by first | exact Nat.le_refl _ | (simp only [sz_drew, sz_alloc, sz_bytes]; omega)), (by first | exact Nat.le_refl _ | (simp only [sz_drew, sz_alloc, sz_bytes]; omega)), (by repeat (first | (with_reducible exact Below.refl _ _) | (with_reducible apply below_alloc) | (with_reducible apply below_drew1) | (with_reducible apply pw_below_drewN) | (with_reducible apply below_bytes) | (with_reducible assumption)))⟩)
        · skip
          refine value_ (by rfl) rfl (exec_alloc145 ?_ (wc.heap.size) ?_) ?_
          · rfl
          · simp only [sz_drew, sz_alloc, sz_bytes]
          refine hK.out _ _ ((by repeat (first | (with_reducible exact Below.refl _ _) | (with_reducible apply below_alloc) | (with_reducible apply below_drew1) | (with_reducible apply pw_below_drewN) | (with_reducible apply below_bytes) | (with_reducible assumption)))) (fun hHeld => ?_)
          clear hK K
          refine norm_ (a' := ?_) ?_ ?_
          rotate_left
          · show Act.put _ (some 13) _ = _
            simp only [Act.put, List.setIfInBounds_toArray, List.set_cons_zero, List.set_cons_succ, i64_w, i32_w]
            rfl
          refine two_ (i := 3) (j := 12) (Ni := some 38) (Nj := some 47) #[true, true, true, true, true, true, true, true, true, true, true, true, false, false, true, false] #[true, true, true, false, true, true, true, true, true, true, true, true, true, false, true, false] rfl rfl rfl rfl (by kernel_rfl) (by decide) (by decide) (fun K hK => ?_) (fun K hK => ?_)
          · skip
            refine value_ (by rfl) rfl (exec_bytes (.tmp 37) ?_ ?_ (wc.heap.size + 1) ?_) ?_
            · rfl
            · rfl
            · simp only [sz_drew, sz_alloc, sz_bytes]
            refine hK.out _ _ ((by repeat (first | (with_reducible exact Below.refl _ _) | (with_reducible apply below_alloc) | (with_reducible apply below_drew1) | (with_reducible apply pw_below_drewN) | (with_reducible apply below_bytes) | (with_reducible assumption)))) (fun hHeld => ?_)
            clear hK K
            refine norm_ (a' := ?_) ?_ ?_
            rotate_left
            · show Act.put _ (some 38) _ = _
              simp only [Act.put, List.setIfInBounds_toArray, List.set_cons_zero, List.set_cons_succ, i64_w, i32_w]
              rfl
            refine one_ (i := 12) (N := some 47) #[true, true, true, true, true, true, true, true, true, true, true, true, true, false, true, false] rfl rfl (by kernel_rfl) (by decide) (fun K hK => ?_)
            refine value_ (by rfl) rfl (exec_make (.tmp 46) ?_ sw.length ?_ HL.out (wc.heap.size + 1 + 1) ?_) ?_
            · rfl
            · rfl
            · simp only [sz_drew, sz_alloc, sz_bytes]
            refine hK.out _ _ ((by repeat (first | (with_reducible exact Below.refl _ _) | (with_reducible apply below_alloc) | (with_reducible apply below_drew1) | (with_reducible apply pw_below_drewN) | (with_reducible apply below_bytes) | (with_reducible assumption)))) (fun hHeld => ?_)
            clear hK K
            refine norm_ (a' := ?_) ?_ ?_
            rotate_left
            · show Act.put _ (some 47) _ = _
              simp only [Act.put, List.setIfInBounds_toArray, List.set_cons_zero, List.set_cons_succ, i64_w, i32_w]
              rfl
            refine pure_ (i := 13) (N := some 48) (v := ?_) (a' := ?_) #[true, true, true, true, true, true, true, true, true, true, true, true, true, true, true, false] rfl rfl (by kernel_rfl) (fun _ _ _ h => h) (Or.inl ⟨by rfl, ?_⟩) ?_ ?_
            rotate_left
            · intro w'
              go_simp
              with_reducible rfl
            rotate_left
            · simp only [Act.put, List.setIfInBounds_toArray, List.set_cons_zero, List.set_cons_succ, i64_w, i32_w]
              rfl
            exact norm_ (by first | (simp only [putAll, Act.put, List.setIfInBounds_toArray, List.set_cons_zero, List.set_cons_succ]; done) | (simp only [putAll, Act.put, List.setIfInBounds_toArray, List.set_cons_zero, List.set_cons_succ]; rfl)) (hCont ((wc.heap.size + 1), _, (wc.heap.size + 1 + 1), (wc.heap.size)) _ ⟨(by repeat (first | (with_reducible apply OutOk.alloc) | exact out_made' _ _ _ (by first | exact Nat.le_refl _ | (simp only [sz_drew, sz_alloc, sz_bytes]; omega)) (by simp only [sz_drew, sz_alloc, sz_bytes]))), (by repeat (first | (with_reducible exact blk_new _ _) | exact blk_newat (by simp only [sz_drew, sz_alloc, sz_bytes]) | (with_reducible apply blk_alloc) | (with_reducible apply blk_drew) | (with_reducible apply blk_bytes))), (by repeat (first | (with_reducible exact blk_new _ _) | exact blk_newat (by simp only [sz_drew, sz_alloc, sz_bytes]) | (with_reducible apply blk_alloc) | (with_reducible apply blk_drew) | (with_reducible apply blk_bytes))), (by first | exact Nat.le_refl _ | (simp only [sz_drew, sz_alloc, sz_bytes]; omega)), (by first | exact Nat.le_refl _ | (simp only [sz_drew, sz_alloc, sz_bytes]; omega)), (by repeat (first | (with_reducible exact Below.refl _ _) | (with_reducible apply below_alloc) | (with_reducible apply below_drew1) | (with_reducible apply pw_below_drewN) | (with_reducible apply below_bytes) | (with_reducible assumption)))⟩)
          · skip
            refine value_ (by rfl) rfl (exec_make (.tmp 46) ?_ sw.length ?_ HL.out (wc.heap.size + 1) ?_) ?_
            · rfl
            · rfl
            · simp only [sz_drew, sz_alloc, sz_bytes]
            refine hK.out _ _ ((by repeat (first | (with_reducible exact Below.refl _ _) | (with_reducible apply below_alloc) | (with_reducible apply below_drew1) | (with_reducible apply pw_below_drewN) | (with_reducible apply below_bytes) | (with_reducible assumption)))) (fun hHeld => ?_)
            clear hK K
            refine norm_ (a' := ?_) ?_ ?_
            rotate_left
            · show Act.put _ (some 47) _ = _
              simp only [Act.put, List.setIfInBounds_toArray, List.set_cons_zero, List.set_cons_succ, i64_w, i32_w]
              rfl
            refine one_ (i := 3) (N := some 38) #[true, true, true, true, true, true, true, true, true, true, true, true, true, false, true, false] rfl rfl (by kernel_rfl) (by decide) (fun K hK => ?_)
            refine value_ (by rfl) rfl (exec_bytes (.tmp 37) ?_ ?_ (wc.heap.size + 1 + 1) ?_) ?_
            · rfl
            · rfl
            · simp only [sz_drew, sz_alloc, sz_bytes]
            refine hK.out _ _ ((by repeat (first | (with_reducible exact Below.refl _ _) | (with_reducible apply below_alloc) | (with_reducible apply below_drew1) | (with_reducible apply pw_below_drewN) | (with_reducible apply below_bytes) | (with_reducible assumption)))) (fun hHeld => ?_)
            clear hK K
            refine norm_ (a' := ?_) ?_ ?_
            rotate_left
            · show Act.put _ (some 38) _ = _
              simp only [Act.put, List.setIfInBounds_toArray, List.set_cons_zero, List.set_cons_succ, i64_w, i32_w]
              rfl
            refine pure_ (i := 13) (N := some 48) (v := ?_) (a' := ?_) #[true, true, true, true, true, true, true, true, true, true, true, true, true, true, true, false] rfl rfl (by kernel_rfl) (fun _ _ _ h => h) (Or.inl ⟨by rfl, ?_⟩) ?_ ?_
            rotate_left
            · intro w'
              go_simp
              with_reducible rfl
            rotate_left
            · simp only [Act.put, List.setIfInBounds_toArray, List.set_cons_zero, List.set_cons_succ, i64_w, i32_w]
              rfl
            exact norm_ (by first | (simp only [putAll, Act.put, List.setIfInBounds_toArray, List.set_cons_zero, List.set_cons_succ]; done) | (simp only [putAll, Act.put, List.setIfInBounds_toArray, List.set_cons_zero, List.set_cons_succ]; rfl)) (hCont ((wc.heap.size + 1 + 1), _, (wc.heap.size + 1), (wc.heap.size)) _ ⟨(by repeat (first | (with_reducible apply OutOk.alloc) | exact out_made' _ _ _ (by first | exact Nat.le_refl _ | (simp only [sz_drew, sz_alloc, sz_bytes]; omega)) (by simp only [sz_drew, sz_alloc, sz_bytes]))), (by repeat (first | (with_reducible exact blk_new _ _) | exact blk_newat (by simp only [sz_drew, sz_alloc, sz_bytes]) | (with_reducible apply blk_alloc) | (with_reducible apply blk_drew) | (with_reducible apply blk_bytes))), (by repeat (first | (with_reducible exact blk_new _ _) | exact blk_newat (by simp only [sz_drew, sz_alloc, sz_bytes]) | (with_reducible apply blk_alloc) | (with_reducible apply blk_drew) | (with_reducible apply blk_bytes))), (by first | exact Nat.le_refl _ | (simp only [sz_drew, sz_alloc, sz_bytes]; omega)), (by first | exact Nat.le_refl _ | (simp only [sz_drew, sz_alloc, sz_bytes]; omega)), (by repeat (first | (with_reducible exact Below.refl _ _) | (with_reducible apply below_alloc) | (with_reducible apply below_drew1) | (with_reducible apply pw_below_drewN) | (with_reducible apply below_bytes) | (with_reducible assumption)))⟩)
      rintro ⟨xb, xc, cb, gb⟩ w' ⟨hout, hcb, hgb, hcge, hgge, hbel⟩
      have hHeld := hbel
      dsimp only at hout hcb hgb hcge hgge
      refine norm_ (a' := ?_) ?_ ?_
      rotate_left
      · simp only [putAll, Act.put, List.setIfInBounds_toArray, List.set_cons_zero, List.set_cons_succ]
        rfl
      refine one_ (i := 15) (N := none) #[true, true, true, true, true, true, true, true, true, true, true, true, true, true, true, true] rfl rfl (by kernel_rfl) (by decide) (fun K hK => ?_)
      refine skip_ (w1 := _) (by rfl) rfl (exec_store_row 145 (.tmp 13) (.tmp 48) ?_ gb (#[.int .i64 0, .int .u32 0, .int .u32 0, .int .u32 0, .int .u32 0, .int .u32 0, .int .u32 0, .int .u32 0, .int .u32 0, .int .u32 0, .int .u32 0, .int .u32 0, .int .u32 0, .int .u32 0, .int .u32 0, .int .u32 0, .int .u32 0, (.slice (some ⟨mb, 0, none⟩) 0 0), .int .i64 0, .string ⟨#[]⟩, .int .i64 0, .int .i64 0, .slice (some ⟨xb, 0, none⟩) 0 xc, .slice (some ⟨bc, 0, none⟩) 37 co1, .slice (some ⟨bo, 0, none⟩) 37 co2, .slice A sw.length c, .string inp, .slice (some ⟨cb, 0, none⟩) 37 37]) ?_ ?_ 145 Z145c hgb ?_ ?_ ?_) ?_
      · rfl
      · rfl
      · rfl
      · exact Z145_size
      · rfl
      · simp [Value.oneCell']
      refine hK.out _ _ ((below_setRow hHeld hgge _)) (fun hHeld => ?_)
      clear hK K
      refine done_ (by kernel_rfl) ?_
      go_wp2_with fail
      go_meet
      case rel => exact ⟨gb, cb, xb, xc, wc.heap.size, rfl, setRow_heap _ _ _ _ _ _ hgb, OutOk.setRow hout hgb (by decide) _, ⟨_, (setRow_other _ _ _ _ (fun e => absurd (e ▸ hcb) (by rw [hgb]; simp))).trans hcb, counts_made⟩, HB3.out.size, hHeld.size, hgge, hcge, below_step HB3.out hHeld⟩
    case rest =>
      obtain ⟨gb, cb, xb, xc, B, rfl, hgb, hout, hcs, hB1, hB2, hB3, hB4, hbel⟩ := hcut
      have RC := Aside0.mk (blk_below RCC.out hbel)
      have RO := Aside0.mk (blk_below ROK.out hbel)
      have RR := Aside0.mk (blk_below BR.out hbel)
      have HW := Aside0.mk (below_step HB2.out hbel)
      have G0 := Aside0.mk hgb
      have O0 := Aside0.mk hout
      have C0 := Aside0.mk hcs
      have HWB := Aside0.mk (Nat.le_trans HB2.out.size hB1)
      have S0 := Aside0.mk hB2
      have S1 := Aside0.mk hB3
      have S2 := Aside0.mk hB4
      clear hgb hout hcs hB1 hB2 hB3 hB4 hbel HOB BZC BMC HBC HB3 BM BZ BR HB2 HO1 HO2 RCC ROK HCO HRW HC HB
      go_wp2_with fail
      go_loopg [14] (fuel + 1) (fun kq v14 w' => ∃ (i : Nat) (s : MS) (outv : Value), v14 = .int .i64 i ∧ Aside0 (kq + i = fuel + 1) ∧ Aside0 (i ≤ fuel) ∧ Aside0 (SeedSim.run (inpL inp) (fuel - i) s = SeedSim.run (inpL inp) fuel init) ∧ Aside0 (Inv (inpL inp) s) ∧ Aside0 (s.steps ≤ i) ∧ Aside0 (w'.heap[gb]? = some (.cells (WC bc bo cb co1 co2 37 (.slice (some ⟨mb, 0, none⟩) 0 0) (.slice A sw.length c) ⟨#[]⟩ inp s outv) 145 (0, 0))) ∧ Aside0 (OutOk w' B outv s.out) ∧ Aside0 (∃ cs, w'.heap[cb]? = some (.cells cs 3 (0, 0)) ∧ Counts cs) ∧ Aside0 (w'.heap[bc]? = some (.cells CC 46 (0, 0))) ∧ Aside0 (w'.heap[bo]? = some (.cells OK 4 (0, 0))) ∧ Aside0 (w'.heap[W.heap.size + 1 + 1]? = some (.cells Z109c 109 (0, 0))) ∧ Aside0 (Below W.heap.size W w') ∧ Aside0 (B ≤ w'.heap.size))
      case atStart => exact ⟨0, init, _, rfl, ⟨by omega⟩, ⟨Nat.zero_le _⟩, ⟨rfl⟩, ⟨Inv.init _⟩, ⟨Nat.le_refl _⟩, G0, O0, C0, RC, RO, RR, HW, S0⟩
      case round =>
        clear G0 O0 C0 RC RO RR HW S0
        obtain ⟨i, s, outv, rfl, HK1, HI, HRUN, HINV, HST, HG, HO, HCN, RC, RO, BRW, HW, S0⟩ := hrel
        have hib : i < 1000000 := Nat.lt_of_le_of_lt HI.out HFU.out
        have hc21 : wr.cell? ⟨gb, 21, none⟩ = some (.int .i64 s.fin) := (blk_cell HG.out 21).trans wc_fin
        by_cases hgo : i < fuel ∧ s.fin = 0
        · obtain ⟨hi, hf⟩ := hgo
          have HF := Aside0.mk hf
          rw [hf] at hc21
          clear hf
          have p1 : decide (i < fuel) = true := decide_eq_true hi
          obtain ⟨cs, hcb, hcs⟩ := HCN.out
          have HCB := Aside0.mk hcb
          have HCS := Aside0.mk hcs
          clear hcb hcs
          have HOL : Aside0 (s.out.length < 65536) := ⟨by have h1 := run_out (inpL inp) (fuel - i) s; rw [HRUN.out] at h1; have h2 := HOUT.out; omega⟩
          go_wp2_with (go_at_call 131; (with_reducible refine (sim_any wr gb cb bc bo s (.slice (some ⟨mb, 0, none⟩) 0 0) outv (.slice A sw.length c) ⟨#[]⟩ inp co1 co2 37 cs CC OK B HINV.out HF.out ?q1 HOL.out HG.out HCB.out HCS.out RC.out RO.out RRO.out HO.out HSZ.out S0.out).mono ?_); (case q1 => (have h1 := HST.out; omega)); rintro e w4 ⟨rfl, outv', hg', hcn', ho', hstp⟩; have m0_ := Aside0.mk hg'; have m1_ := Aside0.mk hcn'; have m2_ := Aside0.mk ho'; have m3_ := Aside0.mk hstp; clear hg' hcn' ho' hstp)
          go_roundg (gk - 1)
          case measure => have := HK1.out; omega
          case rel =>
            have nb1 : bc ≠ gb := blk_ne RC.out HG.out (by decide)
            have nb2 : bc ≠ cb := blk_ne RC.out HCB.out (by decide)
            have nb3 : bo ≠ gb := blk_ne RO.out HG.out (by decide)
            have nb4 : bo ≠ cb := blk_ne RO.out HCB.out (by decide)
            have nb5 : W.heap.size + 1 + 1 ≠ gb := blk_ne BRW.out HG.out (by decide)
            have nb6 : W.heap.size + 1 + 1 ≠ cb := blk_ne BRW.out HCB.out (by decide)
            have hWB := HWB.out
            have hS1 := S1.out
            have hS2 := S2.out
            exact ⟨i + 1, _, outv', by go_num, ⟨by have := HK1.out; omega⟩, ⟨hi⟩, ⟨by have h1 := run_next _ _ _ _ HRUN.out (by omega) HF.out; rw [show fuel - i - 1 = fuel - (i + 1) by omega] at h1; exact h1⟩, ⟨HINV.out.step (inpL_byte inp)⟩, ⟨by rw [step_steps HINV.out.pc]; have := HST.out; omega⟩, m0_, m2_, m1_,
              ⟨(m3_.out.keep _ (blk_lt RC.out) nb1 nb2 (HO.out.ne RC.out (by decide))).trans RC.out⟩, ⟨(m3_.out.keep _ (blk_lt RO.out) nb3 nb4 (HO.out.ne RO.out (by decide))).trans RO.out⟩, ⟨(m3_.out.keep _ (blk_lt BRW.out) nb5 nb6 (HO.out.ne BRW.out (by decide))).trans BRW.out⟩,
              ⟨Stp.belowW HW.out m3_.out (by omega) (by omega) (fun k hk => by have := (HO.out.lt k hk).1; omega)⟩, ⟨Nat.le_trans S0.out m3_.out.size⟩⟩
        · have hfin : s = SeedSim.run (inpL inp) fuel init := run_end _ _ _ _ HRUN.out (by by_cases h1 : i < fuel; (right; exact fun h2 => hgo ⟨h1, h2⟩); (left; omega))
          have HFIN := Aside0.mk hfin
          clear hfin
          obtain ⟨Ao, co, eo⟩ := HO.out.slice
          subst eo
          have HCV := Aside0.mk (OutOk.string HO.out)
          have hc22 : wr.cell? ⟨gb, 22, none⟩ = some (.slice Ao s.out.length co) := (blk_cell HG.out 22).trans wc_out
          have hc19 : wr.cell? ⟨gb, 19, none⟩ = some (.string ⟨#[]⟩) := (blk_cell HG.out 19).trans wc_o0
          have hf19 := blk_frozen HG.out 19
          have hcv := HCV.out
          have HG9 : Aside0 ((wr.setCell ⟨gb, 19, none⟩ (.string (strOfNums s.out))).heap[gb]? = some (.cells (WC bc bo cb co1 co2 37 (.slice (some ⟨mb, 0, none⟩) 0 0) (.slice A sw.length c) (strOfNums s.out) inp s (.slice Ao s.out.length co)) 145 (0, 0))) := ⟨blk_put HG.out 19 _ rfl⟩
          have NGR := Aside0.mk (show gb ≠ W.heap.size + 1 + 1 from fun e => blk_ne BRW.out HG.out (by decide) e.symm)
          have BRW9 : Aside0 ((wr.setCell ⟨gb, 19, none⟩ (.string (strOfNums s.out))).heap[W.heap.size + 1 + 1]? = some (.cells Z109c 109 (0, 0))) := ⟨blk_far BRW.out (fun e => NGR.out e.symm) _⟩
          by_cases hi : i < fuel
          · have p1 : decide (i < fuel) = true := decide_eq_true hi
            have p2 : (s.fin == 0) = false := beq_eq_false_iff_ne.mpr (fun h => hgo ⟨hi, h⟩)
            clear hgo
            go_wp2_with fail
            refine start_ (n := 6) (S := fun w' => w'.heap[gb]? = some (.cells (WC bc bo cb co1 co2 37 (.slice (some ⟨mb, 0, none⟩) 0 0) (.slice A sw.length c) (strOfNums s.out) inp s (.slice Ao s.out.length co)) 145 (0, 0))) (ds := []) #[false, false, false, false, false, false] (by kernel_rfl) rfl rfl (HG9.out) (fun hHeld => ?_)
            refine pure_ (i := 0) (N := some 66) (v := ?_) (a' := ?_) #[true, false, false, false, false, false] rfl rfl (by kernel_rfl) (fun _ _ _ h => h) (Or.inl ⟨by rfl, ?_⟩) ?_ ?_
            rotate_left
            · intro w'
              go_simp
              with_reducible rfl
            rotate_left
            · simp only [Act.put, List.setIfInBounds_toArray, List.set_cons_zero, List.set_cons_succ, i64_w, i32_w]
              rfl
            refine pure_ (i := 2) (N := some 68) (v := ?_) (a' := ?_) #[true, false, true, false, false, false] rfl rfl (by kernel_rfl) (fun _ _ _ h => h) (Or.inl ⟨by rfl, ?_⟩) ?_ ?_
            rotate_left
            · intro w'
              go_simp
              with_reducible rfl
            rotate_left
            · simp only [Act.put, List.setIfInBounds_toArray, List.set_cons_zero, List.set_cons_succ, i64_w, i32_w]
              rfl
            refine take_ (i := 1) (N := some 67) (v := ?_) (a' := ?_) #[true, true, true, false, false, false] rfl rfl (by kernel_rfl) (fun _ _ _ h => h) (Or.inl ⟨by rfl, ?_⟩) hHeld ?_ ?_
            rotate_left
            · intro w' s0
              refine exec_load_fc (.tmp 66) ?_ gb ?_ rfl s0
              · rfl
              · rfl
            rotate_left
            · simp only [Act.put, List.setIfInBounds_toArray, List.set_cons_zero, List.set_cons_succ, i64_w, i32_w]
              rfl
            refine take_ (i := 3) (N := some 69) (v := ?_) (a' := ?_) #[true, true, true, true, false, false] rfl rfl (by kernel_rfl) (fun _ _ _ h => h) (Or.inl ⟨by rfl, ?_⟩) hHeld ?_ ?_
            rotate_left
            · intro w' s0
              have hc27 : w'.cell? ⟨gb, 27, none⟩ = some (.slice (some ⟨cb, 0, none⟩) 37 37) := (blk_cell s0 27).trans wc_cnt
              go_simp
              with_reducible rfl
            rotate_left
            · simp only [Act.put, List.setIfInBounds_toArray, List.set_cons_zero, List.set_cons_succ, i64_w, i32_w]
              rfl
            refine one_ (i := 4) (N := none) #[true, true, true, true, true, false] rfl rfl (by kernel_rfl) (by decide) (fun K hK => ?_)
            refine skip_ (w1 := _) (by rfl) rfl (exec_store_row 109 (.tmp 8) (.tmp 67) ?_ (W.heap.size + 1 + 1) (FC s (.slice (some ⟨mb, 0, none⟩) 0 0)) ?_ ?_ 109 Z109c BRW9.out ?_ ?_ ?_) ?_
            · rfl
            · rfl
            · rfl
            · kernel_rfl
            · rfl
            · exact fc_one _ _ rfl
            refine hK.out _ _ (((setRow_other _ _ _ _ NGR.out).trans hHeld)) (fun hHeld => ?_)
            clear hK K
            refine pure_ (i := 5) (N := some 9) (v := ?_) (a' := ?_) #[true, true, true, true, true, true] rfl rfl (by kernel_rfl) (fun _ _ _ h => h) (Or.inl ⟨by rfl, ?_⟩) ?_ ?_
            rotate_left
            · intro w'
              go_simp
              with_reducible rfl
            rotate_left
            · simp only [Act.put, List.setIfInBounds_toArray, List.set_cons_zero, List.set_cons_succ, i64_w, i32_w]
              rfl
            refine done_ (by kernel_rfl) ?_
            go_wp2_with fail
            refine bodyPost_ret (results_ct rfl _ _ (W.heap.size + 1 + 1) 109 (FC s (.slice (some ⟨mb, 0, none⟩) 0 0)) (0, 0) _ rfl ?_ Tryd.underlying109 rfl (by kernel_rfl)) rfl ?_
            · exact setRow_heap _ _ _ _ _ _ BRW9.out
            · exact ⟨.slice (some ⟨mb, 0, none⟩) 0 0, _, rfl, by rw [← HFIN.out], below_setRow (below_drew1 (below_set HW.out (Nat.le_trans HWB.out S1.out))) (Nat.le_trans (Nat.le_add_right _ 1) (Nat.le_add_right _ 1)) _⟩
          · have p1 : decide (i < fuel) = false := decide_eq_false hi
            clear hgo
            go_wp2_with fail
            refine start_ (n := 6) (S := fun w' => w'.heap[gb]? = some (.cells (WC bc bo cb co1 co2 37 (.slice (some ⟨mb, 0, none⟩) 0 0) (.slice A sw.length c) (strOfNums s.out) inp s (.slice Ao s.out.length co)) 145 (0, 0))) (ds := []) #[false, false, false, false, false, false] (by kernel_rfl) rfl rfl (HG9.out) (fun hHeld => ?_)
            refine pure_ (i := 0) (N := some 66) (v := ?_) (a' := ?_) #[true, false, false, false, false, false] rfl rfl (by kernel_rfl) (fun _ _ _ h => h) (Or.inl ⟨by rfl, ?_⟩) ?_ ?_
            rotate_left
            · intro w'
              go_simp
              with_reducible rfl
            rotate_left
            · simp only [Act.put, List.setIfInBounds_toArray, List.set_cons_zero, List.set_cons_succ, i64_w, i32_w]
              rfl
            refine pure_ (i := 2) (N := some 68) (v := ?_) (a' := ?_) #[true, false, true, false, false, false] rfl rfl (by kernel_rfl) (fun _ _ _ h => h) (Or.inl ⟨by rfl, ?_⟩) ?_ ?_
            rotate_left
            · intro w'
              go_simp
              with_reducible rfl
            rotate_left
            · simp only [Act.put, List.setIfInBounds_toArray, List.set_cons_zero, List.set_cons_succ, i64_w, i32_w]
              rfl
            refine take_ (i := 1) (N := some 67) (v := ?_) (a' := ?_) #[true, true, true, false, false, false] rfl rfl (by kernel_rfl) (fun _ _ _ h => h) (Or.inl ⟨by rfl, ?_⟩) hHeld ?_ ?_
            rotate_left
            · intro w' s0
              refine exec_load_fc (.tmp 66) ?_ gb ?_ rfl s0
              · rfl
              · rfl
            rotate_left
            · simp only [Act.put, List.setIfInBounds_toArray, List.set_cons_zero, List.set_cons_succ, i64_w, i32_w]
              rfl
            refine take_ (i := 3) (N := some 69) (v := ?_) (a' := ?_) #[true, true, true, true, false, false] rfl rfl (by kernel_rfl) (fun _ _ _ h => h) (Or.inl ⟨by rfl, ?_⟩) hHeld ?_ ?_
            rotate_left
            · intro w' s0
              have hc27 : w'.cell? ⟨gb, 27, none⟩ = some (.slice (some ⟨cb, 0, none⟩) 37 37) := (blk_cell s0 27).trans wc_cnt
              go_simp
              with_reducible rfl
            rotate_left
            · simp only [Act.put, List.setIfInBounds_toArray, List.set_cons_zero, List.set_cons_succ, i64_w, i32_w]
              rfl
            refine one_ (i := 4) (N := none) #[true, true, true, true, true, false] rfl rfl (by kernel_rfl) (by decide) (fun K hK => ?_)
            refine skip_ (w1 := _) (by rfl) rfl (exec_store_row 109 (.tmp 8) (.tmp 67) ?_ (W.heap.size + 1 + 1) (FC s (.slice (some ⟨mb, 0, none⟩) 0 0)) ?_ ?_ 109 Z109c BRW9.out ?_ ?_ ?_) ?_
            · rfl
            · rfl
            · rfl
            · kernel_rfl
            · rfl
            · exact fc_one _ _ rfl
            refine hK.out _ _ (((setRow_other _ _ _ _ NGR.out).trans hHeld)) (fun hHeld => ?_)
            clear hK K
            refine pure_ (i := 5) (N := some 9) (v := ?_) (a' := ?_) #[true, true, true, true, true, true] rfl rfl (by kernel_rfl) (fun _ _ _ h => h) (Or.inl ⟨by rfl, ?_⟩) ?_ ?_
            rotate_left
            · intro w'
              go_simp
              with_reducible rfl
            rotate_left
            · simp only [Act.put, List.setIfInBounds_toArray, List.set_cons_zero, List.set_cons_succ, i64_w, i32_w]
              rfl
            refine done_ (by kernel_rfl) ?_
            go_wp2_with fail
            refine bodyPost_ret (results_ct rfl _ _ (W.heap.size + 1 + 1) 109 (FC s (.slice (some ⟨mb, 0, none⟩) 0 0)) (0, 0) _ rfl ?_ Tryd.underlying109 rfl (by kernel_rfl)) rfl ?_
            · exact setRow_heap _ _ _ _ _ _ BRW9.out
            · exact ⟨.slice (some ⟨mb, 0, none⟩) 0 0, _, rfl, by rw [← HFIN.out], below_setRow (below_drew1 (below_set HW.out (Nat.le_trans HWB.out S1.out))) (Nat.le_trans (Nat.le_add_right _ 1) (Nat.le_add_right _ 1)) _⟩
end Go.Proofs.YtdhkmdgieflioaaDoor.F
