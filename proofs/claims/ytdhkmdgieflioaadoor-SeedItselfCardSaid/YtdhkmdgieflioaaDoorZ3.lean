/- Texts of this claim: contracts of functions that the law reaches, and plain lemmas. -/
import Derived.Outline
import Derived.WalkLawsBesides
import Derived.WalkSpells
import Derived.RegionTactic
import Derived.ChangeAlike
import Derived.Deep.QuietTactic
import Derived.BigQuiet
import Derived.StillTailTactics
import Derived.Deep.RegionHeld3
import Derived.BigRegion
import Derived.Laws.Tables
import Derived.Laws.CopyOwn
import Derived.Laws.Rows
import Derived.Deep.MidRow
import Derived.Lib.ConvBytes
import Derived.Laws.MakeOwn
import Derived.Lib.SmallJoins
import Derived.Lib.LaidTab
import Derived.Shelf.LaysM
import Derived.Lib.ItoaMem
import Derived.Shelf.Strings.Builder1
import Derived.Shelf.Strings.Builder2
import Derived.Shelf.Strings.OnBuilder
import Derived.Shelf.Small.Strs
import Derived.Shelf.Small.Wraps
import Derived.Shelf.Strings.BuilderF
import Derived.Shelf.Strings.BuilderK
import Derived.Shelf.Strings.Builder2Cap
import Derived.Shelf.Strconv.Itoa0
import Derived.Shelf.Strconv.Itoa1
import Derived.Shelf.Strconv.Itoa2
import Derived.Shelf.Strconv.Itoa3
import Derived.Shelf.Strings.Search1
import Derived.Shelf.Sort.Plain
import Derived.Shelf.Strings.Prefix
import Derived.Shelf.Strings.BuilderCap
import Derived.Shelf.Slices.In.SortNone
import Derived.Test.YtdhkmdgieflioaaDoorProg
import Derived.Test.YtdhkmdgieflioaaDoorZ1
import Derived.Test.YtdhkmdgieflioaaDoorZ2
namespace Go.Proofs.YtdhkmdgieflioaaDoor.F
open Go.RowKit Go.Proofs.YtdhkmdgieflioaaDoorW.PrintWords Go.Proofs.YtdhkmdgieflioaaDoorW.PrintLast Go.Proofs.YtdhkmdgieflioaaDoorW.PrintMore
set_option linter.unusedVariables false
set_option linter.unusedSimpArgs false
open SeedSim
theorem sim_20 (W : World) (g cc bc bo : Nat) (r0 r1 r2 r3 r4 r5 r6 r7 r8 r9 r10 r11 r12 r13 r14 r15 : Int) (rn st : Nat) (outs : List Int) (mem outv wordsv : Value) (o0 inp : ByteArray) (co1 co2 co3 : Nat) (cs CC OK : Array Value) (B : Nat)
    (hst : st < 1000000) (hg : W.heap[g]? = some (.cells (WC bc bo cc co1 co2 co3 mem wordsv o0 inp ⟨20, [r0, r1, r2, r3, r4, r5, r6, r7, r8, r9, r10, r11, r12, r13, r14, r15], rn, outs, st, 0⟩ outv) 145 (0, 0))) (hcc : W.heap[cc]? = some (.cells cs 3 (0, 0))) (hcs : Counts cs)
    (hbc : W.heap[bc]? = some (.cells CC 46 (0, 0))) (hbo : W.heap[bo]? = some (.cells OK 4 (0, 0))) (hrows : Rows CC OK) (ho : OutOk W B outv outs)
    (hrng : ∀ i : Nat, i < 16 → 0 ≤ List.getD [r0, r1, r2, r3, r4, r5, r6, r7, r8, r9, r10, r11, r12, r13, r14, r15] i 0 ∧ List.getD [r0, r1, r2, r3, r4, r5, r6, r7, r8, r9, r10, r11, r12, r13, r14, r15] i 0 < 4294967296) (hread : rn ≤ inp.size) (hsz : inp.size < 1000000) (hB : B ≤ W.heap.size) :
    Calls Tryd.prog 131 #[.pointer (some ⟨g, 0, none⟩)] W (SimPost W g bc bo cc co1 co2 co3 mem wordsv o0 inp B outv (SeedSim.step (inpL inp) ⟨20, [r0, r1, r2, r3, r4, r5, r6, r7, r8, r9, r10, r11, r12, r13, r14, r15], rn, outs, st, 0⟩)) := by
  have hs : SeedSim.step (inpL inp) ⟨20, [r0, r1, r2, r3, r4, r5, r6, r7, r8, r9, r10, r11, r12, r13, r14, r15], rn, outs, st, 0⟩ = ⟨21, [r0, r1, r2, r3, r4, r5, (r6 + r11) % 4294967296, r7, r8, r9, r10, r11, r12, r13, r14, r15], rn, outs, st + 1, 0⟩ := by simp [SeedSim.step, SeedSim.code, SeedSim.exec, SeedSim.g, SeedSim.alu]
  rw [hs]
  exact sim_of hg hcc hcs ho (by rfl) rfl (step_4_6_6_11 W g cc bc bo 20 r0 r1 r2 r3 r4 r5 r6 r7 r8 r9 r10 r11 r12 r13 r14 r15 (rn : Int) (st : Int) mem outv wordsv o0 inp co1 co2 co3 cs CC OK (by decide) ⟨by omega, by omega⟩ hg hcc (hcs 20 (by decide)) hbc hbo (hrows.c0 20 _ rfl) (hrows.c1 20 _ rfl) (hrows.c2 20 _ rfl) (hrows.c3 20 _ rfl) (hrows.ok 20 (by decide)) (hrng 6 (by decide)).1 (hrng 6 (by decide)).2 (hrng 11 (by decide)).1 (hrng 11 (by decide)).2)
theorem sim_21 (W : World) (g cc bc bo : Nat) (r0 r1 r2 r3 r4 r5 r6 r7 r8 r9 r10 r11 r12 r13 r14 r15 : Int) (rn st : Nat) (outs : List Int) (mem outv wordsv : Value) (o0 inp : ByteArray) (co1 co2 co3 : Nat) (cs CC OK : Array Value) (B : Nat)
    (hst : st < 1000000) (hg : W.heap[g]? = some (.cells (WC bc bo cc co1 co2 co3 mem wordsv o0 inp ⟨21, [r0, r1, r2, r3, r4, r5, r6, r7, r8, r9, r10, r11, r12, r13, r14, r15], rn, outs, st, 0⟩ outv) 145 (0, 0))) (hcc : W.heap[cc]? = some (.cells cs 3 (0, 0))) (hcs : Counts cs)
    (hbc : W.heap[bc]? = some (.cells CC 46 (0, 0))) (hbo : W.heap[bo]? = some (.cells OK 4 (0, 0))) (hrows : Rows CC OK) (ho : OutOk W B outv outs)
    (hrng : ∀ i : Nat, i < 16 → 0 ≤ List.getD [r0, r1, r2, r3, r4, r5, r6, r7, r8, r9, r10, r11, r12, r13, r14, r15] i 0 ∧ List.getD [r0, r1, r2, r3, r4, r5, r6, r7, r8, r9, r10, r11, r12, r13, r14, r15] i 0 < 4294967296) (hread : rn ≤ inp.size) (hsz : inp.size < 1000000) (hB : B ≤ W.heap.size) :
    Calls Tryd.prog 131 #[.pointer (some ⟨g, 0, none⟩)] W (SimPost W g bc bo cc co1 co2 co3 mem wordsv o0 inp B outv (SeedSim.step (inpL inp) ⟨21, [r0, r1, r2, r3, r4, r5, r6, r7, r8, r9, r10, r11, r12, r13, r14, r15], rn, outs, st, 0⟩)) := by
  by_cases hz : r4 = 0
  · have hs : SeedSim.step (inpL inp) ⟨21, [r0, r1, r2, r3, r4, r5, r6, r7, r8, r9, r10, r11, r12, r13, r14, r15], rn, outs, st, 0⟩ = ⟨22, [r0, r1, r2, r3, r4, r5, r6, r7, r8, r9, r10, r11, r12, r13, r14, r15], rn, outs, st + 1, 0⟩ := by simp [SeedSim.step, SeedSim.code, SeedSim.exec, SeedSim.g, SeedSim.alu, hz]
    rw [hs]
    exact sim_of hg hcc hcs ho (by rfl) rfl (step_20_4_0_25_z W g cc bc bo 21 r0 r1 r2 r3 r4 r5 r6 r7 r8 r9 r10 r11 r12 r13 r14 r15 (rn : Int) (st : Int) mem outv wordsv o0 inp co1 co2 co3 cs CC OK (by decide) ⟨by omega, by omega⟩ hg hcc (hcs 21 (by decide)) hbc hbo (hrows.c0 21 _ rfl) (hrows.c1 21 _ rfl) (hrows.c2 21 _ rfl) (hrows.c3 21 _ rfl) (hrows.ok 21 (by decide)) (by rw [hz]; rfl) (by rw [hz]; rfl))
  · have hs : SeedSim.step (inpL inp) ⟨21, [r0, r1, r2, r3, r4, r5, r6, r7, r8, r9, r10, r11, r12, r13, r14, r15], rn, outs, st, 0⟩ = ⟨25, [r0, r1, r2, r3, r4, r5, r6, r7, r8, r9, r10, r11, r12, r13, r14, r15], rn, outs, st + 1, 0⟩ := by simp [SeedSim.step, SeedSim.code, SeedSim.exec, SeedSim.g, SeedSim.alu, hz]
    rw [hs]
    exact sim_of hg hcc hcs ho (by rfl) rfl (step_20_4_0_25_n W g cc bc bo 21 r0 r1 r2 r3 r4 r5 r6 r7 r8 r9 r10 r11 r12 r13 r14 r15 (rn : Int) (st : Int) mem outv wordsv o0 inp co1 co2 co3 cs CC OK (by decide) ⟨by omega, by omega⟩ hg hcc (hcs 21 (by decide)) hbc hbo (hrows.c0 21 _ rfl) (hrows.c1 21 _ rfl) (hrows.c2 21 _ rfl) (hrows.c3 21 _ rfl) (hrows.ok 21 (by decide)) (by simpa using hz) (by simpa using hz))
theorem sim_22 (W : World) (g cc bc bo : Nat) (r0 r1 r2 r3 r4 r5 r6 r7 r8 r9 r10 r11 r12 r13 r14 r15 : Int) (rn st : Nat) (outs : List Int) (mem outv wordsv : Value) (o0 inp : ByteArray) (co1 co2 co3 : Nat) (cs CC OK : Array Value) (B : Nat)
    (hst : st < 1000000) (hg : W.heap[g]? = some (.cells (WC bc bo cc co1 co2 co3 mem wordsv o0 inp ⟨22, [r0, r1, r2, r3, r4, r5, r6, r7, r8, r9, r10, r11, r12, r13, r14, r15], rn, outs, st, 0⟩ outv) 145 (0, 0))) (hcc : W.heap[cc]? = some (.cells cs 3 (0, 0))) (hcs : Counts cs)
    (hbc : W.heap[bc]? = some (.cells CC 46 (0, 0))) (hbo : W.heap[bo]? = some (.cells OK 4 (0, 0))) (hrows : Rows CC OK) (ho : OutOk W B outv outs)
    (hrng : ∀ i : Nat, i < 16 → 0 ≤ List.getD [r0, r1, r2, r3, r4, r5, r6, r7, r8, r9, r10, r11, r12, r13, r14, r15] i 0 ∧ List.getD [r0, r1, r2, r3, r4, r5, r6, r7, r8, r9, r10, r11, r12, r13, r14, r15] i 0 < 4294967296) (hread : rn ≤ inp.size) (hsz : inp.size < 1000000) (hB : B ≤ W.heap.size) :
    Calls Tryd.prog 131 #[.pointer (some ⟨g, 0, none⟩)] W (SimPost W g bc bo cc co1 co2 co3 mem wordsv o0 inp B outv (SeedSim.step (inpL inp) ⟨22, [r0, r1, r2, r3, r4, r5, r6, r7, r8, r9, r10, r11, r12, r13, r14, r15], rn, outs, st, 0⟩)) := by
  have hs : SeedSim.step (inpL inp) ⟨22, [r0, r1, r2, r3, r4, r5, r6, r7, r8, r9, r10, r11, r12, r13, r14, r15], rn, outs, st, 0⟩ = ⟨23, [r0, r1, r2, r6 * r10 % 4294967296, r4, r5, r6, r7, r8, r9, r10, r11, r12, r13, r14, r15], rn, outs, st + 1, 0⟩ := by simp [SeedSim.step, SeedSim.code, SeedSim.exec, SeedSim.g, SeedSim.alu]
  rw [hs]
  exact sim_of hg hcc hcs ho (by rfl) rfl (step_6_3_6_10 W g cc bc bo 22 r0 r1 r2 r3 r4 r5 r6 r7 r8 r9 r10 r11 r12 r13 r14 r15 (rn : Int) (st : Int) mem outv wordsv o0 inp co1 co2 co3 cs CC OK (by decide) ⟨by omega, by omega⟩ hg hcc (hcs 22 (by decide)) hbc hbo (hrows.c0 22 _ rfl) (hrows.c1 22 _ rfl) (hrows.c2 22 _ rfl) (hrows.c3 22 _ rfl) (hrows.ok 22 (by decide)) (hrng 6 (by decide)).1 (hrng 6 (by decide)).2 (hrng 10 (by decide)).1 (hrng 10 (by decide)).2)
theorem sim_23 (W : World) (g cc bc bo : Nat) (r0 r1 r2 r3 r4 r5 r6 r7 r8 r9 r10 r11 r12 r13 r14 r15 : Int) (rn st : Nat) (outs : List Int) (mem outv wordsv : Value) (o0 inp : ByteArray) (co1 co2 co3 : Nat) (cs CC OK : Array Value) (B : Nat)
    (hst : st < 1000000) (hg : W.heap[g]? = some (.cells (WC bc bo cc co1 co2 co3 mem wordsv o0 inp ⟨23, [r0, r1, r2, r3, r4, r5, r6, r7, r8, r9, r10, r11, r12, r13, r14, r15], rn, outs, st, 0⟩ outv) 145 (0, 0))) (hcc : W.heap[cc]? = some (.cells cs 3 (0, 0))) (hcs : Counts cs)
    (hbc : W.heap[bc]? = some (.cells CC 46 (0, 0))) (hbo : W.heap[bo]? = some (.cells OK 4 (0, 0))) (hrows : Rows CC OK) (ho : OutOk W B outv outs)
    (hrng : ∀ i : Nat, i < 16 → 0 ≤ List.getD [r0, r1, r2, r3, r4, r5, r6, r7, r8, r9, r10, r11, r12, r13, r14, r15] i 0 ∧ List.getD [r0, r1, r2, r3, r4, r5, r6, r7, r8, r9, r10, r11, r12, r13, r14, r15] i 0 < 4294967296) (hread : rn ≤ inp.size) (hsz : inp.size < 1000000) (hB : B ≤ W.heap.size) :
    Calls Tryd.prog 131 #[.pointer (some ⟨g, 0, none⟩)] W (SimPost W g bc bo cc co1 co2 co3 mem wordsv o0 inp B outv (SeedSim.step (inpL inp) ⟨23, [r0, r1, r2, r3, r4, r5, r6, r7, r8, r9, r10, r11, r12, r13, r14, r15], rn, outs, st, 0⟩)) := by
  have hs : SeedSim.step (inpL inp) ⟨23, [r0, r1, r2, r3, r4, r5, r6, r7, r8, r9, r10, r11, r12, r13, r14, r15], rn, outs, st, 0⟩ = ⟨24, [r0, r1, r2, r3, 1, r5, r6, r7, r8, r9, r10, r11, r12, r13, r14, r15], rn, outs, st + 1, 0⟩ := by simp [SeedSim.step, SeedSim.code, SeedSim.exec, SeedSim.g, SeedSim.alu]
  rw [hs]
  exact sim_of hg hcc hcs ho (by rfl) rfl (step_1_4_0_1 W g cc bc bo 23 r0 r1 r2 r3 r4 r5 r6 r7 r8 r9 r10 r11 r12 r13 r14 r15 (rn : Int) (st : Int) mem outv wordsv o0 inp co1 co2 co3 cs CC OK (by decide) ⟨by omega, by omega⟩ hg hcc (hcs 23 (by decide)) hbc hbo (hrows.c0 23 _ rfl) (hrows.c1 23 _ rfl) (hrows.c2 23 _ rfl) (hrows.c3 23 _ rfl) (hrows.ok 23 (by decide)))
theorem sim_24 (W : World) (g cc bc bo : Nat) (r0 r1 r2 r3 r4 r5 r6 r7 r8 r9 r10 r11 r12 r13 r14 r15 : Int) (rn st : Nat) (outs : List Int) (mem outv wordsv : Value) (o0 inp : ByteArray) (co1 co2 co3 : Nat) (cs CC OK : Array Value) (B : Nat)
    (hst : st < 1000000) (hg : W.heap[g]? = some (.cells (WC bc bo cc co1 co2 co3 mem wordsv o0 inp ⟨24, [r0, r1, r2, r3, r4, r5, r6, r7, r8, r9, r10, r11, r12, r13, r14, r15], rn, outs, st, 0⟩ outv) 145 (0, 0))) (hcc : W.heap[cc]? = some (.cells cs 3 (0, 0))) (hcs : Counts cs)
    (hbc : W.heap[bc]? = some (.cells CC 46 (0, 0))) (hbo : W.heap[bo]? = some (.cells OK 4 (0, 0))) (hrows : Rows CC OK) (ho : OutOk W B outv outs)
    (hrng : ∀ i : Nat, i < 16 → 0 ≤ List.getD [r0, r1, r2, r3, r4, r5, r6, r7, r8, r9, r10, r11, r12, r13, r14, r15] i 0 ∧ List.getD [r0, r1, r2, r3, r4, r5, r6, r7, r8, r9, r10, r11, r12, r13, r14, r15] i 0 < 4294967296) (hread : rn ≤ inp.size) (hsz : inp.size < 1000000) (hB : B ≤ W.heap.size) :
    Calls Tryd.prog 131 #[.pointer (some ⟨g, 0, none⟩)] W (SimPost W g bc bo cc co1 co2 co3 mem wordsv o0 inp B outv (SeedSim.step (inpL inp) ⟨24, [r0, r1, r2, r3, r4, r5, r6, r7, r8, r9, r10, r11, r12, r13, r14, r15], rn, outs, st, 0⟩)) := by
  have hs : SeedSim.step (inpL inp) ⟨24, [r0, r1, r2, r3, r4, r5, r6, r7, r8, r9, r10, r11, r12, r13, r14, r15], rn, outs, st, 0⟩ = ⟨2, [r0, r1, r2, r3, r4, r5, r6, r7, r8, r9, r10, r11, r12, r13, r14, r15], rn, outs, st + 1, 0⟩ := by simp [SeedSim.step, SeedSim.code, SeedSim.exec, SeedSim.g, SeedSim.alu]
  rw [hs]
  exact sim_of hg hcc hcs ho (by rfl) rfl (step_18_0_0_2 W g cc bc bo 24 r0 r1 r2 r3 r4 r5 r6 r7 r8 r9 r10 r11 r12 r13 r14 r15 (rn : Int) (st : Int) mem outv wordsv o0 inp co1 co2 co3 cs CC OK (by decide) ⟨by omega, by omega⟩ hg hcc (hcs 24 (by decide)) hbc hbo (hrows.c0 24 _ rfl) (hrows.c1 24 _ rfl) (hrows.c2 24 _ rfl) (hrows.c3 24 _ rfl) (hrows.ok 24 (by decide)))
theorem sim_25 (W : World) (g cc bc bo : Nat) (r0 r1 r2 r3 r4 r5 r6 r7 r8 r9 r10 r11 r12 r13 r14 r15 : Int) (rn st : Nat) (outs : List Int) (mem outv wordsv : Value) (o0 inp : ByteArray) (co1 co2 co3 : Nat) (cs CC OK : Array Value) (B : Nat)
    (hst : st < 1000000) (hg : W.heap[g]? = some (.cells (WC bc bo cc co1 co2 co3 mem wordsv o0 inp ⟨25, [r0, r1, r2, r3, r4, r5, r6, r7, r8, r9, r10, r11, r12, r13, r14, r15], rn, outs, st, 0⟩ outv) 145 (0, 0))) (hcc : W.heap[cc]? = some (.cells cs 3 (0, 0))) (hcs : Counts cs)
    (hbc : W.heap[bc]? = some (.cells CC 46 (0, 0))) (hbo : W.heap[bo]? = some (.cells OK 4 (0, 0))) (hrows : Rows CC OK) (ho : OutOk W B outv outs)
    (hrng : ∀ i : Nat, i < 16 → 0 ≤ List.getD [r0, r1, r2, r3, r4, r5, r6, r7, r8, r9, r10, r11, r12, r13, r14, r15] i 0 ∧ List.getD [r0, r1, r2, r3, r4, r5, r6, r7, r8, r9, r10, r11, r12, r13, r14, r15] i 0 < 4294967296) (hread : rn ≤ inp.size) (hsz : inp.size < 1000000) (hB : B ≤ W.heap.size) :
    Calls Tryd.prog 131 #[.pointer (some ⟨g, 0, none⟩)] W (SimPost W g bc bo cc co1 co2 co3 mem wordsv o0 inp B outv (SeedSim.step (inpL inp) ⟨25, [r0, r1, r2, r3, r4, r5, r6, r7, r8, r9, r10, r11, r12, r13, r14, r15], rn, outs, st, 0⟩)) := by
  have hs : SeedSim.step (inpL inp) ⟨25, [r0, r1, r2, r3, r4, r5, r6, r7, r8, r9, r10, r11, r12, r13, r14, r15], rn, outs, st, 0⟩ = ⟨26, [r0, r1, r2, (r3 + r6) % 4294967296, r4, r5, r6, r7, r8, r9, r10, r11, r12, r13, r14, r15], rn, outs, st + 1, 0⟩ := by simp [SeedSim.step, SeedSim.code, SeedSim.exec, SeedSim.g, SeedSim.alu]
  rw [hs]
  exact sim_of hg hcc hcs ho (by rfl) rfl (step_4_3_3_6 W g cc bc bo 25 r0 r1 r2 r3 r4 r5 r6 r7 r8 r9 r10 r11 r12 r13 r14 r15 (rn : Int) (st : Int) mem outv wordsv o0 inp co1 co2 co3 cs CC OK (by decide) ⟨by omega, by omega⟩ hg hcc (hcs 25 (by decide)) hbc hbo (hrows.c0 25 _ rfl) (hrows.c1 25 _ rfl) (hrows.c2 25 _ rfl) (hrows.c3 25 _ rfl) (hrows.ok 25 (by decide)) (hrng 3 (by decide)).1 (hrng 3 (by decide)).2 (hrng 6 (by decide)).1 (hrng 6 (by decide)).2)
theorem sim_26 (W : World) (g cc bc bo : Nat) (r0 r1 r2 r3 r4 r5 r6 r7 r8 r9 r10 r11 r12 r13 r14 r15 : Int) (rn st : Nat) (outs : List Int) (mem outv wordsv : Value) (o0 inp : ByteArray) (co1 co2 co3 : Nat) (cs CC OK : Array Value) (B : Nat)
    (hst : st < 1000000) (hg : W.heap[g]? = some (.cells (WC bc bo cc co1 co2 co3 mem wordsv o0 inp ⟨26, [r0, r1, r2, r3, r4, r5, r6, r7, r8, r9, r10, r11, r12, r13, r14, r15], rn, outs, st, 0⟩ outv) 145 (0, 0))) (hcc : W.heap[cc]? = some (.cells cs 3 (0, 0))) (hcs : Counts cs)
    (hbc : W.heap[bc]? = some (.cells CC 46 (0, 0))) (hbo : W.heap[bo]? = some (.cells OK 4 (0, 0))) (hrows : Rows CC OK) (ho : OutOk W B outv outs)
    (hrng : ∀ i : Nat, i < 16 → 0 ≤ List.getD [r0, r1, r2, r3, r4, r5, r6, r7, r8, r9, r10, r11, r12, r13, r14, r15] i 0 ∧ List.getD [r0, r1, r2, r3, r4, r5, r6, r7, r8, r9, r10, r11, r12, r13, r14, r15] i 0 < 4294967296) (hread : rn ≤ inp.size) (hsz : inp.size < 1000000) (hB : B ≤ W.heap.size)
    (hol : outs.length < 65536) :
    Calls Tryd.prog 131 #[.pointer (some ⟨g, 0, none⟩)] W (SimPost W g bc bo cc co1 co2 co3 mem wordsv o0 inp B outv (SeedSim.step (inpL inp) ⟨26, [r0, r1, r2, r3, r4, r5, r6, r7, r8, r9, r10, r11, r12, r13, r14, r15], rn, outs, st, 0⟩)) := by
  have hs : SeedSim.step (inpL inp) ⟨26, [r0, r1, r2, r3, r4, r5, r6, r7, r8, r9, r10, r11, r12, r13, r14, r15], rn, outs, st, 0⟩ = ⟨27, [r0, r1, r2, r3, r4, r5, r6, r7, r8, r9, r10, r11, r12, r13, r14, r15], rn, outs ++ [r3 % 256], st + 1, 0⟩ := by simp [SeedSim.step, SeedSim.code, SeedSim.exec, SeedSim.g]
  rw [hs]
  obtain ⟨Ao, co, eo⟩ := OutOk.slice ho
  exact (step_24_3_0_0 W g cc bc bo 26 r0 r1 r2 r3 r4 r5 r6 r7 r8 r9 r10 r11 r12 r13 r14 r15 (rn : Int) (st : Int) mem outv wordsv o0 inp co1 co2 co3 cs CC OK (by decide) ⟨by omega, by omega⟩ hg hcc (hcs 26 (by decide)) hbc hbo (hrows.c0 26 _ rfl) (hrows.c1 26 _ rfl) (hrows.c2 26 _ rfl) (hrows.c3 26 _ rfl) (hrows.ok 26 (by decide)) B outs Ao co eo ho hol hB (hrng 3 (by decide)).1).mono fun e w' ⟨v', hr, h1, h2, ⟨x, h3⟩, h4⟩ => ⟨h1, v', h2, ⟨_, h3, hcs.set 26 x⟩, hr, h4⟩
theorem sim_27 (W : World) (g cc bc bo : Nat) (r0 r1 r2 r3 r4 r5 r6 r7 r8 r9 r10 r11 r12 r13 r14 r15 : Int) (rn st : Nat) (outs : List Int) (mem outv wordsv : Value) (o0 inp : ByteArray) (co1 co2 co3 : Nat) (cs CC OK : Array Value) (B : Nat)
    (hst : st < 1000000) (hg : W.heap[g]? = some (.cells (WC bc bo cc co1 co2 co3 mem wordsv o0 inp ⟨27, [r0, r1, r2, r3, r4, r5, r6, r7, r8, r9, r10, r11, r12, r13, r14, r15], rn, outs, st, 0⟩ outv) 145 (0, 0))) (hcc : W.heap[cc]? = some (.cells cs 3 (0, 0))) (hcs : Counts cs)
    (hbc : W.heap[bc]? = some (.cells CC 46 (0, 0))) (hbo : W.heap[bo]? = some (.cells OK 4 (0, 0))) (hrows : Rows CC OK) (ho : OutOk W B outv outs)
    (hrng : ∀ i : Nat, i < 16 → 0 ≤ List.getD [r0, r1, r2, r3, r4, r5, r6, r7, r8, r9, r10, r11, r12, r13, r14, r15] i 0 ∧ List.getD [r0, r1, r2, r3, r4, r5, r6, r7, r8, r9, r10, r11, r12, r13, r14, r15] i 0 < 4294967296) (hread : rn ≤ inp.size) (hsz : inp.size < 1000000) (hB : B ≤ W.heap.size) :
    Calls Tryd.prog 131 #[.pointer (some ⟨g, 0, none⟩)] W (SimPost W g bc bo cc co1 co2 co3 mem wordsv o0 inp B outv (SeedSim.step (inpL inp) ⟨27, [r0, r1, r2, r3, r4, r5, r6, r7, r8, r9, r10, r11, r12, r13, r14, r15], rn, outs, st, 0⟩)) := by
  have hs : SeedSim.step (inpL inp) ⟨27, [r0, r1, r2, r3, r4, r5, r6, r7, r8, r9, r10, r11, r12, r13, r14, r15], rn, outs, st, 0⟩ = ⟨28, [r0, r1, r2, r3, 0, r5, r6, r7, r8, r9, r10, r11, r12, r13, r14, r15], rn, outs, st + 1, 0⟩ := by simp [SeedSim.step, SeedSim.code, SeedSim.exec, SeedSim.g, SeedSim.alu]
  rw [hs]
  exact sim_of hg hcc hcs ho (by rfl) rfl (step_1_4_0_0 W g cc bc bo 27 r0 r1 r2 r3 r4 r5 r6 r7 r8 r9 r10 r11 r12 r13 r14 r15 (rn : Int) (st : Int) mem outv wordsv o0 inp co1 co2 co3 cs CC OK (by decide) ⟨by omega, by omega⟩ hg hcc (hcs 27 (by decide)) hbc hbo (hrows.c0 27 _ rfl) (hrows.c1 27 _ rfl) (hrows.c2 27 _ rfl) (hrows.c3 27 _ rfl) (hrows.ok 27 (by decide)))
theorem sim_28 (W : World) (g cc bc bo : Nat) (r0 r1 r2 r3 r4 r5 r6 r7 r8 r9 r10 r11 r12 r13 r14 r15 : Int) (rn st : Nat) (outs : List Int) (mem outv wordsv : Value) (o0 inp : ByteArray) (co1 co2 co3 : Nat) (cs CC OK : Array Value) (B : Nat)
    (hst : st < 1000000) (hg : W.heap[g]? = some (.cells (WC bc bo cc co1 co2 co3 mem wordsv o0 inp ⟨28, [r0, r1, r2, r3, r4, r5, r6, r7, r8, r9, r10, r11, r12, r13, r14, r15], rn, outs, st, 0⟩ outv) 145 (0, 0))) (hcc : W.heap[cc]? = some (.cells cs 3 (0, 0))) (hcs : Counts cs)
    (hbc : W.heap[bc]? = some (.cells CC 46 (0, 0))) (hbo : W.heap[bo]? = some (.cells OK 4 (0, 0))) (hrows : Rows CC OK) (ho : OutOk W B outv outs)
    (hrng : ∀ i : Nat, i < 16 → 0 ≤ List.getD [r0, r1, r2, r3, r4, r5, r6, r7, r8, r9, r10, r11, r12, r13, r14, r15] i 0 ∧ List.getD [r0, r1, r2, r3, r4, r5, r6, r7, r8, r9, r10, r11, r12, r13, r14, r15] i 0 < 4294967296) (hread : rn ≤ inp.size) (hsz : inp.size < 1000000) (hB : B ≤ W.heap.size) :
    Calls Tryd.prog 131 #[.pointer (some ⟨g, 0, none⟩)] W (SimPost W g bc bo cc co1 co2 co3 mem wordsv o0 inp B outv (SeedSim.step (inpL inp) ⟨28, [r0, r1, r2, r3, r4, r5, r6, r7, r8, r9, r10, r11, r12, r13, r14, r15], rn, outs, st, 0⟩)) := by
  have hs : SeedSim.step (inpL inp) ⟨28, [r0, r1, r2, r3, r4, r5, r6, r7, r8, r9, r10, r11, r12, r13, r14, r15], rn, outs, st, 0⟩ = ⟨2, [r0, r1, r2, r3, r4, r5, r6, r7, r8, r9, r10, r11, r12, r13, r14, r15], rn, outs, st + 1, 0⟩ := by simp [SeedSim.step, SeedSim.code, SeedSim.exec, SeedSim.g, SeedSim.alu]
  rw [hs]
  exact sim_of hg hcc hcs ho (by rfl) rfl (step_18_0_0_2 W g cc bc bo 28 r0 r1 r2 r3 r4 r5 r6 r7 r8 r9 r10 r11 r12 r13 r14 r15 (rn : Int) (st : Int) mem outv wordsv o0 inp co1 co2 co3 cs CC OK (by decide) ⟨by omega, by omega⟩ hg hcc (hcs 28 (by decide)) hbc hbo (hrows.c0 28 _ rfl) (hrows.c1 28 _ rfl) (hrows.c2 28 _ rfl) (hrows.c3 28 _ rfl) (hrows.ok 28 (by decide)))
theorem sim_29 (W : World) (g cc bc bo : Nat) (r0 r1 r2 r3 r4 r5 r6 r7 r8 r9 r10 r11 r12 r13 r14 r15 : Int) (rn st : Nat) (outs : List Int) (mem outv wordsv : Value) (o0 inp : ByteArray) (co1 co2 co3 : Nat) (cs CC OK : Array Value) (B : Nat)
    (hst : st < 1000000) (hg : W.heap[g]? = some (.cells (WC bc bo cc co1 co2 co3 mem wordsv o0 inp ⟨29, [r0, r1, r2, r3, r4, r5, r6, r7, r8, r9, r10, r11, r12, r13, r14, r15], rn, outs, st, 0⟩ outv) 145 (0, 0))) (hcc : W.heap[cc]? = some (.cells cs 3 (0, 0))) (hcs : Counts cs)
    (hbc : W.heap[bc]? = some (.cells CC 46 (0, 0))) (hbo : W.heap[bo]? = some (.cells OK 4 (0, 0))) (hrows : Rows CC OK) (ho : OutOk W B outv outs)
    (hrng : ∀ i : Nat, i < 16 → 0 ≤ List.getD [r0, r1, r2, r3, r4, r5, r6, r7, r8, r9, r10, r11, r12, r13, r14, r15] i 0 ∧ List.getD [r0, r1, r2, r3, r4, r5, r6, r7, r8, r9, r10, r11, r12, r13, r14, r15] i 0 < 4294967296) (hread : rn ≤ inp.size) (hsz : inp.size < 1000000) (hB : B ≤ W.heap.size) :
    Calls Tryd.prog 131 #[.pointer (some ⟨g, 0, none⟩)] W (SimPost W g bc bo cc co1 co2 co3 mem wordsv o0 inp B outv (SeedSim.step (inpL inp) ⟨29, [r0, r1, r2, r3, r4, r5, r6, r7, r8, r9, r10, r11, r12, r13, r14, r15], rn, outs, st, 0⟩)) := by
  by_cases hlt : rn < inp.size
  · have hlt2 : rn < (inpL inp).length := by rw [inpL_len]; exact hlt
    have hs : SeedSim.step (inpL inp) ⟨29, [r0, r1, r2, r3, r4, r5, r6, r7, r8, r9, r10, r11, r12, r13, r14, r15], rn, outs, st, 0⟩ = ⟨30, [r0, (inp[rn].toNat : Int) % 4294967296, r2, r3, r4, r5, r6, r7, r8, r9, r10, r11, r12, r13, r14, r15], rn + 1, outs, st + 1, 0⟩ := by simp [SeedSim.step, SeedSim.code, SeedSim.exec, SeedSim.g, SeedSim.alu, hlt2, inpL_get inp rn hlt]
    rw [hs]
    exact sim_of hg hcc hcs ho (by rfl) rfl (step_23_1_0_0_in W g cc bc bo 29 r0 r1 r2 r3 r4 r5 r6 r7 r8 r9 r10 r11 r12 r13 r14 r15 (rn : Int) (st : Int) mem outv wordsv o0 inp co1 co2 co3 cs CC OK (by decide) ⟨by omega, by omega⟩ hg hcc (hcs 29 (by decide)) hbc hbo (hrows.c0 29 _ rfl) (hrows.c1 29 _ rfl) (hrows.c2 29 _ rfl) (hrows.c3 29 _ rfl) (hrows.ok 29 (by decide)) rn rfl hlt hsz)
  · have hlt2 : ¬ rn < (inpL inp).length := by rw [inpL_len]; exact hlt
    have hs : SeedSim.step (inpL inp) ⟨29, [r0, r1, r2, r3, r4, r5, r6, r7, r8, r9, r10, r11, r12, r13, r14, r15], rn, outs, st, 0⟩ = ⟨30, [r0, 256, r2, r3, r4, r5, r6, r7, r8, r9, r10, r11, r12, r13, r14, r15], rn, outs, st + 1, 0⟩ := by simp [SeedSim.step, SeedSim.code, SeedSim.exec, SeedSim.g, SeedSim.alu, hlt2]
    rw [hs]
    exact sim_of hg hcc hcs ho (by rfl) rfl (step_23_1_0_0_end W g cc bc bo 29 r0 r1 r2 r3 r4 r5 r6 r7 r8 r9 r10 r11 r12 r13 r14 r15 (rn : Int) (st : Int) mem outv wordsv o0 inp co1 co2 co3 cs CC OK (by decide) ⟨by omega, by omega⟩ hg hcc (hcs 29 (by decide)) hbc hbo (hrows.c0 29 _ rfl) (hrows.c1 29 _ rfl) (hrows.c2 29 _ rfl) (hrows.c3 29 _ rfl) (hrows.ok 29 (by decide)) rn rfl (by omega) hsz)
end Go.Proofs.YtdhkmdgieflioaaDoor.F
namespace Go.Proofs.YtdhkmdgieflioaaDoor.F
open Go.RowKit Go.Proofs.YtdhkmdgieflioaaDoorW.PrintWords Go.Proofs.YtdhkmdgieflioaaDoorW.PrintLast Go.Proofs.YtdhkmdgieflioaaDoorW.PrintMore
set_option linter.unusedVariables false
set_option linter.unusedSimpArgs false
set_option maxRecDepth 100000 in
set_option maxHeartbeats 8000000 in
theorem step_15_5_1_11 (W : World) (g cc bc bo : Nat) (pc : Nat) (r0 r1 r2 r3 r4 r5 r6 r7 r8 r9 r10 r11 r12 r13 r14 r15 rd st : Int) (mem outv wordsv : Value) (o0 inp : ByteArray) (co1 co2 co3 : Nat) (cs CC OK : Array Value)
    (hpc : pc < 37) (hst : 0 ≤ st ∧ st < 1000000) (hg : W.heap[g]? = some (.cells #[.int .i64 pc, .int .u32 r0, .int .u32 r1, .int .u32 r2, .int .u32 r3, .int .u32 r4, .int .u32 r5, .int .u32 r6, .int .u32 r7, .int .u32 r8, .int .u32 r9, .int .u32 r10, .int .u32 r11, .int .u32 r12, .int .u32 r13, .int .u32 r14, .int .u32 r15, mem, .int .i64 rd, .string o0, .int .i64 st, .int .i64 0, outv, .slice (some ⟨bc, 0, none⟩) 37 co1, .slice (some ⟨bo, 0, none⟩) 37 co2, wordsv, .string inp, .slice (some ⟨cc, 0, none⟩) 37 co3] 145 (0, 0)))
    (hcc : W.heap[cc]? = some (.cells cs 3 (0, 0))) (hcs : ∃ n, cs[pc]? = some (.int .i64 n)) (hbc : W.heap[bc]? = some (.cells CC 46 (0, 0))) (hbo : W.heap[bo]? = some (.cells OK 4 (0, 0)))
    (hk0 : CC[pc * 4]? = some (.int .i64 15)) (hk1 : CC[pc * 4 + 1]? = some (.int .i64 5)) (hk2 : CC[pc * 4 + 2]? = some (.int .i64 1)) (hk3 : CC[pc * 4 + 3]? = some (.int .i64 11)) (hok : OK[pc]? = some (.bool true))
    (hx : 0 ≤ r1) (hx2 : r1 < 4294967296) (hy : 0 ≤ r11) (hy2 : r11 < 4294967296) :
    Calls Tryd.prog 131 #[.pointer (some ⟨g, 0, none⟩)] W (StepPost W g cc none cs pc #[.int .i64 (pc + 1), .int .u32 r0, .int .u32 r1, .int .u32 r2, .int .u32 r3, .int .u32 r4, .int .u32 (if r1 = r11 then 1 else 0), .int .u32 r6, .int .u32 r7, .int .u32 r8, .int .u32 r9, .int .u32 r10, .int .u32 r11, .int .u32 r12, .int .u32 r13, .int .u32 r14, .int .u32 r15, mem, .int .i64 rd, .string o0, .int .i64 (st + 1), .int .i64 0, outv, .slice (some ⟨bc, 0, none⟩) 37 co1, .slice (some ⟨bo, 0, none⟩) 37 co2, wordsv, .string inp, .slice (some ⟨cc, 0, none⟩) 37 co3]) := by
  have hu145 := Tryd.underlying145
  have hu109 := Tryd.underlying109
  have hu46 := Tryd.underlying46
  have hlg := blk_lt hg
  have hlc := blk_lt hcc
  have hlb := blk_lt hbc
  have hlo := blk_lt hbo
  have n1 : cc ≠ g := blk_ne hcc hg (by decide)
  have n1' : g ≠ cc := fun h => n1 h.symm
  have n2 : bc ≠ g := blk_ne hbc hg (by decide)
  have n3 : bc ≠ cc := blk_ne hbc hcc (by decide)
  have n4 : bo ≠ g := blk_ne hbo hg (by decide)
  have n5 : bo ≠ cc := blk_ne hbo hcc (by decide)
  obtain ⟨cn, hcn⟩ := hcs
  have BG := Aside0.mk hg
  have BC := Aside0.mk hcc
  have fc : W.cell? ⟨cc, pc, none⟩ = some (.int .i64 cn) := (blk_cell hcc pc).trans hcn
  have zc := blk_frozen hcc pc
  have k0 := (blk_cell hbc (pc * 4)).trans hk0
  have k1 := (blk_cell hbc (pc * 4 + 1)).trans hk1
  have k2 := (blk_cell hbc (pc * 4 + 2)).trans hk2
  have k3 := (blk_cell hbc (pc * 4 + 3)).trans hk3
  have ko := (blk_cell hbo pc).trans hok
  clear hg hcc hcn hbc hbo hk0 hk1 hk2 hk3 hok
  have f0 : W.cell? ⟨g, 0, none⟩ = some (.int .i64 pc) := (blk_cell BG.out 0).trans rfl
  have f20 : W.cell? ⟨g, 20, none⟩ = some (.int .i64 st) := (blk_cell BG.out 20).trans rfl
  have f23 : W.cell? ⟨g, 23, none⟩ = some (.slice (some ⟨bc, 0, none⟩) 37 co1) := (blk_cell BG.out 23).trans rfl
  have f24 : W.cell? ⟨g, 24, none⟩ = some (.slice (some ⟨bo, 0, none⟩) 37 co2) := (blk_cell BG.out 24).trans rfl
  have f27 : W.cell? ⟨g, 27, none⟩ = some (.slice (some ⟨cc, 0, none⟩) 37 co3) := (blk_cell BG.out 27).trans rfl
  have f2 : W.cell? ⟨g, 2, none⟩ = some (.int .u32 r1) := (blk_cell BG.out 2).trans rfl
  have f6 : W.cell? ⟨g, 6, none⟩ = some (.int .u32 r5) := (blk_cell BG.out 6).trans rfl
  have f12 : W.cell? ⟨g, 12, none⟩ = some (.int .u32 r11) := (blk_cell BG.out 12).trans rfl
  have z0 := blk_frozen BG.out 0
  have z6 := blk_frozen BG.out 6
  have z20 := blk_frozen BG.out 20
  have z21 := blk_frozen BG.out 21
  have h1 : ¬ (pc : Int) < 0 := by omega
  have h1b : decide ((pc : Int) < 0) = false := by simp
  obtain ⟨rv, hrv⟩ : ∃ rv : Int, rv = if r1 = r11 then 1 else 0 := ⟨_, rfl⟩
  have hap : ∀ W_, Calls Tryd.prog 47 #[.int .i64 15, .int .u32 r1, .int .u32 r11] W_ fun e w' => e = .returned (.tuple #[.int .u32 rv, .int .i64 0]) ∧ w' = W_ := fun W_ => (apply_15 r1 r11 hx hx2 hy hy2 W_).mono fun e w' h => ⟨by rw [hrv]; exact h.1, h.2.symm⟩
  have HAP := Aside0.mk hap
  clear hap
  rw [← hrv]
  clear hrv
  go_enter Tryd.func131, Tryd.ntmps131
  go_wp2_with fail
  go_quiet (fail)
  go_wp2_with fail
  go_region
  go_wp2_with fail
  go_region
  go_wp2_with fail
  go_region
  go_wp2_with fail
  go_region
  go_wp2_with fail
  go_quiet ((exact (HAP.out _).mono fun _ _ h => ⟨h.1, _, h.2⟩))
  go_wp2
  go_end0
  go_wp2
  all_goals first | go_end0 | ((try simp only [Exit.inBlock, Exit.then]); refine bodyPost_ret (results_none rfl _ _ _) rfl ?_)
  refine ⟨rfl, ?h1_, ?h2_, ?h3_⟩
  case h1_ => exact blk_is (by (repeat (with_reducible first | exact BG.out | apply blk_drewN | apply blk_drew | apply blk_alloc | apply blk_set | apply blk_farc n1'))) (by rfl)
  case h2_ => exact ⟨_, by (repeat (with_reducible first | exact BC.out | apply blk_drewN | apply blk_drew | apply blk_alloc | apply blk_set | apply blk_farc n1))⟩
  case h3_ => (repeat (with_reducible first | exact Stp.refl _ _ _ _ | refine Stp.drewN ?_ _ | refine Stp.drew ?_ | refine Stp.alloc ?_ _ | refine Stp.setg ?_ _ _ | refine Stp.setc ?_ _ _))
end Go.Proofs.YtdhkmdgieflioaaDoor.F
namespace Go.Proofs.YtdhkmdgieflioaaDoor.F
open Go.RowKit Go.Proofs.YtdhkmdgieflioaaDoorW.PrintWords Go.Proofs.YtdhkmdgieflioaaDoorW.PrintLast Go.Proofs.YtdhkmdgieflioaaDoorW.PrintMore
set_option linter.unusedVariables false
set_option linter.unusedSimpArgs false
set_option maxRecDepth 100000 in
set_option maxHeartbeats 8000000 in
theorem step_19_5_0_29_z (W : World) (g cc bc bo : Nat) (pc : Nat) (r0 r1 r2 r3 r4 r5 r6 r7 r8 r9 r10 r11 r12 r13 r14 r15 rd st : Int) (mem outv wordsv : Value) (o0 inp : ByteArray) (co1 co2 co3 : Nat) (cs CC OK : Array Value)
    (hpc : pc < 37) (hst : 0 ≤ st ∧ st < 1000000) (hg : W.heap[g]? = some (.cells #[.int .i64 pc, .int .u32 r0, .int .u32 r1, .int .u32 r2, .int .u32 r3, .int .u32 r4, .int .u32 r5, .int .u32 r6, .int .u32 r7, .int .u32 r8, .int .u32 r9, .int .u32 r10, .int .u32 r11, .int .u32 r12, .int .u32 r13, .int .u32 r14, .int .u32 r15, mem, .int .i64 rd, .string o0, .int .i64 st, .int .i64 0, outv, .slice (some ⟨bc, 0, none⟩) 37 co1, .slice (some ⟨bo, 0, none⟩) 37 co2, wordsv, .string inp, .slice (some ⟨cc, 0, none⟩) 37 co3] 145 (0, 0)))
    (hcc : W.heap[cc]? = some (.cells cs 3 (0, 0))) (hcs : ∃ n, cs[pc]? = some (.int .i64 n)) (hbc : W.heap[bc]? = some (.cells CC 46 (0, 0))) (hbo : W.heap[bo]? = some (.cells OK 4 (0, 0)))
    (hk0 : CC[pc * 4]? = some (.int .i64 19)) (hk1 : CC[pc * 4 + 1]? = some (.int .i64 5)) (hk2 : CC[pc * 4 + 2]? = some (.int .i64 0)) (hk3 : CC[pc * 4 + 3]? = some (.int .i64 29)) (hok : OK[pc]? = some (.bool true))
    (hz1 : (r5 == 0) = true) (hz2 : (r5 != 0) = false) :
    Calls Tryd.prog 131 #[.pointer (some ⟨g, 0, none⟩)] W (StepPost W g cc none cs pc #[.int .i64 29, .int .u32 r0, .int .u32 r1, .int .u32 r2, .int .u32 r3, .int .u32 r4, .int .u32 r5, .int .u32 r6, .int .u32 r7, .int .u32 r8, .int .u32 r9, .int .u32 r10, .int .u32 r11, .int .u32 r12, .int .u32 r13, .int .u32 r14, .int .u32 r15, mem, .int .i64 rd, .string o0, .int .i64 (st + 1), .int .i64 0, outv, .slice (some ⟨bc, 0, none⟩) 37 co1, .slice (some ⟨bo, 0, none⟩) 37 co2, wordsv, .string inp, .slice (some ⟨cc, 0, none⟩) 37 co3]) := by
  have hu145 := Tryd.underlying145
  have hu109 := Tryd.underlying109
  have hu46 := Tryd.underlying46
  have hlg := blk_lt hg
  have hlc := blk_lt hcc
  have hlb := blk_lt hbc
  have hlo := blk_lt hbo
  have n1 : cc ≠ g := blk_ne hcc hg (by decide)
  have n1' : g ≠ cc := fun h => n1 h.symm
  have n2 : bc ≠ g := blk_ne hbc hg (by decide)
  have n3 : bc ≠ cc := blk_ne hbc hcc (by decide)
  have n4 : bo ≠ g := blk_ne hbo hg (by decide)
  have n5 : bo ≠ cc := blk_ne hbo hcc (by decide)
  obtain ⟨cn, hcn⟩ := hcs
  have BG := Aside0.mk hg
  have BC := Aside0.mk hcc
  have fc : W.cell? ⟨cc, pc, none⟩ = some (.int .i64 cn) := (blk_cell hcc pc).trans hcn
  have zc := blk_frozen hcc pc
  have k0 := (blk_cell hbc (pc * 4)).trans hk0
  have k1 := (blk_cell hbc (pc * 4 + 1)).trans hk1
  have k2 := (blk_cell hbc (pc * 4 + 2)).trans hk2
  have k3 := (blk_cell hbc (pc * 4 + 3)).trans hk3
  have ko := (blk_cell hbo pc).trans hok
  clear hg hcc hcn hbc hbo hk0 hk1 hk2 hk3 hok
  have f0 : W.cell? ⟨g, 0, none⟩ = some (.int .i64 pc) := (blk_cell BG.out 0).trans rfl
  have f20 : W.cell? ⟨g, 20, none⟩ = some (.int .i64 st) := (blk_cell BG.out 20).trans rfl
  have f23 : W.cell? ⟨g, 23, none⟩ = some (.slice (some ⟨bc, 0, none⟩) 37 co1) := (blk_cell BG.out 23).trans rfl
  have f24 : W.cell? ⟨g, 24, none⟩ = some (.slice (some ⟨bo, 0, none⟩) 37 co2) := (blk_cell BG.out 24).trans rfl
  have f27 : W.cell? ⟨g, 27, none⟩ = some (.slice (some ⟨cc, 0, none⟩) 37 co3) := (blk_cell BG.out 27).trans rfl
  have f6 : W.cell? ⟨g, 6, none⟩ = some (.int .u32 r5) := (blk_cell BG.out 6).trans rfl
  have z0 := blk_frozen BG.out 0
  have z6 := blk_frozen BG.out 6
  have z20 := blk_frozen BG.out 20
  have z21 := blk_frozen BG.out 21
  have h1 : ¬ (pc : Int) < 0 := by omega
  have h1b : decide ((pc : Int) < 0) = false := by simp
  go_enter Tryd.func131, Tryd.ntmps131
  go_wp2_with fail
  go_quiet (fail)
  go_wp2_with fail
  go_region
  go_wp2_with fail
  go_region
  go_wp2_with fail
  go_region
  go_wp2_with fail
  go_region
  go_wp2
  go_end0
  go_wp2
  all_goals first | go_end0 | ((try simp only [Exit.inBlock, Exit.then]); refine bodyPost_ret (results_none rfl _ _ _) rfl ?_)
  refine ⟨rfl, ?h1_, ?h2_, ?h3_⟩
  case h1_ => exact blk_is (by (repeat (with_reducible first | exact BG.out | apply blk_drewN | apply blk_drew | apply blk_alloc | apply blk_set | apply blk_farc n1'))) (by rfl)
  case h2_ => exact ⟨_, by (repeat (with_reducible first | exact BC.out | apply blk_drewN | apply blk_drew | apply blk_alloc | apply blk_set | apply blk_farc n1))⟩
  case h3_ => (repeat (with_reducible first | exact Stp.refl _ _ _ _ | refine Stp.drewN ?_ _ | refine Stp.drew ?_ | refine Stp.alloc ?_ _ | refine Stp.setg ?_ _ _ | refine Stp.setc ?_ _ _))
set_option maxRecDepth 100000 in
set_option maxHeartbeats 8000000 in
theorem step_19_5_0_29_n (W : World) (g cc bc bo : Nat) (pc : Nat) (r0 r1 r2 r3 r4 r5 r6 r7 r8 r9 r10 r11 r12 r13 r14 r15 rd st : Int) (mem outv wordsv : Value) (o0 inp : ByteArray) (co1 co2 co3 : Nat) (cs CC OK : Array Value)
    (hpc : pc < 37) (hst : 0 ≤ st ∧ st < 1000000) (hg : W.heap[g]? = some (.cells #[.int .i64 pc, .int .u32 r0, .int .u32 r1, .int .u32 r2, .int .u32 r3, .int .u32 r4, .int .u32 r5, .int .u32 r6, .int .u32 r7, .int .u32 r8, .int .u32 r9, .int .u32 r10, .int .u32 r11, .int .u32 r12, .int .u32 r13, .int .u32 r14, .int .u32 r15, mem, .int .i64 rd, .string o0, .int .i64 st, .int .i64 0, outv, .slice (some ⟨bc, 0, none⟩) 37 co1, .slice (some ⟨bo, 0, none⟩) 37 co2, wordsv, .string inp, .slice (some ⟨cc, 0, none⟩) 37 co3] 145 (0, 0)))
    (hcc : W.heap[cc]? = some (.cells cs 3 (0, 0))) (hcs : ∃ n, cs[pc]? = some (.int .i64 n)) (hbc : W.heap[bc]? = some (.cells CC 46 (0, 0))) (hbo : W.heap[bo]? = some (.cells OK 4 (0, 0)))
    (hk0 : CC[pc * 4]? = some (.int .i64 19)) (hk1 : CC[pc * 4 + 1]? = some (.int .i64 5)) (hk2 : CC[pc * 4 + 2]? = some (.int .i64 0)) (hk3 : CC[pc * 4 + 3]? = some (.int .i64 29)) (hok : OK[pc]? = some (.bool true))
    (hz1 : (r5 == 0) = false) (hz2 : (r5 != 0) = true) :
    Calls Tryd.prog 131 #[.pointer (some ⟨g, 0, none⟩)] W (StepPost W g cc none cs pc #[.int .i64 (pc + 1), .int .u32 r0, .int .u32 r1, .int .u32 r2, .int .u32 r3, .int .u32 r4, .int .u32 r5, .int .u32 r6, .int .u32 r7, .int .u32 r8, .int .u32 r9, .int .u32 r10, .int .u32 r11, .int .u32 r12, .int .u32 r13, .int .u32 r14, .int .u32 r15, mem, .int .i64 rd, .string o0, .int .i64 (st + 1), .int .i64 0, outv, .slice (some ⟨bc, 0, none⟩) 37 co1, .slice (some ⟨bo, 0, none⟩) 37 co2, wordsv, .string inp, .slice (some ⟨cc, 0, none⟩) 37 co3]) := by
  have hu145 := Tryd.underlying145
  have hu109 := Tryd.underlying109
  have hu46 := Tryd.underlying46
  have hlg := blk_lt hg
  have hlc := blk_lt hcc
  have hlb := blk_lt hbc
  have hlo := blk_lt hbo
  have n1 : cc ≠ g := blk_ne hcc hg (by decide)
  have n1' : g ≠ cc := fun h => n1 h.symm
  have n2 : bc ≠ g := blk_ne hbc hg (by decide)
  have n3 : bc ≠ cc := blk_ne hbc hcc (by decide)
  have n4 : bo ≠ g := blk_ne hbo hg (by decide)
  have n5 : bo ≠ cc := blk_ne hbo hcc (by decide)
  obtain ⟨cn, hcn⟩ := hcs
  have BG := Aside0.mk hg
  have BC := Aside0.mk hcc
  have fc : W.cell? ⟨cc, pc, none⟩ = some (.int .i64 cn) := (blk_cell hcc pc).trans hcn
  have zc := blk_frozen hcc pc
  have k0 := (blk_cell hbc (pc * 4)).trans hk0
  have k1 := (blk_cell hbc (pc * 4 + 1)).trans hk1
  have k2 := (blk_cell hbc (pc * 4 + 2)).trans hk2
  have k3 := (blk_cell hbc (pc * 4 + 3)).trans hk3
  have ko := (blk_cell hbo pc).trans hok
  clear hg hcc hcn hbc hbo hk0 hk1 hk2 hk3 hok
  have f0 : W.cell? ⟨g, 0, none⟩ = some (.int .i64 pc) := (blk_cell BG.out 0).trans rfl
  have f20 : W.cell? ⟨g, 20, none⟩ = some (.int .i64 st) := (blk_cell BG.out 20).trans rfl
  have f23 : W.cell? ⟨g, 23, none⟩ = some (.slice (some ⟨bc, 0, none⟩) 37 co1) := (blk_cell BG.out 23).trans rfl
  have f24 : W.cell? ⟨g, 24, none⟩ = some (.slice (some ⟨bo, 0, none⟩) 37 co2) := (blk_cell BG.out 24).trans rfl
  have f27 : W.cell? ⟨g, 27, none⟩ = some (.slice (some ⟨cc, 0, none⟩) 37 co3) := (blk_cell BG.out 27).trans rfl
  have f6 : W.cell? ⟨g, 6, none⟩ = some (.int .u32 r5) := (blk_cell BG.out 6).trans rfl
  have z0 := blk_frozen BG.out 0
  have z6 := blk_frozen BG.out 6
  have z20 := blk_frozen BG.out 20
  have z21 := blk_frozen BG.out 21
  have h1 : ¬ (pc : Int) < 0 := by omega
  have h1b : decide ((pc : Int) < 0) = false := by simp
  go_enter Tryd.func131, Tryd.ntmps131
  go_wp2_with fail
  go_quiet (fail)
  go_wp2_with fail
  go_region
  go_wp2_with fail
  go_region
  go_wp2_with fail
  go_region
  go_wp2_with fail
  go_region
  go_wp2
  go_end0
  go_wp2
  all_goals first | go_end0 | ((try simp only [Exit.inBlock, Exit.then]); refine bodyPost_ret (results_none rfl _ _ _) rfl ?_)
  refine ⟨rfl, ?h1_, ?h2_, ?h3_⟩
  case h1_ => exact blk_is (by (repeat (with_reducible first | exact BG.out | apply blk_drewN | apply blk_drew | apply blk_alloc | apply blk_set | apply blk_farc n1'))) (by rfl)
  case h2_ => exact ⟨_, by (repeat (with_reducible first | exact BC.out | apply blk_drewN | apply blk_drew | apply blk_alloc | apply blk_set | apply blk_farc n1))⟩
  case h3_ => (repeat (with_reducible first | exact Stp.refl _ _ _ _ | refine Stp.drewN ?_ _ | refine Stp.drew ?_ | refine Stp.alloc ?_ _ | refine Stp.setg ?_ _ _ | refine Stp.setc ?_ _ _))
end Go.Proofs.YtdhkmdgieflioaaDoor.F
namespace Go.Proofs.YtdhkmdgieflioaaDoor.F
open Go.RowKit Go.Proofs.YtdhkmdgieflioaaDoorW.PrintWords Go.Proofs.YtdhkmdgieflioaaDoorW.PrintLast Go.Proofs.YtdhkmdgieflioaaDoorW.PrintMore
set_option linter.unusedVariables false
set_option linter.unusedSimpArgs false
set_option maxRecDepth 100000 in
set_option maxHeartbeats 8000000 in
theorem step_26_0_0_0 (W : World) (g cc bc bo : Nat) (pc : Nat) (r0 r1 r2 r3 r4 r5 r6 r7 r8 r9 r10 r11 r12 r13 r14 r15 rd st : Int) (mem outv wordsv : Value) (o0 inp : ByteArray) (co1 co2 co3 : Nat) (cs CC OK : Array Value)
    (hpc : pc < 37) (hst : 0 ≤ st ∧ st < 1000000) (hg : W.heap[g]? = some (.cells #[.int .i64 pc, .int .u32 r0, .int .u32 r1, .int .u32 r2, .int .u32 r3, .int .u32 r4, .int .u32 r5, .int .u32 r6, .int .u32 r7, .int .u32 r8, .int .u32 r9, .int .u32 r10, .int .u32 r11, .int .u32 r12, .int .u32 r13, .int .u32 r14, .int .u32 r15, mem, .int .i64 rd, .string o0, .int .i64 st, .int .i64 0, outv, .slice (some ⟨bc, 0, none⟩) 37 co1, .slice (some ⟨bo, 0, none⟩) 37 co2, wordsv, .string inp, .slice (some ⟨cc, 0, none⟩) 37 co3] 145 (0, 0)))
    (hcc : W.heap[cc]? = some (.cells cs 3 (0, 0))) (hcs : ∃ n, cs[pc]? = some (.int .i64 n)) (hbc : W.heap[bc]? = some (.cells CC 46 (0, 0))) (hbo : W.heap[bo]? = some (.cells OK 4 (0, 0)))
    (hk0 : CC[pc * 4]? = some (.int .i64 26)) (hk1 : CC[pc * 4 + 1]? = some (.int .i64 0)) (hk2 : CC[pc * 4 + 2]? = some (.int .i64 0)) (hk3 : CC[pc * 4 + 3]? = some (.int .i64 0)) (hok : OK[pc]? = some (.bool true)) :
    Calls Tryd.prog 131 #[.pointer (some ⟨g, 0, none⟩)] W (StepPost W g cc none cs pc #[.int .i64 pc, .int .u32 r0, .int .u32 r1, .int .u32 r2, .int .u32 r3, .int .u32 r4, .int .u32 r5, .int .u32 r6, .int .u32 r7, .int .u32 r8, .int .u32 r9, .int .u32 r10, .int .u32 r11, .int .u32 r12, .int .u32 r13, .int .u32 r14, .int .u32 r15, mem, .int .i64 rd, .string o0, .int .i64 (st + 1), .int .i64 1, outv, .slice (some ⟨bc, 0, none⟩) 37 co1, .slice (some ⟨bo, 0, none⟩) 37 co2, wordsv, .string inp, .slice (some ⟨cc, 0, none⟩) 37 co3]) := by
  have hu145 := Tryd.underlying145
  have hu109 := Tryd.underlying109
  have hu46 := Tryd.underlying46
  have hlg := blk_lt hg
  have hlc := blk_lt hcc
  have hlb := blk_lt hbc
  have hlo := blk_lt hbo
  have n1 : cc ≠ g := blk_ne hcc hg (by decide)
  have n1' : g ≠ cc := fun h => n1 h.symm
  have n2 : bc ≠ g := blk_ne hbc hg (by decide)
  have n3 : bc ≠ cc := blk_ne hbc hcc (by decide)
  have n4 : bo ≠ g := blk_ne hbo hg (by decide)
  have n5 : bo ≠ cc := blk_ne hbo hcc (by decide)
  obtain ⟨cn, hcn⟩ := hcs
  have BG := Aside0.mk hg
  have BC := Aside0.mk hcc
  have fc : W.cell? ⟨cc, pc, none⟩ = some (.int .i64 cn) := (blk_cell hcc pc).trans hcn
  have zc := blk_frozen hcc pc
  have k0 := (blk_cell hbc (pc * 4)).trans hk0
  have k1 := (blk_cell hbc (pc * 4 + 1)).trans hk1
  have k2 := (blk_cell hbc (pc * 4 + 2)).trans hk2
  have k3 := (blk_cell hbc (pc * 4 + 3)).trans hk3
  have ko := (blk_cell hbo pc).trans hok
  clear hg hcc hcn hbc hbo hk0 hk1 hk2 hk3 hok
  have f0 : W.cell? ⟨g, 0, none⟩ = some (.int .i64 pc) := (blk_cell BG.out 0).trans rfl
  have f20 : W.cell? ⟨g, 20, none⟩ = some (.int .i64 st) := (blk_cell BG.out 20).trans rfl
  have f23 : W.cell? ⟨g, 23, none⟩ = some (.slice (some ⟨bc, 0, none⟩) 37 co1) := (blk_cell BG.out 23).trans rfl
  have f24 : W.cell? ⟨g, 24, none⟩ = some (.slice (some ⟨bo, 0, none⟩) 37 co2) := (blk_cell BG.out 24).trans rfl
  have f27 : W.cell? ⟨g, 27, none⟩ = some (.slice (some ⟨cc, 0, none⟩) 37 co3) := (blk_cell BG.out 27).trans rfl
  have f1 : W.cell? ⟨g, 1, none⟩ = some (.int .u32 r0) := (blk_cell BG.out 1).trans rfl
  have f21 : W.cell? ⟨g, 21, none⟩ = some (.int .i64 0) := (blk_cell BG.out 21).trans rfl
  have z0 := blk_frozen BG.out 0
  have z1 := blk_frozen BG.out 1
  have z20 := blk_frozen BG.out 20
  have z21 := blk_frozen BG.out 21
  have h1 : ¬ (pc : Int) < 0 := by omega
  have h1b : decide ((pc : Int) < 0) = false := by simp
  go_enter Tryd.func131, Tryd.ntmps131
  go_wp2_with fail
  go_quiet (fail)
  go_wp2_with fail
  go_region
  go_wp2_with fail
  go_region
  go_wp2_with fail
  go_region
  go_wp2_with fail
  go_region
  go_wp2
  all_goals first | go_end0 | ((try simp only [Exit.inBlock, Exit.then]); refine bodyPost_ret (results_none rfl _ _ _) rfl ?_)
  refine ⟨rfl, ?h1_, ?h2_, ?h3_⟩
  case h1_ => exact blk_is (by (repeat (with_reducible first | exact BG.out | apply blk_drewN | apply blk_drew | apply blk_alloc | apply blk_set | apply blk_farc n1'))) (by rfl)
  case h2_ => exact ⟨_, by (repeat (with_reducible first | exact BC.out | apply blk_drewN | apply blk_drew | apply blk_alloc | apply blk_set | apply blk_farc n1))⟩
  case h3_ => (repeat (with_reducible first | exact Stp.refl _ _ _ _ | refine Stp.drewN ?_ _ | refine Stp.drew ?_ | refine Stp.alloc ?_ _ | refine Stp.setg ?_ _ _ | refine Stp.setc ?_ _ _))
end Go.Proofs.YtdhkmdgieflioaaDoor.F
namespace Go.Proofs.YtdhkmdgieflioaaDoor.F
open Go.RowKit Go.Proofs.YtdhkmdgieflioaaDoorW.PrintWords Go.Proofs.YtdhkmdgieflioaaDoorW.PrintLast Go.Proofs.YtdhkmdgieflioaaDoorW.PrintMore
set_option linter.unusedVariables false
set_option linter.unusedSimpArgs false
open SeedSim
theorem sim_30 (W : World) (g cc bc bo : Nat) (r0 r1 r2 r3 r4 r5 r6 r7 r8 r9 r10 r11 r12 r13 r14 r15 : Int) (rn st : Nat) (outs : List Int) (mem outv wordsv : Value) (o0 inp : ByteArray) (co1 co2 co3 : Nat) (cs CC OK : Array Value) (B : Nat)
    (hst : st < 1000000) (hg : W.heap[g]? = some (.cells (WC bc bo cc co1 co2 co3 mem wordsv o0 inp ⟨30, [r0, r1, r2, r3, r4, r5, r6, r7, r8, r9, r10, r11, r12, r13, r14, r15], rn, outs, st, 0⟩ outv) 145 (0, 0))) (hcc : W.heap[cc]? = some (.cells cs 3 (0, 0))) (hcs : Counts cs)
    (hbc : W.heap[bc]? = some (.cells CC 46 (0, 0))) (hbo : W.heap[bo]? = some (.cells OK 4 (0, 0))) (hrows : Rows CC OK) (ho : OutOk W B outv outs)
    (hrng : ∀ i : Nat, i < 16 → 0 ≤ List.getD [r0, r1, r2, r3, r4, r5, r6, r7, r8, r9, r10, r11, r12, r13, r14, r15] i 0 ∧ List.getD [r0, r1, r2, r3, r4, r5, r6, r7, r8, r9, r10, r11, r12, r13, r14, r15] i 0 < 4294967296) (hread : rn ≤ inp.size) (hsz : inp.size < 1000000) (hB : B ≤ W.heap.size) :
    Calls Tryd.prog 131 #[.pointer (some ⟨g, 0, none⟩)] W (SimPost W g bc bo cc co1 co2 co3 mem wordsv o0 inp B outv (SeedSim.step (inpL inp) ⟨30, [r0, r1, r2, r3, r4, r5, r6, r7, r8, r9, r10, r11, r12, r13, r14, r15], rn, outs, st, 0⟩)) := by
  have hs : SeedSim.step (inpL inp) ⟨30, [r0, r1, r2, r3, r4, r5, r6, r7, r8, r9, r10, r11, r12, r13, r14, r15], rn, outs, st, 0⟩ = ⟨31, [r0, r1, 256, r3, r4, r5, r6, r7, r8, r9, r10, r11, r12, r13, r14, r15], rn, outs, st + 1, 0⟩ := by simp [SeedSim.step, SeedSim.code, SeedSim.exec, SeedSim.g, SeedSim.alu]
  rw [hs]
  exact sim_of hg hcc hcs ho (by rfl) rfl (step_1_2_0_256 W g cc bc bo 30 r0 r1 r2 r3 r4 r5 r6 r7 r8 r9 r10 r11 r12 r13 r14 r15 (rn : Int) (st : Int) mem outv wordsv o0 inp co1 co2 co3 cs CC OK (by decide) ⟨by omega, by omega⟩ hg hcc (hcs 30 (by decide)) hbc hbo (hrows.c0 30 _ rfl) (hrows.c1 30 _ rfl) (hrows.c2 30 _ rfl) (hrows.c3 30 _ rfl) (hrows.ok 30 (by decide)))
theorem sim_31 (W : World) (g cc bc bo : Nat) (r0 r1 r2 r3 r4 r5 r6 r7 r8 r9 r10 r11 r12 r13 r14 r15 : Int) (rn st : Nat) (outs : List Int) (mem outv wordsv : Value) (o0 inp : ByteArray) (co1 co2 co3 : Nat) (cs CC OK : Array Value) (B : Nat)
    (hst : st < 1000000) (hg : W.heap[g]? = some (.cells (WC bc bo cc co1 co2 co3 mem wordsv o0 inp ⟨31, [r0, r1, r2, r3, r4, r5, r6, r7, r8, r9, r10, r11, r12, r13, r14, r15], rn, outs, st, 0⟩ outv) 145 (0, 0))) (hcc : W.heap[cc]? = some (.cells cs 3 (0, 0))) (hcs : Counts cs)
    (hbc : W.heap[bc]? = some (.cells CC 46 (0, 0))) (hbo : W.heap[bo]? = some (.cells OK 4 (0, 0))) (hrows : Rows CC OK) (ho : OutOk W B outv outs)
    (hrng : ∀ i : Nat, i < 16 → 0 ≤ List.getD [r0, r1, r2, r3, r4, r5, r6, r7, r8, r9, r10, r11, r12, r13, r14, r15] i 0 ∧ List.getD [r0, r1, r2, r3, r4, r5, r6, r7, r8, r9, r10, r11, r12, r13, r14, r15] i 0 < 4294967296) (hread : rn ≤ inp.size) (hsz : inp.size < 1000000) (hB : B ≤ W.heap.size) :
    Calls Tryd.prog 131 #[.pointer (some ⟨g, 0, none⟩)] W (SimPost W g bc bo cc co1 co2 co3 mem wordsv o0 inp B outv (SeedSim.step (inpL inp) ⟨31, [r0, r1, r2, r3, r4, r5, r6, r7, r8, r9, r10, r11, r12, r13, r14, r15], rn, outs, st, 0⟩)) := by
  have hs : SeedSim.step (inpL inp) ⟨31, [r0, r1, r2, r3, r4, r5, r6, r7, r8, r9, r10, r11, r12, r13, r14, r15], rn, outs, st, 0⟩ = ⟨32, [r0, r1, r2, r3, r4, if r1 = r2 then 1 else 0, r6, r7, r8, r9, r10, r11, r12, r13, r14, r15], rn, outs, st + 1, 0⟩ := by simp [SeedSim.step, SeedSim.code, SeedSim.exec, SeedSim.g, SeedSim.alu]
  rw [hs]
  exact sim_of hg hcc hcs ho (by rfl) rfl (step_15_5_1_2 W g cc bc bo 31 r0 r1 r2 r3 r4 r5 r6 r7 r8 r9 r10 r11 r12 r13 r14 r15 (rn : Int) (st : Int) mem outv wordsv o0 inp co1 co2 co3 cs CC OK (by decide) ⟨by omega, by omega⟩ hg hcc (hcs 31 (by decide)) hbc hbo (hrows.c0 31 _ rfl) (hrows.c1 31 _ rfl) (hrows.c2 31 _ rfl) (hrows.c3 31 _ rfl) (hrows.ok 31 (by decide)) (hrng 1 (by decide)).1 (hrng 1 (by decide)).2 (hrng 2 (by decide)).1 (hrng 2 (by decide)).2)
theorem sim_32 (W : World) (g cc bc bo : Nat) (r0 r1 r2 r3 r4 r5 r6 r7 r8 r9 r10 r11 r12 r13 r14 r15 : Int) (rn st : Nat) (outs : List Int) (mem outv wordsv : Value) (o0 inp : ByteArray) (co1 co2 co3 : Nat) (cs CC OK : Array Value) (B : Nat)
    (hst : st < 1000000) (hg : W.heap[g]? = some (.cells (WC bc bo cc co1 co2 co3 mem wordsv o0 inp ⟨32, [r0, r1, r2, r3, r4, r5, r6, r7, r8, r9, r10, r11, r12, r13, r14, r15], rn, outs, st, 0⟩ outv) 145 (0, 0))) (hcc : W.heap[cc]? = some (.cells cs 3 (0, 0))) (hcs : Counts cs)
    (hbc : W.heap[bc]? = some (.cells CC 46 (0, 0))) (hbo : W.heap[bo]? = some (.cells OK 4 (0, 0))) (hrows : Rows CC OK) (ho : OutOk W B outv outs)
    (hrng : ∀ i : Nat, i < 16 → 0 ≤ List.getD [r0, r1, r2, r3, r4, r5, r6, r7, r8, r9, r10, r11, r12, r13, r14, r15] i 0 ∧ List.getD [r0, r1, r2, r3, r4, r5, r6, r7, r8, r9, r10, r11, r12, r13, r14, r15] i 0 < 4294967296) (hread : rn ≤ inp.size) (hsz : inp.size < 1000000) (hB : B ≤ W.heap.size) :
    Calls Tryd.prog 131 #[.pointer (some ⟨g, 0, none⟩)] W (SimPost W g bc bo cc co1 co2 co3 mem wordsv o0 inp B outv (SeedSim.step (inpL inp) ⟨32, [r0, r1, r2, r3, r4, r5, r6, r7, r8, r9, r10, r11, r12, r13, r14, r15], rn, outs, st, 0⟩)) := by
  by_cases hz : r5 = 0
  · have hs : SeedSim.step (inpL inp) ⟨32, [r0, r1, r2, r3, r4, r5, r6, r7, r8, r9, r10, r11, r12, r13, r14, r15], rn, outs, st, 0⟩ = ⟨33, [r0, r1, r2, r3, r4, r5, r6, r7, r8, r9, r10, r11, r12, r13, r14, r15], rn, outs, st + 1, 0⟩ := by simp [SeedSim.step, SeedSim.code, SeedSim.exec, SeedSim.g, SeedSim.alu, hz]
    rw [hs]
    exact sim_of hg hcc hcs ho (by rfl) rfl (step_20_5_0_36_z W g cc bc bo 32 r0 r1 r2 r3 r4 r5 r6 r7 r8 r9 r10 r11 r12 r13 r14 r15 (rn : Int) (st : Int) mem outv wordsv o0 inp co1 co2 co3 cs CC OK (by decide) ⟨by omega, by omega⟩ hg hcc (hcs 32 (by decide)) hbc hbo (hrows.c0 32 _ rfl) (hrows.c1 32 _ rfl) (hrows.c2 32 _ rfl) (hrows.c3 32 _ rfl) (hrows.ok 32 (by decide)) (by rw [hz]; rfl) (by rw [hz]; rfl))
  · have hs : SeedSim.step (inpL inp) ⟨32, [r0, r1, r2, r3, r4, r5, r6, r7, r8, r9, r10, r11, r12, r13, r14, r15], rn, outs, st, 0⟩ = ⟨36, [r0, r1, r2, r3, r4, r5, r6, r7, r8, r9, r10, r11, r12, r13, r14, r15], rn, outs, st + 1, 0⟩ := by simp [SeedSim.step, SeedSim.code, SeedSim.exec, SeedSim.g, SeedSim.alu, hz]
    rw [hs]
    exact sim_of hg hcc hcs ho (by rfl) rfl (step_20_5_0_36_n W g cc bc bo 32 r0 r1 r2 r3 r4 r5 r6 r7 r8 r9 r10 r11 r12 r13 r14 r15 (rn : Int) (st : Int) mem outv wordsv o0 inp co1 co2 co3 cs CC OK (by decide) ⟨by omega, by omega⟩ hg hcc (hcs 32 (by decide)) hbc hbo (hrows.c0 32 _ rfl) (hrows.c1 32 _ rfl) (hrows.c2 32 _ rfl) (hrows.c3 32 _ rfl) (hrows.ok 32 (by decide)) (by simpa using hz) (by simpa using hz))
theorem sim_33 (W : World) (g cc bc bo : Nat) (r0 r1 r2 r3 r4 r5 r6 r7 r8 r9 r10 r11 r12 r13 r14 r15 : Int) (rn st : Nat) (outs : List Int) (mem outv wordsv : Value) (o0 inp : ByteArray) (co1 co2 co3 : Nat) (cs CC OK : Array Value) (B : Nat)
    (hst : st < 1000000) (hg : W.heap[g]? = some (.cells (WC bc bo cc co1 co2 co3 mem wordsv o0 inp ⟨33, [r0, r1, r2, r3, r4, r5, r6, r7, r8, r9, r10, r11, r12, r13, r14, r15], rn, outs, st, 0⟩ outv) 145 (0, 0))) (hcc : W.heap[cc]? = some (.cells cs 3 (0, 0))) (hcs : Counts cs)
    (hbc : W.heap[bc]? = some (.cells CC 46 (0, 0))) (hbo : W.heap[bo]? = some (.cells OK 4 (0, 0))) (hrows : Rows CC OK) (ho : OutOk W B outv outs)
    (hrng : ∀ i : Nat, i < 16 → 0 ≤ List.getD [r0, r1, r2, r3, r4, r5, r6, r7, r8, r9, r10, r11, r12, r13, r14, r15] i 0 ∧ List.getD [r0, r1, r2, r3, r4, r5, r6, r7, r8, r9, r10, r11, r12, r13, r14, r15] i 0 < 4294967296) (hread : rn ≤ inp.size) (hsz : inp.size < 1000000) (hB : B ≤ W.heap.size) :
    Calls Tryd.prog 131 #[.pointer (some ⟨g, 0, none⟩)] W (SimPost W g bc bo cc co1 co2 co3 mem wordsv o0 inp B outv (SeedSim.step (inpL inp) ⟨33, [r0, r1, r2, r3, r4, r5, r6, r7, r8, r9, r10, r11, r12, r13, r14, r15], rn, outs, st, 0⟩)) := by
  have hs : SeedSim.step (inpL inp) ⟨33, [r0, r1, r2, r3, r4, r5, r6, r7, r8, r9, r10, r11, r12, r13, r14, r15], rn, outs, st, 0⟩ = ⟨34, [r0, r1, r2, r3, r4, if r1 = r11 then 1 else 0, r6, r7, r8, r9, r10, r11, r12, r13, r14, r15], rn, outs, st + 1, 0⟩ := by simp [SeedSim.step, SeedSim.code, SeedSim.exec, SeedSim.g, SeedSim.alu]
  rw [hs]
  exact sim_of hg hcc hcs ho (by rfl) rfl (step_15_5_1_11 W g cc bc bo 33 r0 r1 r2 r3 r4 r5 r6 r7 r8 r9 r10 r11 r12 r13 r14 r15 (rn : Int) (st : Int) mem outv wordsv o0 inp co1 co2 co3 cs CC OK (by decide) ⟨by omega, by omega⟩ hg hcc (hcs 33 (by decide)) hbc hbo (hrows.c0 33 _ rfl) (hrows.c1 33 _ rfl) (hrows.c2 33 _ rfl) (hrows.c3 33 _ rfl) (hrows.ok 33 (by decide)) (hrng 1 (by decide)).1 (hrng 1 (by decide)).2 (hrng 11 (by decide)).1 (hrng 11 (by decide)).2)
theorem sim_34 (W : World) (g cc bc bo : Nat) (r0 r1 r2 r3 r4 r5 r6 r7 r8 r9 r10 r11 r12 r13 r14 r15 : Int) (rn st : Nat) (outs : List Int) (mem outv wordsv : Value) (o0 inp : ByteArray) (co1 co2 co3 : Nat) (cs CC OK : Array Value) (B : Nat)
    (hst : st < 1000000) (hg : W.heap[g]? = some (.cells (WC bc bo cc co1 co2 co3 mem wordsv o0 inp ⟨34, [r0, r1, r2, r3, r4, r5, r6, r7, r8, r9, r10, r11, r12, r13, r14, r15], rn, outs, st, 0⟩ outv) 145 (0, 0))) (hcc : W.heap[cc]? = some (.cells cs 3 (0, 0))) (hcs : Counts cs)
    (hbc : W.heap[bc]? = some (.cells CC 46 (0, 0))) (hbo : W.heap[bo]? = some (.cells OK 4 (0, 0))) (hrows : Rows CC OK) (ho : OutOk W B outv outs)
    (hrng : ∀ i : Nat, i < 16 → 0 ≤ List.getD [r0, r1, r2, r3, r4, r5, r6, r7, r8, r9, r10, r11, r12, r13, r14, r15] i 0 ∧ List.getD [r0, r1, r2, r3, r4, r5, r6, r7, r8, r9, r10, r11, r12, r13, r14, r15] i 0 < 4294967296) (hread : rn ≤ inp.size) (hsz : inp.size < 1000000) (hB : B ≤ W.heap.size) :
    Calls Tryd.prog 131 #[.pointer (some ⟨g, 0, none⟩)] W (SimPost W g bc bo cc co1 co2 co3 mem wordsv o0 inp B outv (SeedSim.step (inpL inp) ⟨34, [r0, r1, r2, r3, r4, r5, r6, r7, r8, r9, r10, r11, r12, r13, r14, r15], rn, outs, st, 0⟩)) := by
  by_cases hz : r5 = 0
  · have hs : SeedSim.step (inpL inp) ⟨34, [r0, r1, r2, r3, r4, r5, r6, r7, r8, r9, r10, r11, r12, r13, r14, r15], rn, outs, st, 0⟩ = ⟨29, [r0, r1, r2, r3, r4, r5, r6, r7, r8, r9, r10, r11, r12, r13, r14, r15], rn, outs, st + 1, 0⟩ := by simp [SeedSim.step, SeedSim.code, SeedSim.exec, SeedSim.g, SeedSim.alu, hz]
    rw [hs]
    exact sim_of hg hcc hcs ho (by rfl) rfl (step_19_5_0_29_z W g cc bc bo 34 r0 r1 r2 r3 r4 r5 r6 r7 r8 r9 r10 r11 r12 r13 r14 r15 (rn : Int) (st : Int) mem outv wordsv o0 inp co1 co2 co3 cs CC OK (by decide) ⟨by omega, by omega⟩ hg hcc (hcs 34 (by decide)) hbc hbo (hrows.c0 34 _ rfl) (hrows.c1 34 _ rfl) (hrows.c2 34 _ rfl) (hrows.c3 34 _ rfl) (hrows.ok 34 (by decide)) (by rw [hz]; rfl) (by rw [hz]; rfl))
  · have hs : SeedSim.step (inpL inp) ⟨34, [r0, r1, r2, r3, r4, r5, r6, r7, r8, r9, r10, r11, r12, r13, r14, r15], rn, outs, st, 0⟩ = ⟨35, [r0, r1, r2, r3, r4, r5, r6, r7, r8, r9, r10, r11, r12, r13, r14, r15], rn, outs, st + 1, 0⟩ := by simp [SeedSim.step, SeedSim.code, SeedSim.exec, SeedSim.g, SeedSim.alu, hz]
    rw [hs]
    exact sim_of hg hcc hcs ho (by rfl) rfl (step_19_5_0_29_n W g cc bc bo 34 r0 r1 r2 r3 r4 r5 r6 r7 r8 r9 r10 r11 r12 r13 r14 r15 (rn : Int) (st : Int) mem outv wordsv o0 inp co1 co2 co3 cs CC OK (by decide) ⟨by omega, by omega⟩ hg hcc (hcs 34 (by decide)) hbc hbo (hrows.c0 34 _ rfl) (hrows.c1 34 _ rfl) (hrows.c2 34 _ rfl) (hrows.c3 34 _ rfl) (hrows.ok 34 (by decide)) (by simpa using hz) (by simpa using hz))
theorem sim_35 (W : World) (g cc bc bo : Nat) (r0 r1 r2 r3 r4 r5 r6 r7 r8 r9 r10 r11 r12 r13 r14 r15 : Int) (rn st : Nat) (outs : List Int) (mem outv wordsv : Value) (o0 inp : ByteArray) (co1 co2 co3 : Nat) (cs CC OK : Array Value) (B : Nat)
    (hst : st < 1000000) (hg : W.heap[g]? = some (.cells (WC bc bo cc co1 co2 co3 mem wordsv o0 inp ⟨35, [r0, r1, r2, r3, r4, r5, r6, r7, r8, r9, r10, r11, r12, r13, r14, r15], rn, outs, st, 0⟩ outv) 145 (0, 0))) (hcc : W.heap[cc]? = some (.cells cs 3 (0, 0))) (hcs : Counts cs)
    (hbc : W.heap[bc]? = some (.cells CC 46 (0, 0))) (hbo : W.heap[bo]? = some (.cells OK 4 (0, 0))) (hrows : Rows CC OK) (ho : OutOk W B outv outs)
    (hrng : ∀ i : Nat, i < 16 → 0 ≤ List.getD [r0, r1, r2, r3, r4, r5, r6, r7, r8, r9, r10, r11, r12, r13, r14, r15] i 0 ∧ List.getD [r0, r1, r2, r3, r4, r5, r6, r7, r8, r9, r10, r11, r12, r13, r14, r15] i 0 < 4294967296) (hread : rn ≤ inp.size) (hsz : inp.size < 1000000) (hB : B ≤ W.heap.size) :
    Calls Tryd.prog 131 #[.pointer (some ⟨g, 0, none⟩)] W (SimPost W g bc bo cc co1 co2 co3 mem wordsv o0 inp B outv (SeedSim.step (inpL inp) ⟨35, [r0, r1, r2, r3, r4, r5, r6, r7, r8, r9, r10, r11, r12, r13, r14, r15], rn, outs, st, 0⟩)) := by
  have hs : SeedSim.step (inpL inp) ⟨35, [r0, r1, r2, r3, r4, r5, r6, r7, r8, r9, r10, r11, r12, r13, r14, r15], rn, outs, st, 0⟩ = ⟨2, [r0, r1, r2, r3, r4, r5, r6, r7, r8, r9, r10, r11, r12, r13, r14, r15], rn, outs, st + 1, 0⟩ := by simp [SeedSim.step, SeedSim.code, SeedSim.exec, SeedSim.g, SeedSim.alu]
  rw [hs]
  exact sim_of hg hcc hcs ho (by rfl) rfl (step_18_0_0_2 W g cc bc bo 35 r0 r1 r2 r3 r4 r5 r6 r7 r8 r9 r10 r11 r12 r13 r14 r15 (rn : Int) (st : Int) mem outv wordsv o0 inp co1 co2 co3 cs CC OK (by decide) ⟨by omega, by omega⟩ hg hcc (hcs 35 (by decide)) hbc hbo (hrows.c0 35 _ rfl) (hrows.c1 35 _ rfl) (hrows.c2 35 _ rfl) (hrows.c3 35 _ rfl) (hrows.ok 35 (by decide)))
theorem sim_36 (W : World) (g cc bc bo : Nat) (r0 r1 r2 r3 r4 r5 r6 r7 r8 r9 r10 r11 r12 r13 r14 r15 : Int) (rn st : Nat) (outs : List Int) (mem outv wordsv : Value) (o0 inp : ByteArray) (co1 co2 co3 : Nat) (cs CC OK : Array Value) (B : Nat)
    (hst : st < 1000000) (hg : W.heap[g]? = some (.cells (WC bc bo cc co1 co2 co3 mem wordsv o0 inp ⟨36, [r0, r1, r2, r3, r4, r5, r6, r7, r8, r9, r10, r11, r12, r13, r14, r15], rn, outs, st, 0⟩ outv) 145 (0, 0))) (hcc : W.heap[cc]? = some (.cells cs 3 (0, 0))) (hcs : Counts cs)
    (hbc : W.heap[bc]? = some (.cells CC 46 (0, 0))) (hbo : W.heap[bo]? = some (.cells OK 4 (0, 0))) (hrows : Rows CC OK) (ho : OutOk W B outv outs)
    (hrng : ∀ i : Nat, i < 16 → 0 ≤ List.getD [r0, r1, r2, r3, r4, r5, r6, r7, r8, r9, r10, r11, r12, r13, r14, r15] i 0 ∧ List.getD [r0, r1, r2, r3, r4, r5, r6, r7, r8, r9, r10, r11, r12, r13, r14, r15] i 0 < 4294967296) (hread : rn ≤ inp.size) (hsz : inp.size < 1000000) (hB : B ≤ W.heap.size) :
    Calls Tryd.prog 131 #[.pointer (some ⟨g, 0, none⟩)] W (SimPost W g bc bo cc co1 co2 co3 mem wordsv o0 inp B outv (SeedSim.step (inpL inp) ⟨36, [r0, r1, r2, r3, r4, r5, r6, r7, r8, r9, r10, r11, r12, r13, r14, r15], rn, outs, st, 0⟩)) := by
  have hs : SeedSim.step (inpL inp) ⟨36, [r0, r1, r2, r3, r4, r5, r6, r7, r8, r9, r10, r11, r12, r13, r14, r15], rn, outs, st, 0⟩ = ⟨36, [r0, r1, r2, r3, r4, r5, r6, r7, r8, r9, r10, r11, r12, r13, r14, r15], rn, outs, st + 1, 1⟩ := by simp [SeedSim.step, SeedSim.code, SeedSim.exec, SeedSim.g, SeedSim.alu]
  rw [hs]
  exact sim_of hg hcc hcs ho (by rfl) rfl (step_26_0_0_0 W g cc bc bo 36 r0 r1 r2 r3 r4 r5 r6 r7 r8 r9 r10 r11 r12 r13 r14 r15 (rn : Int) (st : Int) mem outv wordsv o0 inp co1 co2 co3 cs CC OK (by decide) ⟨by omega, by omega⟩ hg hcc (hcs 36 (by decide)) hbc hbo (hrows.c0 36 _ rfl) (hrows.c1 36 _ rfl) (hrows.c2 36 _ rfl) (hrows.c3 36 _ rfl) (hrows.ok 36 (by decide)))
end Go.Proofs.YtdhkmdgieflioaaDoor.F
namespace Go.Proofs.YtdhkmdgieflioaaDoor.F
open Go.RowKit Go.Proofs.YtdhkmdgieflioaaDoorW.PrintWords Go.Proofs.YtdhkmdgieflioaaDoorW.PrintLast Go.Proofs.YtdhkmdgieflioaaDoorW.PrintMore
set_option linter.unusedVariables false
set_option linter.unusedSimpArgs false
open SeedSim
theorem list16 (l : List Int) (h : l.length = 16) : ∃ r0 r1 r2 r3 r4 r5 r6 r7 r8 r9 r10 r11 r12 r13 r14 r15 : Int, l = [r0, r1, r2, r3, r4, r5, r6, r7, r8, r9, r10, r11, r12, r13, r14, r15] := by
  match l, h with
  | [r0, r1, r2, r3, r4, r5, r6, r7, r8, r9, r10, r11, r12, r13, r14, r15], _ => exact ⟨r0, r1, r2, r3, r4, r5, r6, r7, r8, r9, r10, r11, r12, r13, r14, r15, rfl⟩
theorem sim_any (W : World) (g cc bc bo : Nat) (s : MS) (mem outv wordsv : Value) (o0 inp : ByteArray) (co1 co2 co3 : Nat) (cs CC OK : Array Value) (B : Nat)
    (hinv : Inv (inpL inp) s) (hfin : s.fin = 0) (hst : s.steps < 1000000) (hol : s.out.length < 65536) (hg : W.heap[g]? = some (.cells (WC bc bo cc co1 co2 co3 mem wordsv o0 inp s outv) 145 (0, 0))) (hcc : W.heap[cc]? = some (.cells cs 3 (0, 0))) (hcs : Counts cs)
    (hbc : W.heap[bc]? = some (.cells CC 46 (0, 0))) (hbo : W.heap[bo]? = some (.cells OK 4 (0, 0))) (hrows : Rows CC OK) (ho : OutOk W B outv s.out)
    (hsz : inp.size < 1000000) (hB : B ≤ W.heap.size) :
    Calls Tryd.prog 131 #[.pointer (some ⟨g, 0, none⟩)] W (SimPost W g bc bo cc co1 co2 co3 mem wordsv o0 inp B outv (SeedSim.step (inpL inp) s)) := by
  obtain ⟨pc, regs, rn, outs, st, fin⟩ := s
  simp only at hfin
  subst hfin
  obtain ⟨r0, r1, r2, r3, r4, r5, r6, r7, r8, r9, r10, r11, r12, r13, r14, r15, rfl⟩ := list16 regs hinv.len
  have hpc : pc = 0 ∨ pc = 1 ∨ pc = 2 ∨ pc = 3 ∨ pc = 4 ∨ pc = 5 ∨ pc = 6 ∨ pc = 7 ∨ pc = 8 ∨ pc = 9 ∨ pc = 10 ∨ pc = 11 ∨ pc = 12 ∨ pc = 13 ∨ pc = 14 ∨ pc = 15 ∨ pc = 16 ∨ pc = 17 ∨ pc = 18 ∨ pc = 19 ∨ pc = 20 ∨ pc = 21 ∨ pc = 22 ∨ pc = 23 ∨ pc = 24 ∨ pc = 25 ∨ pc = 26 ∨ pc = 27 ∨ pc = 28 ∨ pc = 29 ∨ pc = 30 ∨ pc = 31 ∨ pc = 32 ∨ pc = 33 ∨ pc = 34 ∨ pc = 35 ∨ pc = 36 := by have := hinv.pc; simp only at this; omega
  have hrng := hinv.rng
  have hread : rn ≤ inp.size := by have := hinv.read; rw [inpL_len] at this; exact this
  simp only at hrng hst hol ho
  rcases hpc with rfl | rfl | rfl | rfl | rfl | rfl | rfl | rfl | rfl | rfl | rfl | rfl | rfl | rfl | rfl | rfl | rfl | rfl | rfl | rfl | rfl | rfl | rfl | rfl | rfl | rfl | rfl | rfl | rfl | rfl | rfl | rfl | rfl | rfl | rfl | rfl | rfl
  · exact sim_0 W g cc bc bo r0 r1 r2 r3 r4 r5 r6 r7 r8 r9 r10 r11 r12 r13 r14 r15 rn st outs mem outv wordsv o0 inp co1 co2 co3 cs CC OK B hst hg hcc hcs hbc hbo hrows ho hrng hread hsz hB
  · exact sim_1 W g cc bc bo r0 r1 r2 r3 r4 r5 r6 r7 r8 r9 r10 r11 r12 r13 r14 r15 rn st outs mem outv wordsv o0 inp co1 co2 co3 cs CC OK B hst hg hcc hcs hbc hbo hrows ho hrng hread hsz hB
  · exact sim_2 W g cc bc bo r0 r1 r2 r3 r4 r5 r6 r7 r8 r9 r10 r11 r12 r13 r14 r15 rn st outs mem outv wordsv o0 inp co1 co2 co3 cs CC OK B hst hg hcc hcs hbc hbo hrows ho hrng hread hsz hB
  · exact sim_3 W g cc bc bo r0 r1 r2 r3 r4 r5 r6 r7 r8 r9 r10 r11 r12 r13 r14 r15 rn st outs mem outv wordsv o0 inp co1 co2 co3 cs CC OK B hst hg hcc hcs hbc hbo hrows ho hrng hread hsz hB
  · exact sim_4 W g cc bc bo r0 r1 r2 r3 r4 r5 r6 r7 r8 r9 r10 r11 r12 r13 r14 r15 rn st outs mem outv wordsv o0 inp co1 co2 co3 cs CC OK B hst hg hcc hcs hbc hbo hrows ho hrng hread hsz hB
  · exact sim_5 W g cc bc bo r0 r1 r2 r3 r4 r5 r6 r7 r8 r9 r10 r11 r12 r13 r14 r15 rn st outs mem outv wordsv o0 inp co1 co2 co3 cs CC OK B hst hg hcc hcs hbc hbo hrows ho hrng hread hsz hB
  · exact sim_6 W g cc bc bo r0 r1 r2 r3 r4 r5 r6 r7 r8 r9 r10 r11 r12 r13 r14 r15 rn st outs mem outv wordsv o0 inp co1 co2 co3 cs CC OK B hst hg hcc hcs hbc hbo hrows ho hrng hread hsz hB
  · exact sim_7 W g cc bc bo r0 r1 r2 r3 r4 r5 r6 r7 r8 r9 r10 r11 r12 r13 r14 r15 rn st outs mem outv wordsv o0 inp co1 co2 co3 cs CC OK B hst hg hcc hcs hbc hbo hrows ho hrng hread hsz hB
  · exact sim_8 W g cc bc bo r0 r1 r2 r3 r4 r5 r6 r7 r8 r9 r10 r11 r12 r13 r14 r15 rn st outs mem outv wordsv o0 inp co1 co2 co3 cs CC OK B hst hg hcc hcs hbc hbo hrows ho hrng hread hsz hB
  · exact sim_9 W g cc bc bo r0 r1 r2 r3 r4 r5 r6 r7 r8 r9 r10 r11 r12 r13 r14 r15 rn st outs mem outv wordsv o0 inp co1 co2 co3 cs CC OK B hst hg hcc hcs hbc hbo hrows ho hrng hread hsz hB
  · exact sim_10 W g cc bc bo r0 r1 r2 r3 r4 r5 r6 r7 r8 r9 r10 r11 r12 r13 r14 r15 rn st outs mem outv wordsv o0 inp co1 co2 co3 cs CC OK B hst hg hcc hcs hbc hbo hrows ho hrng hread hsz hB
  · exact sim_11 W g cc bc bo r0 r1 r2 r3 r4 r5 r6 r7 r8 r9 r10 r11 r12 r13 r14 r15 rn st outs mem outv wordsv o0 inp co1 co2 co3 cs CC OK B hst hg hcc hcs hbc hbo hrows ho hrng hread hsz hB
  · exact sim_12 W g cc bc bo r0 r1 r2 r3 r4 r5 r6 r7 r8 r9 r10 r11 r12 r13 r14 r15 rn st outs mem outv wordsv o0 inp co1 co2 co3 cs CC OK B hst hg hcc hcs hbc hbo hrows ho hrng hread hsz hB
  · exact sim_13 W g cc bc bo r0 r1 r2 r3 r4 r5 r6 r7 r8 r9 r10 r11 r12 r13 r14 r15 rn st outs mem outv wordsv o0 inp co1 co2 co3 cs CC OK B hst hg hcc hcs hbc hbo hrows ho hrng hread hsz hB
  · exact sim_14 W g cc bc bo r0 r1 r2 r3 r4 r5 r6 r7 r8 r9 r10 r11 r12 r13 r14 r15 rn st outs mem outv wordsv o0 inp co1 co2 co3 cs CC OK B hst hg hcc hcs hbc hbo hrows ho hrng hread hsz hB
  · exact sim_15 W g cc bc bo r0 r1 r2 r3 r4 r5 r6 r7 r8 r9 r10 r11 r12 r13 r14 r15 rn st outs mem outv wordsv o0 inp co1 co2 co3 cs CC OK B hst hg hcc hcs hbc hbo hrows ho hrng hread hsz hB
  · exact sim_16 W g cc bc bo r0 r1 r2 r3 r4 r5 r6 r7 r8 r9 r10 r11 r12 r13 r14 r15 rn st outs mem outv wordsv o0 inp co1 co2 co3 cs CC OK B hst hg hcc hcs hbc hbo hrows ho hrng hread hsz hB
  · exact sim_17 W g cc bc bo r0 r1 r2 r3 r4 r5 r6 r7 r8 r9 r10 r11 r12 r13 r14 r15 rn st outs mem outv wordsv o0 inp co1 co2 co3 cs CC OK B hst hg hcc hcs hbc hbo hrows ho hrng hread hsz hB
  · exact sim_18 W g cc bc bo r0 r1 r2 r3 r4 r5 r6 r7 r8 r9 r10 r11 r12 r13 r14 r15 rn st outs mem outv wordsv o0 inp co1 co2 co3 cs CC OK B hst hg hcc hcs hbc hbo hrows ho hrng hread hsz hB
  · exact sim_19 W g cc bc bo r0 r1 r2 r3 r4 r5 r6 r7 r8 r9 r10 r11 r12 r13 r14 r15 rn st outs mem outv wordsv o0 inp co1 co2 co3 cs CC OK B hst hg hcc hcs hbc hbo hrows ho hrng hread hsz hB
  · exact sim_20 W g cc bc bo r0 r1 r2 r3 r4 r5 r6 r7 r8 r9 r10 r11 r12 r13 r14 r15 rn st outs mem outv wordsv o0 inp co1 co2 co3 cs CC OK B hst hg hcc hcs hbc hbo hrows ho hrng hread hsz hB
  · exact sim_21 W g cc bc bo r0 r1 r2 r3 r4 r5 r6 r7 r8 r9 r10 r11 r12 r13 r14 r15 rn st outs mem outv wordsv o0 inp co1 co2 co3 cs CC OK B hst hg hcc hcs hbc hbo hrows ho hrng hread hsz hB
  · exact sim_22 W g cc bc bo r0 r1 r2 r3 r4 r5 r6 r7 r8 r9 r10 r11 r12 r13 r14 r15 rn st outs mem outv wordsv o0 inp co1 co2 co3 cs CC OK B hst hg hcc hcs hbc hbo hrows ho hrng hread hsz hB
  · exact sim_23 W g cc bc bo r0 r1 r2 r3 r4 r5 r6 r7 r8 r9 r10 r11 r12 r13 r14 r15 rn st outs mem outv wordsv o0 inp co1 co2 co3 cs CC OK B hst hg hcc hcs hbc hbo hrows ho hrng hread hsz hB
  · exact sim_24 W g cc bc bo r0 r1 r2 r3 r4 r5 r6 r7 r8 r9 r10 r11 r12 r13 r14 r15 rn st outs mem outv wordsv o0 inp co1 co2 co3 cs CC OK B hst hg hcc hcs hbc hbo hrows ho hrng hread hsz hB
  · exact sim_25 W g cc bc bo r0 r1 r2 r3 r4 r5 r6 r7 r8 r9 r10 r11 r12 r13 r14 r15 rn st outs mem outv wordsv o0 inp co1 co2 co3 cs CC OK B hst hg hcc hcs hbc hbo hrows ho hrng hread hsz hB
  · exact sim_26 W g cc bc bo r0 r1 r2 r3 r4 r5 r6 r7 r8 r9 r10 r11 r12 r13 r14 r15 rn st outs mem outv wordsv o0 inp co1 co2 co3 cs CC OK B hst hg hcc hcs hbc hbo hrows ho hrng hread hsz hB hol
  · exact sim_27 W g cc bc bo r0 r1 r2 r3 r4 r5 r6 r7 r8 r9 r10 r11 r12 r13 r14 r15 rn st outs mem outv wordsv o0 inp co1 co2 co3 cs CC OK B hst hg hcc hcs hbc hbo hrows ho hrng hread hsz hB
  · exact sim_28 W g cc bc bo r0 r1 r2 r3 r4 r5 r6 r7 r8 r9 r10 r11 r12 r13 r14 r15 rn st outs mem outv wordsv o0 inp co1 co2 co3 cs CC OK B hst hg hcc hcs hbc hbo hrows ho hrng hread hsz hB
  · exact sim_29 W g cc bc bo r0 r1 r2 r3 r4 r5 r6 r7 r8 r9 r10 r11 r12 r13 r14 r15 rn st outs mem outv wordsv o0 inp co1 co2 co3 cs CC OK B hst hg hcc hcs hbc hbo hrows ho hrng hread hsz hB
  · exact sim_30 W g cc bc bo r0 r1 r2 r3 r4 r5 r6 r7 r8 r9 r10 r11 r12 r13 r14 r15 rn st outs mem outv wordsv o0 inp co1 co2 co3 cs CC OK B hst hg hcc hcs hbc hbo hrows ho hrng hread hsz hB
  · exact sim_31 W g cc bc bo r0 r1 r2 r3 r4 r5 r6 r7 r8 r9 r10 r11 r12 r13 r14 r15 rn st outs mem outv wordsv o0 inp co1 co2 co3 cs CC OK B hst hg hcc hcs hbc hbo hrows ho hrng hread hsz hB
  · exact sim_32 W g cc bc bo r0 r1 r2 r3 r4 r5 r6 r7 r8 r9 r10 r11 r12 r13 r14 r15 rn st outs mem outv wordsv o0 inp co1 co2 co3 cs CC OK B hst hg hcc hcs hbc hbo hrows ho hrng hread hsz hB
  · exact sim_33 W g cc bc bo r0 r1 r2 r3 r4 r5 r6 r7 r8 r9 r10 r11 r12 r13 r14 r15 rn st outs mem outv wordsv o0 inp co1 co2 co3 cs CC OK B hst hg hcc hcs hbc hbo hrows ho hrng hread hsz hB
  · exact sim_34 W g cc bc bo r0 r1 r2 r3 r4 r5 r6 r7 r8 r9 r10 r11 r12 r13 r14 r15 rn st outs mem outv wordsv o0 inp co1 co2 co3 cs CC OK B hst hg hcc hcs hbc hbo hrows ho hrng hread hsz hB
  · exact sim_35 W g cc bc bo r0 r1 r2 r3 r4 r5 r6 r7 r8 r9 r10 r11 r12 r13 r14 r15 rn st outs mem outv wordsv o0 inp co1 co2 co3 cs CC OK B hst hg hcc hcs hbc hbo hrows ho hrng hread hsz hB
  · exact sim_36 W g cc bc bo r0 r1 r2 r3 r4 r5 r6 r7 r8 r9 r10 r11 r12 r13 r14 r15 rn st outs mem outv wordsv o0 inp co1 co2 co3 cs CC OK B hst hg hcc hcs hbc hbo hrows ho hrng hread hsz hB
end Go.Proofs.YtdhkmdgieflioaaDoor.F
namespace Go.Proofs.YtdhkmdgieflioaaDoor.F
open Go.RowKit Go.Proofs.YtdhkmdgieflioaaDoorW.PrintWords Go.Proofs.YtdhkmdgieflioaaDoorW.PrintLast Go.Proofs.YtdhkmdgieflioaaDoorW.PrintMore
set_option linter.unusedVariables false
set_option linter.unusedSimpArgs false
def Z109c : Array Value := #[.int .i64 0, .int .u32 0, .int .u32 0, .int .u32 0, .int .u32 0, .int .u32 0, .int .u32 0, .int .u32 0, .int .u32 0, .int .u32 0, .int .u32 0, .int .u32 0, .int .u32 0, .int .u32 0, .int .u32 0, .int .u32 0, .int .u32 0, .slice none 0 0, .int .i64 0, .string ⟨#[]⟩, .int .i64 0, .int .i64 0]
theorem Z109_size : (Tryd.prog.info? 109).map (·.size) = some Z109c.size := by kernel_rfl
theorem Z109_one : Z109c.all (·.oneCell') = true := by kernel_rfl
set_option maxRecDepth 100000 in
set_option maxHeartbeats 4000000 in
theorem start_calls (A : Option Addr) (n c : Nat) (W : World) :
    Calls Tryd.prog 93 #[.agg #[.slice A n c, .int .i64 0]] W fun e w' => e = .returned (.agg Z109c) ∧ Below W.heap.size W w' := by
  have hu28 := Tryd.underlying28
  go_enter Tryd.func93, Tryd.ntmps93
  have hsz2 : ∀ o1 o2 : Obj, ((W.alloc o1).alloc o2).heap.size = W.heap.size + 1 + 1 := fun _ _ => by simp
  go_wp2_with (first | ((with_reducible refine gate_dst (N := 16) rfl ?_); refine wpList_load_row rfl 109 _ rfl (W.heap.size + 1 + 1) rfl 109 Z109c (0, 0) _ (blk_newat (by simp)) Tryd.underlying109 rfl Z109_size ?_) | ((with_reducible refine gate_store (t := 109) (p := 2) rfl ?_); refine wpList_store_row rfl 109 _ _ rfl (W.heap.size + 1) Z109c rfl rfl 109 Z109c (blk_alloc (blk_newat (by simp)) _) Z109_size rfl Z109_one ?_))
  refine bodyPost_ret (results_cell_row rfl _ _ (W.heap.size + 1) 109 Z109c (0, 0) _ rfl (setRow_heap _ _ Z109c Z109c 109 (0, 0) (blk_alloc (blk_newat (by simp)) _)) Tryd.underlying109 rfl Z109_size) rfl ?_
  exact ⟨rfl, below_setRow ((((Below.refl _ _).alloc (Nat.le_refl _) _).alloc (by simp) _).alloc (by simp <;> omega) _) (by simp) _⟩
end Go.Proofs.YtdhkmdgieflioaaDoor.F
namespace Go.Proofs.YtdhkmdgieflioaaDoor.F
open Go.RowKit Go.Proofs.YtdhkmdgieflioaaDoorW.PrintWords Go.Proofs.YtdhkmdgieflioaaDoorW.PrintLast Go.Proofs.YtdhkmdgieflioaaDoorW.PrintMore
set_option linter.unusedVariables false
set_option linter.unusedSimpArgs false
open SeedSim
section
variable {P : Program}
theorem exec_load_mid {o : Oper} {a : Act} {w : World} (ty : TypeId) (x : Operand) (ho : o.op = .load ty x) (b k : Nat) (hx : a.eval x = .pointer (some ⟨b, k, none⟩)) (cs : List Value) (d : TypeDesc) (hc : w.rangeAt b k cs)
    (hu : P.underlying ty = some d) (hd : d.isRow = true) (hi : (P.info? ty).map (·.size) = some cs.length) : (execOp a.eval o).run P w = .ok (.value (.agg cs.toArray)) w := by
  unfold execOp
  simp only [ho, hx, Instr.loadAt, Instr.sureAddr, Sem.run_bind, Sem.run_pure, Result.andThen_ok, run_loadVar_mid w b k ty cs d hc hu hd hi]
theorem exec_load_row {o : Oper} {a : Act} {w : World} (ty : TypeId) (x : Operand) (ho : o.op = .load ty x) (g : Nat) (hx : a.eval x = .pointer (some ⟨g, 0, none⟩)) (t : TypeId) (cs : Array Value) (fr : Nat × Nat) (d : TypeDesc) (hg : w.heap[g]? = some (.cells cs t fr))
    (hu : P.underlying ty = some d) (hd : (match d with | .struct _ | .array _ _ => true | _ => false) = true) (hi : (P.info? ty).map (·.size) = some cs.size) : (execOp a.eval o).run P w = .ok (.value (.agg cs)) w := by
  unfold execOp
  simp only [ho, hx, Instr.loadAt, Instr.sureAddr, Sem.run_bind, Sem.run_pure, Result.andThen_ok, run_loadVar_row w g t ty cs fr d hg hu hd hi]
theorem exec_store_row {o : Oper} {a : Act} {w : World} (ty : TypeId) (x y : Operand) (ho : o.op = .store ty x y) (g : Nat) (cells : Array Value) (hx : a.eval x = .pointer (some ⟨g, 0, none⟩)) (hy : a.eval y = .agg cells)
    (t : TypeId) (old : Array Value) (hg : w.heap[g]? = some (.cells old t (0, 0))) (hi : (P.info? ty).map (·.size) = some cells.size)
    (hold : old.size = cells.size) (h1 : cells.all (·.oneCell') = true) : (execOp a.eval o).run P w = .ok .skip (w.setRow g cells) := by
  unfold execOp
  simp only [ho, hx, hy, Instr.storeAt, Instr.sureAddr, Sem.run_bind, Sem.run_pure, Result.andThen_ok, run_storeVar_row w g t ty old cells hg hi hold h1]
end
theorem range_of_row {w : World} {g : Nat} {cs : Array Value} {t : TypeId} (h : w.heap[g]? = some (.cells cs t (0, 0))) (k : Nat) (l : List Value) (hl : ∀ j v, l[j]? = some v → cs[k + j]? = some v) : w.rangeAt g k l := fun j v hj => (blk_cell h (k + j)).trans (hl j v hj)
def Z16 : List Value := List.replicate 16 (.int .u32 0)
theorem Z109c_mid : ∀ j v, Z16[j]? = some v → Z109c[1 + j]? = some v := by
  intro j v h
  have hj : j < 16 := by
    have := (List.getElem?_eq_some_iff.1 h).1
    simpa [Z16] using this
  have : j = 0 ∨ j = 1 ∨ j = 2 ∨ j = 3 ∨ j = 4 ∨ j = 5 ∨ j = 6 ∨ j = 7 ∨ j = 8 ∨ j = 9 ∨ j = 10 ∨ j = 11 ∨ j = 12 ∨ j = 13 ∨ j = 14 ∨ j = 15 := by omega
  rcases this with rfl | rfl | rfl | rfl | rfl | rfl | rfl | rfl | rfl | rfl | rfl | rfl | rfl | rfl | rfl | rfl <;> exact h
theorem i107 : (Tryd.prog.info? 107).map (·.size) = some Z16.length := by kernel_rfl
theorem exec_bytes {o : Oper} {a : Act} {W : World} (x : Operand) (ho : o.op = .convert 9 72 x) (hx : a.eval x = .string ⟨#[]⟩) (m : Nat) (hm : W.heap.size = m) :
    (execOp a.eval o).run Tryd.prog W = .ok (.value (.slice (some ⟨m, 0, none⟩) 0 (grownCap W 0 0 5))) (Lib.bytesWorld W 5 ⟨#[]⟩) := by
  subst hm
  have h := Lib.run_convert_string_bytes (P := Tryd.prog) W 9 72 5 ⟨#[]⟩ Tryd.underlying9 Tryd.underlying72 Tryd.underlying5
  unfold execOp
  simp only [ho, hx, Sem.run_bind, Result.andThen_ok, h]
  rfl
theorem exec_make {o : Oper} {a : Act} {W : World} (x : Operand) (ho : o.op = .makeSlice 42 x x) (n : Nat) (hx : a.eval x = .int .i64 (n : Int)) (hn : n = 37) (m : Nat) (hm : W.heap.size = m) :
    (execOp a.eval o).run Tryd.prog W = .ok (.value (.slice (some ⟨m, 0, none⟩) 37 37)) (W.alloc (.cells (madeCells #[.int .i64 0] 37) 3)) := by
  subst hn
  subst hm
  obtain ⟨i0, hi, hzz⟩ := Option.map_eq_some_iff.1 info3
  simp only [Prod.mk.injEq] at hzz
  obtain ⟨hz0, hz1, hz2⟩ := hzz
  have hr := run_make (P := Tryd.prog) W 42 3 i0 _ Tryd.underlying42 hi hz0 .i64 .i64 37 37 (by omega) (by omega) (by rw [hz2]; decide) (by omega)
  rw [hz1] at hr
  unfold execOp
  simp only [ho, hx, Sem.run_bind, Result.andThen_ok]
  have hr' : (Instr.makeSlice 42 (.int .i64 ((37 : Nat) : Int)) (.int .i64 ((37 : Nat) : Int))).run Tryd.prog W = .ok (.slice (some ⟨W.heap.size, 0, none⟩) 37 37) (W.alloc (.cells (madeCells #[.int .i64 0] 37) 3)) := hr
  rw [hr']
  rfl
theorem out_made (W : World) (base : Nat) (hb : base ≤ W.heap.size) : OutOk (Lib.bytesWorld W 5 ⟨#[]⟩) base (.slice (some ⟨W.heap.size, 0, none⟩) 0 (grownCap W 0 0 5)) [] :=
  OutOk.made W base ⟨#[]⟩ hb (grownCap_le_maxLen W 0 0 5 (Nat.zero_le _))
theorem out_made' (W : World) (base m : Nat) (hb : base ≤ W.heap.size) (hm : W.heap.size = m) : OutOk (Lib.bytesWorld W 5 ⟨#[]⟩) base (.slice (some ⟨m, 0, none⟩) 0 (grownCap W 0 0 5)) [] := hm ▸ out_made W base hb
theorem below_bytes {w W : World} (h : Below w.heap.size w W) : Below w.heap.size w (Lib.bytesWorld W 5 ⟨#[]⟩) := bytes_below h h.size _ _
theorem blk_bytes {w : World} {g : Nat} {o : Obj} (h : w.heap[g]? = some o) : (Lib.bytesWorld w 5 ⟨#[]⟩).heap[g]? = some o := (Lib.bytesWorld_at_old w 5 ⟨#[]⟩ g (blk_lt h)).trans h
theorem sz_drew (W : World) : W.drew.heap.size = W.heap.size := rfl
theorem sz_alloc (W : World) (o : Obj) : (W.alloc o).heap.size = W.heap.size + 1 := by simp
theorem sz_bytes (W : World) : (Lib.bytesWorld W 5 ⟨#[]⟩).heap.size = W.heap.size + 1 := Lib.bytesWorld_size _ _ _
theorem exec_load109 {o : Oper} {a : Act} {w : World} (x : Operand) (ho : o.op = .load 109 x) (g : Nat) (hx : a.eval x = .pointer (some ⟨g, 0, none⟩)) (cs : Array Value) (hg : w.heap[g]? = some (.cells cs 109 (0, 0))) (hi : (Tryd.prog.info? 109).map (·.size) = some cs.size) :
    (execOp a.eval o).run Tryd.prog w = .ok (.value (.agg cs)) w := exec_load_row 109 x ho g hx 109 cs (0, 0) _ hg Tryd.underlying109 rfl hi
def Z145c : Array Value := #[.int .i64 0, .int .u32 0, .int .u32 0, .int .u32 0, .int .u32 0, .int .u32 0, .int .u32 0, .int .u32 0, .int .u32 0, .int .u32 0, .int .u32 0, .int .u32 0, .int .u32 0, .int .u32 0, .int .u32 0, .int .u32 0, .int .u32 0, .slice none 0 0, .int .i64 0, .string ⟨#[]⟩, .int .i64 0, .int .i64 0, .slice none 0 0, .slice none 0 0, .slice none 0 0, .slice none 0 0, .string ⟨#[]⟩, .slice none 0 0]
theorem exec_alloc145 {o : Oper} {a : Act} {W : World} (ho : o.op = .alloc 145) (m : Nat) (hm : W.heap.size = m) :
    (execOp a.eval o).run Tryd.prog W = .ok (.value (.pointer (some ⟨m, 0, none⟩))) (W.alloc (.cells Z145c 145)) := by
  subst hm
  unfold execOp
  simp only [ho]
  have hu145 := Tryd.underlying145
  go_simp
  rfl
def FC (s : SeedSim.MS) (mem : Value) : Array Value := #[.int .i64 s.pc, .int .u32 (s.regs.getD 0 0), .int .u32 (s.regs.getD 1 0), .int .u32 (s.regs.getD 2 0), .int .u32 (s.regs.getD 3 0), .int .u32 (s.regs.getD 4 0), .int .u32 (s.regs.getD 5 0), .int .u32 (s.regs.getD 6 0), .int .u32 (s.regs.getD 7 0), .int .u32 (s.regs.getD 8 0), .int .u32 (s.regs.getD 9 0), .int .u32 (s.regs.getD 10 0), .int .u32 (s.regs.getD 11 0), .int .u32 (s.regs.getD 12 0), .int .u32 (s.regs.getD 13 0), .int .u32 (s.regs.getD 14 0), .int .u32 (s.regs.getD 15 0), mem, .int .i64 s.read, .string (strOfNums s.out), .int .i64 s.steps, .int .i64 s.fin]
theorem OutOk.lower {W : World} {base base' : Nat} {v : Value} {xs : List Int} (h : OutOk W base v xs) (hb : base' ≤ base) : OutOk W base' v xs := by
  rcases h with h | ⟨g, cap, cur, fz, h1, h2, h3⟩
  · exact .inl h
  · exact .inr ⟨g, cap, cur, fz, h1, Nat.le_trans hb h2, h3⟩
theorem counts_made : Counts (madeCells #[.int .i64 0] 37) := by
  intro p hp
  refine ⟨0, ?_⟩
  unfold madeCells
  simp [Array.getElem?_map, hp, Nat.mod_one]
theorem Stp.belowW {W0 W W' : World} {g cc : Nat} {o : Option Nat} (hb : Below W0.heap.size W0 W) (hs : Stp W W' g cc o) (hg : W0.heap.size ≤ g) (hc : W0.heap.size ≤ cc) (ho : ∀ k, o = some k → W0.heap.size ≤ k) : Below W0.heap.size W0 W' :=
  ⟨hs.os.trans hb.os, hs.tape.trans hb.tape, hs.output.trans hb.output, Nat.le_trans hb.size hs.size, fun i hi => (hs.keep i (Nat.lt_of_lt_of_le hi hb.size) (by omega) (by omega) (fun e => by have := ho i e.symm; omega)).trans (hb.block i hi)⟩
theorem fc_of {bc bo cc co1 co2 co3 : Nat} {mem wordsv : Value} {o0 inp : ByteArray} {s : MS} {outv : Value} (h : o0 = strOfNums s.out) : ∀ j v, (FC s mem).toList[j]? = some v → (WC bc bo cc co1 co2 co3 mem wordsv o0 inp s outv)[0 + j]? = some v := by
  intro j v hj
  subst h
  have e : WC bc bo cc co1 co2 co3 mem wordsv (strOfNums s.out) inp s outv = FC s mem ++ #[outv, .slice (some ⟨bc, 0, none⟩) 37 co1, .slice (some ⟨bo, 0, none⟩) 37 co2, wordsv, .string inp, .slice (some ⟨cc, 0, none⟩) 37 co3] := rfl
  rw [Array.getElem?_toList] at hj
  have hlt : j < (FC s mem).size := (Array.getElem?_eq_some_iff.1 hj).1
  rw [e, Nat.zero_add, Array.getElem?_append_left hlt]
  exact hj
theorem exec_load_fc {o : Oper} {a : Act} {w : World} (x : Operand) (ho : o.op = .load 109 x) (g : Nat) (hx : a.eval x = .pointer (some ⟨g, 0, none⟩)) {bc bo cc co1 co2 co3 : Nat} {mem wordsv : Value} {o0 inp : ByteArray} {s : MS} {outv : Value} (h : o0 = strOfNums s.out)
    (hg : w.heap[g]? = some (.cells (WC bc bo cc co1 co2 co3 mem wordsv o0 inp s outv) 145 (0, 0))) : (execOp a.eval o).run Tryd.prog w = .ok (.value (.agg (FC s mem))) w := by
  have h1 := exec_load_mid (P := Tryd.prog) (w := w) 109 x ho g 0 hx (FC s mem).toList _ (range_of_row hg 0 _ (fc_of h)) Tryd.underlying109 rfl (by kernel_rfl)
  simpa using h1
theorem fc_one (s : MS) (mem : Value) (h : mem.oneCell' = true) : (FC s mem).all (·.oneCell') = true := by
  simpa [FC, Value.oneCell'] using h
theorem wc_fin {bc bo cc co1 co2 co3 : Nat} {mem wordsv : Value} {o0 inp : ByteArray} {s : MS} {outv : Value} : (WC bc bo cc co1 co2 co3 mem wordsv o0 inp s outv)[21]? = some (.int .i64 s.fin) := rfl
theorem wc_out {bc bo cc co1 co2 co3 : Nat} {mem wordsv : Value} {o0 inp : ByteArray} {s : MS} {outv : Value} : (WC bc bo cc co1 co2 co3 mem wordsv o0 inp s outv)[22]? = some outv := rfl
theorem wc_o0 {bc bo cc co1 co2 co3 : Nat} {mem wordsv : Value} {o0 inp : ByteArray} {s : MS} {outv : Value} : (WC bc bo cc co1 co2 co3 mem wordsv o0 inp s outv)[19]? = some (.string o0) := rfl
theorem wc_cnt {bc bo cc co1 co2 co3 : Nat} {mem wordsv : Value} {o0 inp : ByteArray} {s : MS} {outv : Value} : (WC bc bo cc co1 co2 co3 mem wordsv o0 inp s outv)[27]? = some (.slice (some ⟨cc, 0, none⟩) 37 co3) := rfl
theorem run_end (inp : List Int) (n : Nat) (s t : MS) (h : SeedSim.run inp n s = t) (he : n = 0 ∨ s.fin ≠ 0) : s = t := by
  rcases he with rfl | he
  · exact h
  · rw [← h, run_done inp n s he]
theorem run_next (inp : List Int) (n : Nat) (s t : MS) (h : SeedSim.run inp n s = t) (h0 : 0 < n) (hf : s.fin = 0) : SeedSim.run inp (n - 1) (SeedSim.step inp s) = t := by
  obtain ⟨m, rfl⟩ : ∃ m, n = m + 1 := ⟨n - 1, by omega⟩
  rw [← h]
  simp [SeedSim.run, hf]
theorem Z145_size : (Tryd.prog.info? 145).map (·.size) = some Z145c.size := by kernel_rfl
theorem exec_reg {o : Oper} {a : Act} {w : World} (x : Operand) (ho : o.op = .load 107 x) (b k : Nat) (hx : a.eval x = .pointer (some ⟨b, k, none⟩)) (hc : w.rangeAt b k Z16) :
    (execOp a.eval o).run Tryd.prog w = .ok (.value (.agg #[.int .u32 0, .int .u32 0, .int .u32 0, .int .u32 0, .int .u32 0, .int .u32 0, .int .u32 0, .int .u32 0, .int .u32 0, .int .u32 0, .int .u32 0, .int .u32 0, .int .u32 0, .int .u32 0, .int .u32 0, .int .u32 0])) w := exec_load_mid 107 x ho b k hx Z16 _ hc Tryd.underlying107 rfl i107
end Go.Proofs.YtdhkmdgieflioaaDoor.F
namespace Go.Proofs.YtdhkmdgieflioaaDoor.F
open Go.RowKit Go.Proofs.YtdhkmdgieflioaaDoorW.PrintWords Go.Proofs.YtdhkmdgieflioaaDoorW.PrintLast Go.Proofs.YtdhkmdgieflioaaDoorW.PrintMore
set_option linter.unusedVariables false
set_option linter.unusedSimpArgs false
def kindRows : List (List UInt8 × List UInt8) := [([], []), ([108, 105], [97, 99]), ([108, 117, 105], [97, 99]), ([109, 111, 118], [97, 98]), ([97, 100, 100], [97, 98, 114]), ([115, 117, 98], [97, 98, 114]), ([109, 117, 108], [97, 98, 114]), ([100, 105, 118], [97, 98, 114]), ([109, 111, 100], [97, 98, 114]), ([97, 110, 100], [97, 98, 114]), ([111, 114], [97, 98, 114]), ([120, 111, 114], [97, 98, 114]), ([115, 104, 108], [97, 98, 114]), ([115, 104, 114], [97, 98, 114]), ([108, 116], [97, 98, 114]), ([101, 113], [97, 98, 114]), ([108, 100], [97, 98, 99]), ([115, 116], [97, 98, 99]), ([106, 109, 112], [99]), ([106, 122], [97, 99]), ([106, 110, 122], [97, 99]), ([99, 97, 108, 108], [97, 99]), ([114, 101, 116], [97]), ([103, 101, 116], [97]), ([112, 117, 116], [97]), ([99, 104, 107], [97, 99]), ([104, 97, 108, 116], []), ([108, 100, 99], [97, 98, 99])]
def kindsCells : Array Value := (kindRows.flatMap fun k => [Value.string ⟨k.1.toArray⟩, Value.string ⟨k.2.toArray⟩]).toArray
def codeRows : List (List Int × List UInt8) := [([1, 10, 0, 16], [49, 54]), ([1, 11, 0, 10], [49, 48, 44, 32, 97, 32, 108, 105, 110, 101, 32, 102, 101, 101, 100, 44, 32, 116, 111, 111]), ([23, 1, 0, 0], [116, 104, 101, 32, 110, 101, 120, 116, 32, 98, 121, 116, 101]), ([1, 2, 0, 256], [116, 104, 101, 32, 101, 110, 100, 63]), ([15, 5, 1, 2], []), ([20, 5, 0, 36], [116, 104, 101, 110, 32, 104, 97, 108, 116]), ([1, 2, 0, 35], [97, 32, 110, 111, 116, 101, 63]), ([15, 5, 1, 2], []), ([20, 5, 0, 29], [116, 104, 101, 110, 32, 111, 110, 32, 116, 111, 32, 105, 116, 115, 32, 101, 110, 100]), ([1, 2, 0, 48], [102, 114, 111, 109, 32, 48, 32, 116, 111, 32, 57, 63]), ([5, 6, 1, 2], []), ([14, 5, 6, 11], []), ([20, 5, 0, 21], [116, 104, 101, 110, 32, 97, 32, 100, 105, 103, 105, 116]), ([1, 2, 0, 32], [97, 32, 103, 114, 101, 97, 116, 32, 108, 101, 116, 116, 101, 114, 32, 97, 115, 32, 97, 32, 115, 109, 97, 108, 108, 32, 111, 110, 101]), ([10, 6, 1, 2], []), ([1, 2, 0, 97], [102, 114, 111, 109, 32, 97, 32, 116, 111, 32, 102, 63]), ([5, 6, 6, 2], []), ([1, 2, 0, 6], []), ([14, 5, 6, 2], []), ([19, 5, 0, 2], [101, 108, 115, 101, 32, 116, 104, 101, 32, 110, 101, 120, 116, 32, 98, 121, 116, 101]), ([4, 6, 6, 11], [49, 48, 32, 116, 111, 32, 49, 53]), ([20, 4, 0, 25], [116, 104, 101, 32, 108, 111, 119, 101, 114, 32, 111, 110, 101, 63]), ([6, 3, 6, 10], [116, 104, 101, 32, 104, 105, 103, 104, 101, 114, 32, 111, 110, 101]), ([1, 4, 0, 1], []), ([18, 0, 0, 2], []), ([4, 3, 3, 6], [98, 111, 116, 104]), ([24, 3, 0, 0], [97, 114, 101, 32, 97, 32, 98, 121, 116, 101]), ([1, 4, 0, 0], []), ([18, 0, 0, 2], []), ([23, 1, 0, 0], [97, 32, 110, 111, 116, 101, 39, 115, 32, 110, 101, 120, 116, 32, 98, 121, 116, 101]), ([1, 2, 0, 256], [116, 104, 101, 32, 101, 110, 100, 63]), ([15, 5, 1, 2], []), ([20, 5, 0, 36], [116, 104, 101, 110, 32, 104, 97, 108, 116]), ([15, 5, 1, 11], [97, 32, 108, 105, 110, 101, 32, 102, 101, 101, 100, 63]), ([19, 5, 0, 29], [110, 111, 58, 32, 111, 110]), ([18, 0, 0, 2], [121, 101, 115]), ([26, 0, 0, 0], [100, 111, 110, 101])]
def codeCells : Array Value := (codeRows.flatMap fun k => k.1.map (Value.int .i64) ++ [Value.string ⟨k.2.toArray⟩]).toArray
structure GK (w : World) : Prop where mk :: (out : w.var? Tryd.prog "seedcorn/inst.kinds" = some kindsCells)
structure GC (w : World) : Prop where mk :: (out : w.var? Tryd.prog "seedcorn/seed.code" = some codeCells)
structure GT (w : World) : Prop where mk :: (out : Lib.TabIs Tryd.prog w "internal/strconv.uint64pow10" .u64 Lib.pow10Tab)
theorem g_kinds : Tryd.prog.globalNamed "seedcorn/inst.kinds" = some 0 := by kernel_rfl
theorem g_code : Tryd.prog.globalNamed "seedcorn/seed.code" = some 1 := by kernel_rfl
theorem g_pow : Tryd.prog.globalNamed "internal/strconv.uint64pow10" = some 2 := by kernel_rfl
theorem GK.below {w w' : World} (h : GK w) (hb : Below w.heap.size w w') : GK w' := ⟨Go.Joins.var_stays g_kinds h.out hb (Nat.le_refl _)⟩
theorem GC.below {w w' : World} (h : GC w) (hb : Below w.heap.size w w') : GC w' := ⟨Go.Joins.var_stays g_code h.out hb (Nat.le_refl _)⟩
theorem GT.below {w w' : World} (h : GT w) (hb : Below w.heap.size w w') : GT w' := ⟨Go.Joins.tab_stays g_pow h.out hb (Nat.le_refl _)⟩
def partsOf (op : Int) : ByteArray := ⟨((kindRows.getD op.toNat ([], [])).2).toArray⟩
def nameOf (op : Int) : ByteArray := if 0 ≤ op ∧ op < 28 then ⟨((kindRows.getD op.toNat ([], [])).1).toArray⟩ else ⟨#[]⟩
end Go.Proofs.YtdhkmdgieflioaaDoor.F
namespace Go.Proofs
open Go.Shelf
def Tryd.lays169_ren : Go.Shelf.Ren := ⟨fun | 169 => 74 | n => n, fun | 70 => 79 | 9 => 9 | 0 => 0 | 72 => 81 | 37 => 72 | 127 => 115 | 3 => 3 | 5 => 5 | n => n, fun | n => n⟩
theorem Tryd.lays169 : Go.Proofs.Lays.n169 Tryd.prog Tryd.lays169_ren := {
  mixed := by kernel_rfl
  f169 := Tryd.func74.trans (congrArg some (by kernel_rfl))
  t0 := Tryd.underlying0
  a0 := Tryd.isAgg0
  z0 := Tryd.sizeOf0
  v0 := Tryd.zeroValue0
  t3 := Tryd.underlying3
  a3 := Tryd.isAgg3
  z3 := Tryd.sizeOf3
  v3 := Tryd.zeroValue3
  t9 := Tryd.underlying9
  a9 := Tryd.isAgg9
  z9 := Tryd.sizeOf9
  v9 := Tryd.zeroValue9
  t37 := Tryd.underlying72
  a37 := Tryd.isAgg72
  z37 := Tryd.sizeOf72
  v37 := Tryd.zeroValue72
  t70 := Tryd.underlying79
  a70 := Tryd.isAgg79
  z70 := Tryd.sizeOf79
  v70 := Tryd.zeroValue79
  t72 := Tryd.underlying81
  a72 := Tryd.isAgg81
  z72 := Tryd.sizeOf81
  v72 := Tryd.zeroValue81
  t127 := Tryd.underlying115
  a127 := Tryd.isAgg115
  z127 := Tryd.sizeOf115
  v127 := Tryd.zeroValue115 }
theorem Tryd.Builder_Extra_169 : Builder.Extra Tryd.prog Tryd.lays169_ren := {
  sizeBuilder := by kernel_rfl
  liesBuilder := by kernel_rfl
  t5 := Tryd.underlying5
  a5 := Tryd.isAgg5
  z5 := Tryd.sizeOf5
  v5 := Tryd.zeroValue5
  infoByte := by kernel_rfl
  cellsByte := by kernel_rfl
  sizeByte := by kernel_rfl
  neB5 := by decide }
def Tryd.lays156_ren : Go.Shelf.Ren := ⟨fun | 156 => 80 | 165 => 102 | 166 => 70 | 169 => 74 | 240 => 97 | 241 => 125 | 276 => 121 | 277 => 139 | n => n, fun | 31 => 65 | 9 => 9 | 3 => 3 | 4 => 4 | 0 => 0 | 20 => 20 | 72 => 81 | 76 => 84 | 70 => 79 | 37 => 72 | 75 => 83 | 127 => 115 | 164 => 134 | 5 => 5 | 80 => 24 | n => n, fun | n => n⟩
theorem Tryd.lays156 : Go.Proofs.Lays.n156 Tryd.prog Tryd.lays156_ren := {
  mixed := by kernel_rfl
  f156 := Tryd.func80.trans (congrArg some (by kernel_rfl))
  f165 := Tryd.func102.trans (congrArg some (by kernel_rfl))
  f166 := Tryd.func70.trans (congrArg some (by kernel_rfl))
  f169 := Tryd.func74.trans (congrArg some (by kernel_rfl))
  f240 := Tryd.func97.trans (congrArg some (by kernel_rfl))
  f241 := Tryd.func125.trans (congrArg some (by kernel_rfl))
  f276 := Tryd.func121.trans (congrArg some (by kernel_rfl))
  f277 := Tryd.func139.trans (congrArg some (by kernel_rfl))
  t0 := Tryd.underlying0
  a0 := Tryd.isAgg0
  z0 := Tryd.sizeOf0
  v0 := Tryd.zeroValue0
  t3 := Tryd.underlying3
  a3 := Tryd.isAgg3
  z3 := Tryd.sizeOf3
  v3 := Tryd.zeroValue3
  t4 := Tryd.underlying4
  a4 := Tryd.isAgg4
  z4 := Tryd.sizeOf4
  v4 := Tryd.zeroValue4
  t9 := Tryd.underlying9
  a9 := Tryd.isAgg9
  z9 := Tryd.sizeOf9
  v9 := Tryd.zeroValue9
  t20 := Tryd.underlying20
  a20 := Tryd.isAgg20
  z20 := Tryd.sizeOf20
  v20 := Tryd.zeroValue20
  t31 := Tryd.underlying65
  a31 := Tryd.isAgg65
  z31 := Tryd.sizeOf65
  v31 := Tryd.zeroValue65
  t37 := Tryd.underlying72
  a37 := Tryd.isAgg72
  z37 := Tryd.sizeOf72
  v37 := Tryd.zeroValue72
  t70 := Tryd.underlying79
  a70 := Tryd.isAgg79
  z70 := Tryd.sizeOf79
  v70 := Tryd.zeroValue79
  t72 := Tryd.underlying81
  a72 := Tryd.isAgg81
  z72 := Tryd.sizeOf81
  v72 := Tryd.zeroValue81
  t75 := Tryd.underlying83
  a75 := Tryd.isAgg83
  z75 := Tryd.sizeOf83
  v75 := Tryd.zeroValue83
  t76 := Tryd.underlying84
  a76 := Tryd.isAgg84
  z76 := Tryd.sizeOf84
  v76 := Tryd.zeroValue84
  t127 := Tryd.underlying115
  a127 := Tryd.isAgg115
  z127 := Tryd.sizeOf115
  v127 := Tryd.zeroValue115
  t164 := Tryd.underlying134
  a164 := Tryd.isAgg134
  z164 := Tryd.sizeOf134
  v164 := Tryd.zeroValue134 }
theorem Tryd.Builder_Extra_156 : Builder.Extra Tryd.prog Tryd.lays156_ren := {
  sizeBuilder := by kernel_rfl
  liesBuilder := by kernel_rfl
  t5 := Tryd.underlying5
  a5 := Tryd.isAgg5
  z5 := Tryd.sizeOf5
  v5 := Tryd.zeroValue5
  infoByte := by kernel_rfl
  cellsByte := by kernel_rfl
  sizeByte := by kernel_rfl
  neB5 := by decide }
open Go.RowKit in
theorem Tryd.strings_Join (bk o c : Nat) (xs : List ByteArray) (sep : ByteArray) (w : World) (hcells : ∀ (j : Nat) x, xs[j]? = some x → w.cell? ⟨bk, o + j, none⟩ = some (.string x)) (hbk : bk < w.heap.size) (hN : xs.length ≤ 140737488355328) (hcap : xs.length ≤ c) (hlen : (Lib.join (xs.map (·.data.toList)) sep.data.toList).length ≤ 140737488355328) :
    Calls Tryd.prog 80 #[.slice (some ⟨bk, o, none⟩) xs.length c, .string sep] w fun e w' => e = .returned (.string ⟨(Lib.join (xs.map (·.data.toList)) sep.data.toList).toArray⟩) ∧ Below w.heap.size w w' := Any.strings_Join Tryd.lays156 Tryd.Builder_Extra_156 bk o c xs sep w hcells hbk hN hcap hlen
def Tryd.lays137_ren : Go.Shelf.Ren := ⟨fun | 137 => 99 | 217 => 123 | 266 => 138 | n => n, fun | 9 => 9 | 5 => 5 | 3 => 3 | n => n, fun | n => n⟩
theorem Tryd.lays137 : Go.Proofs.Lays.n137 Tryd.prog Tryd.lays137_ren := {
  mixed := by kernel_rfl
  f137 := Tryd.func99.trans (congrArg some (by kernel_rfl))
  f217 := Tryd.func123.trans (congrArg some (by kernel_rfl))
  f266 := Tryd.func138.trans (congrArg some (by kernel_rfl))
  t3 := Tryd.underlying3
  a3 := Tryd.isAgg3
  z3 := Tryd.sizeOf3
  v3 := Tryd.zeroValue3
  t5 := Tryd.underlying5
  a5 := Tryd.isAgg5
  z5 := Tryd.sizeOf5
  v5 := Tryd.zeroValue5
  t9 := Tryd.underlying9
  a9 := Tryd.isAgg9
  z9 := Tryd.sizeOf9
  v9 := Tryd.zeroValue9 }
open Go.RowKit in
theorem Tryd.strings_IndexByte (s : ByteArray) (c : Int) (w : World) :
    Calls Tryd.prog 99 #[.string s, .int .u8 c] w fun e w' => e = .returned (.int .i64 (Lib.indexByte s.data.toList c.toNat.toUInt8)) ∧ w' = w := Any.strings_IndexByte Tryd.lays137 s c w
open Go.RowKit in
theorem Tryd.Builder_String_any_k (B b : Nat) (l : List UInt8) (w : World) (h : Lib.IsBuilderF 81 5 B b (Lib.byteCells l) w) (hBw : B ≤ w.heap.size) :
    Calls Tryd.prog 74 #[.pointer (some ⟨b, 0, none⟩)] w fun e w' => e = .returned (.string ⟨l.toArray⟩) ∧ (Lib.IsBuilderF 81 5 B b (Lib.byteCells l) w' ∧ Below B w w' ∧ Lib.OthersKept 5 (some b) w w') := Any.Builder_String_any_k Tryd.lays169 Tryd.Builder_Extra_169 B b l w h hBw
def Tryd.laysM171_ren : Go.Shelf.Ren := ⟨fun | 171 => 79 | 243 => 101 | 246 => 124 | 283 => 126 | 284 => 127 | 285 => 128 | 286 => 129 | 129 => 120 | 317 => 140 | 318 => 141 | 319 => 142 | 320 => 143 | 337 => 148 | 338 => 149 | n => n, fun | 3 => 3 | 9 => 9 | 2 => 2 | 4 => 4 | 171 => 137 | 0 => 0 | 53 => 96 | 37 => 72 | 5 => 5 | 173 => 139 | 212 => 154 | 51 => 47 | 20 => 20 | 213 => 155 | 46 => 59 | 232 => 164 | 233 => 165 | n => n, fun | 17 => 2 | 18 => 4 | 19 => 5 | n => n⟩
theorem Tryd.laysM171 : Go.Proofs.LaysM.n171 Tryd.prog Tryd.laysM171_ren := {
  mixed := by kernel_rfl
  f129 := Tryd.func120.trans (congrArg some (by kernel_rfl))
  f171 := Tryd.func79.trans (congrArg some (by kernel_rfl))
  f243 := Tryd.func101.trans (congrArg some (by kernel_rfl))
  f246 := Tryd.func124.trans (congrArg some (by kernel_rfl))
  f283 := Tryd.func126.trans (congrArg some (by kernel_rfl))
  f284 := Tryd.func127.trans (congrArg some (by kernel_rfl))
  f285 := Tryd.func128.trans (congrArg some (by kernel_rfl))
  f286 := Tryd.func129.trans (congrArg some (by kernel_rfl))
  f317 := Tryd.func140.trans (congrArg some (by kernel_rfl))
  f318 := Tryd.func141.trans (congrArg some (by kernel_rfl))
  f319 := Tryd.func142.trans (congrArg some (by kernel_rfl))
  f320 := Tryd.func143.trans (congrArg some (by kernel_rfl))
  f337 := Tryd.func148.trans (congrArg some (by kernel_rfl))
  f338 := Tryd.func149.trans (congrArg some (by kernel_rfl))
  t0 := Tryd.underlying0
  a0 := Tryd.isAgg0
  z0 := Tryd.sizeOf0
  v0 := Tryd.zeroValue0
  t2 := Tryd.underlying2
  a2 := Tryd.isAgg2
  z2 := Tryd.sizeOf2
  v2 := Tryd.zeroValue2
  t3 := Tryd.underlying3
  a3 := Tryd.isAgg3
  z3 := Tryd.sizeOf3
  v3 := Tryd.zeroValue3
  t4 := Tryd.underlying4
  a4 := Tryd.isAgg4
  z4 := Tryd.sizeOf4
  v4 := Tryd.zeroValue4
  t5 := Tryd.underlying5
  a5 := Tryd.isAgg5
  z5 := Tryd.sizeOf5
  v5 := Tryd.zeroValue5
  t9 := Tryd.underlying9
  a9 := Tryd.isAgg9
  z9 := Tryd.sizeOf9
  v9 := Tryd.zeroValue9
  t20 := Tryd.underlying20
  a20 := Tryd.isAgg20
  z20 := Tryd.sizeOf20
  v20 := Tryd.zeroValue20
  t37 := Tryd.underlying72
  a37 := Tryd.isAgg72
  z37 := Tryd.sizeOf72
  v37 := Tryd.zeroValue72
  t46 := Tryd.underlying59
  a46 := Tryd.isAgg59
  z46 := Tryd.sizeOf59
  v46 := Tryd.zeroValue59
  t51 := Tryd.underlying47
  a51 := Tryd.isAgg47
  z51 := Tryd.sizeOf47
  v51 := Tryd.zeroValue47
  t53 := Tryd.underlying96
  a53 := Tryd.isAgg96
  z53 := Tryd.sizeOf96
  v53 := Tryd.zeroValue96
  t171 := Tryd.underlying137
  a171 := Tryd.isAgg137
  z171 := Tryd.sizeOf137
  v171 := Tryd.zeroValue137
  t173 := Tryd.underlying139
  a173 := Tryd.isAgg139
  z173 := Tryd.sizeOf139
  v173 := Tryd.zeroValue139
  t212 := Tryd.underlying154
  a212 := Tryd.isAgg154
  z212 := Tryd.sizeOf154
  v212 := Tryd.zeroValue154
  t213 := Tryd.underlying155
  a213 := Tryd.isAgg155
  z213 := Tryd.sizeOf155
  t232 := Tryd.underlying164
  a232 := Tryd.isAgg164
  z232 := Tryd.sizeOf164
  v232 := Tryd.zeroValue164
  t233 := Tryd.underlying165
  a233 := Tryd.isAgg165
  z233 := Tryd.sizeOf165
  v233 := Tryd.zeroValue165
  g17 := by kernel_rfl
  g18 := by kernel_rfl
  g19 := by kernel_rfl
  i0 := by kernel_rfl
  i2 := by kernel_rfl
  i3 := by kernel_rfl
  i4 := by kernel_rfl
  i5 := by kernel_rfl
  i9 := by kernel_rfl
  i20 := by kernel_rfl
  i37 := by kernel_rfl
  i46 := by kernel_rfl
  i51 := by kernel_rfl
  i53 := by kernel_rfl
  i171 := by kernel_rfl
  i173 := by kernel_rfl
  i212 := by kernel_rfl
  i232 := by kernel_rfl
  i233 := by kernel_rfl
  m17 := by kernel_rfl
  m18 := by kernel_rfl
  m19 := by kernel_rfl }
open Go.RowKit Go.Sort Go.Lib in
theorem Tryd.strconv_Itoa (n : Int) (h0 : -9223372036854775808 ≤ n) (h1 : n ≤ 9223372036854775807) (w : World) (htab : Lib.TabIs Tryd.prog w "internal/strconv.uint64pow10" .u64 Lib.pow10Tab) :
    Calls Tryd.prog 79 #[.int .i64 n] w fun e w' => e = .returned (.string ⟨(Lib.itoa n).toArray⟩) ∧ ∃ k os, w' = grow (w.drewN k) os := Any.strconv_Itoa Tryd.laysM171 n h0 h1 w htab
def Tryd.lays189_ren : Go.Shelf.Ren := ⟨fun | 189 => 67 | 125 => 96 | 257 => 95 | 128 => 119 | 129 => 120 | 294 => 110 | 295 => 111 | 296 => 112 | 297 => 113 | 298 => 114 | 299 => 115 | 216 => 116 | 300 => 117 | 301 => 118 | 328 => 132 | 329 => 133 | 330 => 134 | 331 => 135 | 332 => 136 | 215 => 137 | 343 => 147 | n => n, fun | 28 => 42 | 3 => 3 | 46 => 59 | 0 => 0 | 51 => 47 | 53 => 96 | 4 => 4 | 183 => 126 | 182 => 125 | 131 => 104 | 5 => 5 | 9 => 9 | 218 => 146 | 222 => 150 | 228 => 161 | 229 => 162 | n => n, fun | n => n⟩
theorem Tryd.lays189 : Go.Proofs.Lays.n189 Tryd.prog Tryd.lays189_ren := {
  mixed := by kernel_rfl
  f125 := Tryd.func96.trans (congrArg some (by kernel_rfl))
  f128 := Tryd.func119.trans (congrArg some (by kernel_rfl))
  f129 := Tryd.func120.trans (congrArg some (by kernel_rfl))
  f189 := Tryd.func67.trans (congrArg some (by kernel_rfl))
  f215 := Tryd.func137.trans (congrArg some (by kernel_rfl))
  f216 := Tryd.func116.trans (congrArg some (by kernel_rfl))
  f257 := Tryd.func95.trans (congrArg some (by kernel_rfl))
  f294 := Tryd.func110.trans (congrArg some (by kernel_rfl))
  f295 := Tryd.func111.trans (congrArg some (by kernel_rfl))
  f296 := Tryd.func112.trans (congrArg some (by kernel_rfl))
  f297 := Tryd.func113.trans (congrArg some (by kernel_rfl))
  f298 := Tryd.func114.trans (congrArg some (by kernel_rfl))
  f299 := Tryd.func115.trans (congrArg some (by kernel_rfl))
  f300 := Tryd.func117.trans (congrArg some (by kernel_rfl))
  f301 := Tryd.func118.trans (congrArg some (by kernel_rfl))
  f328 := Tryd.func132.trans (congrArg some (by kernel_rfl))
  f329 := Tryd.func133.trans (congrArg some (by kernel_rfl))
  f330 := Tryd.func134.trans (congrArg some (by kernel_rfl))
  f331 := Tryd.func135.trans (congrArg some (by kernel_rfl))
  f332 := Tryd.func136.trans (congrArg some (by kernel_rfl))
  f343 := Tryd.func147.trans (congrArg some (by kernel_rfl))
  t0 := Tryd.underlying0
  a0 := Tryd.isAgg0
  z0 := Tryd.sizeOf0
  v0 := Tryd.zeroValue0
  t3 := Tryd.underlying3
  a3 := Tryd.isAgg3
  z3 := Tryd.sizeOf3
  v3 := Tryd.zeroValue3
  t4 := Tryd.underlying4
  a4 := Tryd.isAgg4
  z4 := Tryd.sizeOf4
  v4 := Tryd.zeroValue4
  t5 := Tryd.underlying5
  a5 := Tryd.isAgg5
  z5 := Tryd.sizeOf5
  v5 := Tryd.zeroValue5
  t9 := Tryd.underlying9
  a9 := Tryd.isAgg9
  z9 := Tryd.sizeOf9
  v9 := Tryd.zeroValue9
  t28 := Tryd.underlying42
  a28 := Tryd.isAgg42
  z28 := Tryd.sizeOf42
  v28 := Tryd.zeroValue42
  t46 := Tryd.underlying59
  a46 := Tryd.isAgg59
  z46 := Tryd.sizeOf59
  v46 := Tryd.zeroValue59
  t51 := Tryd.underlying47
  a51 := Tryd.isAgg47
  z51 := Tryd.sizeOf47
  v51 := Tryd.zeroValue47
  t53 := Tryd.underlying96
  a53 := Tryd.isAgg96
  z53 := Tryd.sizeOf96
  v53 := Tryd.zeroValue96
  t131 := Tryd.underlying104
  a131 := Tryd.isAgg104
  z131 := Tryd.sizeOf104
  v131 := Tryd.zeroValue104
  t182 := Tryd.underlying125
  a182 := Tryd.isAgg125
  z182 := Tryd.sizeOf125
  v182 := Tryd.zeroValue125
  t183 := Tryd.underlying126
  a183 := Tryd.isAgg126
  z183 := Tryd.sizeOf126
  v183 := Tryd.zeroValue126
  t218 := Tryd.underlying146
  a218 := Tryd.isAgg146
  z218 := Tryd.sizeOf146
  v218 := Tryd.zeroValue146
  t222 := Tryd.underlying150
  a222 := Tryd.isAgg150
  z222 := Tryd.sizeOf150
  v222 := Tryd.zeroValue150
  t228 := Tryd.underlying161
  a228 := Tryd.isAgg161
  z228 := Tryd.sizeOf161
  v228 := Tryd.zeroValue161
  t229 := Tryd.underlying162
  a229 := Tryd.isAgg162
  z229 := Tryd.sizeOf162
  v229 := Tryd.zeroValue162 }
open Go.Sort Go.RowKit in
theorem Tryd.slices_Sort_int (blk off cap : Nat) (zs : List Int) (w : World) (hH : Holds (Value.int .i64) w blk off zs.toArray) (hblk : blk < w.heap.size) (hsz : zs.length < 4611686018427387904) :
    Calls Tryd.prog 67 #[.slice (some ⟨blk, off, none⟩) zs.length cap] w fun e w' =>
      e = .returned (.tuple #[]) ∧ ∃ n os, w' = grow (putRow (Value.int .i64) (Sort.ahead w n) blk off (zs.mergeSort fun x y => decide (x ≤ y)).toArray) os := Any.slices_Sort_int Tryd.lays189 blk off cap zs w hH hblk hsz
def Tryd.lays100_ren : Go.Shelf.Ren := ⟨fun | 100 => 76 | 207 => 100 | n => n, fun | 9 => 9 | 4 => 4 | 3 => 3 | n => n, fun | n => n⟩
theorem Tryd.lays100 : Go.Proofs.Lays.n100 Tryd.prog Tryd.lays100_ren := {
  mixed := by kernel_rfl
  f100 := Tryd.func76.trans (congrArg some (by kernel_rfl))
  f207 := Tryd.func100.trans (congrArg some (by kernel_rfl))
  t3 := Tryd.underlying3
  a3 := Tryd.isAgg3
  z3 := Tryd.sizeOf3
  v3 := Tryd.zeroValue3
  t4 := Tryd.underlying4
  a4 := Tryd.isAgg4
  z4 := Tryd.sizeOf4
  v4 := Tryd.zeroValue4
  t9 := Tryd.underlying9
  a9 := Tryd.isAgg9
  z9 := Tryd.sizeOf9
  v9 := Tryd.zeroValue9 }
open Go.RowKit Go.Lib in
theorem Tryd.strings_HasSuffix (s p : ByteArray) (w : World) (hs : s.size ≤ 9223372036854775807) :
    Calls Tryd.prog 76 #[.string s, .string p] w fun e w' => e = .returned (.bool (Lib.hasSuffix s.data.toList p.data.toList)) ∧ w' = w := Any.strings_HasSuffix Tryd.lays100 s p w hs
def Tryd.lays102_ren : Go.Shelf.Ren := ⟨fun | 102 => 98 | 209 => 122 | 207 => 100 | n => n, fun | 9 => 9 | 4 => 4 | 3 => 3 | n => n, fun | n => n⟩
theorem Tryd.lays102 : Go.Proofs.Lays.n102 Tryd.prog Tryd.lays102_ren := {
  mixed := by kernel_rfl
  f102 := Tryd.func98.trans (congrArg some (by kernel_rfl))
  f207 := Tryd.func100.trans (congrArg some (by kernel_rfl))
  f209 := Tryd.func122.trans (congrArg some (by kernel_rfl))
  t3 := Tryd.underlying3
  a3 := Tryd.isAgg3
  z3 := Tryd.sizeOf3
  v3 := Tryd.zeroValue3
  t4 := Tryd.underlying4
  a4 := Tryd.isAgg4
  z4 := Tryd.sizeOf4
  v4 := Tryd.zeroValue4
  t9 := Tryd.underlying9
  a9 := Tryd.isAgg9
  z9 := Tryd.sizeOf9
  v9 := Tryd.zeroValue9 }
open Go.RowKit Go.Lib in
theorem Tryd.strings_TrimSuffix (s p : ByteArray) (w : World) (hs : s.size ≤ 9223372036854775807) :
    Calls Tryd.prog 98 #[.string s, .string p] w fun e w' => e = .returned (.string ⟨(Lib.trimSuffix s.data.toList p.data.toList).toArray⟩) ∧ w' = w := Any.strings_TrimSuffix Tryd.lays102 s p w hs
open Go.RowKit Go.Sort in
theorem Tryd.slices_Sort_int_none (p : Option Addr) (cap : Nat) (w : World) :
    Calls Tryd.prog 67 #[.slice p 0 cap] w fun e w' => e = .returned (.tuple #[]) ∧ w' = w := Any.slices_Sort_int_none Tryd.lays189 p cap w
end Go.Proofs
namespace Go.Proofs.YtdhkmdgieflioaaDoor.F
open Go.RowKit Go.Proofs.YtdhkmdgieflioaaDoorW.PrintWords Go.Proofs.YtdhkmdgieflioaaDoorW.PrintLast Go.Proofs.YtdhkmdgieflioaaDoorW.PrintMore
set_option linter.unusedVariables false
set_option linter.unusedSimpArgs false
def hasB (p : ByteArray) (c n m : Int) : Bool := if Lib.indexByte p.data.toList c.toNat.toUInt8 < 0 then n == 0 else if n ≥ 0 then decide (n ≤ m) else false
theorem has_any (p : ByteArray) (c n m : Int) (w : World) :
    Calls Tryd.prog 75 #[.string p, .int .u8 c, .int .i64 n, .int .i64 m] w fun e w' => e = .returned (.bool (hasB p c n m)) ∧ w = w' := by
  generalize hr : hasB p c n m = r
  unfold hasB at hr
  generalize hi : Lib.indexByte p.data.toList c.toNat.toUInt8 = i at hr
  have HI := Lib.hid hi
  clear hi
  by_cases h1 : i < 0
  · rw [if_pos h1] at hr
    subst hr
    go_enter Tryd.func75, Tryd.ntmps75
    go_wp2_with (go_at_call 99; refine (Tryd.strings_IndexByte p c _).mono ?_; rintro e w' ⟨rfl, rfl⟩; rw [HI.out])
    go_ret
    exact ⟨rfl, rfl⟩
  · rw [if_neg h1] at hr
    by_cases h2 : n ≥ 0
    · rw [if_pos h2] at hr
      subst hr
      go_enter Tryd.func75, Tryd.ntmps75
      go_wp2_with (go_at_call 99; refine (Tryd.strings_IndexByte p c _).mono ?_; rintro e w' ⟨rfl, rfl⟩; rw [HI.out])
      go_ret
      exact ⟨rfl, rfl⟩
    · rw [if_neg h2] at hr
      subst hr
      go_enter Tryd.func75, Tryd.ntmps75
      go_wp2_with (go_at_call 99; refine (Tryd.strings_IndexByte p c _).mono ?_; rintro e w' ⟨rfl, rfl⟩; rw [HI.out])
      go_ret
      exact ⟨rfl, rfl⟩
theorem kind_cell {w : World} (h : GK w) (j : Nat) (v : Value) (hj : kindsCells[j]? = some v) : w.cell? ⟨0, j, none⟩ = some v := by
  have := World.var?_cell g_kinds h.out j
  rw [this, hj]
def endsR (p : ByteArray) : Bool := Lib.hasSuffix p.data.toList [114]
def rightB (op a b c : Int) : Bool :=
  if op < 1 ∨ 28 ≤ op then false
  else
    if hasB (partsOf op) 97 a 15 = false then false
    else if hasB (partsOf op) 98 b 15 = false then false
    else if endsR (partsOf op) = true then (if c ≥ 0 then decide (c ≤ 15) else false)
    else hasB (partsOf op) 99 c 65535
def inst_Right.f (a0_0 : Int) (a0_1 : Int) (a0_2 : Int) (a0_3 : Int) : Option Bool := some (rightB a0_0 a0_1 a0_2 a0_3)
set_option maxRecDepth 100000 in
set_option maxHeartbeats 1000000 in
theorem right_lt (op a b c : Int) (w : World) (h1 : op < 1) :
    Calls Tryd.prog 40 #[.agg #[.int .i64 op, .int .i64 a, .int .i64 b, .int .i64 c]] w fun e w' => e = .returned (.bool false) ∧ Below w.heap.size w w' := by
  have hu46 := Tryd.underlying46
  go_enter Tryd.func40, Tryd.ntmps40
  go_wp2_with fail
  go_ret
  exact ⟨rfl, (Below.refl _ _).alloc (Nat.le_refl _) _⟩
set_option maxRecDepth 100000 in
set_option maxHeartbeats 1000000 in
theorem right_ge (op a b c : Int) (w : World) (h1 : 28 ≤ op) :
    Calls Tryd.prog 40 #[.agg #[.int .i64 op, .int .i64 a, .int .i64 b, .int .i64 c]] w fun e w' => e = .returned (.bool false) ∧ Below w.heap.size w w' := by
  have hu46 := Tryd.underlying46
  go_enter Tryd.func40, Tryd.ntmps40
  go_wp2_with fail
  go_ret
  exact ⟨rfl, (Below.refl _ _).alloc (Nat.le_refl _) _⟩
set_option maxRecDepth 100000 in
set_option maxHeartbeats 1000000 in
theorem right_n1 (op a b c : Int) (p : ByteArray) (w : World) (h1 : 1 ≤ op) (h2 : op < 28) (h0 : 0 < w.heap.size) (hs : p.size ≤ 9223372036854775807) (hp : w.cell? ⟨0, op.toNat * 2 + 1, none⟩ = some (.string p)) (H1 : Hid (hasB p 97 a 15 = false)) :
    Calls Tryd.prog 40 #[.agg #[.int .i64 op, .int .i64 a, .int .i64 b, .int .i64 c]] w fun e w' => e = .returned (.bool false) ∧ Below w.heap.size w w' := by
  have hu46 := Tryd.underlying46
  have H2 := Lib.hid (rfl : (0 : Nat) = 0)
  have H3 := Lib.hid (rfl : (0 : Nat) = 0)
  have HE := Lib.hid (rfl : (0 : Nat) = 0)
  go_enter Tryd.func40, Tryd.ntmps40
  go_wp2_with (first | (go_at_call 75; refine (has_any _ _ _ _ _).mono ?_; rintro e w' ⟨rfl, rfl⟩; (first | rw [H1.out] | rw [H2.out] | rw [H3.out])) | (go_at_call 76; refine (Tryd.strings_HasSuffix _ _ _ (by omega)).mono ?_; rintro e w' ⟨rfl, rfl⟩; rw [HE.out]))
  go_ret
  exact ⟨rfl, (Below.refl _ _).alloc (Nat.le_refl _) _⟩
set_option maxRecDepth 100000 in
set_option maxHeartbeats 1000000 in
theorem right_n2 (op a b c : Int) (p : ByteArray) (w : World) (h1 : 1 ≤ op) (h2 : op < 28) (h0 : 0 < w.heap.size) (hs : p.size ≤ 9223372036854775807) (hp : w.cell? ⟨0, op.toNat * 2 + 1, none⟩ = some (.string p)) (H1 : Hid (hasB p 97 a 15 = true)) (H2 : Hid (hasB p 98 b 15 = false)) :
    Calls Tryd.prog 40 #[.agg #[.int .i64 op, .int .i64 a, .int .i64 b, .int .i64 c]] w fun e w' => e = .returned (.bool false) ∧ Below w.heap.size w w' := by
  have hu46 := Tryd.underlying46
  have H3 := Lib.hid (rfl : (0 : Nat) = 0)
  have HE := Lib.hid (rfl : (0 : Nat) = 0)
  go_enter Tryd.func40, Tryd.ntmps40
  go_wp2_with (first | (go_at_call 75; refine (has_any _ _ _ _ _).mono ?_; rintro e w' ⟨rfl, rfl⟩; (first | rw [H1.out] | rw [H2.out] | rw [H3.out])) | (go_at_call 76; refine (Tryd.strings_HasSuffix _ _ _ (by omega)).mono ?_; rintro e w' ⟨rfl, rfl⟩; rw [HE.out]))
  go_ret
  exact ⟨rfl, (Below.refl _ _).alloc (Nat.le_refl _) _⟩
set_option maxRecDepth 100000 in
set_option maxHeartbeats 1000000 in
theorem right_e0 (op a b c : Int) (p : ByteArray) (w : World) (h1 : 1 ≤ op) (h2 : op < 28) (h0 : 0 < w.heap.size) (hs : p.size ≤ 9223372036854775807) (hp : w.cell? ⟨0, op.toNat * 2 + 1, none⟩ = some (.string p)) (H1 : Hid (hasB p 97 a 15 = true)) (H2 : Hid (hasB p 98 b 15 = true)) (HE : Hid (Lib.hasSuffix p.data.toList [114] = true)) (hc : ¬ c ≥ 0) :
    Calls Tryd.prog 40 #[.agg #[.int .i64 op, .int .i64 a, .int .i64 b, .int .i64 c]] w fun e w' => e = .returned (.bool false) ∧ Below w.heap.size w w' := by
  have hu46 := Tryd.underlying46
  have H3 := Lib.hid (rfl : (0 : Nat) = 0)
  go_enter Tryd.func40, Tryd.ntmps40
  go_wp2_with (first | (go_at_call 75; refine (has_any _ _ _ _ _).mono ?_; rintro e w' ⟨rfl, rfl⟩; (first | rw [H1.out] | rw [H2.out] | rw [H3.out])) | (go_at_call 76; refine (Tryd.strings_HasSuffix _ _ _ (by omega)).mono ?_; rintro e w' ⟨rfl, rfl⟩; rw [HE.out]))
  go_ret
  exact ⟨rfl, (Below.refl _ _).alloc (Nat.le_refl _) _⟩
set_option maxRecDepth 100000 in
set_option maxHeartbeats 1000000 in
theorem right_e1 (op a b c : Int) (p : ByteArray) (w : World) (h1 : 1 ≤ op) (h2 : op < 28) (h0 : 0 < w.heap.size) (hs : p.size ≤ 9223372036854775807) (hp : w.cell? ⟨0, op.toNat * 2 + 1, none⟩ = some (.string p)) (H1 : Hid (hasB p 97 a 15 = true)) (H2 : Hid (hasB p 98 b 15 = true)) (HE : Hid (Lib.hasSuffix p.data.toList [114] = true)) (hc : c ≥ 0) :
    Calls Tryd.prog 40 #[.agg #[.int .i64 op, .int .i64 a, .int .i64 b, .int .i64 c]] w fun e w' => e = .returned (.bool (decide (c ≤ 15))) ∧ Below w.heap.size w w' := by
  have hu46 := Tryd.underlying46
  have H3 := Lib.hid (rfl : (0 : Nat) = 0)
  go_enter Tryd.func40, Tryd.ntmps40
  go_wp2_with (first | (go_at_call 75; refine (has_any _ _ _ _ _).mono ?_; rintro e w' ⟨rfl, rfl⟩; (first | rw [H1.out] | rw [H2.out] | rw [H3.out])) | (go_at_call 76; refine (Tryd.strings_HasSuffix _ _ _ (by omega)).mono ?_; rintro e w' ⟨rfl, rfl⟩; rw [HE.out]))
  go_ret
  exact ⟨rfl, (Below.refl _ _).alloc (Nat.le_refl _) _⟩
set_option maxRecDepth 100000 in
set_option maxHeartbeats 1000000 in
theorem right_f (op a b c : Int) (p : ByteArray) (w : World) (h1 : 1 ≤ op) (h2 : op < 28) (h0 : 0 < w.heap.size) (hs : p.size ≤ 9223372036854775807) (hp : w.cell? ⟨0, op.toNat * 2 + 1, none⟩ = some (.string p)) (H1 : Hid (hasB p 97 a 15 = true)) (H2 : Hid (hasB p 98 b 15 = true)) (HE : Hid (Lib.hasSuffix p.data.toList [114] = false)) (r : Bool) (H3 : Hid (hasB p 99 c 65535 = r)) :
    Calls Tryd.prog 40 #[.agg #[.int .i64 op, .int .i64 a, .int .i64 b, .int .i64 c]] w fun e w' => e = .returned (.bool r) ∧ Below w.heap.size w w' := by
  have hu46 := Tryd.underlying46
  go_enter Tryd.func40, Tryd.ntmps40
  go_wp2_with (first | (go_at_call 75; refine (has_any _ _ _ _ _).mono ?_; rintro e w' ⟨rfl, rfl⟩; (first | rw [H1.out] | rw [H2.out] | rw [H3.out])) | (go_at_call 76; refine (Tryd.strings_HasSuffix _ _ _ (by omega)).mono ?_; rintro e w' ⟨rfl, rfl⟩; rw [HE.out]))
  go_ret
  exact ⟨rfl, (Below.refl _ _).alloc (Nat.le_refl _) _⟩
theorem partsOf_size (op : Int) (h1 : 1 ≤ op) (h2 : op < 28) : (partsOf op).size ≤ 9223372036854775807 ∧ kindsCells[op.toNat * 2 + 1]? = some (.string (partsOf op)) := by
  obtain ⟨n, rfl⟩ : ∃ n : Nat, op = n := ⟨op.toNat, by omega⟩
  have h3 : n < 28 := by omega
  clear h2
  have all : ∀ n, n < 28 → (partsOf (n : Nat)).size ≤ 9223372036854775807 ∧ (kindRows.flatMap fun k => [Value.string ⟨k.1.toArray⟩, Value.string ⟨k.2.toArray⟩])[n * 2 + 1]? = some (.string (partsOf (n : Nat))) := by
    intro n hn
    have : n = 0 ∨ n = 1 ∨ n = 2 ∨ n = 3 ∨ n = 4 ∨ n = 5 ∨ n = 6 ∨ n = 7 ∨ n = 8 ∨ n = 9 ∨ n = 10 ∨ n = 11 ∨ n = 12 ∨ n = 13 ∨ n = 14 ∨ n = 15 ∨ n = 16 ∨ n = 17 ∨ n = 18 ∨ n = 19 ∨ n = 20 ∨ n = 21 ∨ n = 22 ∨ n = 23 ∨ n = 24 ∨ n = 25 ∨ n = 26 ∨ n = 27 := by omega
    rcases this with rfl | rfl | rfl | rfl | rfl | rfl | rfl | rfl | rfl | rfl | rfl | rfl | rfl | rfl | rfl | rfl | rfl | rfl | rfl | rfl | rfl | rfl | rfl | rfl | rfl | rfl | rfl | rfl
    all_goals exact ⟨by decide, rfl⟩
  obtain ⟨a1, a2⟩ := all n h3
  exact ⟨a1, by unfold kindsCells; simpa using a2⟩
theorem GK.pos {w : World} (h : GK w) : 0 < w.heap.size := World.block_lt_of_cell? w _ (kind_cell h 0 _ rfl)
theorem inst_Right.calls (a0_0 : Int) (a0_1 : Int) (a0_2 : Int) (a0_3 : Int) (r : Bool) (w : World) (hGK : GK w) (h : inst_Right.f a0_0 a0_1 a0_2 a0_3 = some r) :
    Calls Tryd.prog 40 #[.agg #[.int .i64 a0_0, .int .i64 a0_1, .int .i64 a0_2, .int .i64 a0_3]] w fun e w' => e = .returned (.bool r) ∧ Below w.heap.size w w' := by
  obtain rfl := Option.some.inj h
  unfold rightB
  split
  · rename_i hb
    rcases hb with hb | hb
    · exact right_lt _ _ _ _ _ hb
    · exact right_ge _ _ _ _ _ hb
  · rename_i hb
    obtain ⟨h1, h2⟩ : 1 ≤ a0_0 ∧ a0_0 < 28 := by omega
    obtain ⟨hs, hk⟩ := partsOf_size a0_0 h1 h2
    have hp := kind_cell hGK _ _ hk
    have hpos := hGK.pos
    split
    · rename_i g1
      exact right_n1 _ _ _ _ _ _ h1 h2 hpos hs hp (Lib.hid g1)
    · rename_i g1
      have g1 : hasB (partsOf a0_0) 97 a0_1 15 = true := by simpa using g1
      split
      · rename_i g2
        exact right_n2 _ _ _ _ _ _ h1 h2 hpos hs hp (Lib.hid g1) (Lib.hid g2)
      · rename_i g2
        have g2 : hasB (partsOf a0_0) 98 a0_2 15 = true := by simpa using g2
        split
        · rename_i g3
          split
          · rename_i g4
            exact right_e1 _ _ _ _ _ _ h1 h2 hpos hs hp (Lib.hid g1) (Lib.hid g2) (Lib.hid g3) g4
          · rename_i g4
            exact right_e0 _ _ _ _ _ _ h1 h2 hpos hs hp (Lib.hid g1) (Lib.hid g2) (Lib.hid g3) g4
        · rename_i g3
          have g3 : endsR (partsOf a0_0) = false := by simpa using g3
          exact right_f _ _ _ _ _ _ h1 h2 hpos hs hp (Lib.hid g1) (Lib.hid g2) (Lib.hid g3) _ (Lib.hid rfl)
end Go.Proofs.YtdhkmdgieflioaaDoor.F
namespace Go.Proofs.YtdhkmdgieflioaaDoor.F
open Go.RowKit Go.Proofs.YtdhkmdgieflioaaDoorW.PrintWords Go.Proofs.YtdhkmdgieflioaaDoorW.PrintLast Go.Proofs.YtdhkmdgieflioaaDoorW.PrintMore
attribute [local go_sem] max2_int min2_int max_two min_two max_three min_three max_four min_four
set_option linter.unusedVariables false
set_option linter.unusedSimpArgs false
def inst_Encode.f (a0_0 : Int) (a0_1 : Int) (a0_2 : Int) (a0_3 : Int) : Option (Int × Int) := (inst_Right.f a0_0 a0_1 a0_2 a0_3).bind fun t176 => (if t176 = true then (some (Go.bits .or .u32 (Go.bits .or .u32 (Go.bits .or .u32 ((((a0_0) % 4294967296) * 16777216) % 4294967296) ((((a0_1) % 4294967296) * 1048576) % 4294967296)) ((((a0_2) % 4294967296) * 65536) % 4294967296)) ((a0_3) % 4294967296), 0)) else (some (0, 1)))
set_option maxHeartbeats 8000000 in
set_option maxRecDepth 100000 in
theorem inst_Encode.calls (a0_0 : Int) (a0_1 : Int) (a0_2 : Int) (a0_3 : Int) (r1 : Int) (r2 : Int) (w : World) (hGK : GK w) (h : inst_Encode.f a0_0 a0_1 a0_2 a0_3 = some (r1, r2)) :
    Calls Tryd.prog 38 #[.agg #[.int .i64 a0_0, .int .i64 a0_1, .int .i64 a0_2, .int .i64 a0_3]] w fun e w' => e = .returned (.tuple #[.int .u32 r1, .int .i64 r2]) ∧ Below w.heap.size w w' := by
  have hu46 := Tryd.underlying46
  have HGK := Aside0.mk hGK
  clear hGK
  have HB := Aside0.mk (Below.refl w.heap.size w)
  have H : ((inst_Right.f a0_0 a0_1 a0_2 a0_3).bind fun t176 => (if t176 = true then (some (Go.bits .or .u32 (Go.bits .or .u32 (Go.bits .or .u32 ((((a0_0) % 4294967296) * 16777216) % 4294967296) ((((a0_1) % 4294967296) * 1048576) % 4294967296)) ((((a0_2) % 4294967296) * 65536) % 4294967296)) ((a0_3) % 4294967296), 0)) else (some (0, 1)))) = some (r1, r2) := h
  clear h
  replace H := Option.bind_eq_some_iff.mp H
  obtain ⟨t176, A20, H⟩ := H
  replace H : (if t176 = true then (some (Go.bits .or .u32 (Go.bits .or .u32 (Go.bits .or .u32 ((((a0_0) % 4294967296) * 16777216) % 4294967296) ((((a0_1) % 4294967296) * 1048576) % 4294967296)) ((((a0_2) % 4294967296) * 65536) % 4294967296)) ((a0_3) % 4294967296), 0)) else (some (0, 1))) = some (r1, r2) := H
  have A2 := Aside0.mk A20
  clear A20
  by_cases c3 : t176 = true
  · subst c3
    have H1 : (some (Go.bits .or .u32 (Go.bits .or .u32 (Go.bits .or .u32 ((((a0_0) % 4294967296) * 16777216) % 4294967296) ((((a0_1) % 4294967296) * 1048576) % 4294967296)) ((((a0_2) % 4294967296) * 65536) % 4294967296)) ((a0_3) % 4294967296), 0)) = some (r1, r2) := by rw [if_pos rfl] at H; exact H
    clear H
    have H := H1
    clear H1
    simp only [Option.some.injEq, Prod.mk.injEq] at H
    obtain ⟨rfl, rfl⟩ := H
    go_enter Tryd.func38, Tryd.ntmps38
    go_wp2_with (first | ((with_reducible refine gate_dst (N := 1) rfl ?_); refine box_event ?hg (N := 1) ?hd (cs := #[.int .i64 a0_0, .int .i64 a0_1, .int .i64 a0_2, .int .i64 a0_3]) (t := 46) ?hr ?_; (case hd => rfl); (case hg => rfl); (case hr => first | (go_simp; done) | (go_simp; rfl)); intro gb175 hg w4 hbox hb; have n0_ := Aside0.mk (below_step (by repeat (first | (with_reducible first | exact HB.out | apply below_alloc | apply pw_below_drewN | apply below_drew1) | exact HB.out)) hb); have n1_ := Aside0.mk (hbox); have n2_ := Aside0.mk ((by rw [hg]; exact (below_size (by repeat (first | (with_reducible first | exact HB.out | apply below_alloc | apply pw_below_drewN | apply below_drew1) | exact HB.out))) : w.heap.size ≤ gb175)); have n3_ := Aside0.mk ((by rw [hg]; exact (below_size (by repeat (first | (with_reducible first | exact HB.out | apply below_alloc | apply pw_below_drewN | apply below_drew1) | exact HB.out))) : w.heap.size ≤ gb175)); clear HB; have HB := n0_; have BK175 := n1_; have GW175 := n2_; have GE175 := n3_; clear n0_ n1_ n2_ n3_; clear hb hbox hg; have hcz5_0 : w4.cell? ⟨gb175, 0, none⟩ = some (.int .i64 a0_0) := (blk_cell BK175.out 0).trans rfl; have hcz5_1 : w4.cell? ⟨gb175, 1, none⟩ = some (.int .i64 a0_1) := (blk_cell BK175.out 1).trans rfl; have hcz5_2 : w4.cell? ⟨gb175, 2, none⟩ = some (.int .i64 a0_2) := (blk_cell BK175.out 2).trans rfl; have hcz5_3 : w4.cell? ⟨gb175, 3, none⟩ = some (.int .i64 a0_3) := (blk_cell BK175.out 3).trans rfl; have hfz5_0 := blk_frozen BK175.out 0; have hfz5_1 := blk_frozen BK175.out 1; have hfz5_2 := blk_frozen BK175.out 2; have hfz5_3 := blk_frozen BK175.out 3) | ((with_reducible refine gate_callee (f := 40) rfl ?_); refine goesL_ (some 5) rfl rfl Tryd.func40 (by kernel_rfl) rfl #[.agg #[.int .i64 a0_0, .int .i64 a0_1, .int .i64 a0_2, .int .i64 a0_3]] rfl (by (try simp only [List.map_toArray, List.map_cons, List.map_nil]); first | done | rfl | (simp only [List.length_drop, List.length_take]; rfl)) ?_; (with_reducible refine (inst_Right.calls a0_0 a0_1 a0_2 a0_3 true _ ?side1 A2.out).mono ?_); (case side1 => exact GK.below HGK.out (by repeat (first | (with_reducible first | exact HB.out | apply below_alloc | apply pw_below_drewN | apply below_drew1 | refine below_set ?_ GE175.out) | exact HB.out))); rintro e w6 ⟨rfl, hb⟩; refine ⟨_, rfl, ?_⟩; have n0_ := Aside0.mk (blk_below (g := gb175) (o := .cells #[.int .i64 a0_0, .int .i64 a0_1, .int .i64 a0_2, .int .i64 a0_3] 46 (0, 0)) (by (with_reducible repeat (first | refine blk_drewN ?_ _ | refine blk_drew ?_ | refine blk_alloc ?_ _)); exact BK175.out) hb); have n1_ := Aside0.mk (below_step (by repeat (first | (with_reducible first | exact HB.out | apply below_alloc | apply pw_below_drewN | apply below_drew1 | refine below_set ?_ GE175.out) | exact HB.out)) hb); clear BK175; clear HB; have BK175 := n0_; have HB := n1_; clear n0_ n1_; (try clear hb); (try clear hb2); (try clear hk); (try clear hi); have hcz7_0 : w6.cell? ⟨gb175, 0, none⟩ = some (.int .i64 a0_0) := (blk_cell BK175.out 0).trans rfl; have hcz7_1 : w6.cell? ⟨gb175, 1, none⟩ = some (.int .i64 a0_1) := (blk_cell BK175.out 1).trans rfl; have hcz7_2 : w6.cell? ⟨gb175, 2, none⟩ = some (.int .i64 a0_2) := (blk_cell BK175.out 2).trans rfl; have hcz7_3 : w6.cell? ⟨gb175, 3, none⟩ = some (.int .i64 a0_3) := (blk_cell BK175.out 3).trans rfl; have hfz7_0 := blk_frozen BK175.out 0; have hfz7_1 := blk_frozen BK175.out 1; have hfz7_2 := blk_frozen BK175.out 2; have hfz7_3 := blk_frozen BK175.out 3))
    go_ret2
    exact ⟨by first | rfl | (simp [errW_none, errW_some] <;> rfl) | (simp [*, errW_none, errW_some] <;> rfl), by repeat (first | (with_reducible first | exact HB.out | apply below_alloc | apply pw_below_drewN | apply below_drew1 | refine below_set ?_ GE175.out) | exact HB.out)⟩
  · replace c3 := Bool.eq_false_iff.mpr c3
    subst c3
    have H1 : (some (0, 1)) = some (r1, r2) := by rw [if_neg (show ¬ (false = true) by decide)] at H; exact H
    clear H
    have H := H1
    clear H1
    simp only [Option.some.injEq, Prod.mk.injEq] at H
    obtain ⟨rfl, rfl⟩ := H
    go_enter Tryd.func38, Tryd.ntmps38
    go_wp2_with (first | ((with_reducible refine gate_dst (N := 1) rfl ?_); refine box_event ?hg (N := 1) ?hd (cs := #[.int .i64 a0_0, .int .i64 a0_1, .int .i64 a0_2, .int .i64 a0_3]) (t := 46) ?hr ?_; (case hd => rfl); (case hg => rfl); (case hr => first | (go_simp; done) | (go_simp; rfl)); intro gb175 hg w8 hbox hb; have n0_ := Aside0.mk (below_step (by repeat (first | (with_reducible first | exact HB.out | apply below_alloc | apply pw_below_drewN | apply below_drew1) | exact HB.out)) hb); have n1_ := Aside0.mk (hbox); have n2_ := Aside0.mk ((by rw [hg]; exact (below_size (by repeat (first | (with_reducible first | exact HB.out | apply below_alloc | apply pw_below_drewN | apply below_drew1) | exact HB.out))) : w.heap.size ≤ gb175)); have n3_ := Aside0.mk ((by rw [hg]; exact (below_size (by repeat (first | (with_reducible first | exact HB.out | apply below_alloc | apply pw_below_drewN | apply below_drew1) | exact HB.out))) : w.heap.size ≤ gb175)); clear HB; have HB := n0_; have BK175 := n1_; have GW175 := n2_; have GE175 := n3_; clear n0_ n1_ n2_ n3_; clear hb hbox hg; have hcz9_0 : w8.cell? ⟨gb175, 0, none⟩ = some (.int .i64 a0_0) := (blk_cell BK175.out 0).trans rfl; have hcz9_1 : w8.cell? ⟨gb175, 1, none⟩ = some (.int .i64 a0_1) := (blk_cell BK175.out 1).trans rfl; have hcz9_2 : w8.cell? ⟨gb175, 2, none⟩ = some (.int .i64 a0_2) := (blk_cell BK175.out 2).trans rfl; have hcz9_3 : w8.cell? ⟨gb175, 3, none⟩ = some (.int .i64 a0_3) := (blk_cell BK175.out 3).trans rfl; have hfz9_0 := blk_frozen BK175.out 0; have hfz9_1 := blk_frozen BK175.out 1; have hfz9_2 := blk_frozen BK175.out 2; have hfz9_3 := blk_frozen BK175.out 3) | ((with_reducible refine gate_callee (f := 40) rfl ?_); refine goesL_ (some 5) rfl rfl Tryd.func40 (by kernel_rfl) rfl #[.agg #[.int .i64 a0_0, .int .i64 a0_1, .int .i64 a0_2, .int .i64 a0_3]] rfl (by (try simp only [List.map_toArray, List.map_cons, List.map_nil]); first | done | rfl | (simp only [List.length_drop, List.length_take]; rfl)) ?_; (with_reducible refine (inst_Right.calls a0_0 a0_1 a0_2 a0_3 false _ ?side1 A2.out).mono ?_); (case side1 => exact GK.below HGK.out (by repeat (first | (with_reducible first | exact HB.out | apply below_alloc | apply pw_below_drewN | apply below_drew1 | refine below_set ?_ GE175.out) | exact HB.out))); rintro e w10 ⟨rfl, hb⟩; refine ⟨_, rfl, ?_⟩; have n0_ := Aside0.mk (blk_below (g := gb175) (o := .cells #[.int .i64 a0_0, .int .i64 a0_1, .int .i64 a0_2, .int .i64 a0_3] 46 (0, 0)) (by (with_reducible repeat (first | refine blk_drewN ?_ _ | refine blk_drew ?_ | refine blk_alloc ?_ _)); exact BK175.out) hb); have n1_ := Aside0.mk (below_step (by repeat (first | (with_reducible first | exact HB.out | apply below_alloc | apply pw_below_drewN | apply below_drew1 | refine below_set ?_ GE175.out) | exact HB.out)) hb); clear BK175; clear HB; have BK175 := n0_; have HB := n1_; clear n0_ n1_; (try clear hb); (try clear hb2); (try clear hk); (try clear hi)))
    go_ret2
    exact ⟨by first | rfl | (simp [errW_none, errW_some] <;> rfl) | (simp [*, errW_none, errW_some] <;> rfl), by repeat (first | (with_reducible first | exact HB.out | apply below_alloc | apply pw_below_drewN | apply below_drew1 | refine below_set ?_ GE175.out) | exact HB.out)⟩
end Go.Proofs.YtdhkmdgieflioaaDoor.F
namespace Go.Proofs.YtdhkmdgieflioaaDoor.F
open Go.RowKit Go.Proofs.YtdhkmdgieflioaaDoorW.PrintWords Go.Proofs.YtdhkmdgieflioaaDoorW.PrintLast Go.Proofs.YtdhkmdgieflioaaDoorW.PrintMore
set_option linter.unusedVariables false
set_option linter.unusedSimpArgs false
def seedWords : List Int := codeRows.map fun r => r.1.getD 0 0 * 16777216 + r.1.getD 1 0 * 1048576 + r.1.getD 2 0 * 65536 + r.1.getD 3 0
theorem code_load (W : World) (h : GC W) : ∃ t fr, W.heap[1]? = some (.cells codeCells t fr) := by
  have h1 := h.out
  unfold World.var? at h1
  rw [g_code] at h1
  simp only [Option.bind_some] at h1
  split at h1
  · rename_i c t fr hc
    obtain rfl := Option.some.inj h1
    exact ⟨t, fr, hc⟩
  · cases h1
theorem code_0 : seedWords[0]? = some 27262992 ∧ inst_Encode.f 1 10 0 16 = some (27262992, 0) ∧ ∀ W, (Instr.index 102 (.agg codeCells) (.int .i64 0)).run Tryd.prog W = .ok (.agg #[.int .i64 1, .int .i64 10, .int .i64 0, .int .i64 16, .string ⟨#[49, 54]⟩]) W :=
  ⟨by kernel_rfl, by kernel_rfl, fun _ => by kernel_rfl⟩
theorem code_1 : seedWords[1]? = some 28311562 ∧ inst_Encode.f 1 11 0 10 = some (28311562, 0) ∧ ∀ W, (Instr.index 102 (.agg codeCells) (.int .i64 1)).run Tryd.prog W = .ok (.agg #[.int .i64 1, .int .i64 11, .int .i64 0, .int .i64 10, .string ⟨#[49, 48, 44, 32, 97, 32, 108, 105, 110, 101, 32, 102, 101, 101, 100, 44, 32, 116, 111, 111]⟩]) W :=
  ⟨by kernel_rfl, by kernel_rfl, fun _ => by kernel_rfl⟩
theorem code_2 : seedWords[2]? = some 386924544 ∧ inst_Encode.f 23 1 0 0 = some (386924544, 0) ∧ ∀ W, (Instr.index 102 (.agg codeCells) (.int .i64 2)).run Tryd.prog W = .ok (.agg #[.int .i64 23, .int .i64 1, .int .i64 0, .int .i64 0, .string ⟨#[116, 104, 101, 32, 110, 101, 120, 116, 32, 98, 121, 116, 101]⟩]) W :=
  ⟨by kernel_rfl, by kernel_rfl, fun _ => by kernel_rfl⟩
theorem code_3 : seedWords[3]? = some 18874624 ∧ inst_Encode.f 1 2 0 256 = some (18874624, 0) ∧ ∀ W, (Instr.index 102 (.agg codeCells) (.int .i64 3)).run Tryd.prog W = .ok (.agg #[.int .i64 1, .int .i64 2, .int .i64 0, .int .i64 256, .string ⟨#[116, 104, 101, 32, 101, 110, 100, 63]⟩]) W :=
  ⟨by kernel_rfl, by kernel_rfl, fun _ => by kernel_rfl⟩
theorem code_4 : seedWords[4]? = some 256966658 ∧ inst_Encode.f 15 5 1 2 = some (256966658, 0) ∧ ∀ W, (Instr.index 102 (.agg codeCells) (.int .i64 4)).run Tryd.prog W = .ok (.agg #[.int .i64 15, .int .i64 5, .int .i64 1, .int .i64 2, .string ⟨#[]⟩]) W :=
  ⟨by kernel_rfl, by kernel_rfl, fun _ => by kernel_rfl⟩
theorem code_5 : seedWords[5]? = some 340787236 ∧ inst_Encode.f 20 5 0 36 = some (340787236, 0) ∧ ∀ W, (Instr.index 102 (.agg codeCells) (.int .i64 5)).run Tryd.prog W = .ok (.agg #[.int .i64 20, .int .i64 5, .int .i64 0, .int .i64 36, .string ⟨#[116, 104, 101, 110, 32, 104, 97, 108, 116]⟩]) W :=
  ⟨by kernel_rfl, by kernel_rfl, fun _ => by kernel_rfl⟩
theorem code_6 : seedWords[6]? = some 18874403 ∧ inst_Encode.f 1 2 0 35 = some (18874403, 0) ∧ ∀ W, (Instr.index 102 (.agg codeCells) (.int .i64 6)).run Tryd.prog W = .ok (.agg #[.int .i64 1, .int .i64 2, .int .i64 0, .int .i64 35, .string ⟨#[97, 32, 110, 111, 116, 101, 63]⟩]) W :=
  ⟨by kernel_rfl, by kernel_rfl, fun _ => by kernel_rfl⟩
theorem code_7 : seedWords[7]? = some 256966658 ∧ inst_Encode.f 15 5 1 2 = some (256966658, 0) ∧ ∀ W, (Instr.index 102 (.agg codeCells) (.int .i64 7)).run Tryd.prog W = .ok (.agg #[.int .i64 15, .int .i64 5, .int .i64 1, .int .i64 2, .string ⟨#[]⟩]) W :=
  ⟨by kernel_rfl, by kernel_rfl, fun _ => by kernel_rfl⟩
theorem code_8 : seedWords[8]? = some 340787229 ∧ inst_Encode.f 20 5 0 29 = some (340787229, 0) ∧ ∀ W, (Instr.index 102 (.agg codeCells) (.int .i64 8)).run Tryd.prog W = .ok (.agg #[.int .i64 20, .int .i64 5, .int .i64 0, .int .i64 29, .string ⟨#[116, 104, 101, 110, 32, 111, 110, 32, 116, 111, 32, 105, 116, 115, 32, 101, 110, 100]⟩]) W :=
  ⟨by kernel_rfl, by kernel_rfl, fun _ => by kernel_rfl⟩
theorem code_9 : seedWords[9]? = some 18874416 ∧ inst_Encode.f 1 2 0 48 = some (18874416, 0) ∧ ∀ W, (Instr.index 102 (.agg codeCells) (.int .i64 9)).run Tryd.prog W = .ok (.agg #[.int .i64 1, .int .i64 2, .int .i64 0, .int .i64 48, .string ⟨#[102, 114, 111, 109, 32, 48, 32, 116, 111, 32, 57, 63]⟩]) W :=
  ⟨by kernel_rfl, by kernel_rfl, fun _ => by kernel_rfl⟩
theorem code_10 : seedWords[10]? = some 90243074 ∧ inst_Encode.f 5 6 1 2 = some (90243074, 0) ∧ ∀ W, (Instr.index 102 (.agg codeCells) (.int .i64 10)).run Tryd.prog W = .ok (.agg #[.int .i64 5, .int .i64 6, .int .i64 1, .int .i64 2, .string ⟨#[]⟩]) W :=
  ⟨by kernel_rfl, by kernel_rfl, fun _ => by kernel_rfl⟩
theorem code_11 : seedWords[11]? = some 240517131 ∧ inst_Encode.f 14 5 6 11 = some (240517131, 0) ∧ ∀ W, (Instr.index 102 (.agg codeCells) (.int .i64 11)).run Tryd.prog W = .ok (.agg #[.int .i64 14, .int .i64 5, .int .i64 6, .int .i64 11, .string ⟨#[]⟩]) W :=
  ⟨by kernel_rfl, by kernel_rfl, fun _ => by kernel_rfl⟩
theorem code_12 : seedWords[12]? = some 340787221 ∧ inst_Encode.f 20 5 0 21 = some (340787221, 0) ∧ ∀ W, (Instr.index 102 (.agg codeCells) (.int .i64 12)).run Tryd.prog W = .ok (.agg #[.int .i64 20, .int .i64 5, .int .i64 0, .int .i64 21, .string ⟨#[116, 104, 101, 110, 32, 97, 32, 100, 105, 103, 105, 116]⟩]) W :=
  ⟨by kernel_rfl, by kernel_rfl, fun _ => by kernel_rfl⟩
theorem code_13 : seedWords[13]? = some 18874400 ∧ inst_Encode.f 1 2 0 32 = some (18874400, 0) ∧ ∀ W, (Instr.index 102 (.agg codeCells) (.int .i64 13)).run Tryd.prog W = .ok (.agg #[.int .i64 1, .int .i64 2, .int .i64 0, .int .i64 32, .string ⟨#[97, 32, 103, 114, 101, 97, 116, 32, 108, 101, 116, 116, 101, 114, 32, 97, 115, 32, 97, 32, 115, 109, 97, 108, 108, 32, 111, 110, 101]⟩]) W :=
  ⟨by kernel_rfl, by kernel_rfl, fun _ => by kernel_rfl⟩
theorem code_14 : seedWords[14]? = some 174129154 ∧ inst_Encode.f 10 6 1 2 = some (174129154, 0) ∧ ∀ W, (Instr.index 102 (.agg codeCells) (.int .i64 14)).run Tryd.prog W = .ok (.agg #[.int .i64 10, .int .i64 6, .int .i64 1, .int .i64 2, .string ⟨#[]⟩]) W :=
  ⟨by kernel_rfl, by kernel_rfl, fun _ => by kernel_rfl⟩
theorem code_15 : seedWords[15]? = some 18874465 ∧ inst_Encode.f 1 2 0 97 = some (18874465, 0) ∧ ∀ W, (Instr.index 102 (.agg codeCells) (.int .i64 15)).run Tryd.prog W = .ok (.agg #[.int .i64 1, .int .i64 2, .int .i64 0, .int .i64 97, .string ⟨#[102, 114, 111, 109, 32, 97, 32, 116, 111, 32, 102, 63]⟩]) W :=
  ⟨by kernel_rfl, by kernel_rfl, fun _ => by kernel_rfl⟩
theorem code_16 : seedWords[16]? = some 90570754 ∧ inst_Encode.f 5 6 6 2 = some (90570754, 0) ∧ ∀ W, (Instr.index 102 (.agg codeCells) (.int .i64 16)).run Tryd.prog W = .ok (.agg #[.int .i64 5, .int .i64 6, .int .i64 6, .int .i64 2, .string ⟨#[]⟩]) W :=
  ⟨by kernel_rfl, by kernel_rfl, fun _ => by kernel_rfl⟩
theorem code_17 : seedWords[17]? = some 18874374 ∧ inst_Encode.f 1 2 0 6 = some (18874374, 0) ∧ ∀ W, (Instr.index 102 (.agg codeCells) (.int .i64 17)).run Tryd.prog W = .ok (.agg #[.int .i64 1, .int .i64 2, .int .i64 0, .int .i64 6, .string ⟨#[]⟩]) W :=
  ⟨by kernel_rfl, by kernel_rfl, fun _ => by kernel_rfl⟩
theorem code_18 : seedWords[18]? = some 240517122 ∧ inst_Encode.f 14 5 6 2 = some (240517122, 0) ∧ ∀ W, (Instr.index 102 (.agg codeCells) (.int .i64 18)).run Tryd.prog W = .ok (.agg #[.int .i64 14, .int .i64 5, .int .i64 6, .int .i64 2, .string ⟨#[]⟩]) W :=
  ⟨by kernel_rfl, by kernel_rfl, fun _ => by kernel_rfl⟩
theorem code_19 : seedWords[19]? = some 324009986 ∧ inst_Encode.f 19 5 0 2 = some (324009986, 0) ∧ ∀ W, (Instr.index 102 (.agg codeCells) (.int .i64 19)).run Tryd.prog W = .ok (.agg #[.int .i64 19, .int .i64 5, .int .i64 0, .int .i64 2, .string ⟨#[101, 108, 115, 101, 32, 116, 104, 101, 32, 110, 101, 120, 116, 32, 98, 121, 116, 101]⟩]) W :=
  ⟨by kernel_rfl, by kernel_rfl, fun _ => by kernel_rfl⟩
theorem code_20 : seedWords[20]? = some 73793547 ∧ inst_Encode.f 4 6 6 11 = some (73793547, 0) ∧ ∀ W, (Instr.index 102 (.agg codeCells) (.int .i64 20)).run Tryd.prog W = .ok (.agg #[.int .i64 4, .int .i64 6, .int .i64 6, .int .i64 11, .string ⟨#[49, 48, 32, 116, 111, 32, 49, 53]⟩]) W :=
  ⟨by kernel_rfl, by kernel_rfl, fun _ => by kernel_rfl⟩
theorem code_21 : seedWords[21]? = some 339738649 ∧ inst_Encode.f 20 4 0 25 = some (339738649, 0) ∧ ∀ W, (Instr.index 102 (.agg codeCells) (.int .i64 21)).run Tryd.prog W = .ok (.agg #[.int .i64 20, .int .i64 4, .int .i64 0, .int .i64 25, .string ⟨#[116, 104, 101, 32, 108, 111, 119, 101, 114, 32, 111, 110, 101, 63]⟩]) W :=
  ⟨by kernel_rfl, by kernel_rfl, fun _ => by kernel_rfl⟩
theorem code_22 : seedWords[22]? = some 104202250 ∧ inst_Encode.f 6 3 6 10 = some (104202250, 0) ∧ ∀ W, (Instr.index 102 (.agg codeCells) (.int .i64 22)).run Tryd.prog W = .ok (.agg #[.int .i64 6, .int .i64 3, .int .i64 6, .int .i64 10, .string ⟨#[116, 104, 101, 32, 104, 105, 103, 104, 101, 114, 32, 111, 110, 101]⟩]) W :=
  ⟨by kernel_rfl, by kernel_rfl, fun _ => by kernel_rfl⟩
theorem code_23 : seedWords[23]? = some 20971521 ∧ inst_Encode.f 1 4 0 1 = some (20971521, 0) ∧ ∀ W, (Instr.index 102 (.agg codeCells) (.int .i64 23)).run Tryd.prog W = .ok (.agg #[.int .i64 1, .int .i64 4, .int .i64 0, .int .i64 1, .string ⟨#[]⟩]) W :=
  ⟨by kernel_rfl, by kernel_rfl, fun _ => by kernel_rfl⟩
theorem code_24 : seedWords[24]? = some 301989890 ∧ inst_Encode.f 18 0 0 2 = some (301989890, 0) ∧ ∀ W, (Instr.index 102 (.agg codeCells) (.int .i64 24)).run Tryd.prog W = .ok (.agg #[.int .i64 18, .int .i64 0, .int .i64 0, .int .i64 2, .string ⟨#[]⟩]) W :=
  ⟨by kernel_rfl, by kernel_rfl, fun _ => by kernel_rfl⟩
theorem code_25 : seedWords[25]? = some 70451206 ∧ inst_Encode.f 4 3 3 6 = some (70451206, 0) ∧ ∀ W, (Instr.index 102 (.agg codeCells) (.int .i64 25)).run Tryd.prog W = .ok (.agg #[.int .i64 4, .int .i64 3, .int .i64 3, .int .i64 6, .string ⟨#[98, 111, 116, 104]⟩]) W :=
  ⟨by kernel_rfl, by kernel_rfl, fun _ => by kernel_rfl⟩
theorem code_26 : seedWords[26]? = some 405798912 ∧ inst_Encode.f 24 3 0 0 = some (405798912, 0) ∧ ∀ W, (Instr.index 102 (.agg codeCells) (.int .i64 26)).run Tryd.prog W = .ok (.agg #[.int .i64 24, .int .i64 3, .int .i64 0, .int .i64 0, .string ⟨#[97, 114, 101, 32, 97, 32, 98, 121, 116, 101]⟩]) W :=
  ⟨by kernel_rfl, by kernel_rfl, fun _ => by kernel_rfl⟩
theorem code_27 : seedWords[27]? = some 20971520 ∧ inst_Encode.f 1 4 0 0 = some (20971520, 0) ∧ ∀ W, (Instr.index 102 (.agg codeCells) (.int .i64 27)).run Tryd.prog W = .ok (.agg #[.int .i64 1, .int .i64 4, .int .i64 0, .int .i64 0, .string ⟨#[]⟩]) W :=
  ⟨by kernel_rfl, by kernel_rfl, fun _ => by kernel_rfl⟩
theorem code_28 : seedWords[28]? = some 301989890 ∧ inst_Encode.f 18 0 0 2 = some (301989890, 0) ∧ ∀ W, (Instr.index 102 (.agg codeCells) (.int .i64 28)).run Tryd.prog W = .ok (.agg #[.int .i64 18, .int .i64 0, .int .i64 0, .int .i64 2, .string ⟨#[]⟩]) W :=
  ⟨by kernel_rfl, by kernel_rfl, fun _ => by kernel_rfl⟩
theorem code_29 : seedWords[29]? = some 386924544 ∧ inst_Encode.f 23 1 0 0 = some (386924544, 0) ∧ ∀ W, (Instr.index 102 (.agg codeCells) (.int .i64 29)).run Tryd.prog W = .ok (.agg #[.int .i64 23, .int .i64 1, .int .i64 0, .int .i64 0, .string ⟨#[97, 32, 110, 111, 116, 101, 39, 115, 32, 110, 101, 120, 116, 32, 98, 121, 116, 101]⟩]) W :=
  ⟨by kernel_rfl, by kernel_rfl, fun _ => by kernel_rfl⟩
theorem code_30 : seedWords[30]? = some 18874624 ∧ inst_Encode.f 1 2 0 256 = some (18874624, 0) ∧ ∀ W, (Instr.index 102 (.agg codeCells) (.int .i64 30)).run Tryd.prog W = .ok (.agg #[.int .i64 1, .int .i64 2, .int .i64 0, .int .i64 256, .string ⟨#[116, 104, 101, 32, 101, 110, 100, 63]⟩]) W :=
  ⟨by kernel_rfl, by kernel_rfl, fun _ => by kernel_rfl⟩
theorem code_31 : seedWords[31]? = some 256966658 ∧ inst_Encode.f 15 5 1 2 = some (256966658, 0) ∧ ∀ W, (Instr.index 102 (.agg codeCells) (.int .i64 31)).run Tryd.prog W = .ok (.agg #[.int .i64 15, .int .i64 5, .int .i64 1, .int .i64 2, .string ⟨#[]⟩]) W :=
  ⟨by kernel_rfl, by kernel_rfl, fun _ => by kernel_rfl⟩
theorem code_32 : seedWords[32]? = some 340787236 ∧ inst_Encode.f 20 5 0 36 = some (340787236, 0) ∧ ∀ W, (Instr.index 102 (.agg codeCells) (.int .i64 32)).run Tryd.prog W = .ok (.agg #[.int .i64 20, .int .i64 5, .int .i64 0, .int .i64 36, .string ⟨#[116, 104, 101, 110, 32, 104, 97, 108, 116]⟩]) W :=
  ⟨by kernel_rfl, by kernel_rfl, fun _ => by kernel_rfl⟩
theorem code_33 : seedWords[33]? = some 256966667 ∧ inst_Encode.f 15 5 1 11 = some (256966667, 0) ∧ ∀ W, (Instr.index 102 (.agg codeCells) (.int .i64 33)).run Tryd.prog W = .ok (.agg #[.int .i64 15, .int .i64 5, .int .i64 1, .int .i64 11, .string ⟨#[97, 32, 108, 105, 110, 101, 32, 102, 101, 101, 100, 63]⟩]) W :=
  ⟨by kernel_rfl, by kernel_rfl, fun _ => by kernel_rfl⟩
theorem code_34 : seedWords[34]? = some 324010013 ∧ inst_Encode.f 19 5 0 29 = some (324010013, 0) ∧ ∀ W, (Instr.index 102 (.agg codeCells) (.int .i64 34)).run Tryd.prog W = .ok (.agg #[.int .i64 19, .int .i64 5, .int .i64 0, .int .i64 29, .string ⟨#[110, 111, 58, 32, 111, 110]⟩]) W :=
  ⟨by kernel_rfl, by kernel_rfl, fun _ => by kernel_rfl⟩
theorem code_35 : seedWords[35]? = some 301989890 ∧ inst_Encode.f 18 0 0 2 = some (301989890, 0) ∧ ∀ W, (Instr.index 102 (.agg codeCells) (.int .i64 35)).run Tryd.prog W = .ok (.agg #[.int .i64 18, .int .i64 0, .int .i64 0, .int .i64 2, .string ⟨#[121, 101, 115]⟩]) W :=
  ⟨by kernel_rfl, by kernel_rfl, fun _ => by kernel_rfl⟩
theorem code_36 : seedWords[36]? = some 436207616 ∧ inst_Encode.f 26 0 0 0 = some (436207616, 0) ∧ ∀ W, (Instr.index 102 (.agg codeCells) (.int .i64 36)).run Tryd.prog W = .ok (.agg #[.int .i64 26, .int .i64 0, .int .i64 0, .int .i64 0, .string ⟨#[100, 111, 110, 101]⟩]) W :=
  ⟨by kernel_rfl, by kernel_rfl, fun _ => by kernel_rfl⟩
theorem code_at : ∀ k : Nat, k < 37 → ∃ (x0 x1 x2 x3 wk : Int) (s : ByteArray), seedWords[k]? = some wk ∧ inst_Encode.f x0 x1 x2 x3 = some (wk, 0) ∧
    ∀ W, (Instr.index 102 (.agg codeCells) (.int .i64 (k : Int))).run Tryd.prog W = .ok (.agg #[.int .i64 x0, .int .i64 x1, .int .i64 x2, .int .i64 x3, .string s]) W := by
  intro k hk
  have hc : k = 0 ∨ k = 1 ∨ k = 2 ∨ k = 3 ∨ k = 4 ∨ k = 5 ∨ k = 6 ∨ k = 7 ∨ k = 8 ∨ k = 9 ∨ k = 10 ∨ k = 11 ∨ k = 12 ∨ k = 13 ∨ k = 14 ∨ k = 15 ∨ k = 16 ∨ k = 17 ∨ k = 18 ∨ k = 19 ∨ k = 20 ∨ k = 21 ∨ k = 22 ∨ k = 23 ∨ k = 24 ∨ k = 25 ∨ k = 26 ∨ k = 27 ∨ k = 28 ∨ k = 29 ∨ k = 30 ∨ k = 31 ∨ k = 32 ∨ k = 33 ∨ k = 34 ∨ k = 35 ∨ k = 36 := by omega
  rcases hc with rfl | rfl | rfl | rfl | rfl | rfl | rfl | rfl | rfl | rfl | rfl | rfl | rfl | rfl | rfl | rfl | rfl | rfl | rfl | rfl | rfl | rfl | rfl | rfl | rfl | rfl | rfl | rfl | rfl | rfl | rfl | rfl | rfl | rfl | rfl | rfl | rfl
  · exact ⟨_, _, _, _, _, _, code_0⟩
  · exact ⟨_, _, _, _, _, _, code_1⟩
  · exact ⟨_, _, _, _, _, _, code_2⟩
  · exact ⟨_, _, _, _, _, _, code_3⟩
  · exact ⟨_, _, _, _, _, _, code_4⟩
  · exact ⟨_, _, _, _, _, _, code_5⟩
  · exact ⟨_, _, _, _, _, _, code_6⟩
  · exact ⟨_, _, _, _, _, _, code_7⟩
  · exact ⟨_, _, _, _, _, _, code_8⟩
  · exact ⟨_, _, _, _, _, _, code_9⟩
  · exact ⟨_, _, _, _, _, _, code_10⟩
  · exact ⟨_, _, _, _, _, _, code_11⟩
  · exact ⟨_, _, _, _, _, _, code_12⟩
  · exact ⟨_, _, _, _, _, _, code_13⟩
  · exact ⟨_, _, _, _, _, _, code_14⟩
  · exact ⟨_, _, _, _, _, _, code_15⟩
  · exact ⟨_, _, _, _, _, _, code_16⟩
  · exact ⟨_, _, _, _, _, _, code_17⟩
  · exact ⟨_, _, _, _, _, _, code_18⟩
  · exact ⟨_, _, _, _, _, _, code_19⟩
  · exact ⟨_, _, _, _, _, _, code_20⟩
  · exact ⟨_, _, _, _, _, _, code_21⟩
  · exact ⟨_, _, _, _, _, _, code_22⟩
  · exact ⟨_, _, _, _, _, _, code_23⟩
  · exact ⟨_, _, _, _, _, _, code_24⟩
  · exact ⟨_, _, _, _, _, _, code_25⟩
  · exact ⟨_, _, _, _, _, _, code_26⟩
  · exact ⟨_, _, _, _, _, _, code_27⟩
  · exact ⟨_, _, _, _, _, _, code_28⟩
  · exact ⟨_, _, _, _, _, _, code_29⟩
  · exact ⟨_, _, _, _, _, _, code_30⟩
  · exact ⟨_, _, _, _, _, _, code_31⟩
  · exact ⟨_, _, _, _, _, _, code_32⟩
  · exact ⟨_, _, _, _, _, _, code_33⟩
  · exact ⟨_, _, _, _, _, _, code_34⟩
  · exact ⟨_, _, _, _, _, _, code_35⟩
  · exact ⟨_, _, _, _, _, _, code_36⟩
set_option maxRecDepth 100000 in
set_option maxHeartbeats 2000000 in
theorem made_any (w : World) (hGC : GC w) (hGK : GK w) :
    Calls Tryd.prog 59 #[] w fun e w' => ∃ v0_ : Value, e = .returned (.agg #[v0_, .int .i64 0]) ∧ Kd.R (Kd.int .u32) 47 w' w.heap.size (fun _ => True) v0_ seedWords ∧ Below w.heap.size w w' := by
  have hu28 := Tryd.underlying28
  have hu46 := Tryd.underlying46
  have hu101 := Tryd.underlying101
  have HC := Aside0.mk hGC
  have HK := Aside0.mk hGK
  clear hGC hGK
  have HB := Aside0.mk (Below.refl w.heap.size w)
  obtain ⟨tg, fr, hg⟩ := code_load ((w.alloc (.cells #[.slice none 0 0, .int .i64 0] 28)).alloc (.cells #[.slice none 0 0, .int .i64 0] 28)) (HC.out.below (((Below.refl _ _).alloc (Nat.le_refl _) _).alloc (by simp) _))
  have hsz : (Tryd.prog.info? 102).map (·.size) = some codeCells.size := by kernel_rfl
  have hat := code_at
  generalize codeCells = CV at hg hsz hat
  have HG := Aside0.mk hg
  have HS := Aside0.mk hsz
  have HAT := Aside0.mk hat
  clear hg hsz hat
  go_enter Tryd.func59, Tryd.ntmps59
  go_wp2_with ((with_reducible refine gate_dst (N := 6) rfl ?_); refine wpList_load_row rfl 102 _ rfl 1 rfl tg CV fr _ HG.out Tryd.underlying102 rfl HS.out ?_)
  clear HG HS
  go_loopg [7] 38 (fun kq v7 w' => ∃ (k : Nat) (v : Value) (xs : List Int), v7 = .int .i64 k ∧ Aside0 (kq + k = 38) ∧ Aside0 (k ≤ 37) ∧ Aside0 (Kd.R (Kd.int .u32) 47 w' w.heap.size (fun _ => True) v xs) ∧ Aside0 (xs = seedWords.take k) ∧ Aside0 (w'.heap[w.heap.size]? = some (.cells #[.slice none 0 0, .int .i64 0] 28 (0, 0))) ∧ Aside0 (w'.heap[w.heap.size + 1]? = some (.cells #[v, .int .i64 0] 28 (0, 0))) ∧ Aside0 (Below w.heap.size w w'))
  case atStart =>
    exact ⟨0, .slice none 0 0, [], rfl, ⟨rfl⟩, ⟨by omega⟩, ⟨Kd.R_nil _ _ _ _ _⟩, ⟨rfl⟩, ⟨heap_alloc2_old _ _ _⟩, ⟨heap_alloc2_new _ _ _⟩, ⟨(((Below.refl _ _).alloc (Nat.le_refl _) _).alloc (by simp) _)⟩⟩
  case round =>
    obtain ⟨k, v, xs, rfl, HK1, HK2, HO, HX, B0, B1, HB⟩ := hrel
    obtain ⟨Ao, co, eo⟩ := Kd.R_slice HO.out
    subst eo
    by_cases hk : k < 37
    · obtain ⟨x0, x1, x2, x3, wk, s, hwk, henc, hix⟩ := HAT.out k hk
      have HW := Aside0.mk hwk
      clear hwk
      have HE := Aside0.mk henc
      clear henc
      go_wp2_with (first | (go_at_call 38; (with_reducible refine (inst_Encode.calls x0 x1 x2 x3 _ _ _ ?s HE.out).mono ?_); (case s => exact HK.out.below (below_alloc HB.out _)); rintro e w2 ⟨rfl, hb⟩; have n0_ := Aside0.mk (Kd.R_below (Kd.R_alloc HO.out _) hb); have n1_ := Aside0.mk (blk_below (blk_alloc B0.out _) hb); have n2_ := Aside0.mk (blk_below (blk_alloc B1.out _) hb); have n3_ := Aside0.mk (below_step (below_alloc HB.out _) hb); clear HO B0 B1 HB hb hix; have HO := n0_; have B0 := n1_; have B1 := n2_; have HB := n3_; clear n0_ n1_ n2_ n3_; have hc0 : w2.cell? ⟨w.heap.size + 1, 0, none⟩ = some (.slice Ao xs.length co) := (blk_cell B1.out 0).trans rfl) | ((with_reducible refine gate_builtin (b := .append) (xs := #[.tmp 17, .tmp 19]) rfl ?_); at_builtin; refine Kd.R_append (Kd.int .u32) (w0 := w) w.heap.size rfl (.tmp 17) (.tmp 19) 26 47 (.int .u32 0) 4 rfl Tryd.underlying26 info47 rfl (by decide) (by omega) (.slice Ao xs.length co) xs wk [.int .u32 wk] (fun _ => True) (fun _ => False) rfl rfl ?aP (fun _ hk => hk.elim) ?aF ?aO ?aB ?aS ?aL ?_; (case aP => exact rfl); (case aB => exact HB.out); (case aF => exact (fun _ _ => trivial)); (case aO => exact HO.out); (case aS => exact below_size HB.out); (case aL => (have := HK2.out; have h1 := List.length_take_le k seedWords; rw [← HX.out] at h1; omega)); intro v1 w4 ho hb hg hat; have n0_ := Aside0.mk (blk_grown B0.out hg (Kd.R_ne HO.out B0.out (by decide))); have n1_ := Aside0.mk (blk_grown B1.out hg (Kd.R_ne HO.out B1.out (by decide))); have n2_ := Aside0.mk hb; have n3_ := Aside0.mk ho; clear HO B0 B1 HB hb hg hat ho hc0; have B0 := n0_; have B1 := n1_; have HB := n2_; have HO := n3_; clear n0_ n1_ n2_ n3_; have hc1 : w4.cell? ⟨w.heap.size + 1, 0, none⟩ = some (.slice Ao xs.length co) := (blk_cell B1.out 0).trans rfl; have hf1 := blk_frozen B1.out 0; obtain ⟨A1, c1, e1⟩ := Kd.R_slice HO.out; subst e1))
      go_roundg (gk - 1)
      case measure => have := HK1.out; omega
      case rel => exact ⟨k + 1, .slice A1 (xs.length + 1) c1, xs ++ [wk], by go_num, ⟨by have := HK1.out; omega⟩, ⟨by omega⟩, ⟨by have h1 := HO.out; rw [List.length_append] at h1; exact Kd.R_set h1 B1.out (by decide) 0 _⟩, ⟨by rw [List.take_add_one, HW.out, HX.out]; rfl⟩, ⟨blk_far B0.out (by simp) _⟩, ⟨by refine blk_put (cs := #[(.slice Ao xs.length co), .int .i64 0]) B1.out 0 _ rfl⟩, ⟨below_set HB.out (by omega)⟩⟩
    · have hk37 : k = 37 := by have := HK2.out; omega
      have HK37 := Aside0.mk hk37
      clear hk37
      have hc0 : wr.cell? ⟨w.heap.size + 1, 0, none⟩ = some (.slice Ao xs.length co) := (blk_cell B1.out 0).trans rfl
      have hc1 : wr.cell? ⟨w.heap.size + 1, 1, none⟩ = some (.int .i64 0) := (blk_cell B1.out 1).trans rfl
      have hd0 : wr.cell? ⟨w.heap.size, 0, none⟩ = some (.slice none 0 0) := (blk_cell B0.out 0).trans rfl
      have hd1 : wr.cell? ⟨w.heap.size, 1, none⟩ = some (.int .i64 0) := (blk_cell B0.out 1).trans rfl
      have hf0 := blk_frozen B0.out 0
      have hf1 := blk_frozen B0.out 1
      go_wp2_with fail
      refine bodyPost_ret (results_cell_row rfl _ _ w.heap.size 28 #[.slice Ao xs.length co, .int .i64 0] (0, 0) _ rfl (by refine blk_put (cs := #[.slice Ao xs.length co, .int .i64 0]) ?_ 1 _ rfl; refine blk_put (cs := #[.slice none 0 0, .int .i64 0]) B0.out 0 _ rfl) Tryd.underlying28 rfl (by kernel_rfl)) rfl ?_
      refine ⟨.slice Ao xs.length co, rfl, ?_, below_set (below_set HB.out (Nat.le_refl _)) (Nat.le_refl _)⟩
      have hx : xs = seedWords := by rw [HX.out, HK37.out]; decide +kernel
      rw [← hx]
      exact Kd.R_set (Kd.R_set HO.out B0.out (by decide) 0 _) (blk_set B0.out 0 _) (by decide) 1 _
def seed_made.f : Option (List Int × Int) := some (seedWords, 0)
theorem seed_made.calls (r1 : List Int) (r2 : Int) (w : World) (hGC : GC w) (hGK : GK w) (h : seed_made.f = some (r1, r2)) :
    Calls Tryd.prog 59 #[] w fun e w' => ∃ v0_ : Value, e = .returned (.agg #[v0_, .int .i64 r2]) ∧ Kd.R (Kd.int .u32) 47 w' w.heap.size (fun _ => True) v0_ r1 ∧ Below w.heap.size w w' := by
  have h1 := Option.some.inj h
  injection h1 with e1 e2
  subst e1 e2
  exact made_any w hGC hGK
end Go.Proofs.YtdhkmdgieflioaaDoor.F
namespace Go.Proofs.YtdhkmdgieflioaaDoor.F
open Go.RowKit Go.Proofs.YtdhkmdgieflioaaDoorW.PrintWords Go.Proofs.YtdhkmdgieflioaaDoorW.PrintLast Go.Proofs.YtdhkmdgieflioaaDoorW.PrintMore
attribute [local go_sem] max2_int min2_int max_two min_two max_three min_three max_four min_four
set_option linter.unusedVariables false
set_option linter.unusedSimpArgs false
mutual
def seedcornref07_Parts.j0 : Nat → Int → Int → Bool → Option (ByteArray)
  | 0, _, _, _ => none
  | k + 1, x0, x3, x4 => if x4 = true then (some (⟨#[97, 99]⟩ : ByteArray)) else (if x3 = 3 then (some (⟨#[97, 98]⟩ : ByteArray)) else (if x3 = 16 then (seedcornref07_Parts.j1 k x0 x3 (x3 == 16)) else (if x3 = 17 then (seedcornref07_Parts.j1 k x0 x3 (x3 == 17)) else (seedcornref07_Parts.j1 k x0 x3 (x3 == 27)))))
def seedcornref07_Parts.j1 : Nat → Int → Int → Bool → Option (ByteArray)
  | 0, _, _, _ => none
  | k + 1, x0, x3, x13 => if x13 = true then (some (⟨#[97, 98, 99]⟩ : ByteArray)) else (if x3 = 18 then (some (⟨#[99]⟩ : ByteArray)) else (if x3 = 22 then (seedcornref07_Parts.j2 k x0 x3 (x3 == 22)) else (if x3 = 23 then (seedcornref07_Parts.j2 k x0 x3 (x3 == 23)) else (seedcornref07_Parts.j2 k x0 x3 (x3 == 24)))))
def seedcornref07_Parts.j2 : Nat → Int → Int → Bool → Option (ByteArray)
  | 0, _, _, _ => none
  | k + 1, x0, x3, x19 => if x19 = true then (some (⟨#[97]⟩ : ByteArray)) else (if x3 = 26 then (some (⟨#[]⟩ : ByteArray)) else (if x0 ≥ 4 then (if x0 ≤ 15 then (some (⟨#[97, 98, 114]⟩ : ByteArray)) else (some (⟨#[63]⟩ : ByteArray))) else (some (⟨#[63]⟩ : ByteArray))))
end
def seedcornref07_Parts.f (k : Nat) (a0 : Int) : Option (ByteArray) := if a0 = 1 then (seedcornref07_Parts.j0 k a0 a0 (a0 == 1)) else (if a0 = 2 then (seedcornref07_Parts.j0 k a0 a0 (a0 == 2)) else (if a0 = 19 then (seedcornref07_Parts.j0 k a0 a0 (a0 == 19)) else (if a0 = 20 then (seedcornref07_Parts.j0 k a0 a0 (a0 == 20)) else (if a0 = 21 then (seedcornref07_Parts.j0 k a0 a0 (a0 == 21)) else (seedcornref07_Parts.j0 k a0 a0 (a0 == 25))))))
theorem seedcornref07_Parts.mono_l : ∀ k, (∀ y0 y1 y2, LeO (seedcornref07_Parts.j0 k y0 y1 y2) (seedcornref07_Parts.j0 (k + 1) y0 y1 y2)) ∧ (∀ y0 y1 y2, LeO (seedcornref07_Parts.j1 k y0 y1 y2) (seedcornref07_Parts.j1 (k + 1) y0 y1 y2)) ∧ (∀ y0 y1 y2, LeO (seedcornref07_Parts.j2 k y0 y1 y2) (seedcornref07_Parts.j2 (k + 1) y0 y1 y2))
  | 0 => ⟨fun _ _ _ r h => by simp [seedcornref07_Parts.j0] at h, fun _ _ _ r h => by simp [seedcornref07_Parts.j1] at h, fun _ _ _ r h => by simp [seedcornref07_Parts.j2] at h⟩
  | k + 1 => by
    obtain ⟨ih0, ih1, ih2⟩ := seedcornref07_Parts.mono_l k
    refine ⟨?_, ?_, ?_⟩
    · intro y0 y1 y2
      unfold seedcornref07_Parts.j0
      repeat' first
      | (with_reducible exact ih0 _ _ _)
      | (with_reducible exact ih1 _ _ _)
      | (with_reducible exact ih2 _ _ _)
      | (with_reducible exact LeO.refl _)
      | (with_reducible exact LeO.none _)
      | (with_reducible refine LeO.ite ?_ ?_)
      | (with_reducible refine LeO.bind ?_ (fun _ => ?_))
      | exact ih0 _ _ _
      | exact ih1 _ _ _
      | exact ih2 _ _ _
      | exact LeO.none _
      | refine LeO.ite ?_ ?_
      | refine LeO.bind ?_ (fun _ => ?_)
    · intro y0 y1 y2
      unfold seedcornref07_Parts.j1
      repeat' first
      | (with_reducible exact ih0 _ _ _)
      | (with_reducible exact ih1 _ _ _)
      | (with_reducible exact ih2 _ _ _)
      | (with_reducible exact LeO.refl _)
      | (with_reducible exact LeO.none _)
      | (with_reducible refine LeO.ite ?_ ?_)
      | (with_reducible refine LeO.bind ?_ (fun _ => ?_))
      | exact ih0 _ _ _
      | exact ih1 _ _ _
      | exact ih2 _ _ _
      | exact LeO.none _
      | refine LeO.ite ?_ ?_
      | refine LeO.bind ?_ (fun _ => ?_)
    · intro y0 y1 y2
      unfold seedcornref07_Parts.j2
      repeat' first
      | (with_reducible exact ih0 _ _ _)
      | (with_reducible exact ih1 _ _ _)
      | (with_reducible exact ih2 _ _ _)
      | (with_reducible exact LeO.refl _)
      | (with_reducible exact LeO.none _)
      | (with_reducible refine LeO.ite ?_ ?_)
      | (with_reducible refine LeO.bind ?_ (fun _ => ?_))
      | exact ih0 _ _ _
      | exact ih1 _ _ _
      | exact ih2 _ _ _
      | exact LeO.none _
      | refine LeO.ite ?_ ?_
      | refine LeO.bind ?_ (fun _ => ?_)
theorem seedcornref07_Parts.mono : ∀ a0 k, LeO (seedcornref07_Parts.f k a0) (seedcornref07_Parts.f (k + 1) a0) := by
  intro a0 k
  obtain ⟨ih0, ih1, ih2⟩ := seedcornref07_Parts.mono_l k
  unfold seedcornref07_Parts.f
  repeat' first
      | (with_reducible exact ih0 _ _ _)
      | (with_reducible exact ih1 _ _ _)
      | (with_reducible exact ih2 _ _ _)
      | (with_reducible exact LeO.refl _)
      | (with_reducible exact LeO.none _)
      | (with_reducible refine LeO.ite ?_ ?_)
      | (with_reducible refine LeO.bind ?_ (fun _ => ?_))
      | exact ih0 _ _ _
      | exact ih1 _ _ _
      | exact ih2 _ _ _
      | exact LeO.none _
      | refine LeO.ite ?_ ?_
      | refine LeO.bind ?_ (fun _ => ?_)
set_option maxHeartbeats 8000000 in
set_option maxRecDepth 100000 in
theorem seedcornref07_Parts.calls (k : Nat) (a0 : Int) (r : ByteArray) (w : World) (h : seedcornref07_Parts.f k a0 = some r) :
    Calls Tryd.prog 48 #[.int .i64 a0] w fun e w' => e = .returned (.string r) ∧ Drawn0 w w' := by
  have H : (if a0 = 1 then (seedcornref07_Parts.j0 k a0 a0 (a0 == 1)) else (if a0 = 2 then (seedcornref07_Parts.j0 k a0 a0 (a0 == 2)) else (if a0 = 19 then (seedcornref07_Parts.j0 k a0 a0 (a0 == 19)) else (if a0 = 20 then (seedcornref07_Parts.j0 k a0 a0 (a0 == 20)) else (if a0 = 21 then (seedcornref07_Parts.j0 k a0 a0 (a0 == 21)) else (seedcornref07_Parts.j0 k a0 a0 (a0 == 25))))))) = some r := h
  clear h
  have HC2 := Aside0.mk H
  clear H
  go_enter Tryd.func48, Tryd.ntmps48
  go_upto_if 4 with (fail)
  go_cut [4] (fun v4 wc => ∃ (kq : Nat) (x4_1 : Bool), v4 = .bool x4_1 ∧ Aside0 (seedcornref07_Parts.j0 kq a0 a0 x4_1 = some r) ∧ Aside0 (kq ≤ k) ∧ Drawn0 w wc)
  case first =>
    have H := HC2.out
    clear HC2
    by_cases c3 : a0 = 1
    · rw [if_pos c3] at H
      have c3b0 : (a0 == 1) = true := beq_iff_eq.mpr c3
      have c3b1 : (a0 != 1) = false := bne_eq_false_iff_eq.mpr c3
      clear c3
      (first | rw [c3b0] | (simp only [i64_w, i32_w]; rw [c3b0]) | skip)
      have H' := Aside0.mk H
      clear H
      go_wp2
      go_meet
      case rel => exact ⟨_, ((a0 == 1)), (by first | rfl | (simp; done) | (simp [*]; done)), H', ⟨by first | omega | exact Nat.le_refl _⟩, by repeat (first | exact Drawn0.refl _ | apply Drawn0.step)⟩
    · rw [if_neg c3] at H
      have c3b0 : (a0 == 1) = false := beq_eq_false_iff_ne.mpr c3
      have c3b1 : (a0 != 1) = true := bne_iff_ne.mpr c3
      (first | rw [c3b0] | (simp only [i64_w, i32_w]; rw [c3b0]) | skip)
      by_cases c4 : a0 = 2
      · rw [if_pos c4] at H
        have c4b0 : (a0 == 2) = true := beq_iff_eq.mpr c4
        have c4b1 : (a0 != 2) = false := bne_eq_false_iff_eq.mpr c4
        clear c4
        have H' := Aside0.mk H
        clear H
        go_wp2
        go_meet
        case rel => exact ⟨_, ((a0 == 2)), (by first | rfl | (simp; done) | (simp [*]; done)), H', ⟨by first | omega | exact Nat.le_refl _⟩, by repeat (first | exact Drawn0.refl _ | apply Drawn0.step)⟩
      · rw [if_neg c4] at H
        have c4b0 : (a0 == 2) = false := beq_eq_false_iff_ne.mpr c4
        have c4b1 : (a0 != 2) = true := bne_iff_ne.mpr c4
        by_cases c5 : a0 = 19
        · rw [if_pos c5] at H
          have c5b0 : (a0 == 19) = true := beq_iff_eq.mpr c5
          have c5b1 : (a0 != 19) = false := bne_eq_false_iff_eq.mpr c5
          clear c5
          have H' := Aside0.mk H
          clear H
          go_wp2
          go_meet
          case rel => exact ⟨_, ((a0 == 19)), (by first | rfl | (simp; done) | (simp [*]; done)), H', ⟨by first | omega | exact Nat.le_refl _⟩, by repeat (first | exact Drawn0.refl _ | apply Drawn0.step)⟩
        · rw [if_neg c5] at H
          have c5b0 : (a0 == 19) = false := beq_eq_false_iff_ne.mpr c5
          have c5b1 : (a0 != 19) = true := bne_iff_ne.mpr c5
          by_cases c6 : a0 = 20
          · rw [if_pos c6] at H
            have c6b0 : (a0 == 20) = true := beq_iff_eq.mpr c6
            have c6b1 : (a0 != 20) = false := bne_eq_false_iff_eq.mpr c6
            clear c6
            have H' := Aside0.mk H
            clear H
            go_wp2
            go_meet
            case rel => exact ⟨_, ((a0 == 20)), (by first | rfl | (simp; done) | (simp [*]; done)), H', ⟨by first | omega | exact Nat.le_refl _⟩, by repeat (first | exact Drawn0.refl _ | apply Drawn0.step)⟩
          · rw [if_neg c6] at H
            have c6b0 : (a0 == 20) = false := beq_eq_false_iff_ne.mpr c6
            have c6b1 : (a0 != 20) = true := bne_iff_ne.mpr c6
            by_cases c7 : a0 = 21
            · rw [if_pos c7] at H
              have c7b0 : (a0 == 21) = true := beq_iff_eq.mpr c7
              have c7b1 : (a0 != 21) = false := bne_eq_false_iff_eq.mpr c7
              clear c7
              have H' := Aside0.mk H
              clear H
              go_wp2
              go_meet
              case rel => exact ⟨_, ((a0 == 21)), (by first | rfl | (simp; done) | (simp [*]; done)), H', ⟨by first | omega | exact Nat.le_refl _⟩, by repeat (first | exact Drawn0.refl _ | apply Drawn0.step)⟩
            · rw [if_neg c7] at H
              have c7b0 : (a0 == 21) = false := beq_eq_false_iff_ne.mpr c7
              have c7b1 : (a0 != 21) = true := bne_iff_ne.mpr c7
              have H' := Aside0.mk H
              clear H
              go_wp2
              go_meet
              case rel => exact ⟨_, ((a0 == 25)), (by first | rfl | (simp; done) | (simp [*]; done)), H', ⟨by first | omega | exact Nat.le_refl _⟩, by repeat (first | exact Drawn0.refl _ | apply Drawn0.step)⟩
  case rest =>
    clear HC2
    try clear p2
    try clear c3
    try clear c3b0
    try clear c3b1
    try clear c4
    try clear c4b0
    try clear c4b1
    try clear c5
    try clear c5b0
    try clear c5b1
    try clear c6
    try clear c6b0
    try clear c6b1
    try clear c7
    try clear c7b0
    try clear c7b1
    obtain ⟨kq, x4_1, rfl, HA, HJ1, ⟨mc1, rfl⟩⟩ := hcut
    cases kq with
    | zero => exact absurd HA.out (by simp [seedcornref07_Parts.j0])
    | succ kj1 =>
      have H := HA.out
      clear HA
      simp only [seedcornref07_Parts.j0] at H
      by_cases c8 : x4_1 = true
      · subst c8
        have H1 : (some (⟨#[97, 99]⟩ : ByteArray)) = some r := by rw [if_pos rfl] at H; exact H
        clear H
        have H := H1
        clear H1
        obtain rfl := Option.some.inj H
        go_wp2
        go_ret
        exact ⟨by first | rfl | (simp; done) | (simp [*]; done), by repeat (first | exact Drawn0.refl _ | apply Drawn0.step)⟩
      · replace c8 := Bool.eq_false_iff.mpr c8
        subst c8
        have H1 : (if a0 = 3 then (some (⟨#[97, 98]⟩ : ByteArray)) else (if a0 = 16 then (seedcornref07_Parts.j1 kj1 a0 a0 (a0 == 16)) else (if a0 = 17 then (seedcornref07_Parts.j1 kj1 a0 a0 (a0 == 17)) else (seedcornref07_Parts.j1 kj1 a0 a0 (a0 == 27))))) = some r := by rw [if_neg (show ¬ (false = true) by decide)] at H; exact H
        clear H
        have H := H1
        clear H1
        by_cases c9 : a0 = 3
        · rw [if_pos c9] at H
          have c9b0 : (a0 == 3) = true := beq_iff_eq.mpr c9
          have c9b1 : (a0 != 3) = false := bne_eq_false_iff_eq.mpr c9
          clear c9
          obtain rfl := Option.some.inj H
          go_wp2
          go_ret
          exact ⟨by first | rfl | (simp; done) | (simp [*]; done), by repeat (first | exact Drawn0.refl _ | apply Drawn0.step)⟩
        · rw [if_neg c9] at H
          have c9b0 : (a0 == 3) = false := beq_eq_false_iff_ne.mpr c9
          have c9b1 : (a0 != 3) = true := bne_iff_ne.mpr c9
          have HC10 := Aside0.mk H
          clear H
          go_upto_if 13 with (fail)
          go_cut [13] (fun v13 wc => ∃ (kq : Nat) (x13_9 : Bool), v13 = .bool x13_9 ∧ Aside0 (seedcornref07_Parts.j1 kq a0 a0 x13_9 = some r) ∧ Aside0 (kq ≤ kj1) ∧ Drawn0 w wc)
          case first =>
            have H := HC10.out
            clear HC10
            by_cases c11 : a0 = 16
            · rw [if_pos c11] at H
              have c11b0 : (a0 == 16) = true := beq_iff_eq.mpr c11
              have c11b1 : (a0 != 16) = false := bne_eq_false_iff_eq.mpr c11
              clear c11
              (first | rw [c11b0] | (simp only [i64_w, i32_w]; rw [c11b0]) | skip)
              have H' := Aside0.mk H
              clear H
              go_wp2
              go_meet
              case rel => exact ⟨_, ((a0 == 16)), (by first | rfl | (simp; done) | (simp [*]; done)), H', ⟨by have := HJ1.out; first | omega | exact Nat.le_refl _⟩, by repeat (first | exact Drawn0.refl _ | apply Drawn0.step)⟩
            · rw [if_neg c11] at H
              have c11b0 : (a0 == 16) = false := beq_eq_false_iff_ne.mpr c11
              have c11b1 : (a0 != 16) = true := bne_iff_ne.mpr c11
              (first | rw [c11b0] | (simp only [i64_w, i32_w]; rw [c11b0]) | skip)
              by_cases c12 : a0 = 17
              · rw [if_pos c12] at H
                have c12b0 : (a0 == 17) = true := beq_iff_eq.mpr c12
                have c12b1 : (a0 != 17) = false := bne_eq_false_iff_eq.mpr c12
                clear c12
                have H' := Aside0.mk H
                clear H
                go_wp2
                go_meet
                case rel => exact ⟨_, ((a0 == 17)), (by first | rfl | (simp; done) | (simp [*]; done)), H', ⟨by have := HJ1.out; first | omega | exact Nat.le_refl _⟩, by repeat (first | exact Drawn0.refl _ | apply Drawn0.step)⟩
              · rw [if_neg c12] at H
                have c12b0 : (a0 == 17) = false := beq_eq_false_iff_ne.mpr c12
                have c12b1 : (a0 != 17) = true := bne_iff_ne.mpr c12
                have H' := Aside0.mk H
                clear H
                go_wp2
                go_meet
                case rel => exact ⟨_, ((a0 == 27)), (by first | rfl | (simp; done) | (simp [*]; done)), H', ⟨by have := HJ1.out; first | omega | exact Nat.le_refl _⟩, by repeat (first | exact Drawn0.refl _ | apply Drawn0.step)⟩
          case rest =>
            clear HC10
            try clear c1
            try clear p2
            try clear c3
            try clear c3b0
            try clear c3b1
            try clear c4
            try clear c4b0
            try clear c4b1
            try clear c5
            try clear c5b0
            try clear c5b1
            try clear c6
            try clear c6b0
            try clear c6b1
            try clear c7
            try clear c7b0
            try clear c7b1
            try clear c8
            try clear c9
            try clear c9b0
            try clear c9b1
            try clear c11
            try clear c11b0
            try clear c11b1
            try clear c12
            try clear c12b0
            try clear c12b1
            try clear p2
            obtain ⟨kq, x13_9, rfl, HA, HJ9, ⟨mc9, rfl⟩⟩ := hcut
            cases kq with
            | zero => exact absurd HA.out (by simp [seedcornref07_Parts.j1])
            | succ kj9 =>
              have H := HA.out
              clear HA
              simp only [seedcornref07_Parts.j1] at H
              by_cases c13 : x13_9 = true
              · subst c13
                have H1 : (some (⟨#[97, 98, 99]⟩ : ByteArray)) = some r := by rw [if_pos rfl] at H; exact H
                clear H
                have H := H1
                clear H1
                obtain rfl := Option.some.inj H
                go_wp2
                go_ret
                exact ⟨by first | rfl | (simp; done) | (simp [*]; done), by repeat (first | exact Drawn0.refl _ | apply Drawn0.step)⟩
              · replace c13 := Bool.eq_false_iff.mpr c13
                subst c13
                have H1 : (if a0 = 18 then (some (⟨#[99]⟩ : ByteArray)) else (if a0 = 22 then (seedcornref07_Parts.j2 kj9 a0 a0 (a0 == 22)) else (if a0 = 23 then (seedcornref07_Parts.j2 kj9 a0 a0 (a0 == 23)) else (seedcornref07_Parts.j2 kj9 a0 a0 (a0 == 24))))) = some r := by rw [if_neg (show ¬ (false = true) by decide)] at H; exact H
                clear H
                have H := H1
                clear H1
                by_cases c14 : a0 = 18
                · rw [if_pos c14] at H
                  have c14b0 : (a0 == 18) = true := beq_iff_eq.mpr c14
                  have c14b1 : (a0 != 18) = false := bne_eq_false_iff_eq.mpr c14
                  clear c14
                  obtain rfl := Option.some.inj H
                  go_wp2
                  go_ret
                  exact ⟨by first | rfl | (simp; done) | (simp [*]; done), by repeat (first | exact Drawn0.refl _ | apply Drawn0.step)⟩
                · rw [if_neg c14] at H
                  have c14b0 : (a0 == 18) = false := beq_eq_false_iff_ne.mpr c14
                  have c14b1 : (a0 != 18) = true := bne_iff_ne.mpr c14
                  have HC15 := Aside0.mk H
                  clear H
                  go_upto_if 19 with (fail)
                  go_cut [19] (fun v19 wc => ∃ (kq : Nat) (x19_14 : Bool), v19 = .bool x19_14 ∧ Aside0 (seedcornref07_Parts.j2 kq a0 a0 x19_14 = some r) ∧ Aside0 (kq ≤ kj9) ∧ Drawn0 w wc)
                  case first =>
                    have H := HC15.out
                    clear HC15
                    by_cases c16 : a0 = 22
                    · rw [if_pos c16] at H
                      have c16b0 : (a0 == 22) = true := beq_iff_eq.mpr c16
                      have c16b1 : (a0 != 22) = false := bne_eq_false_iff_eq.mpr c16
                      clear c16
                      (first | rw [c16b0] | (simp only [i64_w, i32_w]; rw [c16b0]) | skip)
                      have H' := Aside0.mk H
                      clear H
                      go_wp2
                      go_meet
                      case rel => exact ⟨_, ((a0 == 22)), (by first | rfl | (simp; done) | (simp [*]; done)), H', ⟨by have := HJ1.out; have := HJ9.out; first | omega | exact Nat.le_refl _⟩, by repeat (first | exact Drawn0.refl _ | apply Drawn0.step)⟩
                    · rw [if_neg c16] at H
                      have c16b0 : (a0 == 22) = false := beq_eq_false_iff_ne.mpr c16
                      have c16b1 : (a0 != 22) = true := bne_iff_ne.mpr c16
                      (first | rw [c16b0] | (simp only [i64_w, i32_w]; rw [c16b0]) | skip)
                      by_cases c17 : a0 = 23
                      · rw [if_pos c17] at H
                        have c17b0 : (a0 == 23) = true := beq_iff_eq.mpr c17
                        have c17b1 : (a0 != 23) = false := bne_eq_false_iff_eq.mpr c17
                        clear c17
                        have H' := Aside0.mk H
                        clear H
                        go_wp2
                        go_meet
                        case rel => exact ⟨_, ((a0 == 23)), (by first | rfl | (simp; done) | (simp [*]; done)), H', ⟨by have := HJ1.out; have := HJ9.out; first | omega | exact Nat.le_refl _⟩, by repeat (first | exact Drawn0.refl _ | apply Drawn0.step)⟩
                      · rw [if_neg c17] at H
                        have c17b0 : (a0 == 23) = false := beq_eq_false_iff_ne.mpr c17
                        have c17b1 : (a0 != 23) = true := bne_iff_ne.mpr c17
                        have H' := Aside0.mk H
                        clear H
                        go_wp2
                        go_meet
                        case rel => exact ⟨_, ((a0 == 24)), (by first | rfl | (simp; done) | (simp [*]; done)), H', ⟨by have := HJ1.out; have := HJ9.out; first | omega | exact Nat.le_refl _⟩, by repeat (first | exact Drawn0.refl _ | apply Drawn0.step)⟩
                  case rest =>
                    clear HC15
                    try clear c1
                    try clear p2
                    try clear c3
                    try clear c3b0
                    try clear c3b1
                    try clear c4
                    try clear c4b0
                    try clear c4b1
                    try clear c5
                    try clear c5b0
                    try clear c5b1
                    try clear c6
                    try clear c6b0
                    try clear c6b1
                    try clear c7
                    try clear c7b0
                    try clear c7b1
                    try clear c8
                    try clear c9
                    try clear c9b0
                    try clear c9b1
                    try clear c11
                    try clear c11b0
                    try clear c11b1
                    try clear c12
                    try clear c12b0
                    try clear c12b1
                    try clear c13
                    try clear c14
                    try clear c14b0
                    try clear c14b1
                    try clear c16
                    try clear c16b0
                    try clear c16b1
                    try clear c17
                    try clear c17b0
                    try clear c17b1
                    try clear p2
                    obtain ⟨kq, x19_14, rfl, HA, HJ14, ⟨mc14, rfl⟩⟩ := hcut
                    cases kq with
                    | zero => exact absurd HA.out (by simp [seedcornref07_Parts.j2])
                    | succ kj14 =>
                      have H := HA.out
                      clear HA
                      simp only [seedcornref07_Parts.j2] at H
                      by_cases c18 : x19_14 = true
                      · subst c18
                        have H1 : (some (⟨#[97]⟩ : ByteArray)) = some r := by rw [if_pos rfl] at H; exact H
                        clear H
                        have H := H1
                        clear H1
                        obtain rfl := Option.some.inj H
                        go_wp2
                        go_ret
                        exact ⟨by first | rfl | (simp; done) | (simp [*]; done), by repeat (first | exact Drawn0.refl _ | apply Drawn0.step)⟩
                      · replace c18 := Bool.eq_false_iff.mpr c18
                        subst c18
                        have H1 : (if a0 = 26 then (some (⟨#[]⟩ : ByteArray)) else (if a0 ≥ 4 then (if a0 ≤ 15 then (some (⟨#[97, 98, 114]⟩ : ByteArray)) else (some (⟨#[63]⟩ : ByteArray))) else (some (⟨#[63]⟩ : ByteArray)))) = some r := by rw [if_neg (show ¬ (false = true) by decide)] at H; exact H
                        clear H
                        have H := H1
                        clear H1
                        by_cases c19 : a0 = 26
                        · rw [if_pos c19] at H
                          have c19b0 : (a0 == 26) = true := beq_iff_eq.mpr c19
                          have c19b1 : (a0 != 26) = false := bne_eq_false_iff_eq.mpr c19
                          clear c19
                          obtain rfl := Option.some.inj H
                          go_wp2
                          go_ret
                          exact ⟨by first | rfl | (simp; done) | (simp [*]; done), by repeat (first | exact Drawn0.refl _ | apply Drawn0.step)⟩
                        · rw [if_neg c19] at H
                          have c19b0 : (a0 == 26) = false := beq_eq_false_iff_ne.mpr c19
                          have c19b1 : (a0 != 26) = true := bne_iff_ne.mpr c19
                          by_cases c20 : a0 ≥ 4
                          · rw [if_pos c20] at H
                            have c20b0 : decide (4 ≤ a0) = true := decide_eq_true c20
                            clear c20
                            by_cases c21 : a0 ≤ 15
                            · rw [if_pos c21] at H
                              have c21b0 : decide (a0 ≤ 15) = true := decide_eq_true c21
                              clear c21
                              obtain rfl := Option.some.inj H
                              go_wp2
                              go_ret
                              exact ⟨by first | rfl | (simp; done) | (simp [*]; done), by repeat (first | exact Drawn0.refl _ | apply Drawn0.step)⟩
                            · rw [if_neg c21] at H
                              have c21b0 : decide (a0 ≤ 15) = false := decide_eq_false c21
                              clear c21
                              obtain rfl := Option.some.inj H
                              go_wp2
                              go_ret
                              exact ⟨by first | rfl | (simp; done) | (simp [*]; done), by repeat (first | exact Drawn0.refl _ | apply Drawn0.step)⟩
                          · rw [if_neg c20] at H
                            have c20b0 : decide (4 ≤ a0) = false := decide_eq_false c20
                            clear c20
                            obtain rfl := Option.some.inj H
                            go_wp2
                            go_ret
                            exact ⟨by first | rfl | (simp; done) | (simp [*]; done), by repeat (first | exact Drawn0.refl _ | apply Drawn0.step)⟩
end Go.Proofs.YtdhkmdgieflioaaDoor.F
namespace Go.Proofs.YtdhkmdgieflioaaDoor.F
open Go.RowKit Go.Proofs.YtdhkmdgieflioaaDoorW.PrintWords Go.Proofs.YtdhkmdgieflioaaDoorW.PrintLast Go.Proofs.YtdhkmdgieflioaaDoorW.PrintMore
attribute [local go_sem] max2_int min2_int max_two min_two max_three min_three max_four min_four
set_option linter.unusedVariables false
set_option linter.unusedSimpArgs false
def seedcornref07_has.l0 : Nat → ByteArray → Int → Int → Option (Bool)
  | 0, _, _, _ => none
  | k + 1, x0, x1, x5 => if x5 < (x0.size : Int) then (if 0 ≤ x5 then (if (bt x0 x5) = x1 then (some true) else (seedcornref07_has.l0 k x0 x1 (wrap64 (x5 + 1)))) else (none)) else (some false)
def seedcornref07_has.f (k : Nat) (a0 : ByteArray) (a1 : Int) : Option (Bool) := seedcornref07_has.l0 k a0 a1 0
theorem seedcornref07_has.mono_l : ∀ k, (∀ y0 y1 y2, LeO (seedcornref07_has.l0 k y0 y1 y2) (seedcornref07_has.l0 (k + 1) y0 y1 y2))
  | 0 => fun _ _ _ r h => by simp [seedcornref07_has.l0] at h
  | k + 1 => by
    have ih0 := seedcornref07_has.mono_l k
    · intro y0 y1 y2
      unfold seedcornref07_has.l0
      repeat' first
      | (with_reducible exact ih0 _ _ _)
      | (with_reducible exact LeO.refl _)
      | (with_reducible exact LeO.none _)
      | (with_reducible refine LeO.ite ?_ ?_)
      | (with_reducible refine LeO.bind ?_ (fun _ => ?_))
      | exact ih0 _ _ _
      | exact LeO.none _
      | refine LeO.ite ?_ ?_
      | refine LeO.bind ?_ (fun _ => ?_)
theorem seedcornref07_has.mono : ∀ a0 a1 k, LeO (seedcornref07_has.f k a0 a1) (seedcornref07_has.f (k + 1) a0 a1) := by
  intro a0 a1 k
  have ih0 := seedcornref07_has.mono_l k
  unfold seedcornref07_has.f
  repeat' first
      | (with_reducible exact ih0 _ _ _)
      | (with_reducible exact LeO.refl _)
      | (with_reducible exact LeO.none _)
      | (with_reducible refine LeO.ite ?_ ?_)
      | (with_reducible refine LeO.bind ?_ (fun _ => ?_))
      | exact ih0 _ _ _
      | exact LeO.none _
      | refine LeO.ite ?_ ?_
      | refine LeO.bind ?_ (fun _ => ?_)
set_option maxHeartbeats 8000000 in
set_option maxRecDepth 100000 in
theorem seedcornref07_has.calls (k : Nat) (a0 : ByteArray) (a1 : Int) (r : Bool) (w : World) (h : seedcornref07_has.f k a0 a1 = some r) :
    Calls Tryd.prog 77 #[.string a0, .int .u8 a1] w fun e w' => e = .returned (.bool r) ∧ Drawn0 w w' := by
  have H : (seedcornref07_has.l0 k a0 a1 0) = some r := h
  clear h
  have H' := Aside0.mk H
  clear H
  go_enter Tryd.func77, Tryd.ntmps77
  go_wp2
  go_loopg [5] k (fun kq v5 w' => ∃ (x5_1 : Int), v5 = .int .i64 x5_1 ∧ Aside0 (seedcornref07_has.l0 kq a0 a1 x5_1 = some r) ∧ Aside0 (kq ≤ k) ∧ Drawn0 w w')
  case atStart => exact ⟨(0), (by first | rfl | (simp; done) | (simp [*]; done)), H', ⟨Nat.le_refl _⟩, by repeat (first | exact Drawn0.refl _ | apply Drawn0.step)⟩
  case round =>
    clear H'
    try clear p2
    obtain ⟨x5_1, rfl, HA, HK1, ⟨m1, rfl⟩⟩ := hrel
    cases gk with
    | zero => exact absurd HA.out (by simp [seedcornref07_has.l0])
    | succ k1 =>
      have H := HA.out
      clear HA
      simp only [seedcornref07_has.l0] at H
      by_cases c3 : x5_1 < (a0.size : Int)
      · rw [if_pos c3] at H
        have c3b0 : decide (x5_1 < (a0.size : Int)) = true := decide_eq_true c3
        clear c3
        by_cases c4 : 0 ≤ x5_1
        · rw [if_pos c4] at H
          have c4b0 : decide (0 ≤ x5_1) = true := decide_eq_true c4
          clear c4
          by_cases c6 : (bt a0 x5_1) = a1
          · rw [if_pos c6] at H
            have c6b0 : ((bt a0 x5_1) == a1) = true := beq_iff_eq.mpr c6
            have c6b1 : ((bt a0 x5_1) != a1) = false := bne_eq_false_iff_eq.mpr c6
            clear c6
            obtain rfl := Option.some.inj H
            have p5 : 0 ≤ (x5_1 : Int) := of_decide_eq_true (by first | (with_reducible assumption) | assumption)
            have q5 : x5_1 < (a0.size : Int) := of_decide_eq_true (by first | (with_reducible assumption) | assumption)
            have hx5 := bt_at a0 x5_1
            replace p5 := eq_true p5
            replace q5 := eq_true q5
            go_wp2
            go_ret
            exact ⟨by first | rfl | (simp; done) | (simp [*]; done), by repeat (first | exact Drawn0.refl _ | apply Drawn0.step)⟩
          · rw [if_neg c6] at H
            have c6b0 : ((bt a0 x5_1) == a1) = false := beq_eq_false_iff_ne.mpr c6
            have c6b1 : ((bt a0 x5_1) != a1) = true := bne_iff_ne.mpr c6
            have H' := Aside0.mk H
            clear H
            have p5 : 0 ≤ (x5_1 : Int) := of_decide_eq_true (by first | (with_reducible assumption) | assumption)
            have q5 : x5_1 < (a0.size : Int) := of_decide_eq_true (by first | (with_reducible assumption) | assumption)
            have hx5 := bt_at a0 x5_1
            replace p5 := eq_true p5
            replace q5 := eq_true q5
            go_wp2
            go_roundg k1
            case measure => have := HK1.out; omega
            case rel => exact ⟨(wrap64 (x5_1 + 1)), (by first | rfl | (simp; done) | (simp [*]; done)), H', ⟨by have := HK1.out; omega⟩, by repeat (first | exact Drawn0.refl _ | apply Drawn0.step)⟩
        · rw [if_neg c4] at H
          exact absurd H (by simp)
      · rw [if_neg c3] at H
        have c3b0 : decide (x5_1 < (a0.size : Int)) = false := decide_eq_false c3
        clear c3
        obtain rfl := Option.some.inj H
        go_wp2
        go_ret
        exact ⟨by first | rfl | (simp; done) | (simp [*]; done), by repeat (first | exact Drawn0.refl _ | apply Drawn0.step)⟩
end Go.Proofs.YtdhkmdgieflioaaDoor.F
namespace Go.Proofs.YtdhkmdgieflioaaDoor.F
open Go.RowKit Go.Proofs.YtdhkmdgieflioaaDoorW.PrintWords Go.Proofs.YtdhkmdgieflioaaDoorW.PrintLast Go.Proofs.YtdhkmdgieflioaaDoorW.PrintMore
attribute [local go_sem] max2_int min2_int max_two min_two max_three min_three max_four min_four
set_option linter.unusedVariables false
set_option linter.unusedSimpArgs false
def seedcornref07_within.f (a0 : Bool) (a1 : Int) (a2 : Int) : Option (Bool) := if a0 = true then (if a1 ≥ 0 then (some (decide (a1 ≤ a2))) else (some false)) else (some (a1 == 0))
set_option maxHeartbeats 8000000 in
set_option maxRecDepth 100000 in
theorem seedcornref07_within.calls (a0 : Bool) (a1 : Int) (a2 : Int) (r : Bool) (w : World) (h : seedcornref07_within.f a0 a1 a2 = some r) :
    Calls Tryd.prog 78 #[.bool a0, .int .i64 a1, .int .i64 a2] w fun e w' => e = .returned (.bool r) ∧ Drawn0 w w' := by
  have H : (if a0 = true then (if a1 ≥ 0 then (some (decide (a1 ≤ a2))) else (some false)) else (some (a1 == 0))) = some r := h
  clear h
  by_cases c4 : a0 = true
  · subst c4
    have H1 : (if a1 ≥ 0 then (some (decide (a1 ≤ a2))) else (some false)) = some r := by rw [if_pos rfl] at H; exact H
    clear H
    have H := H1
    clear H1
    by_cases c5 : a1 ≥ 0
    · rw [if_pos c5] at H
      have c5b0 : decide (0 ≤ a1) = true := decide_eq_true c5
      clear c5
      obtain rfl := Option.some.inj H
      go_enter Tryd.func78, Tryd.ntmps78
      go_wp2
      go_ret
      exact ⟨by first | rfl | (simp; done) | (simp [*]; done), by repeat (first | exact Drawn0.refl _ | apply Drawn0.step)⟩
    · rw [if_neg c5] at H
      have c5b0 : decide (0 ≤ a1) = false := decide_eq_false c5
      clear c5
      obtain rfl := Option.some.inj H
      go_enter Tryd.func78, Tryd.ntmps78
      go_wp2
      go_ret
      exact ⟨by first | rfl | (simp; done) | (simp [*]; done), by repeat (first | exact Drawn0.refl _ | apply Drawn0.step)⟩
  · replace c4 := Bool.eq_false_iff.mpr c4
    subst c4
    have H1 : (some (a1 == 0)) = some r := by rw [if_neg (show ¬ (false = true) by decide)] at H; exact H
    clear H
    have H := H1
    clear H1
    obtain rfl := Option.some.inj H
    go_enter Tryd.func78, Tryd.ntmps78
    go_wp2
    go_ret
    exact ⟨by first | rfl | (simp; done) | (simp [*]; done), by repeat (first | exact Drawn0.refl _ | apply Drawn0.step)⟩
end Go.Proofs.YtdhkmdgieflioaaDoor.F
namespace Go.Proofs.YtdhkmdgieflioaaDoor.F
open Go.RowKit Go.Proofs.YtdhkmdgieflioaaDoorW.PrintWords Go.Proofs.YtdhkmdgieflioaaDoorW.PrintLast Go.Proofs.YtdhkmdgieflioaaDoorW.PrintMore
set_option linter.unusedVariables false
set_option linter.unusedSimpArgs false
def seedcornref07_Right.f (a0_0 : Int) (a0_1 : Int) (a0_2 : Int) (a0_3 : Int) : Option Bool :=
  (seedcornref07_Parts.f 40 a0_0).bind fun p => (seedcornref07_has.f 40 p 114).bind fun hr => (seedcornref07_has.f 40 p 97).bind fun ha => (seedcornref07_has.f 40 p 98).bind fun hb => (seedcornref07_has.f 40 p 99).bind fun hc =>
    (seedcornref07_within.f ha a0_1 15).bind fun wa => (seedcornref07_within.f hb a0_2 15).bind fun wb => (seedcornref07_within.f (hc || hr) a0_3 (if hr = true then 15 else 65535)).bind fun wc => some ((!(p.toList == [63])) && (wa && (wb && wc)))
set_option maxHeartbeats 8000000 in
set_option maxRecDepth 100000 in
theorem seedcornref07_Right.calls (a0_0 : Int) (a0_1 : Int) (a0_2 : Int) (a0_3 : Int) (r : Bool) (w : World) (h : seedcornref07_Right.f a0_0 a0_1 a0_2 a0_3 = some r) :
    Calls Tryd.prog 41 #[.agg #[.int .i64 a0_0, .int .i64 a0_1, .int .i64 a0_2, .int .i64 a0_3]] w fun e w' => e = .returned (.bool r) ∧ Below w.heap.size w w' := by
  unfold seedcornref07_Right.f at h
  obtain ⟨p, hp, h⟩ := Option.bind_eq_some_iff.mp h
  obtain ⟨hr, hhr, h⟩ := Option.bind_eq_some_iff.mp h
  obtain ⟨ha, hha, h⟩ := Option.bind_eq_some_iff.mp h
  obtain ⟨hb, hhb, h⟩ := Option.bind_eq_some_iff.mp h
  obtain ⟨hc, hhc, h⟩ := Option.bind_eq_some_iff.mp h
  obtain ⟨wa, hwa, h⟩ := Option.bind_eq_some_iff.mp h
  obtain ⟨wb, hwb, h⟩ := Option.bind_eq_some_iff.mp h
  obtain ⟨wc, hwc, h⟩ := Option.bind_eq_some_iff.mp h
  have hu46 := Tryd.underlying46
  have hu3 := Tryd.underlying3
  have HP := Aside0.mk hp
  have QHR := Aside0.mk hhr
  have QHA := Aside0.mk hha
  have QHB := Aside0.mk hhb
  have QHC := Aside0.mk hhc
  have WA := Aside0.mk hwa
  have WB := Aside0.mk hwb
  obtain rfl := Option.some.inj h
  clear h hp hhr hha hhb hhc hwa hwb
  obtain ⟨q, hq⟩ : ∃ q, (p.toList == [63]) = q := ⟨_, rfl⟩
  rw [hq]
  cases hr <;> (first | rw [if_pos rfl] at hwc | rw [if_neg (by decide)] at hwc) <;> (have WC := Aside0.mk hwc; clear hwc; cases q) <;> try (cases wa) <;> try (cases wb) <;> try (cases hc)
  all_goals try simp only [Bool.true_or, Bool.false_or, Bool.or_true, Bool.or_false] at WC
  all_goals
    go_enter Tryd.func41, Tryd.ntmps41
    go_wp2_with (first | ((with_reducible refine gate_dst (N := 1) rfl ?_); refine box_event ?hg (N := 1) ?hd (cs := #[.int .i64 a0_0, .int .i64 a0_1, .int .i64 a0_2, .int .i64 a0_3]) (t := 46) ?hr ?_; (case hd => rfl); (case hg => rfl); (case hr => first | (go_simp; done) | (go_simp; rfl)); intro gb hg w4 hbox hb; have HBL := Aside0.mk hb; have BK := Aside0.mk hbox; clear hb hbox hg; have f0 : w4.cell? ⟨gb, 0, none⟩ = some (.int .i64 a0_0) := (blk_cell BK.out 0).trans rfl; have f1 : w4.cell? ⟨gb, 1, none⟩ = some (.int .i64 a0_1) := (blk_cell BK.out 1).trans rfl; have f2 : w4.cell? ⟨gb, 2, none⟩ = some (.int .i64 a0_2) := (blk_cell BK.out 2).trans rfl; have f3 : w4.cell? ⟨gb, 3, none⟩ = some (.int .i64 a0_3) := (blk_cell BK.out 3).trans rfl) | (go_at_call 48; (with_reducible refine (seedcornref07_Parts.calls 40 a0_0 p _ HP.out).mono ?_); rintro e w1 ⟨rfl, ⟨n1, rfl⟩⟩) | (go_at_call 77; (with_reducible refine (seedcornref07_has.calls 40 p 114 _ _ QHR.out).mono ?_); rintro e w2 ⟨rfl, ⟨n2, rfl⟩⟩))
    go_quiet (first | ((with_reducible refine (seedcornref07_has.calls 40 p 97 _ _ QHA.out).mono ?_); rintro e w' ⟨rfl, ⟨nd, rfl⟩⟩; first | exact ⟨rfl, _, World.drewN_drewN _ _ _⟩ | exact ⟨rfl, _, Eq.trans (World.drewN_drewN _ _ _) (congrArg (World.drewN _) (Nat.add_assoc _ _ _))⟩ | exact ⟨rfl, _, by rw [World.drewN_drewN]; simp only [Nat.add_assoc]; rfl⟩) | ((with_reducible refine (seedcornref07_has.calls 40 p 98 _ _ QHB.out).mono ?_); rintro e w' ⟨rfl, ⟨nd, rfl⟩⟩; first | exact ⟨rfl, _, World.drewN_drewN _ _ _⟩ | exact ⟨rfl, _, Eq.trans (World.drewN_drewN _ _ _) (congrArg (World.drewN _) (Nat.add_assoc _ _ _))⟩ | exact ⟨rfl, _, by rw [World.drewN_drewN]; simp only [Nat.add_assoc]; rfl⟩) | ((with_reducible refine (seedcornref07_has.calls 40 p 99 _ _ QHC.out).mono ?_); rintro e w' ⟨rfl, ⟨nd, rfl⟩⟩; first | exact ⟨rfl, _, World.drewN_drewN _ _ _⟩ | exact ⟨rfl, _, Eq.trans (World.drewN_drewN _ _ _) (congrArg (World.drewN _) (Nat.add_assoc _ _ _))⟩ | exact ⟨rfl, _, by rw [World.drewN_drewN]; simp only [Nat.add_assoc]; rfl⟩) | ((with_reducible refine (seedcornref07_has.calls 40 p 114 _ _ QHR.out).mono ?_); rintro e w' ⟨rfl, ⟨nd, rfl⟩⟩; first | exact ⟨rfl, _, World.drewN_drewN _ _ _⟩ | exact ⟨rfl, _, Eq.trans (World.drewN_drewN _ _ _) (congrArg (World.drewN _) (Nat.add_assoc _ _ _))⟩ | exact ⟨rfl, _, by rw [World.drewN_drewN]; simp only [Nat.add_assoc]; rfl⟩) | ((with_reducible refine (seedcornref07_within.calls _ a0_1 15 _ _ WA.out).mono ?_); rintro e w' ⟨rfl, ⟨nd, rfl⟩⟩; first | exact ⟨rfl, _, World.drewN_drewN _ _ _⟩ | exact ⟨rfl, _, Eq.trans (World.drewN_drewN _ _ _) (congrArg (World.drewN _) (Nat.add_assoc _ _ _))⟩ | exact ⟨rfl, _, by rw [World.drewN_drewN]; simp only [Nat.add_assoc]; rfl⟩) | ((with_reducible refine (seedcornref07_within.calls _ a0_2 15 _ _ WB.out).mono ?_); rintro e w' ⟨rfl, ⟨nd, rfl⟩⟩; first | exact ⟨rfl, _, World.drewN_drewN _ _ _⟩ | exact ⟨rfl, _, Eq.trans (World.drewN_drewN _ _ _) (congrArg (World.drewN _) (Nat.add_assoc _ _ _))⟩ | exact ⟨rfl, _, by rw [World.drewN_drewN]; simp only [Nat.add_assoc]; rfl⟩) | ((with_reducible refine (seedcornref07_within.calls _ a0_3 _ _ _ WC.out).mono ?_); rintro e w' ⟨rfl, ⟨nd, rfl⟩⟩; first | exact ⟨rfl, _, World.drewN_drewN _ _ _⟩ | exact ⟨rfl, _, Eq.trans (World.drewN_drewN _ _ _) (congrArg (World.drewN _) (Nat.add_assoc _ _ _))⟩ | exact ⟨rfl, _, by rw [World.drewN_drewN]; simp only [Nat.add_assoc]; rfl⟩))
    go_wp2
    go_ret
    exact ⟨by first | rfl | simp, by repeat (first | exact HBL.out | apply pw_below_drewN)⟩
end Go.Proofs.YtdhkmdgieflioaaDoor.F
namespace Go.Proofs.YtdhkmdgieflioaaDoor.F
open Go.RowKit Go.Proofs.YtdhkmdgieflioaaDoorW.PrintWords Go.Proofs.YtdhkmdgieflioaaDoorW.PrintLast Go.Proofs.YtdhkmdgieflioaaDoorW.PrintMore
set_option linter.unusedVariables false
set_option linter.unusedSimpArgs false
def seedcornref07_Decode.f (a0 : Int) : Option (Int × Int × Int × Int × Int) := if 0 ≤ a0 ∧ a0 < 4294967296 then ((seedcornref07_Right.f (a0 / 16777216) (a0 / 1048576 % 16) (a0 / 65536 % 16) (a0 % 65536)).bind fun t115 => (if t115 = true then (some (a0 / 16777216, a0 / 1048576 % 16, a0 / 65536 % 16, a0 % 65536, 0)) else (some (0, 0, 0, 0, 7)))) else none
set_option maxHeartbeats 8000000 in
set_option maxRecDepth 100000 in
theorem seedcornref07_Decode.calls (a0 : Int) (r1 : Int) (r2 : Int) (r3 : Int) (r4 : Int) (r5 : Int) (w : World) (h : seedcornref07_Decode.f a0 = some (r1, r2, r3, r4, r5)) :
    Calls Tryd.prog 46 #[.int .u32 a0] w fun e w' => e = .returned (.tuple #[.agg #[.int .i64 r1, .int .i64 r2, .int .i64 r3, .int .i64 r4], .int .i64 r5]) ∧ Below w.heap.size w w' := by
  have hu46 := Tryd.underlying46
  have HB := Aside0.mk (Below.refl w.heap.size w)
  unfold seedcornref07_Decode.f at h
  by_cases hg : 0 ≤ a0 ∧ a0 < 4294967296
  rotate_left
  · rw [if_neg hg] at h; cases h
  rw [if_pos hg] at h
  obtain ⟨hg0, hg1⟩ := hg
  have H : ((seedcornref07_Right.f (a0 / 16777216) (a0 / 1048576 % 16) (a0 / 65536 % 16) (a0 % 65536)).bind fun t115 => (if t115 = true then (some (a0 / 16777216, a0 / 1048576 % 16, a0 / 65536 % 16, a0 % 65536, 0)) else (some (0, 0, 0, 0, 7)))) = some (r1, r2, r3, r4, r5) := h
  clear h
  replace H := Option.bind_eq_some_iff.mp H
  obtain ⟨t115, A20, H⟩ := H
  replace H : (if t115 = true then (some (a0 / 16777216, a0 / 1048576 % 16, a0 / 65536 % 16, a0 % 65536, 0)) else (some (0, 0, 0, 0, 7))) = some (r1, r2, r3, r4, r5) := H
  have A2 := Aside0.mk A20
  clear A20
  by_cases c3 : t115 = true
  · subst c3
    have H1 : (some (a0 / 16777216, a0 / 1048576 % 16, a0 / 65536 % 16, a0 % 65536, 0)) = some (r1, r2, r3, r4, r5) := by rw [if_pos rfl] at H; exact H
    clear H
    have H := H1
    clear H1
    simp only [Option.some.injEq, Prod.mk.injEq] at H
    obtain ⟨rfl, rfl, rfl, rfl, rfl⟩ := H
    go_enter Tryd.func46, Tryd.ntmps46
    go_wp2_with (first | ((with_reducible refine gate_dst (N := 2) rfl ?_); refine box_event ?hg (N := 2) ?hd (cs := #[.int .i64 0, .int .i64 0, .int .i64 0, .int .i64 0]) (t := 46) ?hr ?_; (case hd => rfl); (case hg => rfl); (case hr => first | (go_simp; done) | (go_simp; rfl)); intro gb113 hg w4 hbox hb; have n0_ := Aside0.mk (below_step (by repeat (first | (with_reducible first | exact HB.out | apply below_alloc | apply pw_below_drewN | apply below_drew1) | exact HB.out)) hb); have n1_ := Aside0.mk (hbox); have n2_ := Aside0.mk ((by rw [hg]; exact (below_size (by repeat (first | (with_reducible first | exact HB.out | apply below_alloc | apply pw_below_drewN | apply below_drew1) | exact HB.out))) : w.heap.size ≤ gb113)); have n3_ := Aside0.mk ((by rw [hg]; exact (below_size (by repeat (first | (with_reducible first | exact HB.out | apply below_alloc | apply pw_below_drewN | apply below_drew1) | exact HB.out))) : w.heap.size ≤ gb113)); clear HB; have HB := n0_; have BK113 := n1_; have GW113 := n2_; have GE113 := n3_; clear n0_ n1_ n2_ n3_; clear hb hbox hg) | ((with_reducible refine gate_dst (N := 4) rfl ?_); refine box_event ?hg (N := 4) ?hd (cs := #[.int .i64 0, .int .i64 0, .int .i64 0, .int .i64 0]) (t := 46) ?hr ?_; (case hd => rfl); (case hg => rfl); (case hr => first | (go_simp; done) | (go_simp; rfl)); intro gb114 hg w5 hbox hb; have n0_ := Aside0.mk (blk_below (g := gb113) (o := .cells #[.int .i64 0, .int .i64 0, .int .i64 0, .int .i64 0] 46 (0, 0)) (by (with_reducible repeat (first | refine blk_drewN ?_ _ | refine blk_drew ?_ | refine blk_alloc ?_ _)); exact BK113.out) hb); have n1_ := Aside0.mk (below_step (by repeat (first | (with_reducible first | exact HB.out | apply below_alloc | apply pw_below_drewN | apply below_drew1 | refine below_set ?_ GE113.out) | exact HB.out)) hb); have n2_ := Aside0.mk (hbox); have n3_ := Aside0.mk ((by rw [hg]; exact (below_size (by repeat (first | (with_reducible first | exact HB.out | apply below_alloc | apply pw_below_drewN | apply below_drew1 | refine below_set ?_ GE113.out) | exact HB.out))) : w.heap.size ≤ gb114)); have n4_ := Aside0.mk ((by rw [hg]; exact (below_size (by repeat (first | (with_reducible first | exact HB.out | apply below_alloc | apply pw_below_drewN | apply below_drew1 | refine below_set ?_ GE113.out) | exact HB.out))) : w.heap.size ≤ gb114)); have n5_ := Aside0.mk ((by rw [hg]; exact Nat.ne_of_lt (blk_lt (g := gb113) (o := .cells #[.int .i64 0, .int .i64 0, .int .i64 0, .int .i64 0] 46 (0, 0)) (by (with_reducible repeat (first | refine blk_drewN ?_ _ | refine blk_drew ?_ | refine blk_alloc ?_ _)); exact BK113.out)) : gb113 ≠ gb114)); have n6_ := Aside0.mk ((by rw [hg]; exact Nat.ne_of_gt (blk_lt (g := gb113) (o := .cells #[.int .i64 0, .int .i64 0, .int .i64 0, .int .i64 0] 46 (0, 0)) (by (with_reducible repeat (first | refine blk_drewN ?_ _ | refine blk_drew ?_ | refine blk_alloc ?_ _)); exact BK113.out)) : gb114 ≠ gb113)); clear BK113; clear HB; have BK113 := n0_; have HB := n1_; have BK114 := n2_; have GW114 := n3_; have GE114 := n4_; have NB113_114 := n5_; have NB114_113 := n6_; clear n0_ n1_ n2_ n3_ n4_ n5_ n6_; clear hb hbox hg; have hnb6 := NB114_113.out; have hnc6 := NB113_114.out; have hcz7_0 : w5.cell? ⟨gb114, 0, none⟩ = some (.int .i64 0) := (blk_cell BK114.out 0).trans rfl; have hcz7_1 : w5.cell? ⟨gb114, 1, none⟩ = some (.int .i64 0) := (blk_cell BK114.out 1).trans rfl; have hcz7_2 : w5.cell? ⟨gb114, 2, none⟩ = some (.int .i64 0) := (blk_cell BK114.out 2).trans rfl; have hcz7_3 : w5.cell? ⟨gb114, 3, none⟩ = some (.int .i64 0) := (blk_cell BK114.out 3).trans rfl; have hfz7_0 := blk_frozen BK114.out 0; have hfz7_1 := blk_frozen BK114.out 1; have hfz7_2 := blk_frozen BK114.out 2; have hfz7_3 := blk_frozen BK114.out 3) | ((with_reducible refine gate_callee (f := 41) rfl ?_); refine goesL_ (some 21) rfl rfl Tryd.func41 (by kernel_rfl) rfl #[.agg #[.int .i64 (a0 / 16777216), .int .i64 (a0 / 1048576 % 16), .int .i64 (a0 / 65536 % 16), .int .i64 (a0 % 65536)]] rfl (by (try simp only [List.map_toArray, List.map_cons, List.map_nil]); first | done | rfl | (simp only [List.length_drop, List.length_take]; rfl)) ?_; (with_reducible refine (seedcornref07_Right.calls (a0 / 16777216) (a0 / 1048576 % 16) (a0 / 65536 % 16) (a0 % 65536) true _ A2.out).mono ?_); rintro e w8 ⟨rfl, hb⟩; refine ⟨_, rfl, ?_⟩; have n0_ := Aside0.mk (blk_below (g := gb113) (o := .cells #[.int .i64 0, .int .i64 0, .int .i64 0, .int .i64 0] 46 (0, 0)) (by (with_reducible repeat (first | refine blk_drewN ?_ _ | refine blk_drew ?_ | refine blk_alloc ?_ _)); refine blk_far ?_ NB113_114.out _; (with_reducible repeat (first | refine blk_drewN ?_ _ | refine blk_drew ?_ | refine blk_alloc ?_ _)); refine blk_far ?_ NB113_114.out _; (with_reducible repeat (first | refine blk_drewN ?_ _ | refine blk_drew ?_ | refine blk_alloc ?_ _)); refine blk_far ?_ NB113_114.out _; (with_reducible repeat (first | refine blk_drewN ?_ _ | refine blk_drew ?_ | refine blk_alloc ?_ _)); refine blk_far ?_ NB113_114.out _; (with_reducible repeat (first | refine blk_drewN ?_ _ | refine blk_drew ?_ | refine blk_alloc ?_ _)); exact BK113.out) hb); have n1_ := Aside0.mk (blk_below (g := gb114) (o := .cells #[.int .i64 (a0 / 16777216), .int .i64 (a0 / 1048576 % 16), .int .i64 (a0 / 65536 % 16), .int .i64 (a0 % 65536)] 46 (0, 0)) (by (with_reducible repeat (first | refine blk_drewN ?_ _ | refine blk_drew ?_ | refine blk_alloc ?_ _)); refine blk_put (cs := #[.int .i64 (a0 / 16777216), .int .i64 (a0 / 1048576 % 16), .int .i64 (a0 / 65536 % 16), .int .i64 0]) ?_ 3 _ rfl; (with_reducible repeat (first | refine blk_drewN ?_ _ | refine blk_drew ?_ | refine blk_alloc ?_ _)); refine blk_put (cs := #[.int .i64 (a0 / 16777216), .int .i64 (a0 / 1048576 % 16), .int .i64 0, .int .i64 0]) ?_ 2 _ rfl; (with_reducible repeat (first | refine blk_drewN ?_ _ | refine blk_drew ?_ | refine blk_alloc ?_ _)); refine blk_put (cs := #[.int .i64 (a0 / 16777216), .int .i64 0, .int .i64 0, .int .i64 0]) ?_ 1 _ rfl; (with_reducible repeat (first | refine blk_drewN ?_ _ | refine blk_drew ?_ | refine blk_alloc ?_ _)); refine blk_put (cs := #[.int .i64 0, .int .i64 0, .int .i64 0, .int .i64 0]) ?_ 0 _ rfl; (with_reducible repeat (first | refine blk_drewN ?_ _ | refine blk_drew ?_ | refine blk_alloc ?_ _)); exact BK114.out) hb); have n2_ := Aside0.mk (below_step (by repeat (first | (with_reducible first | exact HB.out | apply below_alloc | apply pw_below_drewN | apply below_drew1 | refine below_set ?_ GE113.out | refine below_set ?_ GE114.out) | exact HB.out)) hb); clear BK113; clear BK114; clear HB; have BK113 := n0_; have BK114 := n1_; have HB := n2_; clear n0_ n1_ n2_; (try clear hb); (try clear hb2); (try clear hk); (try clear hi); have hcz9_0 : w8.cell? ⟨gb114, 0, none⟩ = some (.int .i64 (a0 / 16777216)) := (blk_cell BK114.out 0).trans rfl; have hcz9_1 : w8.cell? ⟨gb114, 1, none⟩ = some (.int .i64 (a0 / 1048576 % 16)) := (blk_cell BK114.out 1).trans rfl; have hcz9_2 : w8.cell? ⟨gb114, 2, none⟩ = some (.int .i64 (a0 / 65536 % 16)) := (blk_cell BK114.out 2).trans rfl; have hcz9_3 : w8.cell? ⟨gb114, 3, none⟩ = some (.int .i64 (a0 % 65536)) := (blk_cell BK114.out 3).trans rfl; have hfz9_0 := blk_frozen BK114.out 0; have hfz9_1 := blk_frozen BK114.out 1; have hfz9_2 := blk_frozen BK114.out 2; have hfz9_3 := blk_frozen BK114.out 3; have hcz10_0 : w8.cell? ⟨gb113, 0, none⟩ = some (.int .i64 0) := (blk_cell BK113.out 0).trans rfl; have hcz10_1 : w8.cell? ⟨gb113, 1, none⟩ = some (.int .i64 0) := (blk_cell BK113.out 1).trans rfl; have hcz10_2 : w8.cell? ⟨gb113, 2, none⟩ = some (.int .i64 0) := (blk_cell BK113.out 2).trans rfl; have hcz10_3 : w8.cell? ⟨gb113, 3, none⟩ = some (.int .i64 0) := (blk_cell BK113.out 3).trans rfl; have hfz10_0 := blk_frozen BK113.out 0; have hfz10_1 := blk_frozen BK113.out 1; have hfz10_2 := blk_frozen BK113.out 2; have hfz10_3 := blk_frozen BK113.out 3))
    refine bodyPost_ret (results_ct rfl _ _ gb113 46 #[.int .i64 (a0 / 16777216), .int .i64 (a0 / 1048576 % 16), .int .i64 (a0 / 65536 % 16), .int .i64 (a0 % 65536)] (0, 0) _ rfl (by (with_reducible repeat (first | refine blk_drewN ?_ _ | refine blk_drew ?_ | refine blk_alloc ?_ _)); refine blk_put (cs := #[.int .i64 (a0 / 16777216), .int .i64 (a0 / 1048576 % 16), .int .i64 (a0 / 65536 % 16), .int .i64 0]) ?_ 3 _ rfl; (with_reducible repeat (first | refine blk_drewN ?_ _ | refine blk_drew ?_ | refine blk_alloc ?_ _)); refine blk_put (cs := #[.int .i64 (a0 / 16777216), .int .i64 (a0 / 1048576 % 16), .int .i64 0, .int .i64 0]) ?_ 2 _ rfl; (with_reducible repeat (first | refine blk_drewN ?_ _ | refine blk_drew ?_ | refine blk_alloc ?_ _)); refine blk_put (cs := #[.int .i64 (a0 / 16777216), .int .i64 0, .int .i64 0, .int .i64 0]) ?_ 1 _ rfl; (with_reducible repeat (first | refine blk_drewN ?_ _ | refine blk_drew ?_ | refine blk_alloc ?_ _)); refine blk_put (cs := #[.int .i64 0, .int .i64 0, .int .i64 0, .int .i64 0]) ?_ 0 _ rfl; (with_reducible repeat (first | refine blk_drewN ?_ _ | refine blk_drew ?_ | refine blk_alloc ?_ _)); exact BK113.out) Tryd.underlying46 rfl (by kernel_rfl)) rfl ?_
    exact ⟨by first | rfl | (simp [errW_none, errW_some] <;> rfl) | (simp [*, errW_none, errW_some] <;> rfl), by repeat (first | (with_reducible first | exact HB.out | apply below_alloc | apply pw_below_drewN | apply below_drew1 | refine below_set ?_ GE113.out | refine below_set ?_ GE114.out) | exact HB.out)⟩
  · replace c3 := Bool.eq_false_iff.mpr c3
    subst c3
    have H1 : (some (0, 0, 0, 0, 7)) = some (r1, r2, r3, r4, r5) := by rw [if_neg (show ¬ (false = true) by decide)] at H; exact H
    clear H
    have H := H1
    clear H1
    simp only [Option.some.injEq, Prod.mk.injEq] at H
    obtain ⟨rfl, rfl, rfl, rfl, rfl⟩ := H
    go_enter Tryd.func46, Tryd.ntmps46
    go_wp2_with (first | ((with_reducible refine gate_dst (N := 2) rfl ?_); refine box_event ?hg (N := 2) ?hd (cs := #[.int .i64 0, .int .i64 0, .int .i64 0, .int .i64 0]) (t := 46) ?hr ?_; (case hd => rfl); (case hg => rfl); (case hr => first | (go_simp; done) | (go_simp; rfl)); intro gb113 hg w11 hbox hb; have n0_ := Aside0.mk (below_step (by repeat (first | (with_reducible first | exact HB.out | apply below_alloc | apply pw_below_drewN | apply below_drew1) | exact HB.out)) hb); have n1_ := Aside0.mk (hbox); have n2_ := Aside0.mk ((by rw [hg]; exact (below_size (by repeat (first | (with_reducible first | exact HB.out | apply below_alloc | apply pw_below_drewN | apply below_drew1) | exact HB.out))) : w.heap.size ≤ gb113)); have n3_ := Aside0.mk ((by rw [hg]; exact (below_size (by repeat (first | (with_reducible first | exact HB.out | apply below_alloc | apply pw_below_drewN | apply below_drew1) | exact HB.out))) : w.heap.size ≤ gb113)); clear HB; have HB := n0_; have BK113 := n1_; have GW113 := n2_; have GE113 := n3_; clear n0_ n1_ n2_ n3_; clear hb hbox hg) | ((with_reducible refine gate_dst (N := 4) rfl ?_); refine box_event ?hg (N := 4) ?hd (cs := #[.int .i64 0, .int .i64 0, .int .i64 0, .int .i64 0]) (t := 46) ?hr ?_; (case hd => rfl); (case hg => rfl); (case hr => first | (go_simp; done) | (go_simp; rfl)); intro gb114 hg w12 hbox hb; have n0_ := Aside0.mk (blk_below (g := gb113) (o := .cells #[.int .i64 0, .int .i64 0, .int .i64 0, .int .i64 0] 46 (0, 0)) (by (with_reducible repeat (first | refine blk_drewN ?_ _ | refine blk_drew ?_ | refine blk_alloc ?_ _)); exact BK113.out) hb); have n1_ := Aside0.mk (below_step (by repeat (first | (with_reducible first | exact HB.out | apply below_alloc | apply pw_below_drewN | apply below_drew1 | refine below_set ?_ GE113.out) | exact HB.out)) hb); have n2_ := Aside0.mk (hbox); have n3_ := Aside0.mk ((by rw [hg]; exact (below_size (by repeat (first | (with_reducible first | exact HB.out | apply below_alloc | apply pw_below_drewN | apply below_drew1 | refine below_set ?_ GE113.out) | exact HB.out))) : w.heap.size ≤ gb114)); have n4_ := Aside0.mk ((by rw [hg]; exact (below_size (by repeat (first | (with_reducible first | exact HB.out | apply below_alloc | apply pw_below_drewN | apply below_drew1 | refine below_set ?_ GE113.out) | exact HB.out))) : w.heap.size ≤ gb114)); have n5_ := Aside0.mk ((by rw [hg]; exact Nat.ne_of_lt (blk_lt (g := gb113) (o := .cells #[.int .i64 0, .int .i64 0, .int .i64 0, .int .i64 0] 46 (0, 0)) (by (with_reducible repeat (first | refine blk_drewN ?_ _ | refine blk_drew ?_ | refine blk_alloc ?_ _)); exact BK113.out)) : gb113 ≠ gb114)); have n6_ := Aside0.mk ((by rw [hg]; exact Nat.ne_of_gt (blk_lt (g := gb113) (o := .cells #[.int .i64 0, .int .i64 0, .int .i64 0, .int .i64 0] 46 (0, 0)) (by (with_reducible repeat (first | refine blk_drewN ?_ _ | refine blk_drew ?_ | refine blk_alloc ?_ _)); exact BK113.out)) : gb114 ≠ gb113)); clear BK113; clear HB; have BK113 := n0_; have HB := n1_; have BK114 := n2_; have GW114 := n3_; have GE114 := n4_; have NB113_114 := n5_; have NB114_113 := n6_; clear n0_ n1_ n2_ n3_ n4_ n5_ n6_; clear hb hbox hg; have hnb13 := NB114_113.out; have hnc13 := NB113_114.out; have hcz14_0 : w12.cell? ⟨gb114, 0, none⟩ = some (.int .i64 0) := (blk_cell BK114.out 0).trans rfl; have hcz14_1 : w12.cell? ⟨gb114, 1, none⟩ = some (.int .i64 0) := (blk_cell BK114.out 1).trans rfl; have hcz14_2 : w12.cell? ⟨gb114, 2, none⟩ = some (.int .i64 0) := (blk_cell BK114.out 2).trans rfl; have hcz14_3 : w12.cell? ⟨gb114, 3, none⟩ = some (.int .i64 0) := (blk_cell BK114.out 3).trans rfl; have hfz14_0 := blk_frozen BK114.out 0; have hfz14_1 := blk_frozen BK114.out 1; have hfz14_2 := blk_frozen BK114.out 2; have hfz14_3 := blk_frozen BK114.out 3) | ((with_reducible refine gate_callee (f := 41) rfl ?_); refine goesL_ (some 21) rfl rfl Tryd.func41 (by kernel_rfl) rfl #[.agg #[.int .i64 (a0 / 16777216), .int .i64 (a0 / 1048576 % 16), .int .i64 (a0 / 65536 % 16), .int .i64 (a0 % 65536)]] rfl (by (try simp only [List.map_toArray, List.map_cons, List.map_nil]); first | done | rfl | (simp only [List.length_drop, List.length_take]; rfl)) ?_; (with_reducible refine (seedcornref07_Right.calls (a0 / 16777216) (a0 / 1048576 % 16) (a0 / 65536 % 16) (a0 % 65536) false _ A2.out).mono ?_); rintro e w15 ⟨rfl, hb⟩; refine ⟨_, rfl, ?_⟩; have n0_ := Aside0.mk (blk_below (g := gb113) (o := .cells #[.int .i64 0, .int .i64 0, .int .i64 0, .int .i64 0] 46 (0, 0)) (by (with_reducible repeat (first | refine blk_drewN ?_ _ | refine blk_drew ?_ | refine blk_alloc ?_ _)); refine blk_far ?_ NB113_114.out _; (with_reducible repeat (first | refine blk_drewN ?_ _ | refine blk_drew ?_ | refine blk_alloc ?_ _)); refine blk_far ?_ NB113_114.out _; (with_reducible repeat (first | refine blk_drewN ?_ _ | refine blk_drew ?_ | refine blk_alloc ?_ _)); refine blk_far ?_ NB113_114.out _; (with_reducible repeat (first | refine blk_drewN ?_ _ | refine blk_drew ?_ | refine blk_alloc ?_ _)); refine blk_far ?_ NB113_114.out _; (with_reducible repeat (first | refine blk_drewN ?_ _ | refine blk_drew ?_ | refine blk_alloc ?_ _)); exact BK113.out) hb); have n1_ := Aside0.mk (blk_below (g := gb114) (o := .cells #[.int .i64 (a0 / 16777216), .int .i64 (a0 / 1048576 % 16), .int .i64 (a0 / 65536 % 16), .int .i64 (a0 % 65536)] 46 (0, 0)) (by (with_reducible repeat (first | refine blk_drewN ?_ _ | refine blk_drew ?_ | refine blk_alloc ?_ _)); refine blk_put (cs := #[.int .i64 (a0 / 16777216), .int .i64 (a0 / 1048576 % 16), .int .i64 (a0 / 65536 % 16), .int .i64 0]) ?_ 3 _ rfl; (with_reducible repeat (first | refine blk_drewN ?_ _ | refine blk_drew ?_ | refine blk_alloc ?_ _)); refine blk_put (cs := #[.int .i64 (a0 / 16777216), .int .i64 (a0 / 1048576 % 16), .int .i64 0, .int .i64 0]) ?_ 2 _ rfl; (with_reducible repeat (first | refine blk_drewN ?_ _ | refine blk_drew ?_ | refine blk_alloc ?_ _)); refine blk_put (cs := #[.int .i64 (a0 / 16777216), .int .i64 0, .int .i64 0, .int .i64 0]) ?_ 1 _ rfl; (with_reducible repeat (first | refine blk_drewN ?_ _ | refine blk_drew ?_ | refine blk_alloc ?_ _)); refine blk_put (cs := #[.int .i64 0, .int .i64 0, .int .i64 0, .int .i64 0]) ?_ 0 _ rfl; (with_reducible repeat (first | refine blk_drewN ?_ _ | refine blk_drew ?_ | refine blk_alloc ?_ _)); exact BK114.out) hb); have n2_ := Aside0.mk (below_step (by repeat (first | (with_reducible first | exact HB.out | apply below_alloc | apply pw_below_drewN | apply below_drew1 | refine below_set ?_ GE113.out | refine below_set ?_ GE114.out) | exact HB.out)) hb); clear BK113; clear BK114; clear HB; have BK113 := n0_; have BK114 := n1_; have HB := n2_; clear n0_ n1_ n2_; (try clear hb); (try clear hb2); (try clear hk); (try clear hi); have hcz16_0 : w15.cell? ⟨gb113, 0, none⟩ = some (.int .i64 0) := (blk_cell BK113.out 0).trans rfl; have hcz16_1 : w15.cell? ⟨gb113, 1, none⟩ = some (.int .i64 0) := (blk_cell BK113.out 1).trans rfl; have hcz16_2 : w15.cell? ⟨gb113, 2, none⟩ = some (.int .i64 0) := (blk_cell BK113.out 2).trans rfl; have hcz16_3 : w15.cell? ⟨gb113, 3, none⟩ = some (.int .i64 0) := (blk_cell BK113.out 3).trans rfl; have hfz16_0 := blk_frozen BK113.out 0; have hfz16_1 := blk_frozen BK113.out 1; have hfz16_2 := blk_frozen BK113.out 2; have hfz16_3 := blk_frozen BK113.out 3))
    refine bodyPost_ret (results_ct rfl _ _ gb113 46 #[.int .i64 0, .int .i64 0, .int .i64 0, .int .i64 0] (0, 0) _ rfl (by (with_reducible repeat (first | refine blk_drewN ?_ _ | refine blk_drew ?_ | refine blk_alloc ?_ _)); refine blk_put (cs := #[.int .i64 0, .int .i64 0, .int .i64 0, .int .i64 0]) ?_ 3 _ rfl; (with_reducible repeat (first | refine blk_drewN ?_ _ | refine blk_drew ?_ | refine blk_alloc ?_ _)); refine blk_put (cs := #[.int .i64 0, .int .i64 0, .int .i64 0, .int .i64 0]) ?_ 2 _ rfl; (with_reducible repeat (first | refine blk_drewN ?_ _ | refine blk_drew ?_ | refine blk_alloc ?_ _)); refine blk_put (cs := #[.int .i64 0, .int .i64 0, .int .i64 0, .int .i64 0]) ?_ 1 _ rfl; (with_reducible repeat (first | refine blk_drewN ?_ _ | refine blk_drew ?_ | refine blk_alloc ?_ _)); refine blk_put (cs := #[.int .i64 0, .int .i64 0, .int .i64 0, .int .i64 0]) ?_ 0 _ rfl; (with_reducible repeat (first | refine blk_drewN ?_ _ | refine blk_drew ?_ | refine blk_alloc ?_ _)); exact BK113.out) Tryd.underlying46 rfl (by kernel_rfl)) rfl ?_
    exact ⟨by first | rfl | (simp [errW_none, errW_some] <;> rfl) | (simp [*, errW_none, errW_some] <;> rfl), by repeat (first | (with_reducible first | exact HB.out | apply below_alloc | apply pw_below_drewN | apply below_drew1 | refine below_set ?_ GE113.out | refine below_set ?_ GE114.out) | exact HB.out)⟩
end Go.Proofs.YtdhkmdgieflioaaDoor.F
namespace Go.Proofs.YtdhkmdgieflioaaDoor.F
open Go.RowKit Go.Proofs.YtdhkmdgieflioaaDoorW.PrintWords Go.Proofs.YtdhkmdgieflioaaDoorW.PrintLast Go.Proofs.YtdhkmdgieflioaaDoorW.PrintMore
attribute [local go_sem] max2_int min2_int max_two min_two max_three min_three max_four min_four
set_option linter.unusedVariables false
set_option linter.unusedSimpArgs false
def seedcornref10_Code.l0 : Nat → List (S46) → List Bool → Int → List Int → Int → Option ((List (S46)) × List Bool)
  | 0, _, _, _, _, _ => none
  | k + 1, x4, x5, x6, x114000, x114001 => if x6 < (x114000.length : Int) then (if 0 ≤ x6 then ((seedcornref07_Decode.f (rd x114000 x6)).bind fun bt121 => (if x6 < (x4.length : Int) then (if x6 < (x5.length : Int) then (seedcornref10_Code.l0 k (x4.set (x6 : Int).toNat (⟨bt121.1, bt121.2.1, bt121.2.2.1, bt121.2.2.2.1⟩ : S46)) (x5.set (x6 : Int).toNat (bt121.2.2.2.2 == 0)) (wrap64 (x6 + 1)) x114000 x114001) else (none)) else (none))) else (none)) else (some (x4, x5))
def seedcornref10_Code.f (k : Nat) (l0_0 : List Int) (a0_1 : Int) : Option ((List (S46)) × List Bool) := if 0 ≤ (l0_0.length : Int) then (if ((l0_0.length : Int) : Int).toNat ≤ 8796093022208 then (if ((l0_0.length : Int) : Int).toNat ≤ 281474976710656 then (seedcornref10_Code.l0 k (List.replicate ((l0_0.length : Int) : Int).toNat z46) (List.replicate ((l0_0.length : Int) : Int).toNat false) 0 l0_0 a0_1) else (none)) else (none)) else (none)
theorem seedcornref10_Code.mono_l : ∀ k, (∀ y0 y1 y2 y3 y4, LeO (seedcornref10_Code.l0 k y0 y1 y2 y3 y4) (seedcornref10_Code.l0 (k + 1) y0 y1 y2 y3 y4))
  | 0 => fun _ _ _ _ _ r h => by simp [seedcornref10_Code.l0] at h
  | k + 1 => by
    have ih0 := seedcornref10_Code.mono_l k
    · intro y0 y1 y2 y3 y4
      unfold seedcornref10_Code.l0
      repeat' first
      | (with_reducible exact ih0 _ _ _ _ _)
      | (with_reducible exact LeO.refl _)
      | (with_reducible exact LeO.none _)
      | (with_reducible refine LeO.ite ?_ ?_)
      | (with_reducible refine LeO.bind ?_ (fun _ => ?_))
      | exact ih0 _ _ _ _ _
      | exact LeO.none _
      | refine LeO.ite ?_ ?_
      | refine LeO.bind ?_ (fun _ => ?_)
theorem seedcornref10_Code.mono : ∀ a0 a1 k, LeO (seedcornref10_Code.f k a0 a1) (seedcornref10_Code.f (k + 1) a0 a1) := by
  intro a0 a1 k
  have ih0 := seedcornref10_Code.mono_l k
  unfold seedcornref10_Code.f
  repeat' first
      | (with_reducible exact ih0 _ _ _ _ _)
      | (with_reducible exact LeO.refl _)
      | (with_reducible exact LeO.none _)
      | (with_reducible refine LeO.ite ?_ ?_)
      | (with_reducible refine LeO.bind ?_ (fun _ => ?_))
      | exact ih0 _ _ _ _ _
      | exact LeO.none _
      | refine LeO.ite ?_ ?_
      | refine LeO.bind ?_ (fun _ => ?_)
set_option maxHeartbeats 8000000 in
set_option maxRecDepth 100000 in
theorem seedcornref10_Code.calls (k : Nat) (A0_0 : Option Addr) (c0_0 : Nat) (l0_0 : List Int) (a0_1 : Int) (r1 : List (S46)) (r2 : List Bool) (w : World) (hr0_0 : Kd.C (Kd.int .u32) w A0_0 l0_0.length l0_0) (hc0_0 : l0_0.length ≤ c0_0) (h : seedcornref10_Code.f k l0_0 a0_1 = some (r1, r2)) :
    Calls Tryd.prog 130 #[.agg #[.slice A0_0 l0_0.length c0_0, .int .i64 a0_1]] w fun e w' => ∃ v0_ v1_ : Value, e = .returned (.tuple #[v0_, v1_]) ∧ Kd.R k46 46 w' w.heap.size (fun _ => True) v0_ r1 ∧ Kd.R Kd.bool 4 w' w.heap.size (fun _ => True) v1_ r2 ∧ Below w.heap.size w w' := by
  have hu28 := Tryd.underlying28
  have hu46 := Tryd.underlying46
  have HR0_0 := Aside0.mk hr0_0
  have HC0_0 := Aside0.mk hc0_0
  clear hr0_0 hc0_0
  have HB := Aside0.mk (Below.refl w.heap.size w)
  have H : (if 0 ≤ (l0_0.length : Int) then (if ((l0_0.length : Int) : Int).toNat ≤ 8796093022208 then (if ((l0_0.length : Int) : Int).toNat ≤ 281474976710656 then (seedcornref10_Code.l0 k (List.replicate ((l0_0.length : Int) : Int).toNat z46) (List.replicate ((l0_0.length : Int) : Int).toNat false) 0 l0_0 a0_1) else (none)) else (none)) else (none)) = some (r1, r2) := h
  clear h
  by_cases c2 : 0 ≤ (l0_0.length : Int)
  · rw [if_pos c2] at H
    have c2b0 := eq_true c2
    have c2b1 : decide (0 ≤ (l0_0.length : Int)) = true := decide_eq_true c2
    clear c2
    by_cases c3 : ((l0_0.length : Int) : Int).toNat ≤ 8796093022208
    · rw [if_pos c3] at H
      have c3b0 := eq_true c3
      have c3b1 : decide (((l0_0.length : Int) : Int).toNat ≤ 8796093022208) = true := decide_eq_true c3
      clear c3
      obtain ⟨y114, hy114⟩ : ∃ y_ : List (S46), y_ = (List.replicate ((l0_0.length : Int) : Int).toNat z46) := ⟨_, rfl⟩
      replace H : (if ((l0_0.length : Int) : Int).toNat ≤ 281474976710656 then (seedcornref10_Code.l0 k y114 (List.replicate ((l0_0.length : Int) : Int).toNat false) 0 l0_0 a0_1) else (none)) = some (r1, r2) := by first | (rw [hy114]; with_reducible exact H) | (have H2_ := (Option.bind_some _ _).symm.trans H; rw [hy114]; with_reducible exact H2_) | (have H2_ := (Option.bind_some _ _).symm.trans H; with_reducible exact H2_) | with_reducible exact H | (rw [hy114]; exact H) | exact H
      have Ny114 := Aside0.mk hy114
      clear hy114
      by_cases c4 : ((l0_0.length : Int) : Int).toNat ≤ 281474976710656
      · rw [if_pos c4] at H
        have c4b0 := eq_true c4
        have c4b1 : decide (((l0_0.length : Int) : Int).toNat ≤ 281474976710656) = true := decide_eq_true c4
        clear c4
        obtain ⟨y117, hy117⟩ : ∃ y_ : List Bool, y_ = (List.replicate ((l0_0.length : Int) : Int).toNat false) := ⟨_, rfl⟩
        replace H : (seedcornref10_Code.l0 k y114 y117 0 l0_0 a0_1) = some (r1, r2) := by first | (rw [hy117]; with_reducible exact H) | (have H2_ := (Option.bind_some _ _).symm.trans H; rw [hy117]; with_reducible exact H2_) | (have H2_ := (Option.bind_some _ _).symm.trans H; with_reducible exact H2_) | with_reducible exact H | (rw [hy117]; exact H) | exact H
        have Ny117 := Aside0.mk hy117
        clear hy117
        have H' := Aside0.mk H
        clear H
        go_enter Tryd.func130, Tryd.ntmps130
        go_wp2_with (first | ((with_reducible refine gate_dst (N := 1) rfl ?_); refine box_event ?hg (N := 1) ?hd (cs := #[.slice A0_0 l0_0.length c0_0, .int .i64 a0_1]) (t := 28) ?hr ?_; (case hd => rfl); (case hg => rfl); (case hr => first | (go_simp; done) | (go_simp; rfl)); intro gb113 hg w5 hbox hb; have n0_ := Aside0.mk (below_step (by repeat (first | (with_reducible first | exact HB.out | apply below_alloc | apply pw_below_drewN | apply below_drew1) | exact HB.out)) hb); have n1_ := Aside0.mk (hbox); have n2_ := Aside0.mk ((by rw [hg]; exact (below_size (by repeat (first | (with_reducible first | exact HB.out | apply below_alloc | apply pw_below_drewN | apply below_drew1) | exact HB.out))) : w.heap.size ≤ gb113)); have n3_ := Aside0.mk ((by rw [hg]; exact (below_size (by repeat (first | (with_reducible first | exact HB.out | apply below_alloc | apply pw_below_drewN | apply below_drew1) | exact HB.out))) : w.heap.size ≤ gb113)); clear HB; have HB := n0_; have BK113 := n1_; have GW113 := n2_; have GE113 := n3_; clear n0_ n1_ n2_ n3_; clear hb hbox hg; have hcz6_0 : w5.cell? ⟨gb113, 0, none⟩ = some (.slice A0_0 l0_0.length c0_0) := (blk_cell BK113.out 0).trans rfl; have hcz6_1 : w5.cell? ⟨gb113, 1, none⟩ = some (.int .i64 a0_1) := (blk_cell BK113.out 1).trans rfl; have hfz6_0 := blk_frozen BK113.out 0; have hfz6_1 := blk_frozen BK113.out 1) | ((with_reducible refine gate_dst (N := 12) rfl ?_); refine Kd.R_make k46 _ 46 rfl (N := 12) rfl 141 _ _ rfl (l0_0.length : Int) rfl rfl Tryd.underlying141 (.agg #[(.int .i64 0), (.int .i64 0), (.int .i64 0), (.int .i64 0)]) 32 info46 rfl (by decide) (by omega) z46 (ok := fun _ => True) (okp := fun _ => True) (k46_mkM _ _ _ z46 ) (fun _ hk => hk) trivial (of_decide_eq_true (by first | (with_reducible assumption) | assumption)) (Nat.le_trans (Nat.mul_le_mul_right _ (of_decide_eq_true (by first | (with_reducible assumption) | assumption) : (l0_0.length : Int).toNat ≤ 8796093022208)) (by omega)) (Below.refl _ _) (Nat.le_refl _) ?_; intro v115 w7 ho8 hb hg_ hnew_; clear hg_ hnew_; (first | rw [← Ny114.out] at ho8 | (simp only [Int.reduceToNat] at ho8; rw [← Ny114.out] at ho8)); have n0_ := Aside0.mk (Kd.R_lower ho8 (below_size (by repeat (first | (with_reducible first | exact HB.out | apply below_alloc | apply pw_below_drewN | apply below_drew1 | refine below_set ?_ GE113.out) | exact HB.out)))); have n1_ := Aside0.mk (blk_below (g := gb113) (o := .cells #[.slice A0_0 l0_0.length c0_0, .int .i64 a0_1] 28 (0, 0)) (by (with_reducible repeat (first | refine blk_drewN ?_ _ | refine blk_drew ?_ | refine blk_alloc ?_ _)); exact BK113.out) hb); have n2_ := Aside0.mk (below_step (by repeat (first | (with_reducible first | exact HB.out | apply below_alloc | apply pw_below_drewN | apply below_drew1 | refine below_set ?_ GE113.out) | exact HB.out)) hb); clear BK113; clear HB; have HO116 := n0_; have BK113 := n1_; have HB := n2_; clear n0_ n1_ n2_; clear hb ho8; have hcz9_0 : w7.cell? ⟨gb113, 0, none⟩ = some (.slice A0_0 l0_0.length c0_0) := (blk_cell BK113.out 0).trans rfl; have hcz9_1 : w7.cell? ⟨gb113, 1, none⟩ = some (.int .i64 a0_1) := (blk_cell BK113.out 1).trans rfl; have hfz9_0 := blk_frozen BK113.out 0; have hfz9_1 := blk_frozen BK113.out 1) | ((with_reducible refine gate_dst (N := 16) rfl ?_); refine Kd.R_make Kd.bool _ 4 rfl (N := 16) rfl 103 _ _ rfl (l0_0.length : Int) rfl rfl Tryd.underlying103 (.bool false) 1 info4 rfl (by decide) (by omega) false (ok := fun _ => True) (okp := fun _ => True) rfl (fun _ hk => hk) trivial (of_decide_eq_true (by first | (with_reducible assumption) | assumption)) (Nat.le_trans (Nat.mul_le_mul_right _ (of_decide_eq_true (by first | (with_reducible assumption) | assumption) : (l0_0.length : Int).toNat ≤ 281474976710656)) (by omega)) (Below.refl _ _) (Nat.le_refl _) ?_; intro v118 w10 ho11 hb hg_ hnew_; clear hg_ hnew_; (first | rw [← Ny117.out] at ho11 | (simp only [Int.reduceToNat] at ho11; rw [← Ny117.out] at ho11)); have n0_ := Aside0.mk (Kd.R_below (by (with_reducible repeat (first | apply Kd.R_alloc | apply Kd.R_drewN | apply Kd.R_drew)); exact HO116.out) hb); have n1_ := Aside0.mk (Kd.R_lower ho11 (below_size (by repeat (first | (with_reducible first | exact HB.out | apply below_alloc | apply pw_below_drewN | apply below_drew1 | refine below_set ?_ GE113.out) | exact HB.out)))); have n2_ := Aside0.mk (blk_below (g := gb113) (o := .cells #[.slice A0_0 l0_0.length c0_0, .int .i64 a0_1] 28 (0, 0)) (by (with_reducible repeat (first | refine blk_drewN ?_ _ | refine blk_drew ?_ | refine blk_alloc ?_ _)); exact BK113.out) hb); have n3_ := Aside0.mk (below_step (by repeat (first | (with_reducible first | exact HB.out | apply below_alloc | apply pw_below_drewN | apply below_drew1 | refine below_set ?_ GE113.out) | exact HB.out)) hb); clear HO116; clear BK113; clear HB; have HO116 := n0_; have HO119 := n1_; have BK113 := n2_; have HB := n3_; clear n0_ n1_ n2_ n3_; clear hb ho11))
        go_loopg [6] k (fun kq v6 w' => ∃ (x4_1 : List (S46)) (x5_1 : List Bool) (x6_1 : Int), v6 = .int .i64 x6_1 ∧ Aside0 (seedcornref10_Code.l0 kq x4_1 x5_1 x6_1 l0_0 a0_1 = some (r1, r2)) ∧ Aside0 (kq ≤ k) ∧ Aside0 (Kd.R k46 46 w' w.heap.size (fun _ => True) v115 x4_1) ∧ Aside0 (Kd.R Kd.bool 4 w' w.heap.size (fun _ => True) v118 x5_1) ∧ Aside0 (w'.heap[gb113]? = some (.cells #[(.slice A0_0 l0_0.length c0_0), .int .i64 a0_1] 28 (0, 0))) ∧ Aside0 (Below w.heap.size w w'))
        case atStart => exact ⟨(y114), (y117), (0), (by first | rfl | (simp; done) | (simp [*]; done)), H', ⟨Nat.le_refl _⟩, ⟨by (with_reducible repeat (first | apply Kd.R_alloc | apply Kd.R_drewN | apply Kd.R_drew)); exact HO116.out⟩, ⟨by (with_reducible repeat (first | apply Kd.R_alloc | apply Kd.R_drewN | apply Kd.R_drew)); exact HO119.out⟩, ⟨by (with_reducible repeat (first | refine blk_drewN ?_ _ | refine blk_drew ?_ | refine blk_alloc ?_ _)); exact BK113.out⟩, ⟨by repeat (first | (with_reducible first | exact HB.out | apply below_alloc | apply pw_below_drewN | apply below_drew1 | refine below_set ?_ GE113.out) | exact HB.out)⟩⟩
        case round =>
          clear H'
          try clear c1
          try clear c2
          try clear c2b0
          try clear c2b1
          try clear p2
          try clear c3
          try clear c3b0
          try clear c3b1
          try clear c4
          try clear c4b0
          try clear c4b1
          try clear hcz6_0
          try clear hcz6_1
          try clear hcz9_0
          try clear hcz9_1
          try clear hfz6_0
          try clear hfz6_1
          try clear hfz9_0
          try clear hfz9_1
          obtain ⟨x4_1, x5_1, x6_1, rfl, HA, HK1, HO_4, HO_5, BK113, HB⟩ := hrel
          cases gk with
          | zero => exact absurd HA.out (by simp [seedcornref10_Code.l0])
          | succ k1 =>
            have H := HA.out
            clear HA
            simp only [seedcornref10_Code.l0] at H
            by_cases c12 : x6_1 < (l0_0.length : Int)
            · rw [if_pos c12] at H
              have c12b0 : decide (x6_1 < (l0_0.length : Int)) = true := decide_eq_true c12
              clear c12
              by_cases c13 : 0 ≤ x6_1
              · rw [if_pos c13] at H
                have c13b0 : decide (0 ≤ x6_1) = true := decide_eq_true c13
                clear c13
                replace H := Option.bind_eq_some_iff.mp H
                obtain ⟨⟨t121, t122, t123, t124, t125⟩, A140, H⟩ := H
                replace H : (if x6_1 < (x4_1.length : Int) then (if x6_1 < (x5_1.length : Int) then (seedcornref10_Code.l0 k1 (x4_1.set (x6_1 : Int).toNat (⟨t121, t122, t123, t124⟩ : S46)) (x5_1.set (x6_1 : Int).toNat (t125 == 0)) (wrap64 (x6_1 + 1)) l0_0 a0_1) else (none)) else (none)) = some (r1, r2) := H
                have A14 := Aside0.mk A140
                clear A140
                by_cases c15 : x6_1 < (x4_1.length : Int)
                · rw [if_pos c15] at H
                  have c15b0 : decide (x6_1 < (x4_1.length : Int)) = true := decide_eq_true c15
                  clear c15
                  obtain ⟨y127, hy127⟩ : ∃ y_ : List (S46), y_ = (x4_1.set (x6_1 : Int).toNat (⟨t121, t122, t123, t124⟩ : S46)) := ⟨_, rfl⟩
                  replace H : (if x6_1 < (x5_1.length : Int) then (seedcornref10_Code.l0 k1 y127 (x5_1.set (x6_1 : Int).toNat (t125 == 0)) (wrap64 (x6_1 + 1)) l0_0 a0_1) else (none)) = some (r1, r2) := by first | (rw [hy127]; with_reducible exact H) | (have H2_ := (Option.bind_some _ _).symm.trans H; rw [hy127]; with_reducible exact H2_) | (have H2_ := (Option.bind_some _ _).symm.trans H; with_reducible exact H2_) | with_reducible exact H | (rw [hy127]; exact H) | exact H
                  have Ny127 := Aside0.mk hy127
                  clear hy127
                  by_cases c17 : x6_1 < (x5_1.length : Int)
                  · rw [if_pos c17] at H
                    have c17b0 : decide (x6_1 < (x5_1.length : Int)) = true := decide_eq_true c17
                    clear c17
                    obtain ⟨y128, hy128⟩ : ∃ y_ : List Bool, y_ = (x5_1.set (x6_1 : Int).toNat (t125 == 0)) := ⟨_, rfl⟩
                    replace H : (seedcornref10_Code.l0 k1 y127 y128 (wrap64 (x6_1 + 1)) l0_0 a0_1) = some (r1, r2) := by first | (rw [hy128]; with_reducible exact H) | (have H2_ := (Option.bind_some _ _).symm.trans H; rw [hy128]; with_reducible exact H2_) | (have H2_ := (Option.bind_some _ _).symm.trans H; with_reducible exact H2_) | with_reducible exact H | (rw [hy128]; exact H) | exact H
                    have Ny128 := Aside0.mk hy128
                    clear hy128
                    have H' := Aside0.mk H
                    clear H
                    have hcz19_0 : wr.cell? ⟨gb113, 0, none⟩ = some (.slice A0_0 l0_0.length c0_0) := (blk_cell BK113.out 0).trans rfl
                    have hcz19_1 : wr.cell? ⟨gb113, 1, none⟩ = some (.int .i64 a0_1) := (blk_cell BK113.out 1).trans rfl
                    have hfz19_0 := blk_frozen BK113.out 0
                    have hfz19_1 := blk_frozen BK113.out 1
                    have p120 : 0 ≤ (x6_1 : Int) := of_decide_eq_true (by first | (with_reducible assumption) | assumption)
                    have q120 : x6_1 < (l0_0.length : Int) := of_decide_eq_true (by first | (with_reducible assumption) | assumption)
                    obtain ⟨ad120, e120, hx120_0⟩ := Kd.at_int HR0_0.out x6_1 p120 q120
                    cases e120
                    replace hx120_0 := (HB.out.cell (World.block_lt_of_cell? w _ hx120_0)).trans hx120_0
                    replace p120 := eq_true p120
                    replace q120 := eq_true q120
                    go_wp2_with (first | ((with_reducible refine gate_callee (f := 46) rfl ?_); refine goesL_ (some 30) rfl rfl Tryd.func46 (by kernel_rfl) rfl #[.int .u32 (rd l0_0 x6_1)] rfl (by (try simp only [List.map_toArray, List.map_cons, List.map_nil]); first | done | rfl | (simp only [List.length_drop, List.length_take]; rfl)) ?_; (with_reducible refine (seedcornref07_Decode.calls (rd l0_0 x6_1) t121 t122 t123 t124 t125 _ A14.out).mono ?_); rintro e w20 ⟨rfl, hb⟩; refine ⟨_, rfl, ?_⟩; have n0_ := Aside0.mk (Kd.R_below (by (with_reducible repeat (first | apply Kd.R_alloc | apply Kd.R_drewN | apply Kd.R_drew)); exact HO_4.out) hb); have n1_ := Aside0.mk (Kd.R_below (by (with_reducible repeat (first | apply Kd.R_alloc | apply Kd.R_drewN | apply Kd.R_drew)); exact HO_5.out) hb); have n2_ := Aside0.mk (blk_below (g := gb113) (o := .cells #[.slice (some ad120) l0_0.length c0_0, .int .i64 a0_1] 28 (0, 0)) (by (with_reducible repeat (first | refine blk_drewN ?_ _ | refine blk_drew ?_ | refine blk_alloc ?_ _)); exact BK113.out) hb); have n3_ := Aside0.mk (below_step (by repeat (first | (with_reducible first | exact HB.out | apply below_alloc | apply pw_below_drewN | apply below_drew1 | refine below_set ?_ GE113.out) | exact HB.out)) hb); clear HO_4; clear HO_5; clear BK113; clear HB; have HO_4 := n0_; have HO_5 := n1_; have BK113 := n2_; have HB := n3_; clear n0_ n1_ n2_ n3_; (try clear hb); (try clear hb2); (try clear hk); (try clear hi)) | ((with_reducible refine gate_dst (N := 7) rfl ?_); refine box_event ?hg (N := 7) ?hd (cs := #[.int .i64 0, .int .i64 0, .int .i64 0, .int .i64 0]) (t := 46) ?hr ?_; (case hd => rfl); (case hg => rfl); (case hr => first | (go_simp; done) | (go_simp; rfl)); intro gb126 hg w21 hbox hb; have n0_ := Aside0.mk (Kd.R_below (Kd.R_elderB (by (with_reducible repeat (first | apply Kd.R_alloc | apply Kd.R_drewN | apply Kd.R_drew)); exact HO_4.out) gb126 (Nat.le_of_eq hg.symm)) hb); have n1_ := Aside0.mk (Kd.R_below (by (with_reducible repeat (first | apply Kd.R_alloc | apply Kd.R_drewN | apply Kd.R_drew)); exact HO_5.out) hb); have n2_ := Aside0.mk (blk_below (g := gb113) (o := .cells #[.slice (some ad120) l0_0.length c0_0, .int .i64 a0_1] 28 (0, 0)) (by (with_reducible repeat (first | refine blk_drewN ?_ _ | refine blk_drew ?_ | refine blk_alloc ?_ _)); exact BK113.out) hb); have n3_ := Aside0.mk (below_step (by repeat (first | (with_reducible first | exact HB.out | apply below_alloc | apply pw_below_drewN | apply below_drew1 | refine below_set ?_ GE113.out) | exact HB.out)) hb); have n4_ := Aside0.mk (hbox); have n5_ := Aside0.mk ((by rw [hg]; exact (below_size (by repeat (first | (with_reducible first | exact HB.out | apply below_alloc | apply pw_below_drewN | apply below_drew1 | refine below_set ?_ GE113.out) | exact HB.out))) : w.heap.size ≤ gb126)); have n6_ := Aside0.mk ((by rw [hg]; exact (below_size (by repeat (first | (with_reducible first | exact HB.out | apply below_alloc | apply pw_below_drewN | apply below_drew1 | refine below_set ?_ GE113.out) | exact HB.out))) : w.heap.size ≤ gb126)); have n7_ := Aside0.mk ((by rw [hg]; exact Nat.ne_of_lt (blk_lt (g := gb113) (o := .cells #[.slice (some ad120) l0_0.length c0_0, .int .i64 a0_1] 28 (0, 0)) (by (with_reducible repeat (first | refine blk_drewN ?_ _ | refine blk_drew ?_ | refine blk_alloc ?_ _)); exact BK113.out)) : gb113 ≠ gb126)); have n8_ := Aside0.mk ((by rw [hg]; exact Nat.ne_of_gt (blk_lt (g := gb113) (o := .cells #[.slice (some ad120) l0_0.length c0_0, .int .i64 a0_1] 28 (0, 0)) (by (with_reducible repeat (first | refine blk_drewN ?_ _ | refine blk_drew ?_ | refine blk_alloc ?_ _)); exact BK113.out)) : gb126 ≠ gb113)); clear HO_4; clear HO_5; clear BK113; clear HB; have HO_4 := n0_; have HO_5 := n1_; have BK113 := n2_; have HB := n3_; have BK126 := n4_; have GW126 := n5_; have GE126 := n6_; have NB113_126 := n7_; have NB126_113 := n8_; clear n0_ n1_ n2_ n3_ n4_ n5_ n6_ n7_ n8_; clear hb hbox hg; have hnb22 := NB126_113.out; have hnc22 := NB113_126.out; have hcz23_0 : w21.cell? ⟨gb126, 0, none⟩ = some (.int .i64 0) := (blk_cell BK126.out 0).trans rfl; have hcz23_1 : w21.cell? ⟨gb126, 1, none⟩ = some (.int .i64 0) := (blk_cell BK126.out 1).trans rfl; have hcz23_2 : w21.cell? ⟨gb126, 2, none⟩ = some (.int .i64 0) := (blk_cell BK126.out 2).trans rfl; have hcz23_3 : w21.cell? ⟨gb126, 3, none⟩ = some (.int .i64 0) := (blk_cell BK126.out 3).trans rfl; have hfz23_0 := blk_frozen BK126.out 0; have hfz23_1 := blk_frozen BK126.out 1; have hfz23_2 := blk_frozen BK126.out 2; have hfz23_3 := blk_frozen BK126.out 3) | ((with_reducible refine gate_store (t := 46) (p := 7) rfl ?_); refine store_event (t := 46) (p := 7) (v := ?vo_w24) (w1 := ((((w21.setCell ⟨gb126, 0, none⟩ (.int .i64 t121)).setCell ⟨gb126, 1, none⟩ (.int .i64 t122)).setCell ⟨gb126, 2, none⟩ (.int .i64 t123)).setCell ⟨gb126, 3, none⟩ (.int .i64 t124))) ?hg ?ho ?hn ?hr ?_; (case ho => rfl); (case hg => rfl); (case hn => rfl); (case hr => first | (go_simp; done) | (go_simp; rfl)); intro w24 hw; have n0_ : Aside0 (Kd.R k46 46 w24 w.heap.size (fun k_ => k_ ≠ gb126) v115 x4_1) := ⟨(by rw [hw]; exact (by (with_reducible repeat (first | apply Kd.R_alloc | apply Kd.R_drewN | apply Kd.R_drew)); exact Kd.R_mono (Kd.R_far (p := ⟨gb126, 3, none⟩) (Kd.R_far (p := ⟨gb126, 2, none⟩) (Kd.R_far (p := ⟨gb126, 1, none⟩) (Kd.R_far (p := ⟨gb126, 0, none⟩) (Kd.R_mono HO_4.out (fun k_ hk => (⟨hk, hk.2⟩ : _ ∧ k_ ≠ gb126))) (fun _ hk => hk.2) (.int .i64 t121)) (fun _ hk => hk.2) (.int .i64 t122)) (fun _ hk => hk.2) (.int .i64 t123)) (fun _ hk => hk.2) (.int .i64 t124)) (fun _ hk => hk.1.2)))⟩; have n1_ : Aside0 (Kd.R Kd.bool 4 w24 w.heap.size (fun _ => True) v118 x5_1) := ⟨(by rw [hw]; exact (by (with_reducible repeat (first | apply Kd.R_alloc | apply Kd.R_drewN | apply Kd.R_drew)); exact Kd.R_mono (Kd.R_far (p := ⟨gb126, 3, none⟩) (Kd.R_far (p := ⟨gb126, 2, none⟩) (Kd.R_far (p := ⟨gb126, 1, none⟩) (Kd.R_far (p := ⟨gb126, 0, none⟩) (Kd.R_types HO_5.out BK126.out (by decide)) (fun _ hk => hk.2) (.int .i64 t121)) (fun _ hk => hk.2) (.int .i64 t122)) (fun _ hk => hk.2) (.int .i64 t123)) (fun _ hk => hk.2) (.int .i64 t124)) (fun _ hk => trivial)))⟩; have n2_ : Aside0 (w24.heap[gb113]? = some (.cells #[.slice (some ad120) l0_0.length c0_0, .int .i64 a0_1] 28 (0, 0))) := ⟨(by rw [hw]; exact (by (with_reducible repeat (first | refine blk_drewN ?_ _ | refine blk_drew ?_ | refine blk_alloc ?_ _)); refine blk_far ?_ NB113_126.out _; (with_reducible repeat (first | refine blk_drewN ?_ _ | refine blk_drew ?_ | refine blk_alloc ?_ _)); refine blk_far ?_ NB113_126.out _; (with_reducible repeat (first | refine blk_drewN ?_ _ | refine blk_drew ?_ | refine blk_alloc ?_ _)); refine blk_far ?_ NB113_126.out _; (with_reducible repeat (first | refine blk_drewN ?_ _ | refine blk_drew ?_ | refine blk_alloc ?_ _)); refine blk_far ?_ NB113_126.out _; (with_reducible repeat (first | refine blk_drewN ?_ _ | refine blk_drew ?_ | refine blk_alloc ?_ _)); exact BK113.out))⟩; have n3_ : Aside0 (w24.heap[gb126]? = some (.cells #[.int .i64 t121, .int .i64 t122, .int .i64 t123, .int .i64 t124] 46 (0, 0))) := ⟨(by rw [hw]; exact (by (with_reducible repeat (first | refine blk_drewN ?_ _ | refine blk_drew ?_ | refine blk_alloc ?_ _)); refine blk_put (cs := #[.int .i64 t121, .int .i64 t122, .int .i64 t123, .int .i64 0]) ?_ 3 _ rfl; (with_reducible repeat (first | refine blk_drewN ?_ _ | refine blk_drew ?_ | refine blk_alloc ?_ _)); refine blk_put (cs := #[.int .i64 t121, .int .i64 t122, .int .i64 0, .int .i64 0]) ?_ 2 _ rfl; (with_reducible repeat (first | refine blk_drewN ?_ _ | refine blk_drew ?_ | refine blk_alloc ?_ _)); refine blk_put (cs := #[.int .i64 t121, .int .i64 0, .int .i64 0, .int .i64 0]) ?_ 1 _ rfl; (with_reducible repeat (first | refine blk_drewN ?_ _ | refine blk_drew ?_ | refine blk_alloc ?_ _)); refine blk_put (cs := #[.int .i64 0, .int .i64 0, .int .i64 0, .int .i64 0]) ?_ 0 _ rfl; (with_reducible repeat (first | refine blk_drewN ?_ _ | refine blk_drew ?_ | refine blk_alloc ?_ _)); exact BK126.out))⟩; have n4_ : Aside0 (Below w.heap.size w w24) := ⟨(by rw [hw]; exact (by repeat (first | (with_reducible first | exact HB.out | apply below_alloc | apply pw_below_drewN | apply below_drew1 | refine below_set ?_ GE113.out | refine below_set ?_ GE126.out) | exact HB.out)))⟩; clear hw; clear HO_4; clear HO_5; clear BK113; clear BK126; clear HB; have HO_4 := n0_; have HO_5 := n1_; have BK113 := n2_; have BK126 := n3_; have HB := n4_; clear n0_ n1_ n2_ n3_ n4_; have hcz25_0 : w24.cell? ⟨gb126, 0, none⟩ = some (.int .i64 t121) := (blk_cell BK126.out 0).trans rfl; have hcz25_1 : w24.cell? ⟨gb126, 1, none⟩ = some (.int .i64 t122) := (blk_cell BK126.out 1).trans rfl; have hcz25_2 : w24.cell? ⟨gb126, 2, none⟩ = some (.int .i64 t123) := (blk_cell BK126.out 2).trans rfl; have hcz25_3 : w24.cell? ⟨gb126, 3, none⟩ = some (.int .i64 t124) := (blk_cell BK126.out 3).trans rfl; have hfz25_0 := blk_frozen BK126.out 0; have hfz25_1 := blk_frozen BK126.out 1; have hfz25_2 := blk_frozen BK126.out 2; have hfz25_3 := blk_frozen BK126.out 3; have p16 : 0 ≤ (x6_1 : Int) := of_decide_eq_true (by first | (with_reducible assumption) | assumption); have q16 : (x6_1 : Int) < ((x4_1.length : Int) : Int) := of_decide_eq_true (by first | (with_reducible assumption) | assumption); obtain ⟨go16, co16, eo16, gb16, gl16, cl16, HG16⟩ := Kd.R_form HO_4.out (by omega); (first | cases eo16 | (injection eo16 with ea_ en_ ec_; (first | subst ea_ | (injection ea_ with ea_; subst ea_)); subst ec_; clear en_)); have GB16 := Aside0.mk gb16; have GG16 := Aside0.mk HG16; clear gb16 gl16 HG16; obtain ⟨ce16, hcl16, hM16, hcc16, hfr16⟩ := Kd.R_elem HO_4.out z46 (x6_1 : Int) p16 q16; obtain rfl := k46_openM hM16; have hx16_0 : w24.cell? ⟨go16, (x6_1 : Int).toNat * 4, none⟩ = some (.int .i64 ((rd_T46 x4_1 x6_1).f0)) := hcc16 0 _ rfl; have hx16_1 : w24.cell? ⟨go16, (x6_1 : Int).toNat * 4 + 1, none⟩ = some (.int .i64 ((rd_T46 x4_1 x6_1).f1)) := hcc16 1 _ rfl; have hx16_2 : w24.cell? ⟨go16, (x6_1 : Int).toNat * 4 + 2, none⟩ = some (.int .i64 ((rd_T46 x4_1 x6_1).f2)) := hcc16 2 _ rfl; have hx16_3 : w24.cell? ⟨go16, (x6_1 : Int).toNat * 4 + 3, none⟩ = some (.int .i64 ((rd_T46 x4_1 x6_1).f3)) := hcc16 3 _ rfl; have hf16_0 : w24.frozen? ⟨go16, (x6_1 : Int).toNat * 4, none⟩ = false := hfr16 0; have hf16_1 : w24.frozen? ⟨go16, (x6_1 : Int).toNat * 4 + 1, none⟩ = false := hfr16 1; have hf16_2 : w24.frozen? ⟨go16, (x6_1 : Int).toNat * 4 + 2, none⟩ = false := hfr16 2; have hf16_3 : w24.frozen? ⟨go16, (x6_1 : Int).toNat * 4 + 3, none⟩ = false := hfr16 3; clear hcl16 hcc16 hfr16 hM16; replace p16 := eq_true p16; replace q16 := eq_true q16; have HX26 := Aside0.mk (show Kd.R k46 46 w24 w.heap.size (fun k_ => k_ ≠ gb126) (.slice (some ⟨go16, 0, none⟩) x4_1.length co16) x4_1 from (by (with_reducible repeat (first | apply Kd.R_alloc | apply Kd.R_drewN | apply Kd.R_drew)); exact HO_4.out)); obtain ⟨ce26, hcl26, hM26, hcc26, hfr26⟩ := Kd.R_elem HX26.out z46 (x6_1 : Int) (of_decide_eq_true (by first | (with_reducible assumption) | assumption)) (by have h_ : (x6_1 : Int) < ((x4_1.length : Int) : Int) := of_decide_eq_true (by first | (with_reducible assumption) | assumption); first | exact h_ | (have e_ := (Kd.R_reads' HO_4.out).1; omega) | simpa using h_); obtain rfl := k46_openM hM26; have HP26 := Kd.R_seg HX26.out (x6_1 : Int) (of_decide_eq_true (by first | (with_reducible assumption) | assumption)) (by have h_ : (x6_1 : Int) < ((x4_1.length : Int) : Int) := of_decide_eq_true (by first | (with_reducible assumption) | assumption); first | exact h_ | (have e_ := (Kd.R_reads' HO_4.out).1; omega) | simpa using h_) (seg := [.int .i64 t121, .int .i64 t122, .int .i64 t123, .int .i64 t124]) (j := 0) hcl26 hcc26 (show 4 ≤ 4 from by decide) (x' := (⟨t121, t122, t123, t124⟩ : S46)) (k46_mkM _ _ _ (⟨t121, t122, t123, t124⟩ : S46) ) (fun _ hk => hk); have hx26_0 := hcc26 0 _ rfl; (try simp only [show (k46).sz = 4 from rfl, Nat.mul_one, Nat.add_zero] at hx26_0); have hf26_0 := hfr26 0; (try simp only [show (k46).sz = 4 from rfl, Nat.mul_one, Nat.add_zero] at hf26_0); have hx26_1 := hcc26 1 _ rfl; (try simp only [show (k46).sz = 4 from rfl, Nat.mul_one, Nat.add_zero] at hx26_1); have hf26_1 := hfr26 1; (try simp only [show (k46).sz = 4 from rfl, Nat.mul_one, Nat.add_zero] at hf26_1); have hx26_2 := hcc26 2 _ rfl; (try simp only [show (k46).sz = 4 from rfl, Nat.mul_one, Nat.add_zero] at hx26_2); have hf26_2 := hfr26 2; (try simp only [show (k46).sz = 4 from rfl, Nat.mul_one, Nat.add_zero] at hf26_2); have hx26_3 := hcc26 3 _ rfl; (try simp only [show (k46).sz = 4 from rfl, Nat.mul_one, Nat.add_zero] at hx26_3); have hf26_3 := hfr26 3; (try simp only [show (k46).sz = 4 from rfl, Nat.mul_one, Nat.add_zero] at hf26_3); clear hcl26 hcc26 hfr26 hM26) | ((with_reducible refine gate_store (t := 46) (p := 40) rfl ?_); refine store_event (t := 46) (p := 40) (v := ?vo_w27) (w1 := ((((w24.setCell ⟨go16, (x6_1 : Int).toNat * 4, none⟩ (.int .i64 t121)).setCell ⟨go16, (x6_1 : Int).toNat * 4 + 1, none⟩ (.int .i64 t122)).setCell ⟨go16, (x6_1 : Int).toNat * 4 + 2, none⟩ (.int .i64 t123)).setCell ⟨go16, (x6_1 : Int).toNat * 4 + 3, none⟩ (.int .i64 t124))) ?hg ?ho ?hn ?hr ?_; (case ho => rfl); (case hg => rfl); (case hn => rfl); (case hr => first | (go_simp; done) | (go_simp; rfl)); intro w27 hw; have hg : w24.grownBy w27 (some go16) := (by rw [hw]; exact HP26.2); have hp_ : Kd.R k46 46 w27 w.heap.size (fun k_ => k_ ≠ gb126) (.slice (some ⟨go16, 0, none⟩) x4_1.length co16) y127 := (by rw [hw, Ny127.out]; exact HP26.1); clear HP26; have n0_ := Aside0.mk (hp_); have n1_ := Aside0.mk (Kd.R_over' (v := (.slice (some ⟨go16, 0, none⟩) x4_1.length co16)) (by (with_reducible repeat (first | apply Kd.R_alloc | apply Kd.R_drewN | apply Kd.R_drew)); exact HO_5.out) (Kd.R_typed HO_4.out) (by decide) hg); have n2_ := Aside0.mk (blk_grown (g := gb113) (o := .cells #[.slice (some ad120) l0_0.length c0_0, .int .i64 a0_1] 28 (0, 0)) (by (with_reducible repeat (first | refine blk_drewN ?_ _ | refine blk_drew ?_ | refine blk_alloc ?_ _)); exact BK113.out) hg (Kd.R_ne HO_4.out BK113.out (by decide))); have n3_ := Aside0.mk (blk_grown (g := gb126) (o := .cells #[.int .i64 t121, .int .i64 t122, .int .i64 t123, .int .i64 t124] 46 (0, 0)) (by (with_reducible repeat (first | refine blk_drewN ?_ _ | refine blk_drew ?_ | refine blk_alloc ?_ _)); exact BK126.out) hg (Kd.R_away HO_4.out (fun _ hk => hk))); have n4_ := Aside0.mk ((by rw [hw]; exact below_set (below_set (below_set (below_set (HB.out) GB16.out) GB16.out) GB16.out) GB16.out : Below w.heap.size w w27)); clear HO_4; clear HO_5; clear BK113; clear BK126; clear HB; have HO_4 := n0_; have HO_5 := n1_; have BK113 := n2_; have BK126 := n3_; have HB := n4_; clear n0_ n1_ n2_ n3_ n4_; clear hg hw hp_; have p18 : 0 ≤ (x6_1 : Int) := of_decide_eq_true (by first | (with_reducible assumption) | assumption); have q18 : (x6_1 : Int) < ((x5_1.length : Int) : Int) := of_decide_eq_true (by first | (with_reducible assumption) | assumption); obtain ⟨go18, co18, eo18, gb18, gl18, cl18, HG18⟩ := Kd.R_form HO_5.out (by omega); (first | cases eo18 | (injection eo18 with ea_ en_ ec_; (first | subst ea_ | (injection ea_ with ea_; subst ea_)); subst ec_; clear en_)); have GB18 := Aside0.mk gb18; have GG18 := Aside0.mk HG18; clear gb18 gl18 HG18; obtain ⟨hx18_0, hf18_0⟩ := Kd.R_celln false HO_5.out (x6_1 : Int) p18 q18; replace p18 := eq_true p18; replace q18 := eq_true q18; obtain ⟨hy28_, hz28_⟩ := Kd.R_celln false HO_5.out (x6_1 : Int) (of_decide_eq_true (by first | (with_reducible assumption) | assumption)) (of_decide_eq_true (by first | (with_reducible assumption) | assumption)); have HP28 := Kd.R_putg HO_5.out (x6_1 : Int) (t125 == 0)) | ((with_reducible refine gate_store (t := 4) (p := 41) rfl ?_); refine store_event (t := 4) (p := 41) (v := ?vo_w29) (w1 := (w27.setCell ⟨go18, (x6_1 : Int).toNat, none⟩ (.bool (t125 == 0)))) ?hg ?ho ?hn ?hr ?_; (case ho => rfl); (case hg => rfl); (case hn => rfl); (case hr => first | (go_simp; done) | (go_simp; rfl)); intro w29 hw; have hg : w27.grownBy w29 (some go18) := (by rw [hw]; exact HP28.2); have hp_ : Kd.R Kd.bool 4 w29 w.heap.size (fun _ => True) (.slice (some ⟨go18, 0, none⟩) x5_1.length co18) y128 := (by rw [hw, Ny128.out]; exact HP28.1); clear HP28; have n0_ := Aside0.mk (Kd.R_over' (v := (.slice (some ⟨go18, 0, none⟩) x5_1.length co18)) (by (with_reducible repeat (first | apply Kd.R_alloc | apply Kd.R_drewN | apply Kd.R_drew)); exact HO_4.out) (Kd.R_typed HO_5.out) (by decide) hg); have n1_ := Aside0.mk (hp_); have n2_ := Aside0.mk (blk_grown (g := gb113) (o := .cells #[.slice (some ad120) l0_0.length c0_0, .int .i64 a0_1] 28 (0, 0)) (by (with_reducible repeat (first | refine blk_drewN ?_ _ | refine blk_drew ?_ | refine blk_alloc ?_ _)); exact BK113.out) hg (Kd.R_ne HO_5.out BK113.out (by decide))); have n3_ := Aside0.mk (blk_grown (g := gb126) (o := .cells #[.int .i64 t121, .int .i64 t122, .int .i64 t123, .int .i64 t124] 46 (0, 0)) (by (with_reducible repeat (first | refine blk_drewN ?_ _ | refine blk_drew ?_ | refine blk_alloc ?_ _)); exact BK126.out) hg (Kd.R_ne HO_5.out BK126.out (by decide))); have n4_ := Aside0.mk ((by rw [hw]; exact below_set (HB.out) GB18.out : Below w.heap.size w w29)); clear HO_4; clear HO_5; clear BK113; clear BK126; clear HB; have HO_4 := n0_; have HO_5 := n1_; have BK113 := n2_; have BK126 := n3_; have HB := n4_; clear n0_ n1_ n2_ n3_ n4_; clear hg hw hp_))
                    go_roundg k1
                    case measure => have := HK1.out; omega
                    case rel => exact ⟨(y127), (y128), (wrap64 (x6_1 + 1)), (by first | rfl | (simp; done) | (simp [*]; done)), H', ⟨by have := HK1.out; omega⟩, ⟨by (with_reducible repeat (first | apply Kd.R_alloc | apply Kd.R_drewN | apply Kd.R_drew)); exact Kd.R_mono HO_4.out (fun _ hk => trivial)⟩, ⟨by (with_reducible repeat (first | apply Kd.R_alloc | apply Kd.R_drewN | apply Kd.R_drew)); exact HO_5.out⟩, ⟨by (with_reducible repeat (first | refine blk_drewN ?_ _ | refine blk_drew ?_ | refine blk_alloc ?_ _)); exact BK113.out⟩, ⟨by repeat (first | (with_reducible first | exact HB.out | apply below_alloc | apply pw_below_drewN | apply below_drew1 | refine below_set ?_ GE113.out | refine below_set ?_ GE126.out) | exact HB.out)⟩⟩
                  · rw [if_neg c17] at H
                    exact absurd H (by simp)
                · rw [if_neg c15] at H
                  exact absurd H (by simp)
              · rw [if_neg c13] at H
                exact absurd H (by simp)
            · rw [if_neg c12] at H
              have c12b0 : decide (x6_1 < (l0_0.length : Int)) = false := decide_eq_false c12
              clear c12
              simp only [Option.some.injEq, Prod.mk.injEq] at H
              obtain ⟨rfl, rfl⟩ := H
              have hcz30_0 : wr.cell? ⟨gb113, 0, none⟩ = some (.slice A0_0 l0_0.length c0_0) := (blk_cell BK113.out 0).trans rfl
              have hcz30_1 : wr.cell? ⟨gb113, 1, none⟩ = some (.int .i64 a0_1) := (blk_cell BK113.out 1).trans rfl
              have hfz30_0 := blk_frozen BK113.out 0
              have hfz30_1 := blk_frozen BK113.out 1
              go_wp2
              go_ret2
              exact ⟨_, _, by first | rfl | (simp [errW_none, errW_some] <;> rfl) | (simp [*, errW_none, errW_some] <;> rfl), by (with_reducible repeat (first | apply Kd.R_alloc | apply Kd.R_drewN | apply Kd.R_drew)); exact HO_4.out, by (with_reducible repeat (first | apply Kd.R_alloc | apply Kd.R_drewN | apply Kd.R_drew)); exact HO_5.out, by repeat (first | (with_reducible first | exact HB.out | apply below_alloc | apply pw_below_drewN | apply below_drew1 | refine below_set ?_ GE113.out) | exact HB.out)⟩
      · rw [if_neg c4] at H
        exact absurd H (by simp)
    · rw [if_neg c3] at H
      exact absurd H (by simp)
  · rw [if_neg c2] at H
    exact absurd H (by simp)
end Go.Proofs.YtdhkmdgieflioaaDoor.F
