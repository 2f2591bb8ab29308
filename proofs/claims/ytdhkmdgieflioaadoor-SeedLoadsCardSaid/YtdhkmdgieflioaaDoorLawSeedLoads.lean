/- The law SeedLoads of the program answers true at every input that its row speaks of; the package-level variables that it reads start as the program's own text lays them (the card ties them). Conditions: those of the given row and card alone. -/
import Derived.Test.YtdhkmdgieflioaaDoorCards
import Derived.Test.YtdhkmdgieflioaaDoorTie
import Derived.SevenTiedAt
import Derived.ProofKit
import Derived.Stop.Joined
import Derived.Test.YtdhkmdgieflioaaDoorRowSeedLoads
import Derived.Test.YtdhkmdgieflioaaDoorC5
namespace Go.Proofs.YtdhkmdgieflioaaDoor
open Go.Proofs.YtdhkmdgieflioaaDoor.F
set_option linter.unusedVariables false
set_option linter.unusedSimpArgs false
open Go.ChangeShapes Go.WideShapes Go.ChangeAt Go.RowKit
namespace seedLoads
theorem k1 : Rows.seedLoadsRow.wf (OpenSpec.ofChange Rows.seedLoadsSpec) = true := by kernel_rfl
theorem k4 : Tryd.f3.params.all (Tryd.prog.readableRec ·) = true := by kernel_rfl
theorem k5 : namedTie Tryd.prog Rows.seedLoadsRow.named Rows.seedLoadsSpec.vars = true := by kernel_rfl
theorem k10 : (Rows.seedLoadsRow.inPlace == Tryd.prog.inPlace 3) = true := by kernel_rfl
theorem k11 : (Rows.seedLoadsRow.unfollowed == Tryd.prog.unfollowed 3) = true := by kernel_rfl
theorem k12 : (Rows.seedLoadsRow.recurses == Tryd.prog.recurses 3) = true := by kernel_rfl
theorem k13 : (Rows.seedLoadsRow.named == Tryd.prog.varsNamed 3) = true := by kernel_rfl
theorem k14 : (Rows.seedLoadsRow.maps == (Tryd.f3.params.toList ++ Rows.seedLoadsSpec.plain.varTypes Tryd.prog).any (Tryd.prog.mapsRec ·)) = true := by kernel_rfl
theorem k15 : (Rows.seedLoadsRow.ifaces == (Tryd.f3.params.toList ++ Rows.seedLoadsSpec.plain.varTypes Tryd.prog).any (Tryd.prog.ifacesRec ·)) = true := by kernel_rfl
theorem k16 : (Rows.seedLoadsRow.mapsOut == Tryd.prog.mapsAmong Tryd.f3.resultTypes.toList) = true := by kernel_rfl
theorem k17 : (Rows.seedLoadsRow.loops == (Tryd.f3.params.toList ++ Rows.seedLoadsSpec.plain.varTypes Tryd.prog).any (Tryd.prog.loopsFrom ·)) = true := by kernel_rfl
theorem k18 : (Rows.seedLoadsRow.wideKeys == (Tryd.f3.params.toList ++ Rows.seedLoadsSpec.plain.varTypes Tryd.prog ++ Tryd.f3.resultTypes.toList).any (Tryd.prog.wideKeysFrom ·)) = true := by kernel_rfl
theorem k19 : Rows.seedLoadsSpec.vars.all (Tryd.prog.varReadable ·) = true := by kernel_rfl
theorem k20 : Tryd.f3.resultTypes.all (fun t => Tryd.prog.readableRec t && decide (t < Tryd.prog.types.size)) = true := by kernel_rfl
theorem k21 : (Rows.seedLoadsRow.ifacesOut == Tryd.f3.resultTypes.toList.any (Tryd.prog.ifacesRec ·)) = true := by kernel_rfl
theorem k22 : (Rows.seedLoadsRow.loopsOut == Tryd.f3.resultTypes.toList.any (Tryd.prog.loopsFrom ·)) = true := by kernel_rfl
theorem k29 : (Rows.seedLoadsRow.kinds == kindsOf Tryd.prog Tryd.f3 Rows.seedLoadsRow) = true := by kernel_rfl
theorem k30 : (Rows.seedLoadsRow.pinned == Rows.seedLoadsRow.pinnedBy) = true := by kernel_rfl
theorem k31 : (Rows.seedLoadsRow.veiled == (Tryd.f3.params.toList ++ Rows.seedLoadsSpec.plain.varTypes Tryd.prog ++ Tryd.f3.resultTypes.toList).any (Tryd.prog.veiledRec ·)) = true := by kernel_rfl
theorem k32 : Rows.seedLoadsRow.veiledFits Tryd.prog Tryd.f3.params.toList (Tryd.f3.params.toList ++ Rows.seedLoadsSpec.plain.varTypes Tryd.prog ++ Tryd.f3.resultTypes.toList) = true := by kernel_rfl
theorem kn : Tryd.prog.funcNamed Rows.seedLoadsRow.func = some 3 := by kernel_rfl
theorem ki : decide (Tryd.f3.isInstance Tryd.prog Rows.seedLoadsRow.origin Rows.seedLoadsRow.targs) = true := by kernel_rfl
theorem kg : Rows.seedLoadsRow.goesBy Tryd.prog = false := by kernel_rfl
theorem kw : Rows.seedLoadsRow.wfByText (OpenSpec.ofChange Rows.seedLoadsSpec) = true := by kernel_rfl
theorem kp : (Check.packageOf Tryd.f3.name == "main") = false := by kernel_rfl
theorem k6 : (Rows.seedLoadsRow.stops == []) = true := by kernel_rfl
theorem k8 : (Rows.seedLoadsRow.knobs == []) = true := by kernel_rfl
theorem k24 : Rows.seedLoadsRow.shortTexts.isNone = true := by kernel_rfl
theorem k23 : (Rows.seedLoadsRow.plainKeys == Tryd.prog.plainKeys) = true := by kernel_rfl
theorem k27 : (Rows.seedLoadsRow.lifted == Tryd.prog.liftsFinal) = true := by
  rw [lifts_final]
  kernel_rfl
theorem k28 : (Tryd.prog.make == some Rows.seedLoadsRow.make) = true := by
  rw [make_cut]
  kernel_rfl
theorem closed : joinedFacts Tryd.prog 3 Tryd.f3 Rows.seedLoadsSpec Rows.seedLoadsRow = true :=
  joined_of k1 p_laid p_rowed k4 k5 k6 p_stops k8 p_knobs k10 k11 k12 k13 k14 k15 k16 k17 k18 k19 k20 k21 k22 k23 k24 p_heard may_enter k27 k28 k29 k30 k31 k32
theorem wrap : Tryd.f3.isWrapper Tryd.prog Rows.seedLoadsRow.wrapper Rows.seedLoadsRow.mainSum := by
  unfold Func.isWrapper
  rw [if_neg (by have h := kp; simpa using h)]
  exact ⟨rfl, rfl⟩
theorem over : Rows.seedLoadsRow.holds Tryd.pinned (OpenSpec.ofChange Rows.seedLoadsSpec) :=
  OpenClaim.holds_of_wide 3 Tryd.f3 rfl rfl rfl rfl rfl rfl rfl ⟨rfl, rfl, rfl, rfl, rfl⟩ rfl rfl rfl rfl rfl kn Tryd.func3 closed (of_decide_eq_true ki) wrap
    (fun os started H enc _ => lifted os started H enc)
theorem card : Rows.SeedLoadsCardSaid :=
  Claim7.holds_tied_plain_at .later [] [.data, .data] true (true, "32f7f7aec7448378b47f94c14a021b7dc57130e43b4450819b795863dbcbff87") false
    over (fun _ h => by cases h) kw (fun _ h => by cases h) seedLoads_row_tie rfl ⟨rfl, rfl⟩ main_sum rfl
    (fun f fn hf hfn => by
      obtain rfl : f = 3 := Option.some.inj (kn.symm.trans hf) |>.symm
      obtain rfl : fn = Tryd.f3 := (Option.some.inj (Tryd.func3.symm.trans hfn)).symm
      exact ⟨p_looks.symm, fun j t ht => by
        rw [Tryd.params3] at ht
        have hm : t ∈ [9] := by simpa using Array.mem_of_getElem? ht
        have hall : ([9].all fun u => !Tryd.prog.wantsStandIn u) = true := by kernel_rfl
        exact (show Tryd.prog.wantsStandIn t = false by simpa using List.all_eq_true.1 hall t hm)⟩)
    kg.symm
end seedLoads
theorem seedLoads_holds : Rows.SeedLoadsCardSaid := seedLoads.card
#print axioms seedLoads_holds
end Go.Proofs.YtdhkmdgieflioaaDoor
