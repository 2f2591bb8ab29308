/- The law SeedTwo of the program answers true at every input that its row speaks of; the package-level variables that it reads start as the program's own text lays them (the card ties them). Conditions: those of the given row and card alone. -/
import Derived.Test.YtdhkmdgieflioaaDoorCards
import Derived.Test.YtdhkmdgieflioaaDoorTie
import Derived.SevenTiedAt
import Derived.ProofKit
import Derived.Stop.Joined
import Derived.Test.YtdhkmdgieflioaaDoorRowSeedTwo
import Derived.Test.YtdhkmdgieflioaaDoorK6
namespace Go.Proofs.YtdhkmdgieflioaaDoor
open Go.Proofs.YtdhkmdgieflioaaDoor.F
set_option linter.unusedVariables false
set_option linter.unusedSimpArgs false
open Go.ChangeShapes Go.WideShapes Go.ChangeAt Go.RowKit
namespace seedTwo
theorem k1 : Rows.seedTwoRow.wf (OpenSpec.ofChange Rows.seedTwoSpec) = true := by kernel_rfl
theorem k4 : Tryd.f7.params.all (Tryd.prog.readableRec ·) = true := by kernel_rfl
theorem k5 : namedTie Tryd.prog Rows.seedTwoRow.named Rows.seedTwoSpec.vars = true := by kernel_rfl
theorem k10 : (Rows.seedTwoRow.inPlace == Tryd.prog.inPlace 7) = true := by kernel_rfl
theorem k11 : (Rows.seedTwoRow.unfollowed == Tryd.prog.unfollowed 7) = true := by kernel_rfl
theorem k12 : (Rows.seedTwoRow.recurses == Tryd.prog.recurses 7) = true := by kernel_rfl
theorem k13 : (Rows.seedTwoRow.named == Tryd.prog.varsNamed 7) = true := by kernel_rfl
theorem k14 : (Rows.seedTwoRow.maps == (Tryd.f7.params.toList ++ Rows.seedTwoSpec.plain.varTypes Tryd.prog).any (Tryd.prog.mapsRec ·)) = true := by kernel_rfl
theorem k15 : (Rows.seedTwoRow.ifaces == (Tryd.f7.params.toList ++ Rows.seedTwoSpec.plain.varTypes Tryd.prog).any (Tryd.prog.ifacesRec ·)) = true := by kernel_rfl
theorem k16 : (Rows.seedTwoRow.mapsOut == Tryd.prog.mapsAmong Tryd.f7.resultTypes.toList) = true := by kernel_rfl
theorem k17 : (Rows.seedTwoRow.loops == (Tryd.f7.params.toList ++ Rows.seedTwoSpec.plain.varTypes Tryd.prog).any (Tryd.prog.loopsFrom ·)) = true := by kernel_rfl
theorem k18 : (Rows.seedTwoRow.wideKeys == (Tryd.f7.params.toList ++ Rows.seedTwoSpec.plain.varTypes Tryd.prog ++ Tryd.f7.resultTypes.toList).any (Tryd.prog.wideKeysFrom ·)) = true := by kernel_rfl
theorem k19 : Rows.seedTwoSpec.vars.all (Tryd.prog.varReadable ·) = true := by kernel_rfl
theorem k20 : Tryd.f7.resultTypes.all (fun t => Tryd.prog.readableRec t && decide (t < Tryd.prog.types.size)) = true := by kernel_rfl
theorem k21 : (Rows.seedTwoRow.ifacesOut == Tryd.f7.resultTypes.toList.any (Tryd.prog.ifacesRec ·)) = true := by kernel_rfl
theorem k22 : (Rows.seedTwoRow.loopsOut == Tryd.f7.resultTypes.toList.any (Tryd.prog.loopsFrom ·)) = true := by kernel_rfl
theorem k29 : (Rows.seedTwoRow.kinds == kindsOf Tryd.prog Tryd.f7 Rows.seedTwoRow) = true := by kernel_rfl
theorem k30 : (Rows.seedTwoRow.pinned == Rows.seedTwoRow.pinnedBy) = true := by kernel_rfl
theorem k31 : (Rows.seedTwoRow.veiled == (Tryd.f7.params.toList ++ Rows.seedTwoSpec.plain.varTypes Tryd.prog ++ Tryd.f7.resultTypes.toList).any (Tryd.prog.veiledRec ·)) = true := by kernel_rfl
theorem k32 : Rows.seedTwoRow.veiledFits Tryd.prog Tryd.f7.params.toList (Tryd.f7.params.toList ++ Rows.seedTwoSpec.plain.varTypes Tryd.prog ++ Tryd.f7.resultTypes.toList) = true := by kernel_rfl
theorem kn : Tryd.prog.funcNamed Rows.seedTwoRow.func = some 7 := by kernel_rfl
theorem ki : decide (Tryd.f7.isInstance Tryd.prog Rows.seedTwoRow.origin Rows.seedTwoRow.targs) = true := by kernel_rfl
theorem kg : Rows.seedTwoRow.goesBy Tryd.prog = false := by kernel_rfl
theorem kw : Rows.seedTwoRow.wfByText (OpenSpec.ofChange Rows.seedTwoSpec) = true := by kernel_rfl
theorem kp : (Check.packageOf Tryd.f7.name == "main") = false := by kernel_rfl
theorem k6 : (Rows.seedTwoRow.stops == []) = true := by kernel_rfl
theorem k8 : (Rows.seedTwoRow.knobs == []) = true := by kernel_rfl
theorem k24 : Rows.seedTwoRow.shortTexts.isNone = true := by kernel_rfl
theorem k23 : (Rows.seedTwoRow.plainKeys == Tryd.prog.plainKeys) = true := by kernel_rfl
theorem k27 : (Rows.seedTwoRow.lifted == Tryd.prog.liftsFinal) = true := by
  rw [lifts_final]
  kernel_rfl
theorem k28 : (Tryd.prog.make == some Rows.seedTwoRow.make) = true := by
  rw [make_cut]
  kernel_rfl
theorem closed : joinedFacts Tryd.prog 7 Tryd.f7 Rows.seedTwoSpec Rows.seedTwoRow = true :=
  joined_of k1 p_laid p_rowed k4 k5 k6 p_stops k8 p_knobs k10 k11 k12 k13 k14 k15 k16 k17 k18 k19 k20 k21 k22 k23 k24 p_heard may_enter k27 k28 k29 k30 k31 k32
theorem wrap : Tryd.f7.isWrapper Tryd.prog Rows.seedTwoRow.wrapper Rows.seedTwoRow.mainSum := by
  unfold Func.isWrapper
  rw [if_neg (by have h := kp; simpa using h)]
  exact ⟨rfl, rfl⟩
theorem over : Rows.seedTwoRow.holds Tryd.pinned (OpenSpec.ofChange Rows.seedTwoSpec) :=
  OpenClaim.holds_of_wide 7 Tryd.f7 rfl rfl rfl rfl rfl rfl rfl ⟨rfl, rfl, rfl, rfl, rfl⟩ rfl rfl rfl rfl rfl kn Tryd.func7 closed (of_decide_eq_true ki) wrap
    (fun os started H enc _ => lifted os started H enc)
theorem card : Rows.SeedTwoCardSaid :=
  Claim7.holds_tied_plain_at .later [] [.data, .data] true (true, "32f7f7aec7448378b47f94c14a021b7dc57130e43b4450819b795863dbcbff87") false
    over (fun _ h => by cases h) kw (fun _ h => by cases h) seedTwo_row_tie rfl ⟨rfl, rfl⟩ main_sum rfl
    (fun f fn hf hfn => by
      obtain rfl : f = 7 := Option.some.inj (kn.symm.trans hf) |>.symm
      obtain rfl : fn = Tryd.f7 := (Option.some.inj (Tryd.func7.symm.trans hfn)).symm
      exact ⟨p_looks.symm, fun j t ht => by
        rw [Tryd.params7] at ht
        have hm : t ∈ [9, 9] := by simpa using Array.mem_of_getElem? ht
        have hall : ([9, 9].all fun u => !Tryd.prog.wantsStandIn u) = true := by kernel_rfl
        exact (show Tryd.prog.wantsStandIn t = false by simpa using List.all_eq_true.1 hall t hm)⟩)
    kg.symm
end seedTwo
theorem seedTwo_holds : Rows.SeedTwoCardSaid := seedTwo.card
#print axioms seedTwo_holds
end Go.Proofs.YtdhkmdgieflioaaDoor
