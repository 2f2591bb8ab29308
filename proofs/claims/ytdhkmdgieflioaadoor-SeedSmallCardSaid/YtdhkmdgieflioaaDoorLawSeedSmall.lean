/- The law SeedSmall of the program answers true at every input that its row speaks of; the package-level variables that it reads start as the program's own text lays them (the card ties them). Conditions: those of the given row and card alone. -/
import Derived.Test.YtdhkmdgieflioaaDoorCards
import Derived.Test.YtdhkmdgieflioaaDoorTie
import Derived.SevenTiedAt
import Derived.ProofKit
import Derived.Stop.Joined
import Derived.Test.YtdhkmdgieflioaaDoorRowSeedSmall
import Derived.Test.YtdhkmdgieflioaaDoorC5
namespace Go.Proofs.YtdhkmdgieflioaaDoor
open Go.Proofs.YtdhkmdgieflioaaDoor.F
set_option linter.unusedVariables false
set_option linter.unusedSimpArgs false
open Go.ChangeShapes Go.WideShapes Go.ChangeAt Go.RowKit
namespace seedSmall
theorem k1 : Rows.seedSmallRow.wf (OpenSpec.ofChange Rows.seedSmallSpec) = true := by kernel_rfl
theorem k4 : Tryd.f4.params.all (Tryd.prog.readableRec ·) = true := by kernel_rfl
theorem k5 : namedTie Tryd.prog Rows.seedSmallRow.named Rows.seedSmallSpec.vars = true := by kernel_rfl
theorem k10 : (Rows.seedSmallRow.inPlace == Tryd.prog.inPlace 4) = true := by kernel_rfl
theorem k11 : (Rows.seedSmallRow.unfollowed == Tryd.prog.unfollowed 4) = true := by kernel_rfl
theorem k12 : (Rows.seedSmallRow.recurses == Tryd.prog.recurses 4) = true := by kernel_rfl
theorem k13 : (Rows.seedSmallRow.named == Tryd.prog.varsNamed 4) = true := by kernel_rfl
theorem k14 : (Rows.seedSmallRow.maps == (Tryd.f4.params.toList ++ Rows.seedSmallSpec.plain.varTypes Tryd.prog).any (Tryd.prog.mapsRec ·)) = true := by kernel_rfl
theorem k15 : (Rows.seedSmallRow.ifaces == (Tryd.f4.params.toList ++ Rows.seedSmallSpec.plain.varTypes Tryd.prog).any (Tryd.prog.ifacesRec ·)) = true := by kernel_rfl
theorem k16 : (Rows.seedSmallRow.mapsOut == Tryd.prog.mapsAmong Tryd.f4.resultTypes.toList) = true := by kernel_rfl
theorem k17 : (Rows.seedSmallRow.loops == (Tryd.f4.params.toList ++ Rows.seedSmallSpec.plain.varTypes Tryd.prog).any (Tryd.prog.loopsFrom ·)) = true := by kernel_rfl
theorem k18 : (Rows.seedSmallRow.wideKeys == (Tryd.f4.params.toList ++ Rows.seedSmallSpec.plain.varTypes Tryd.prog ++ Tryd.f4.resultTypes.toList).any (Tryd.prog.wideKeysFrom ·)) = true := by kernel_rfl
theorem k19 : Rows.seedSmallSpec.vars.all (Tryd.prog.varReadable ·) = true := by kernel_rfl
theorem k20 : Tryd.f4.resultTypes.all (fun t => Tryd.prog.readableRec t && decide (t < Tryd.prog.types.size)) = true := by kernel_rfl
theorem k21 : (Rows.seedSmallRow.ifacesOut == Tryd.f4.resultTypes.toList.any (Tryd.prog.ifacesRec ·)) = true := by kernel_rfl
theorem k22 : (Rows.seedSmallRow.loopsOut == Tryd.f4.resultTypes.toList.any (Tryd.prog.loopsFrom ·)) = true := by kernel_rfl
theorem k29 : (Rows.seedSmallRow.kinds == kindsOf Tryd.prog Tryd.f4 Rows.seedSmallRow) = true := by kernel_rfl
theorem k30 : (Rows.seedSmallRow.pinned == Rows.seedSmallRow.pinnedBy) = true := by kernel_rfl
theorem k31 : (Rows.seedSmallRow.veiled == (Tryd.f4.params.toList ++ Rows.seedSmallSpec.plain.varTypes Tryd.prog ++ Tryd.f4.resultTypes.toList).any (Tryd.prog.veiledRec ·)) = true := by kernel_rfl
theorem k32 : Rows.seedSmallRow.veiledFits Tryd.prog Tryd.f4.params.toList (Tryd.f4.params.toList ++ Rows.seedSmallSpec.plain.varTypes Tryd.prog ++ Tryd.f4.resultTypes.toList) = true := by kernel_rfl
theorem kn : Tryd.prog.funcNamed Rows.seedSmallRow.func = some 4 := by kernel_rfl
theorem ki : decide (Tryd.f4.isInstance Tryd.prog Rows.seedSmallRow.origin Rows.seedSmallRow.targs) = true := by kernel_rfl
theorem kg : Rows.seedSmallRow.goesBy Tryd.prog = false := by kernel_rfl
theorem kw : Rows.seedSmallRow.wfByText (OpenSpec.ofChange Rows.seedSmallSpec) = true := by kernel_rfl
theorem kp : (Check.packageOf Tryd.f4.name == "main") = false := by kernel_rfl
theorem k6 : (Rows.seedSmallRow.stops == []) = true := by kernel_rfl
theorem k8 : (Rows.seedSmallRow.knobs == []) = true := by kernel_rfl
theorem k24 : Rows.seedSmallRow.shortTexts.isNone = true := by kernel_rfl
theorem k23 : (Rows.seedSmallRow.plainKeys == Tryd.prog.plainKeys) = true := by kernel_rfl
theorem k27 : (Rows.seedSmallRow.lifted == Tryd.prog.liftsFinal) = true := by
  rw [lifts_final]
  kernel_rfl
theorem k28 : (Tryd.prog.make == some Rows.seedSmallRow.make) = true := by
  rw [make_cut]
  kernel_rfl
theorem closed : joinedFacts Tryd.prog 4 Tryd.f4 Rows.seedSmallSpec Rows.seedSmallRow = true :=
  joined_of k1 p_laid p_rowed k4 k5 k6 p_stops k8 p_knobs k10 k11 k12 k13 k14 k15 k16 k17 k18 k19 k20 k21 k22 k23 k24 p_heard may_enter k27 k28 k29 k30 k31 k32
theorem wrap : Tryd.f4.isWrapper Tryd.prog Rows.seedSmallRow.wrapper Rows.seedSmallRow.mainSum := by
  unfold Func.isWrapper
  rw [if_neg (by have h := kp; simpa using h)]
  exact ⟨rfl, rfl⟩
theorem over : Rows.seedSmallRow.holds Tryd.pinned (OpenSpec.ofChange Rows.seedSmallSpec) :=
  OpenClaim.holds_of_wide 4 Tryd.f4 rfl rfl rfl rfl rfl rfl rfl ⟨rfl, rfl, rfl, rfl, rfl⟩ rfl rfl rfl rfl rfl kn Tryd.func4 closed (of_decide_eq_true ki) wrap
    (fun os started H enc _ => lifted os started H enc)
theorem card : Rows.SeedSmallCardSaid :=
  Claim7.holds_tied_plain_at .later [] [.data, .data] true (true, "32f7f7aec7448378b47f94c14a021b7dc57130e43b4450819b795863dbcbff87") false
    over (fun _ h => by cases h) kw (fun _ h => by cases h) seedSmall_row_tie rfl ⟨rfl, rfl⟩ main_sum rfl
    (fun f fn hf hfn => by
      obtain rfl : f = 4 := Option.some.inj (kn.symm.trans hf) |>.symm
      obtain rfl : fn = Tryd.f4 := (Option.some.inj (Tryd.func4.symm.trans hfn)).symm
      exact ⟨p_looks.symm, fun j t ht => by
        rw [Tryd.params4] at ht
        simp at ht⟩)
    kg.symm
end seedSmall
theorem seedSmall_holds : Rows.SeedSmallCardSaid := seedSmall.card
#print axioms seedSmall_holds
end Go.Proofs.YtdhkmdgieflioaaDoor
