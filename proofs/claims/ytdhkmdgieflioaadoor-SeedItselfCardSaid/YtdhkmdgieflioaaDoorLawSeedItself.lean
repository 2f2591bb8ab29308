/- The law SeedItself of the program answers true at every input that its row speaks of; the package-level variables that it reads start as the program's own text lays them (the card ties them). Conditions: those of the given row and card alone. -/
import Derived.Test.YtdhkmdgieflioaaDoorCards
import Derived.Test.YtdhkmdgieflioaaDoorTie
import Derived.SevenTiedAt
import Derived.ProofKit
import Derived.Stop.Joined
import Derived.Test.YtdhkmdgieflioaaDoorRowSeedItself
import Derived.Test.YtdhkmdgieflioaaDoorZ6
namespace Go.Proofs.YtdhkmdgieflioaaDoor
open Go.Proofs.YtdhkmdgieflioaaDoor.F
set_option linter.unusedVariables false
set_option linter.unusedSimpArgs false
open Go.ChangeShapes Go.WideShapes Go.ChangeAt Go.RowKit
namespace seedItself
theorem k1 : Rows.seedItselfRow.wf (OpenSpec.ofChange Rows.seedItselfSpec) = true := by kernel_rfl
theorem k4 : Tryd.f16.params.all (Tryd.prog.readableRec ·) = true := by kernel_rfl
theorem k5 : namedTie Tryd.prog Rows.seedItselfRow.named Rows.seedItselfSpec.vars = true := by kernel_rfl
theorem k10 : (Rows.seedItselfRow.inPlace == Tryd.prog.inPlace 16) = true := by kernel_rfl
theorem k11 : (Rows.seedItselfRow.unfollowed == Tryd.prog.unfollowed 16) = true := by kernel_rfl
theorem k12 : (Rows.seedItselfRow.recurses == Tryd.prog.recurses 16) = true := by kernel_rfl
theorem k13 : (Rows.seedItselfRow.named == Tryd.prog.varsNamed 16) = true := by kernel_rfl
theorem k14 : (Rows.seedItselfRow.maps == (Tryd.f16.params.toList ++ Rows.seedItselfSpec.plain.varTypes Tryd.prog).any (Tryd.prog.mapsRec ·)) = true := by kernel_rfl
theorem k15 : (Rows.seedItselfRow.ifaces == (Tryd.f16.params.toList ++ Rows.seedItselfSpec.plain.varTypes Tryd.prog).any (Tryd.prog.ifacesRec ·)) = true := by kernel_rfl
theorem k16 : (Rows.seedItselfRow.mapsOut == Tryd.prog.mapsAmong Tryd.f16.resultTypes.toList) = true := by kernel_rfl
theorem k17 : (Rows.seedItselfRow.loops == (Tryd.f16.params.toList ++ Rows.seedItselfSpec.plain.varTypes Tryd.prog).any (Tryd.prog.loopsFrom ·)) = true := by kernel_rfl
theorem k18 : (Rows.seedItselfRow.wideKeys == (Tryd.f16.params.toList ++ Rows.seedItselfSpec.plain.varTypes Tryd.prog ++ Tryd.f16.resultTypes.toList).any (Tryd.prog.wideKeysFrom ·)) = true := by kernel_rfl
theorem k19 : Rows.seedItselfSpec.vars.all (Tryd.prog.varReadable ·) = true := by kernel_rfl
theorem k20 : Tryd.f16.resultTypes.all (fun t => Tryd.prog.readableRec t && decide (t < Tryd.prog.types.size)) = true := by kernel_rfl
theorem k21 : (Rows.seedItselfRow.ifacesOut == Tryd.f16.resultTypes.toList.any (Tryd.prog.ifacesRec ·)) = true := by kernel_rfl
theorem k22 : (Rows.seedItselfRow.loopsOut == Tryd.f16.resultTypes.toList.any (Tryd.prog.loopsFrom ·)) = true := by kernel_rfl
theorem k29 : (Rows.seedItselfRow.kinds == kindsOf Tryd.prog Tryd.f16 Rows.seedItselfRow) = true := by kernel_rfl
theorem k30 : (Rows.seedItselfRow.pinned == Rows.seedItselfRow.pinnedBy) = true := by kernel_rfl
theorem k31 : (Rows.seedItselfRow.veiled == (Tryd.f16.params.toList ++ Rows.seedItselfSpec.plain.varTypes Tryd.prog ++ Tryd.f16.resultTypes.toList).any (Tryd.prog.veiledRec ·)) = true := by kernel_rfl
theorem k32 : Rows.seedItselfRow.veiledFits Tryd.prog Tryd.f16.params.toList (Tryd.f16.params.toList ++ Rows.seedItselfSpec.plain.varTypes Tryd.prog ++ Tryd.f16.resultTypes.toList) = true := by kernel_rfl
theorem kn : Tryd.prog.funcNamed Rows.seedItselfRow.func = some 16 := by kernel_rfl
theorem ki : decide (Tryd.f16.isInstance Tryd.prog Rows.seedItselfRow.origin Rows.seedItselfRow.targs) = true := by kernel_rfl
theorem kg : Rows.seedItselfRow.goesBy Tryd.prog = false := by kernel_rfl
theorem kw : Rows.seedItselfRow.wfByText (OpenSpec.ofChange Rows.seedItselfSpec) = true := by kernel_rfl
theorem kp : (Check.packageOf Tryd.f16.name == "main") = false := by kernel_rfl
theorem k6 : (Rows.seedItselfRow.stops == []) = true := by kernel_rfl
theorem k8 : (Rows.seedItselfRow.knobs == []) = true := by kernel_rfl
theorem k24 : Rows.seedItselfRow.shortTexts.isNone = true := by kernel_rfl
theorem k23 : (Rows.seedItselfRow.plainKeys == Tryd.prog.plainKeys) = true := by kernel_rfl
theorem k27 : (Rows.seedItselfRow.lifted == Tryd.prog.liftsFinal) = true := by
  rw [lifts_final]
  kernel_rfl
theorem k28 : (Tryd.prog.make == some Rows.seedItselfRow.make) = true := by
  rw [make_cut]
  kernel_rfl
theorem closed : joinedFacts Tryd.prog 16 Tryd.f16 Rows.seedItselfSpec Rows.seedItselfRow = true :=
  joined_of k1 p_laid p_rowed k4 k5 k6 p_stops k8 p_knobs k10 k11 k12 k13 k14 k15 k16 k17 k18 k19 k20 k21 k22 k23 k24 p_heard may_enter k27 k28 k29 k30 k31 k32
theorem wrap : Tryd.f16.isWrapper Tryd.prog Rows.seedItselfRow.wrapper Rows.seedItselfRow.mainSum := by
  unfold Func.isWrapper
  rw [if_neg (by have h := kp; simpa using h)]
  exact ⟨rfl, rfl⟩
theorem over : Rows.seedItselfRow.holds Tryd.pinned (OpenSpec.ofChange Rows.seedItselfSpec) :=
  OpenClaim.holds_of_wide 16 Tryd.f16 rfl rfl rfl rfl rfl rfl rfl ⟨rfl, rfl, rfl, rfl, rfl⟩ rfl rfl rfl rfl rfl kn Tryd.func16 closed (of_decide_eq_true ki) wrap
    (fun os started H enc _ => lifted os started H enc)
theorem card : Rows.SeedItselfCardSaid :=
  Claim7.holds_tied_plain_at .later [] [.data, .data, .data, .data, .data] true (true, "32f7f7aec7448378b47f94c14a021b7dc57130e43b4450819b795863dbcbff87") false
    over (fun _ h => by cases h) kw (fun _ h => by cases h) seedItself_row_tie rfl ⟨rfl, rfl⟩ main_sum rfl
    (fun f fn hf hfn => by
      obtain rfl : f = 16 := Option.some.inj (kn.symm.trans hf) |>.symm
      obtain rfl : fn = Tryd.f16 := (Option.some.inj (Tryd.func16.symm.trans hfn)).symm
      exact ⟨p_looks.symm, fun j t ht => by
        rw [Tryd.params16] at ht
        simp at ht⟩)
    kg.symm
end seedItself
theorem seedItself_holds : Rows.SeedItselfCardSaid := seedItself.card
#print axioms seedItself_holds
end Go.Proofs.YtdhkmdgieflioaaDoor
