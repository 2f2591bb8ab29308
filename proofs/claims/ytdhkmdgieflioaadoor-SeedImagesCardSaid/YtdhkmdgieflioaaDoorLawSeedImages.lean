/- The law SeedImages of the program answers true at every input that its row speaks of; the package-level variables that it reads start as the program's own text lays them (the card ties them). Conditions: those of the given row and card alone. -/
import Derived.Test.YtdhkmdgieflioaaDoorCards
import Derived.Test.YtdhkmdgieflioaaDoorTie
import Derived.SevenTiedAt
import Derived.ProofKit
import Derived.Stop.Joined
import Derived.Test.YtdhkmdgieflioaaDoorRowSeedImages
import Derived.Test.YtdhkmdgieflioaaDoorY6
namespace Go.Proofs.YtdhkmdgieflioaaDoor
open Go.Proofs.YtdhkmdgieflioaaDoor.F
set_option linter.unusedVariables false
set_option linter.unusedSimpArgs false
open Go.ChangeShapes Go.WideShapes Go.ChangeAt Go.RowKit
namespace seedImages
theorem k1 : Rows.seedImagesRow.wf (OpenSpec.ofChange Rows.seedImagesSpec) = true := by kernel_rfl
theorem k4 : Tryd.f5.params.all (Tryd.prog.readableRec ·) = true := by kernel_rfl
theorem k5 : namedTie Tryd.prog Rows.seedImagesRow.named Rows.seedImagesSpec.vars = true := by kernel_rfl
theorem k10 : (Rows.seedImagesRow.inPlace == Tryd.prog.inPlace 5) = true := by kernel_rfl
theorem k11 : (Rows.seedImagesRow.unfollowed == Tryd.prog.unfollowed 5) = true := by kernel_rfl
theorem k12 : (Rows.seedImagesRow.recurses == Tryd.prog.recurses 5) = true := by kernel_rfl
theorem k13 : (Rows.seedImagesRow.named == Tryd.prog.varsNamed 5) = true := by kernel_rfl
theorem k14 : (Rows.seedImagesRow.maps == (Tryd.f5.params.toList ++ Rows.seedImagesSpec.plain.varTypes Tryd.prog).any (Tryd.prog.mapsRec ·)) = true := by kernel_rfl
theorem k15 : (Rows.seedImagesRow.ifaces == (Tryd.f5.params.toList ++ Rows.seedImagesSpec.plain.varTypes Tryd.prog).any (Tryd.prog.ifacesRec ·)) = true := by kernel_rfl
theorem k16 : (Rows.seedImagesRow.mapsOut == Tryd.prog.mapsAmong Tryd.f5.resultTypes.toList) = true := by kernel_rfl
theorem k17 : (Rows.seedImagesRow.loops == (Tryd.f5.params.toList ++ Rows.seedImagesSpec.plain.varTypes Tryd.prog).any (Tryd.prog.loopsFrom ·)) = true := by kernel_rfl
theorem k18 : (Rows.seedImagesRow.wideKeys == (Tryd.f5.params.toList ++ Rows.seedImagesSpec.plain.varTypes Tryd.prog ++ Tryd.f5.resultTypes.toList).any (Tryd.prog.wideKeysFrom ·)) = true := by kernel_rfl
theorem k19 : Rows.seedImagesSpec.vars.all (Tryd.prog.varReadable ·) = true := by kernel_rfl
theorem k20 : Tryd.f5.resultTypes.all (fun t => Tryd.prog.readableRec t && decide (t < Tryd.prog.types.size)) = true := by kernel_rfl
theorem k21 : (Rows.seedImagesRow.ifacesOut == Tryd.f5.resultTypes.toList.any (Tryd.prog.ifacesRec ·)) = true := by kernel_rfl
theorem k22 : (Rows.seedImagesRow.loopsOut == Tryd.f5.resultTypes.toList.any (Tryd.prog.loopsFrom ·)) = true := by kernel_rfl
theorem k29 : (Rows.seedImagesRow.kinds == kindsOf Tryd.prog Tryd.f5 Rows.seedImagesRow) = true := by kernel_rfl
theorem k30 : (Rows.seedImagesRow.pinned == Rows.seedImagesRow.pinnedBy) = true := by kernel_rfl
theorem k31 : (Rows.seedImagesRow.veiled == (Tryd.f5.params.toList ++ Rows.seedImagesSpec.plain.varTypes Tryd.prog ++ Tryd.f5.resultTypes.toList).any (Tryd.prog.veiledRec ·)) = true := by kernel_rfl
theorem k32 : Rows.seedImagesRow.veiledFits Tryd.prog Tryd.f5.params.toList (Tryd.f5.params.toList ++ Rows.seedImagesSpec.plain.varTypes Tryd.prog ++ Tryd.f5.resultTypes.toList) = true := by kernel_rfl
theorem kn : Tryd.prog.funcNamed Rows.seedImagesRow.func = some 5 := by kernel_rfl
theorem ki : decide (Tryd.f5.isInstance Tryd.prog Rows.seedImagesRow.origin Rows.seedImagesRow.targs) = true := by kernel_rfl
theorem kg : Rows.seedImagesRow.goesBy Tryd.prog = false := by kernel_rfl
theorem kw : Rows.seedImagesRow.wfByText (OpenSpec.ofChange Rows.seedImagesSpec) = true := by kernel_rfl
theorem kp : (Check.packageOf Tryd.f5.name == "main") = false := by kernel_rfl
theorem k6 : (Rows.seedImagesRow.stops == []) = true := by kernel_rfl
theorem k8 : (Rows.seedImagesRow.knobs == []) = true := by kernel_rfl
theorem k24 : Rows.seedImagesRow.shortTexts.isNone = true := by kernel_rfl
theorem k23 : (Rows.seedImagesRow.plainKeys == Tryd.prog.plainKeys) = true := by kernel_rfl
theorem k27 : (Rows.seedImagesRow.lifted == Tryd.prog.liftsFinal) = true := by
  rw [lifts_final]
  kernel_rfl
theorem k28 : (Tryd.prog.make == some Rows.seedImagesRow.make) = true := by
  rw [make_cut]
  kernel_rfl
theorem closed : joinedFacts Tryd.prog 5 Tryd.f5 Rows.seedImagesSpec Rows.seedImagesRow = true :=
  joined_of k1 p_laid p_rowed k4 k5 k6 p_stops k8 p_knobs k10 k11 k12 k13 k14 k15 k16 k17 k18 k19 k20 k21 k22 k23 k24 p_heard may_enter k27 k28 k29 k30 k31 k32
theorem wrap : Tryd.f5.isWrapper Tryd.prog Rows.seedImagesRow.wrapper Rows.seedImagesRow.mainSum := by
  unfold Func.isWrapper
  rw [if_neg (by have h := kp; simpa using h)]
  exact ⟨rfl, rfl⟩
theorem over : Rows.seedImagesRow.holds Tryd.pinned (OpenSpec.ofChange Rows.seedImagesSpec) :=
  OpenClaim.holds_of_wide 5 Tryd.f5 rfl rfl rfl rfl rfl rfl rfl ⟨rfl, rfl, rfl, rfl, rfl⟩ rfl rfl rfl rfl rfl kn Tryd.func5 closed (of_decide_eq_true ki) wrap
    (fun os started H enc _ => lifted os started H enc)
theorem card : Rows.SeedImagesCardSaid :=
  Claim7.holds_tied_plain_at .later [] [.data, .data] true (true, "32f7f7aec7448378b47f94c14a021b7dc57130e43b4450819b795863dbcbff87") false
    over (fun _ h => by cases h) kw (fun _ h => by cases h) seedImages_row_tie rfl ⟨rfl, rfl⟩ main_sum rfl
    (fun f fn hf hfn => by
      obtain rfl : f = 5 := Option.some.inj (kn.symm.trans hf) |>.symm
      obtain rfl : fn = Tryd.f5 := (Option.some.inj (Tryd.func5.symm.trans hfn)).symm
      exact ⟨p_looks.symm, fun j t ht => by
        rw [Tryd.params5] at ht
        have hm : t ∈ [28] := by simpa using Array.mem_of_getElem? ht
        have hall : ([28].all fun u => !Tryd.prog.wantsStandIn u) = true := by kernel_rfl
        exact (show Tryd.prog.wantsStandIn t = false by simpa using List.all_eq_true.1 hall t hm)⟩)
    kg.symm
end seedImages
theorem seedImages_holds : Rows.SeedImagesCardSaid := seedImages.card
#print axioms seedImages_holds
end Go.Proofs.YtdhkmdgieflioaaDoor
