/- The law ListingGoesOn of the program answers true at every input that its row speaks of; the package-level variables that it reads start as the program's own text lays them (the card ties them). Conditions: those of the given row and card alone. -/
import Derived.Test.YtdhkmdgieflioaaDoorCards
import Derived.Test.YtdhkmdgieflioaaDoorTie
import Derived.SevenTiedAt
import Derived.ProofKit
import Derived.Stop.Joined
import Derived.Test.YtdhkmdgieflioaaDoorRowListingGoesOn
import Derived.Test.YtdhkmdgieflioaaDoorL3
namespace Go.Proofs.YtdhkmdgieflioaaDoor
open Go.Proofs.YtdhkmdgieflioaaDoor.F
set_option linter.unusedVariables false
set_option linter.unusedSimpArgs false
open Go.ChangeShapes Go.WideShapes Go.ChangeAt Go.RowKit
namespace listingGoesOn
theorem k1 : Rows.listingGoesOnRow.wf (OpenSpec.ofChange Rows.listingGoesOnSpec) = true := by kernel_rfl
theorem k4 : Tryd.f8.params.all (Tryd.prog.readableRec ·) = true := by kernel_rfl
theorem k5 : namedTie Tryd.prog Rows.listingGoesOnRow.named Rows.listingGoesOnSpec.vars = true := by kernel_rfl
theorem k10 : (Rows.listingGoesOnRow.inPlace == Tryd.prog.inPlace 8) = true := by kernel_rfl
theorem k11 : (Rows.listingGoesOnRow.unfollowed == Tryd.prog.unfollowed 8) = true := by kernel_rfl
theorem k12 : (Rows.listingGoesOnRow.recurses == Tryd.prog.recurses 8) = true := by kernel_rfl
theorem k13 : (Rows.listingGoesOnRow.named == Tryd.prog.varsNamed 8) = true := by kernel_rfl
theorem k14 : (Rows.listingGoesOnRow.maps == (Tryd.f8.params.toList ++ Rows.listingGoesOnSpec.plain.varTypes Tryd.prog).any (Tryd.prog.mapsRec ·)) = true := by kernel_rfl
theorem k15 : (Rows.listingGoesOnRow.ifaces == (Tryd.f8.params.toList ++ Rows.listingGoesOnSpec.plain.varTypes Tryd.prog).any (Tryd.prog.ifacesRec ·)) = true := by kernel_rfl
theorem k16 : (Rows.listingGoesOnRow.mapsOut == Tryd.prog.mapsAmong Tryd.f8.resultTypes.toList) = true := by kernel_rfl
theorem k17 : (Rows.listingGoesOnRow.loops == (Tryd.f8.params.toList ++ Rows.listingGoesOnSpec.plain.varTypes Tryd.prog).any (Tryd.prog.loopsFrom ·)) = true := by kernel_rfl
theorem k18 : (Rows.listingGoesOnRow.wideKeys == (Tryd.f8.params.toList ++ Rows.listingGoesOnSpec.plain.varTypes Tryd.prog ++ Tryd.f8.resultTypes.toList).any (Tryd.prog.wideKeysFrom ·)) = true := by kernel_rfl
theorem k19 : Rows.listingGoesOnSpec.vars.all (Tryd.prog.varReadable ·) = true := by kernel_rfl
theorem k20 : Tryd.f8.resultTypes.all (fun t => Tryd.prog.readableRec t && decide (t < Tryd.prog.types.size)) = true := by kernel_rfl
theorem k21 : (Rows.listingGoesOnRow.ifacesOut == Tryd.f8.resultTypes.toList.any (Tryd.prog.ifacesRec ·)) = true := by kernel_rfl
theorem k22 : (Rows.listingGoesOnRow.loopsOut == Tryd.f8.resultTypes.toList.any (Tryd.prog.loopsFrom ·)) = true := by kernel_rfl
theorem k29 : (Rows.listingGoesOnRow.kinds == kindsOf Tryd.prog Tryd.f8 Rows.listingGoesOnRow) = true := by kernel_rfl
theorem k30 : (Rows.listingGoesOnRow.pinned == Rows.listingGoesOnRow.pinnedBy) = true := by kernel_rfl
theorem k31 : (Rows.listingGoesOnRow.veiled == (Tryd.f8.params.toList ++ Rows.listingGoesOnSpec.plain.varTypes Tryd.prog ++ Tryd.f8.resultTypes.toList).any (Tryd.prog.veiledRec ·)) = true := by kernel_rfl
theorem k32 : Rows.listingGoesOnRow.veiledFits Tryd.prog Tryd.f8.params.toList (Tryd.f8.params.toList ++ Rows.listingGoesOnSpec.plain.varTypes Tryd.prog ++ Tryd.f8.resultTypes.toList) = true := by kernel_rfl
theorem kn : Tryd.prog.funcNamed Rows.listingGoesOnRow.func = some 8 := by kernel_rfl
theorem ki : decide (Tryd.f8.isInstance Tryd.prog Rows.listingGoesOnRow.origin Rows.listingGoesOnRow.targs) = true := by kernel_rfl
theorem kg : Rows.listingGoesOnRow.goesBy Tryd.prog = false := by kernel_rfl
theorem kw : Rows.listingGoesOnRow.wfByText (OpenSpec.ofChange Rows.listingGoesOnSpec) = true := by kernel_rfl
theorem kp : (Check.packageOf Tryd.f8.name == "main") = false := by kernel_rfl
theorem k6 : (Rows.listingGoesOnRow.stops == []) = true := by kernel_rfl
theorem k8 : (Rows.listingGoesOnRow.knobs == []) = true := by kernel_rfl
theorem k24 : Rows.listingGoesOnRow.shortTexts.isNone = true := by kernel_rfl
theorem k23 : (Rows.listingGoesOnRow.plainKeys == Tryd.prog.plainKeys) = true := by kernel_rfl
theorem k27 : (Rows.listingGoesOnRow.lifted == Tryd.prog.liftsFinal) = true := by
  rw [lifts_final]
  kernel_rfl
theorem k28 : (Tryd.prog.make == some Rows.listingGoesOnRow.make) = true := by
  rw [make_cut]
  kernel_rfl
theorem closed : joinedFacts Tryd.prog 8 Tryd.f8 Rows.listingGoesOnSpec Rows.listingGoesOnRow = true :=
  joined_of k1 p_laid p_rowed k4 k5 k6 p_stops k8 p_knobs k10 k11 k12 k13 k14 k15 k16 k17 k18 k19 k20 k21 k22 k23 k24 p_heard may_enter k27 k28 k29 k30 k31 k32
theorem wrap : Tryd.f8.isWrapper Tryd.prog Rows.listingGoesOnRow.wrapper Rows.listingGoesOnRow.mainSum := by
  unfold Func.isWrapper
  rw [if_neg (by have h := kp; simpa using h)]
  exact ⟨rfl, rfl⟩
theorem over : Rows.listingGoesOnRow.holds Tryd.pinned (OpenSpec.ofChange Rows.listingGoesOnSpec) :=
  OpenClaim.holds_of_wide 8 Tryd.f8 rfl rfl rfl rfl rfl rfl rfl ⟨rfl, rfl, rfl, rfl, rfl⟩ rfl rfl rfl rfl rfl kn Tryd.func8 closed (of_decide_eq_true ki) wrap
    (fun os started H enc _ => lifted os started H enc)
theorem card : Rows.ListingGoesOnCardSaid :=
  Claim7.holds_tied_plain_at .later [] [.data, .data, .data, .data] true (true, "32f7f7aec7448378b47f94c14a021b7dc57130e43b4450819b795863dbcbff87") false
    over (fun _ h => by cases h) kw (fun _ h => by cases h) listingGoesOn_row_tie rfl ⟨rfl, rfl⟩ main_sum rfl
    (fun f fn hf hfn => by
      obtain rfl : f = 8 := Option.some.inj (kn.symm.trans hf) |>.symm
      obtain rfl : fn = Tryd.f8 := (Option.some.inj (Tryd.func8.symm.trans hfn)).symm
      exact ⟨p_looks.symm, fun j t ht => by
        rw [Tryd.params8] at ht
        have hm : t ∈ [28, 26] := by simpa using Array.mem_of_getElem? ht
        have hall : ([28, 26].all fun u => !Tryd.prog.wantsStandIn u) = true := by kernel_rfl
        exact (show Tryd.prog.wantsStandIn t = false by simpa using List.all_eq_true.1 hall t hm)⟩)
    kg.symm
end listingGoesOn
theorem listingGoesOn_holds : Rows.ListingGoesOnCardSaid := listingGoesOn.card
#print axioms listingGoesOn_holds
end Go.Proofs.YtdhkmdgieflioaaDoor
