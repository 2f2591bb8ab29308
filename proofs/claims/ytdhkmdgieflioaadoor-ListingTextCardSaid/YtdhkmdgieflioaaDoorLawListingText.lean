/- The law ListingText of the program answers true at every input that its row speaks of; the package-level variables that it reads start as the program's own text lays them (the card ties them). Conditions: those of the given row and card alone. -/
import Derived.Test.YtdhkmdgieflioaaDoorCards
import Derived.Test.YtdhkmdgieflioaaDoorTie
import Derived.SevenTiedAt
import Derived.ProofKit
import Derived.Stop.Joined
import Derived.Test.YtdhkmdgieflioaaDoorRowListingText
import Derived.Test.YtdhkmdgieflioaaDoorX3
namespace Go.Proofs.YtdhkmdgieflioaaDoor
open Go.Proofs.YtdhkmdgieflioaaDoor.F
set_option linter.unusedVariables false
set_option linter.unusedSimpArgs false
open Go.ChangeShapes Go.WideShapes Go.ChangeAt Go.RowKit
namespace listingText
theorem k1 : Rows.listingTextRow.wf (OpenSpec.ofChange Rows.listingTextSpec) = true := by kernel_rfl
theorem k4 : Tryd.f18.params.all (Tryd.prog.readableRec ·) = true := by kernel_rfl
theorem k5 : namedTie Tryd.prog Rows.listingTextRow.named Rows.listingTextSpec.vars = true := by kernel_rfl
theorem k10 : (Rows.listingTextRow.inPlace == Tryd.prog.inPlace 18) = true := by kernel_rfl
theorem k11 : (Rows.listingTextRow.unfollowed == Tryd.prog.unfollowed 18) = true := by kernel_rfl
theorem k12 : (Rows.listingTextRow.recurses == Tryd.prog.recurses 18) = true := by kernel_rfl
theorem k13 : (Rows.listingTextRow.named == Tryd.prog.varsNamed 18) = true := by kernel_rfl
theorem k14 : (Rows.listingTextRow.maps == (Tryd.f18.params.toList ++ Rows.listingTextSpec.plain.varTypes Tryd.prog).any (Tryd.prog.mapsRec ·)) = true := by kernel_rfl
theorem k15 : (Rows.listingTextRow.ifaces == (Tryd.f18.params.toList ++ Rows.listingTextSpec.plain.varTypes Tryd.prog).any (Tryd.prog.ifacesRec ·)) = true := by kernel_rfl
theorem k16 : (Rows.listingTextRow.mapsOut == Tryd.prog.mapsAmong Tryd.f18.resultTypes.toList) = true := by kernel_rfl
theorem k17 : (Rows.listingTextRow.loops == (Tryd.f18.params.toList ++ Rows.listingTextSpec.plain.varTypes Tryd.prog).any (Tryd.prog.loopsFrom ·)) = true := by kernel_rfl
theorem k18 : (Rows.listingTextRow.wideKeys == (Tryd.f18.params.toList ++ Rows.listingTextSpec.plain.varTypes Tryd.prog ++ Tryd.f18.resultTypes.toList).any (Tryd.prog.wideKeysFrom ·)) = true := by kernel_rfl
theorem k19 : Rows.listingTextSpec.vars.all (Tryd.prog.varReadable ·) = true := by kernel_rfl
theorem k20 : Tryd.f18.resultTypes.all (fun t => Tryd.prog.readableRec t && decide (t < Tryd.prog.types.size)) = true := by kernel_rfl
theorem k21 : (Rows.listingTextRow.ifacesOut == Tryd.f18.resultTypes.toList.any (Tryd.prog.ifacesRec ·)) = true := by kernel_rfl
theorem k22 : (Rows.listingTextRow.loopsOut == Tryd.f18.resultTypes.toList.any (Tryd.prog.loopsFrom ·)) = true := by kernel_rfl
theorem k29 : (Rows.listingTextRow.kinds == kindsOf Tryd.prog Tryd.f18 Rows.listingTextRow) = true := by kernel_rfl
theorem k30 : (Rows.listingTextRow.pinned == Rows.listingTextRow.pinnedBy) = true := by kernel_rfl
theorem k31 : (Rows.listingTextRow.veiled == (Tryd.f18.params.toList ++ Rows.listingTextSpec.plain.varTypes Tryd.prog ++ Tryd.f18.resultTypes.toList).any (Tryd.prog.veiledRec ·)) = true := by kernel_rfl
theorem k32 : Rows.listingTextRow.veiledFits Tryd.prog Tryd.f18.params.toList (Tryd.f18.params.toList ++ Rows.listingTextSpec.plain.varTypes Tryd.prog ++ Tryd.f18.resultTypes.toList) = true := by kernel_rfl
theorem kn : Tryd.prog.funcNamed Rows.listingTextRow.func = some 18 := by kernel_rfl
theorem ki : decide (Tryd.f18.isInstance Tryd.prog Rows.listingTextRow.origin Rows.listingTextRow.targs) = true := by kernel_rfl
theorem kg : Rows.listingTextRow.goesBy Tryd.prog = false := by kernel_rfl
theorem kw : Rows.listingTextRow.wfByText (OpenSpec.ofChange Rows.listingTextSpec) = true := by kernel_rfl
theorem kp : (Check.packageOf Tryd.f18.name == "main") = false := by kernel_rfl
theorem k6 : (Rows.listingTextRow.stops == []) = true := by kernel_rfl
theorem k8 : (Rows.listingTextRow.knobs == []) = true := by kernel_rfl
theorem k24 : Rows.listingTextRow.shortTexts.isNone = true := by kernel_rfl
theorem k23 : (Rows.listingTextRow.plainKeys == Tryd.prog.plainKeys) = true := by kernel_rfl
theorem k27 : (Rows.listingTextRow.lifted == Tryd.prog.liftsFinal) = true := by
  rw [lifts_final]
  kernel_rfl
theorem k28 : (Tryd.prog.make == some Rows.listingTextRow.make) = true := by
  rw [make_cut]
  kernel_rfl
theorem closed : joinedFacts Tryd.prog 18 Tryd.f18 Rows.listingTextSpec Rows.listingTextRow = true :=
  joined_of k1 p_laid p_rowed k4 k5 k6 p_stops k8 p_knobs k10 k11 k12 k13 k14 k15 k16 k17 k18 k19 k20 k21 k22 k23 k24 p_heard may_enter k27 k28 k29 k30 k31 k32
theorem wrap : Tryd.f18.isWrapper Tryd.prog Rows.listingTextRow.wrapper Rows.listingTextRow.mainSum := by
  unfold Func.isWrapper
  rw [if_neg (by have h := kp; simpa using h)]
  exact ⟨rfl, rfl⟩
theorem over : Rows.listingTextRow.holds Tryd.pinned (OpenSpec.ofChange Rows.listingTextSpec) :=
  OpenClaim.holds_of_wide 18 Tryd.f18 rfl rfl rfl rfl rfl rfl rfl ⟨rfl, rfl, rfl, rfl, rfl⟩ rfl rfl rfl rfl rfl kn Tryd.func18 closed (of_decide_eq_true ki) wrap
    (fun os started H enc _ => lifted os started H enc)
theorem card : Rows.ListingTextCardSaid :=
  Claim7.holds_tied_plain_at .later [] [.data, .data, .data, .data] true (true, "32f7f7aec7448378b47f94c14a021b7dc57130e43b4450819b795863dbcbff87") false
    over (fun _ h => by cases h) kw (fun _ h => by cases h) listingText_row_tie rfl ⟨rfl, rfl⟩ main_sum rfl
    (fun f fn hf hfn => by
      obtain rfl : f = 18 := Option.some.inj (kn.symm.trans hf) |>.symm
      obtain rfl : fn = Tryd.f18 := (Option.some.inj (Tryd.func18.symm.trans hfn)).symm
      exact ⟨p_looks.symm, fun j t ht => by
        rw [Tryd.params18] at ht
        have hm : t ∈ [28] := by simpa using Array.mem_of_getElem? ht
        have hall : ([28].all fun u => !Tryd.prog.wantsStandIn u) = true := by kernel_rfl
        exact (show Tryd.prog.wantsStandIn t = false by simpa using List.all_eq_true.1 hall t hm)⟩)
    kg.symm
end listingText
theorem listingText_holds : Rows.ListingTextCardSaid := listingText.card
#print axioms listingText_holds
end Go.Proofs.YtdhkmdgieflioaaDoor
