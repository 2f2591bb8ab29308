/- The law ListingApart of the program answers true at every input that its row speaks of; the package-level variables that it reads start as the program's own text lays them (the card ties them). Conditions: those of the given row and card alone. -/
import Derived.Test.YtdhkmdgieflioaaDoorCards
import Derived.Test.YtdhkmdgieflioaaDoorTie
import Derived.SevenTiedAt
import Derived.ProofKit
import Derived.Stop.Joined
import Derived.Test.YtdhkmdgieflioaaDoorRowListingApart
import Derived.Test.YtdhkmdgieflioaaDoorL3
namespace Go.Proofs.YtdhkmdgieflioaaDoor
open Go.Proofs.YtdhkmdgieflioaaDoor.F
set_option linter.unusedVariables false
set_option linter.unusedSimpArgs false
open Go.ChangeShapes Go.WideShapes Go.ChangeAt Go.RowKit
namespace listingApart
theorem k1 : Rows.listingApartRow.wf (OpenSpec.ofChange Rows.listingApartSpec) = true := by kernel_rfl
theorem k4 : Tryd.f21.params.all (Tryd.prog.readableRec ·) = true := by kernel_rfl
theorem k5 : namedTie Tryd.prog Rows.listingApartRow.named Rows.listingApartSpec.vars = true := by kernel_rfl
theorem k10 : (Rows.listingApartRow.inPlace == Tryd.prog.inPlace 21) = true := by kernel_rfl
theorem k11 : (Rows.listingApartRow.unfollowed == Tryd.prog.unfollowed 21) = true := by kernel_rfl
theorem k12 : (Rows.listingApartRow.recurses == Tryd.prog.recurses 21) = true := by kernel_rfl
theorem k13 : (Rows.listingApartRow.named == Tryd.prog.varsNamed 21) = true := by kernel_rfl
theorem k14 : (Rows.listingApartRow.maps == (Tryd.f21.params.toList ++ Rows.listingApartSpec.plain.varTypes Tryd.prog).any (Tryd.prog.mapsRec ·)) = true := by kernel_rfl
theorem k15 : (Rows.listingApartRow.ifaces == (Tryd.f21.params.toList ++ Rows.listingApartSpec.plain.varTypes Tryd.prog).any (Tryd.prog.ifacesRec ·)) = true := by kernel_rfl
theorem k16 : (Rows.listingApartRow.mapsOut == Tryd.prog.mapsAmong Tryd.f21.resultTypes.toList) = true := by kernel_rfl
theorem k17 : (Rows.listingApartRow.loops == (Tryd.f21.params.toList ++ Rows.listingApartSpec.plain.varTypes Tryd.prog).any (Tryd.prog.loopsFrom ·)) = true := by kernel_rfl
theorem k18 : (Rows.listingApartRow.wideKeys == (Tryd.f21.params.toList ++ Rows.listingApartSpec.plain.varTypes Tryd.prog ++ Tryd.f21.resultTypes.toList).any (Tryd.prog.wideKeysFrom ·)) = true := by kernel_rfl
theorem k19 : Rows.listingApartSpec.vars.all (Tryd.prog.varReadable ·) = true := by kernel_rfl
theorem k20 : Tryd.f21.resultTypes.all (fun t => Tryd.prog.readableRec t && decide (t < Tryd.prog.types.size)) = true := by kernel_rfl
theorem k21 : (Rows.listingApartRow.ifacesOut == Tryd.f21.resultTypes.toList.any (Tryd.prog.ifacesRec ·)) = true := by kernel_rfl
theorem k22 : (Rows.listingApartRow.loopsOut == Tryd.f21.resultTypes.toList.any (Tryd.prog.loopsFrom ·)) = true := by kernel_rfl
theorem k29 : (Rows.listingApartRow.kinds == kindsOf Tryd.prog Tryd.f21 Rows.listingApartRow) = true := by kernel_rfl
theorem k30 : (Rows.listingApartRow.pinned == Rows.listingApartRow.pinnedBy) = true := by kernel_rfl
theorem k31 : (Rows.listingApartRow.veiled == (Tryd.f21.params.toList ++ Rows.listingApartSpec.plain.varTypes Tryd.prog ++ Tryd.f21.resultTypes.toList).any (Tryd.prog.veiledRec ·)) = true := by kernel_rfl
theorem k32 : Rows.listingApartRow.veiledFits Tryd.prog Tryd.f21.params.toList (Tryd.f21.params.toList ++ Rows.listingApartSpec.plain.varTypes Tryd.prog ++ Tryd.f21.resultTypes.toList) = true := by kernel_rfl
theorem kn : Tryd.prog.funcNamed Rows.listingApartRow.func = some 21 := by kernel_rfl
theorem ki : decide (Tryd.f21.isInstance Tryd.prog Rows.listingApartRow.origin Rows.listingApartRow.targs) = true := by kernel_rfl
theorem kg : Rows.listingApartRow.goesBy Tryd.prog = false := by kernel_rfl
theorem kw : Rows.listingApartRow.wfByText (OpenSpec.ofChange Rows.listingApartSpec) = true := by kernel_rfl
theorem kp : (Check.packageOf Tryd.f21.name == "main") = false := by kernel_rfl
theorem k6 : (Rows.listingApartRow.stops == []) = true := by kernel_rfl
theorem k8 : (Rows.listingApartRow.knobs == []) = true := by kernel_rfl
theorem k24 : Rows.listingApartRow.shortTexts.isNone = true := by kernel_rfl
theorem k23 : (Rows.listingApartRow.plainKeys == Tryd.prog.plainKeys) = true := by kernel_rfl
theorem k27 : (Rows.listingApartRow.lifted == Tryd.prog.liftsFinal) = true := by
  rw [lifts_final]
  kernel_rfl
theorem k28 : (Tryd.prog.make == some Rows.listingApartRow.make) = true := by
  rw [make_cut]
  kernel_rfl
theorem closed : joinedFacts Tryd.prog 21 Tryd.f21 Rows.listingApartSpec Rows.listingApartRow = true :=
  joined_of k1 p_laid p_rowed k4 k5 k6 p_stops k8 p_knobs k10 k11 k12 k13 k14 k15 k16 k17 k18 k19 k20 k21 k22 k23 k24 p_heard may_enter k27 k28 k29 k30 k31 k32
theorem wrap : Tryd.f21.isWrapper Tryd.prog Rows.listingApartRow.wrapper Rows.listingApartRow.mainSum := by
  unfold Func.isWrapper
  rw [if_neg (by have h := kp; simpa using h)]
  exact ⟨rfl, rfl⟩
theorem over : Rows.listingApartRow.holds Tryd.pinned (OpenSpec.ofChange Rows.listingApartSpec) :=
  OpenClaim.holds_of_wide 21 Tryd.f21 rfl rfl rfl rfl rfl rfl rfl ⟨rfl, rfl, rfl, rfl, rfl⟩ rfl rfl rfl rfl rfl kn Tryd.func21 closed (of_decide_eq_true ki) wrap
    (fun os started H enc _ => lifted os started H enc)
theorem card : Rows.ListingApartCardSaid :=
  Claim7.holds_tied_plain_at .later [] [.data, .data, .data, .data] true (true, "32f7f7aec7448378b47f94c14a021b7dc57130e43b4450819b795863dbcbff87") false
    over (fun _ h => by cases h) kw (fun _ h => by cases h) listingApart_row_tie rfl ⟨rfl, rfl⟩ main_sum rfl
    (fun f fn hf hfn => by
      obtain rfl : f = 21 := Option.some.inj (kn.symm.trans hf) |>.symm
      obtain rfl : fn = Tryd.f21 := (Option.some.inj (Tryd.func21.symm.trans hfn)).symm
      exact ⟨p_looks.symm, fun j t ht => by
        rw [Tryd.params21] at ht
        have hm : t ∈ [28, 28] := by simpa using Array.mem_of_getElem? ht
        have hall : ([28, 28].all fun u => !Tryd.prog.wantsStandIn u) = true := by kernel_rfl
        exact (show Tryd.prog.wantsStandIn t = false by simpa using List.all_eq_true.1 hall t hm)⟩)
    kg.symm
end listingApart
theorem listingApart_holds : Rows.ListingApartCardSaid := listingApart.card
#print axioms listingApart_holds
end Go.Proofs.YtdhkmdgieflioaaDoor
