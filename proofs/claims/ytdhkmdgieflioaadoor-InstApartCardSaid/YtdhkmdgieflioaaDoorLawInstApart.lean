/- The law InstApart of the program answers true at every input that its row speaks of; the package-level variables that it reads start as the program's own text lays them (the card ties them). Conditions: those of the given row and card alone. -/
import Derived.Test.YtdhkmdgieflioaaDoorCards
import Derived.Test.YtdhkmdgieflioaaDoorTie
import Derived.SevenTiedAt
import Derived.ProofKit
import Derived.Stop.Joined
import Derived.Test.YtdhkmdgieflioaaDoorRowInstApart
import Derived.Test.YtdhkmdgieflioaaDoorA4
namespace Go.Proofs.YtdhkmdgieflioaaDoor
open Go.Proofs.YtdhkmdgieflioaaDoor.F
set_option linter.unusedVariables false
set_option linter.unusedSimpArgs false
open Go.ChangeShapes Go.WideShapes Go.ChangeAt Go.RowKit
namespace instApart
theorem k1 : Rows.instApartRow.wf (OpenSpec.ofChange Rows.instApartSpec) = true := by kernel_rfl
theorem k4 : Tryd.f12.params.all (Tryd.prog.readableRec ·) = true := by kernel_rfl
theorem k5 : namedTie Tryd.prog Rows.instApartRow.named Rows.instApartSpec.vars = true := by kernel_rfl
theorem k10 : (Rows.instApartRow.inPlace == Tryd.prog.inPlace 12) = true := by kernel_rfl
theorem k11 : (Rows.instApartRow.unfollowed == Tryd.prog.unfollowed 12) = true := by kernel_rfl
theorem k12 : (Rows.instApartRow.recurses == Tryd.prog.recurses 12) = true := by kernel_rfl
theorem k13 : (Rows.instApartRow.named == Tryd.prog.varsNamed 12) = true := by kernel_rfl
theorem k14 : (Rows.instApartRow.maps == (Tryd.f12.params.toList ++ Rows.instApartSpec.plain.varTypes Tryd.prog).any (Tryd.prog.mapsRec ·)) = true := by kernel_rfl
theorem k15 : (Rows.instApartRow.ifaces == (Tryd.f12.params.toList ++ Rows.instApartSpec.plain.varTypes Tryd.prog).any (Tryd.prog.ifacesRec ·)) = true := by kernel_rfl
theorem k16 : (Rows.instApartRow.mapsOut == Tryd.prog.mapsAmong Tryd.f12.resultTypes.toList) = true := by kernel_rfl
theorem k17 : (Rows.instApartRow.loops == (Tryd.f12.params.toList ++ Rows.instApartSpec.plain.varTypes Tryd.prog).any (Tryd.prog.loopsFrom ·)) = true := by kernel_rfl
theorem k18 : (Rows.instApartRow.wideKeys == (Tryd.f12.params.toList ++ Rows.instApartSpec.plain.varTypes Tryd.prog ++ Tryd.f12.resultTypes.toList).any (Tryd.prog.wideKeysFrom ·)) = true := by kernel_rfl
theorem k19 : Rows.instApartSpec.vars.all (Tryd.prog.varReadable ·) = true := by kernel_rfl
theorem k20 : Tryd.f12.resultTypes.all (fun t => Tryd.prog.readableRec t && decide (t < Tryd.prog.types.size)) = true := by kernel_rfl
theorem k21 : (Rows.instApartRow.ifacesOut == Tryd.f12.resultTypes.toList.any (Tryd.prog.ifacesRec ·)) = true := by kernel_rfl
theorem k22 : (Rows.instApartRow.loopsOut == Tryd.f12.resultTypes.toList.any (Tryd.prog.loopsFrom ·)) = true := by kernel_rfl
theorem k29 : (Rows.instApartRow.kinds == kindsOf Tryd.prog Tryd.f12 Rows.instApartRow) = true := by kernel_rfl
theorem k30 : (Rows.instApartRow.pinned == Rows.instApartRow.pinnedBy) = true := by kernel_rfl
theorem k31 : (Rows.instApartRow.veiled == (Tryd.f12.params.toList ++ Rows.instApartSpec.plain.varTypes Tryd.prog ++ Tryd.f12.resultTypes.toList).any (Tryd.prog.veiledRec ·)) = true := by kernel_rfl
theorem k32 : Rows.instApartRow.veiledFits Tryd.prog Tryd.f12.params.toList (Tryd.f12.params.toList ++ Rows.instApartSpec.plain.varTypes Tryd.prog ++ Tryd.f12.resultTypes.toList) = true := by kernel_rfl
theorem kn : Tryd.prog.funcNamed Rows.instApartRow.func = some 12 := by kernel_rfl
theorem ki : decide (Tryd.f12.isInstance Tryd.prog Rows.instApartRow.origin Rows.instApartRow.targs) = true := by kernel_rfl
theorem kg : Rows.instApartRow.goesBy Tryd.prog = false := by kernel_rfl
theorem kw : Rows.instApartRow.wfByText (OpenSpec.ofChange Rows.instApartSpec) = true := by kernel_rfl
theorem kp : (Check.packageOf Tryd.f12.name == "main") = false := by kernel_rfl
theorem k6 : (Rows.instApartRow.stops == []) = true := by kernel_rfl
theorem k8 : (Rows.instApartRow.knobs == []) = true := by kernel_rfl
theorem k24 : Rows.instApartRow.shortTexts.isNone = true := by kernel_rfl
theorem k23 : (Rows.instApartRow.plainKeys == Tryd.prog.plainKeys) = true := by kernel_rfl
theorem k27 : (Rows.instApartRow.lifted == Tryd.prog.liftsFinal) = true := by
  rw [lifts_final]
  kernel_rfl
theorem k28 : (Tryd.prog.make == some Rows.instApartRow.make) = true := by
  rw [make_cut]
  kernel_rfl
theorem closed : joinedFacts Tryd.prog 12 Tryd.f12 Rows.instApartSpec Rows.instApartRow = true :=
  joined_of k1 p_laid p_rowed k4 k5 k6 p_stops k8 p_knobs k10 k11 k12 k13 k14 k15 k16 k17 k18 k19 k20 k21 k22 k23 k24 p_heard may_enter k27 k28 k29 k30 k31 k32
theorem wrap : Tryd.f12.isWrapper Tryd.prog Rows.instApartRow.wrapper Rows.instApartRow.mainSum := by
  unfold Func.isWrapper
  rw [if_neg (by have h := kp; simpa using h)]
  exact ⟨rfl, rfl⟩
theorem over : Rows.instApartRow.holds Tryd.pinned (OpenSpec.ofChange Rows.instApartSpec) :=
  OpenClaim.holds_of_wide 12 Tryd.f12 rfl rfl rfl rfl rfl rfl rfl ⟨rfl, rfl, rfl, rfl, rfl⟩ rfl rfl rfl rfl rfl kn Tryd.func12 closed (of_decide_eq_true ki) wrap
    (fun os started H enc _ => lifted os started H enc)
theorem card : Rows.InstApartCardSaid :=
  Claim7.holds_tied_plain_at .later [] [.data, .data, .data, .data] true (true, "32f7f7aec7448378b47f94c14a021b7dc57130e43b4450819b795863dbcbff87") false
    over (fun _ h => by cases h) kw (fun _ h => by cases h) instApart_row_tie rfl ⟨rfl, rfl⟩ main_sum rfl
    (fun f fn hf hfn => by
      obtain rfl : f = 12 := Option.some.inj (kn.symm.trans hf) |>.symm
      obtain rfl : fn = Tryd.f12 := (Option.some.inj (Tryd.func12.symm.trans hfn)).symm
      exact ⟨p_looks.symm, fun j t ht => by
        rw [Tryd.params12] at ht
        have hm : t ∈ [46, 46] := by simpa using Array.mem_of_getElem? ht
        have hall : ([46, 46].all fun u => !Tryd.prog.wantsStandIn u) = true := by kernel_rfl
        exact (show Tryd.prog.wantsStandIn t = false by simpa using List.all_eq_true.1 hall t hm)⟩)
    kg.symm
end instApart
theorem instApart_holds : Rows.InstApartCardSaid := instApart.card
#print axioms instApart_holds
end Go.Proofs.YtdhkmdgieflioaaDoor
