/-
  NARROWER THAN 'FOR EVERY INPUT', by the rows' own cells (each row's printed sentence says how): SeedLoads: laid · SeedSmall: laid · SeedImages: laid · SeedNotes: laid · SeedTwo: laid · ListingGoesOn: laid · InstCodes: laid · ListingData: laid · InstReads: laid · InstApart: laid · InstFields: laid · InstCounts: laid · InstNames: laid · SeedItself: laid · ListingTargets: laid · ListingText: laid · ListingLines: laid · ListingPlaces: laid · ListingApart: laid.
  DERIVED. THE GIVEN ROWS OF THIS SEAT. 19 by the template 'for every input the law returns true; each argument reads behind the call as it read before'; 0 by the template 'total and deterministic' (their statements: YtdhkmdgieflioaaDoorTotals.lean).
  GIVEN WITH THE SEED: the statements are not yours to turn. If you find one false, say at which input.
  Laid BY PROGRAM, IN A SANDBOX (cutbox-rows.mjs): the forced cells as the released guide's own fill.sh prints them over the translation 2787fb68be162a05… (all of the seat's roots in one cut). By AI agents, Wed Nov 11 2026. No macro, syntax, notation, axiom, sorry.
-/
import Derived.Test.YtdhkmdgieflioaaDoorChecked
import GoSem.Claim
import GoSem.ClaimJoined
import GoSem.ClaimMapViews
import Derived.JoinedTies
import Derived.KernelRfl
namespace Go.Proofs.YtdhkmdgieflioaaDoor
/- THE CELL 'sum', in the pinned program and in every row, IS THE sha256 OF THE DUMP (.gsa) THAT YtdhkmdgieflioaaDoorProg.lean LOADS. Nothing in Lean hashes anything: it is a label: what it is worth is what the hold of that sum in a sandbox is worth. -/
noncomputable def Tryd.pinned : Pinned := { name := "ytdhkmdgieflioaadoor", sum := "2787fb68be162a0551919c5abcceb2cc2443e9efbb084964ee585a3617c5d518", checked := Tryd.checked }
namespace Rows
def none {H : Type} : Left H := { results := [], args := [] }

/- WHAT THE LISTED PACKAGE-LEVEL VARIABLES READ AS WHEN THE CALL BEGINS. Each datum BY PROGRAM (the guide's laid-datum.mjs) off the statement by which the dump's own 'gosem.cut.vars' lays the variable. In a bare row this is a premise. The card (YtdhkmdgieflioaaDoorCards.lean) ties it to the program's text. -/
def laid_seedcorn_inst_kinds {H : Type} : DataW H := .agg [.agg [.lit (.string []), .lit (.string [])], .agg [.lit (.string [108, 105]), .lit (.string [97, 99])], .agg [.lit (.string [108, 117, 105]), .lit (.string [97, 99])], .agg [.lit (.string [109, 111, 118]), .lit (.string [97, 98])], .agg [.lit (.string [97, 100, 100]), .lit (.string [97, 98, 114])], .agg [.lit (.string [115, 117, 98]), .lit (.string [97, 98, 114])], .agg [.lit (.string [109, 117, 108]), .lit (.string [97, 98, 114])], .agg [.lit (.string [100, 105, 118]), .lit (.string [97, 98, 114])], .agg [.lit (.string [109, 111, 100]), .lit (.string [97, 98, 114])], .agg [.lit (.string [97, 110, 100]), .lit (.string [97, 98, 114])], .agg [.lit (.string [111, 114]), .lit (.string [97, 98, 114])], .agg [.lit (.string [120, 111, 114]), .lit (.string [97, 98, 114])], .agg [.lit (.string [115, 104, 108]), .lit (.string [97, 98, 114])], .agg [.lit (.string [115, 104, 114]), .lit (.string [97, 98, 114])], .agg [.lit (.string [108, 116]), .lit (.string [97, 98, 114])], .agg [.lit (.string [101, 113]), .lit (.string [97, 98, 114])], .agg [.lit (.string [108, 100]), .lit (.string [97, 98, 99])], .agg [.lit (.string [115, 116]), .lit (.string [97, 98, 99])], .agg [.lit (.string [106, 109, 112]), .lit (.string [99])], .agg [.lit (.string [106, 122]), .lit (.string [97, 99])], .agg [.lit (.string [106, 110, 122]), .lit (.string [97, 99])], .agg [.lit (.string [99, 97, 108, 108]), .lit (.string [97, 99])], .agg [.lit (.string [114, 101, 116]), .lit (.string [97])], .agg [.lit (.string [103, 101, 116]), .lit (.string [97])], .agg [.lit (.string [112, 117, 116]), .lit (.string [97])], .agg [.lit (.string [99, 104, 107]), .lit (.string [97, 99])], .agg [.lit (.string [104, 97, 108, 116]), .lit (.string [])], .agg [.lit (.string [108, 100, 99]), .lit (.string [97, 98, 99])]]
def laid_seedcorn_seed_code {H : Type} : DataW H := .agg [.agg [.agg [.lit (.int .i64 1), .lit (.int .i64 10), .lit (.int .i64 0), .lit (.int .i64 16)], .lit (.string [49, 54])], .agg [.agg [.lit (.int .i64 1), .lit (.int .i64 11), .lit (.int .i64 0), .lit (.int .i64 10)], .lit (.string [49, 48, 44, 32, 97, 32, 108, 105, 110, 101, 32, 102, 101, 101, 100, 44, 32, 116, 111, 111])], .agg [.agg [.lit (.int .i64 23), .lit (.int .i64 1), .lit (.int .i64 0), .lit (.int .i64 0)], .lit (.string [116, 104, 101, 32, 110, 101, 120, 116, 32, 98, 121, 116, 101])], .agg [.agg [.lit (.int .i64 1), .lit (.int .i64 2), .lit (.int .i64 0), .lit (.int .i64 256)], .lit (.string [116, 104, 101, 32, 101, 110, 100, 63])], .agg [.agg [.lit (.int .i64 15), .lit (.int .i64 5), .lit (.int .i64 1), .lit (.int .i64 2)], .lit (.string [])], .agg [.agg [.lit (.int .i64 20), .lit (.int .i64 5), .lit (.int .i64 0), .lit (.int .i64 36)], .lit (.string [116, 104, 101, 110, 32, 104, 97, 108, 116])], .agg [.agg [.lit (.int .i64 1), .lit (.int .i64 2), .lit (.int .i64 0), .lit (.int .i64 35)], .lit (.string [97, 32, 110, 111, 116, 101, 63])], .agg [.agg [.lit (.int .i64 15), .lit (.int .i64 5), .lit (.int .i64 1), .lit (.int .i64 2)], .lit (.string [])], .agg [.agg [.lit (.int .i64 20), .lit (.int .i64 5), .lit (.int .i64 0), .lit (.int .i64 29)], .lit (.string [116, 104, 101, 110, 32, 111, 110, 32, 116, 111, 32, 105, 116, 115, 32, 101, 110, 100])], .agg [.agg [.lit (.int .i64 1), .lit (.int .i64 2), .lit (.int .i64 0), .lit (.int .i64 48)], .lit (.string [102, 114, 111, 109, 32, 48, 32, 116, 111, 32, 57, 63])], .agg [.agg [.lit (.int .i64 5), .lit (.int .i64 6), .lit (.int .i64 1), .lit (.int .i64 2)], .lit (.string [])], .agg [.agg [.lit (.int .i64 14), .lit (.int .i64 5), .lit (.int .i64 6), .lit (.int .i64 11)], .lit (.string [])], .agg [.agg [.lit (.int .i64 20), .lit (.int .i64 5), .lit (.int .i64 0), .lit (.int .i64 21)], .lit (.string [116, 104, 101, 110, 32, 97, 32, 100, 105, 103, 105, 116])], .agg [.agg [.lit (.int .i64 1), .lit (.int .i64 2), .lit (.int .i64 0), .lit (.int .i64 32)], .lit (.string [97, 32, 103, 114, 101, 97, 116, 32, 108, 101, 116, 116, 101, 114, 32, 97, 115, 32, 97, 32, 115, 109, 97, 108, 108, 32, 111, 110, 101])], .agg [.agg [.lit (.int .i64 10), .lit (.int .i64 6), .lit (.int .i64 1), .lit (.int .i64 2)], .lit (.string [])], .agg [.agg [.lit (.int .i64 1), .lit (.int .i64 2), .lit (.int .i64 0), .lit (.int .i64 97)], .lit (.string [102, 114, 111, 109, 32, 97, 32, 116, 111, 32, 102, 63])], .agg [.agg [.lit (.int .i64 5), .lit (.int .i64 6), .lit (.int .i64 6), .lit (.int .i64 2)], .lit (.string [])], .agg [.agg [.lit (.int .i64 1), .lit (.int .i64 2), .lit (.int .i64 0), .lit (.int .i64 6)], .lit (.string [])], .agg [.agg [.lit (.int .i64 14), .lit (.int .i64 5), .lit (.int .i64 6), .lit (.int .i64 2)], .lit (.string [])], .agg [.agg [.lit (.int .i64 19), .lit (.int .i64 5), .lit (.int .i64 0), .lit (.int .i64 2)], .lit (.string [101, 108, 115, 101, 32, 116, 104, 101, 32, 110, 101, 120, 116, 32, 98, 121, 116, 101])], .agg [.agg [.lit (.int .i64 4), .lit (.int .i64 6), .lit (.int .i64 6), .lit (.int .i64 11)], .lit (.string [49, 48, 32, 116, 111, 32, 49, 53])], .agg [.agg [.lit (.int .i64 20), .lit (.int .i64 4), .lit (.int .i64 0), .lit (.int .i64 25)], .lit (.string [116, 104, 101, 32, 108, 111, 119, 101, 114, 32, 111, 110, 101, 63])], .agg [.agg [.lit (.int .i64 6), .lit (.int .i64 3), .lit (.int .i64 6), .lit (.int .i64 10)], .lit (.string [116, 104, 101, 32, 104, 105, 103, 104, 101, 114, 32, 111, 110, 101])], .agg [.agg [.lit (.int .i64 1), .lit (.int .i64 4), .lit (.int .i64 0), .lit (.int .i64 1)], .lit (.string [])], .agg [.agg [.lit (.int .i64 18), .lit (.int .i64 0), .lit (.int .i64 0), .lit (.int .i64 2)], .lit (.string [])], .agg [.agg [.lit (.int .i64 4), .lit (.int .i64 3), .lit (.int .i64 3), .lit (.int .i64 6)], .lit (.string [98, 111, 116, 104])], .agg [.agg [.lit (.int .i64 24), .lit (.int .i64 3), .lit (.int .i64 0), .lit (.int .i64 0)], .lit (.string [97, 114, 101, 32, 97, 32, 98, 121, 116, 101])], .agg [.agg [.lit (.int .i64 1), .lit (.int .i64 4), .lit (.int .i64 0), .lit (.int .i64 0)], .lit (.string [])], .agg [.agg [.lit (.int .i64 18), .lit (.int .i64 0), .lit (.int .i64 0), .lit (.int .i64 2)], .lit (.string [])], .agg [.agg [.lit (.int .i64 23), .lit (.int .i64 1), .lit (.int .i64 0), .lit (.int .i64 0)], .lit (.string [97, 32, 110, 111, 116, 101, 39, 115, 32, 110, 101, 120, 116, 32, 98, 121, 116, 101])], .agg [.agg [.lit (.int .i64 1), .lit (.int .i64 2), .lit (.int .i64 0), .lit (.int .i64 256)], .lit (.string [116, 104, 101, 32, 101, 110, 100, 63])], .agg [.agg [.lit (.int .i64 15), .lit (.int .i64 5), .lit (.int .i64 1), .lit (.int .i64 2)], .lit (.string [])], .agg [.agg [.lit (.int .i64 20), .lit (.int .i64 5), .lit (.int .i64 0), .lit (.int .i64 36)], .lit (.string [116, 104, 101, 110, 32, 104, 97, 108, 116])], .agg [.agg [.lit (.int .i64 15), .lit (.int .i64 5), .lit (.int .i64 1), .lit (.int .i64 11)], .lit (.string [97, 32, 108, 105, 110, 101, 32, 102, 101, 101, 100, 63])], .agg [.agg [.lit (.int .i64 19), .lit (.int .i64 5), .lit (.int .i64 0), .lit (.int .i64 29)], .lit (.string [110, 111, 58, 32, 111, 110])], .agg [.agg [.lit (.int .i64 18), .lit (.int .i64 0), .lit (.int .i64 0), .lit (.int .i64 2)], .lit (.string [121, 101, 115])], .agg [.agg [.lit (.int .i64 26), .lit (.int .i64 0), .lit (.int .i64 0), .lit (.int .i64 0)], .lit (.string [100, 111, 110, 101])]]
def laid_math_bits_deBruijn32tab {H : Type} : DataW H := .agg [.lit (.int .u8 0), .lit (.int .u8 1), .lit (.int .u8 28), .lit (.int .u8 2), .lit (.int .u8 29), .lit (.int .u8 14), .lit (.int .u8 24), .lit (.int .u8 3), .lit (.int .u8 30), .lit (.int .u8 22), .lit (.int .u8 20), .lit (.int .u8 15), .lit (.int .u8 25), .lit (.int .u8 17), .lit (.int .u8 4), .lit (.int .u8 8), .lit (.int .u8 31), .lit (.int .u8 27), .lit (.int .u8 13), .lit (.int .u8 23), .lit (.int .u8 21), .lit (.int .u8 19), .lit (.int .u8 16), .lit (.int .u8 7), .lit (.int .u8 26), .lit (.int .u8 12), .lit (.int .u8 18), .lit (.int .u8 6), .lit (.int .u8 11), .lit (.int .u8 5), .lit (.int .u8 10), .lit (.int .u8 9)]
def laid_math_bits_deBruijn64tab {H : Type} : DataW H := .agg [.lit (.int .u8 0), .lit (.int .u8 1), .lit (.int .u8 56), .lit (.int .u8 2), .lit (.int .u8 57), .lit (.int .u8 49), .lit (.int .u8 28), .lit (.int .u8 3), .lit (.int .u8 61), .lit (.int .u8 58), .lit (.int .u8 42), .lit (.int .u8 50), .lit (.int .u8 38), .lit (.int .u8 29), .lit (.int .u8 17), .lit (.int .u8 4), .lit (.int .u8 62), .lit (.int .u8 47), .lit (.int .u8 59), .lit (.int .u8 36), .lit (.int .u8 45), .lit (.int .u8 43), .lit (.int .u8 51), .lit (.int .u8 22), .lit (.int .u8 53), .lit (.int .u8 39), .lit (.int .u8 33), .lit (.int .u8 30), .lit (.int .u8 24), .lit (.int .u8 18), .lit (.int .u8 12), .lit (.int .u8 5), .lit (.int .u8 63), .lit (.int .u8 55), .lit (.int .u8 48), .lit (.int .u8 27), .lit (.int .u8 60), .lit (.int .u8 41), .lit (.int .u8 37), .lit (.int .u8 16), .lit (.int .u8 46), .lit (.int .u8 35), .lit (.int .u8 44), .lit (.int .u8 21), .lit (.int .u8 52), .lit (.int .u8 32), .lit (.int .u8 23), .lit (.int .u8 11), .lit (.int .u8 54), .lit (.int .u8 26), .lit (.int .u8 40), .lit (.int .u8 15), .lit (.int .u8 34), .lit (.int .u8 20), .lit (.int .u8 31), .lit (.int .u8 10), .lit (.int .u8 25), .lit (.int .u8 14), .lit (.int .u8 19), .lit (.int .u8 9), .lit (.int .u8 13), .lit (.int .u8 8), .lit (.int .u8 7), .lit (.int .u8 6)]
def laid_internal_strconv_uint64pow10 {H : Type} : DataW H := .agg [.lit (.int .u64 1), .lit (.int .u64 10), .lit (.int .u64 100), .lit (.int .u64 1000), .lit (.int .u64 10000), .lit (.int .u64 100000), .lit (.int .u64 1000000), .lit (.int .u64 10000000), .lit (.int .u64 100000000), .lit (.int .u64 1000000000), .lit (.int .u64 10000000000), .lit (.int .u64 100000000000), .lit (.int .u64 1000000000000), .lit (.int .u64 10000000000000), .lit (.int .u64 100000000000000), .lit (.int .u64 1000000000000000), .lit (.int .u64 10000000000000000), .lit (.int .u64 100000000000000000), .lit (.int .u64 1000000000000000000), .lit (.int .u64 10000000000000000000)]

/-- 'seedcornlaw50.SeedLoads': WHATEVER THE INPUT: true; the input reads as it did. -/
def seedLoadsSpec : ChangeSpec := { name := "seedLoads", fn := fun _ => fun
  | [d] => { results := [.lit (.bool true)], args := [d] }
  | _ => none }
def seedLoadsRow : OpenClaim := { program := "ytdhkmdgieflioaadoor", sum := "2787fb68be162a0551919c5abcceb2cc2443e9efbb084964ee585a3617c5d518", func := "seedcorn/seedcornlaw50.SeedLoads", spec := "seedLoads", inPlace := ["internal/bytealg.IndexByteString"], named := ["seedcorn/seed.code", "seedcorn/inst.kinds"], apart := false, laid := [("seedcorn/inst.kinds", laid_seedcorn_inst_kinds), ("seedcorn/seed.code", laid_seedcorn_seed_code)] }
def SeedLoadsSaid : Prop := seedLoadsRow.holds Tryd.pinned (OpenSpec.ofChange seedLoadsSpec)

/-- ITS FALSE NEIGHBOUR: 'it returns false'. Refute it at one input. -/
def seedLoadsWrong : ChangeSpec := { name := "seedLoads", fn := fun _ => fun
  | [d] => { results := [.lit (.bool false)], args := [d] }
  | _ => none }
def SeedLoadsWrongFalsely : Prop := seedLoadsRow.holds Tryd.pinned (OpenSpec.ofChange seedLoadsWrong)

/-- 'seedcornlaw50.SeedSmall': WHATEVER THE INPUT: true; the input reads as it did. -/
def seedSmallSpec : ChangeSpec := { name := "seedSmall", fn := fun _ => fun
  | [] => { results := [.lit (.bool true)], args := [] }
  | _ => none }
def seedSmallRow : OpenClaim := { program := "ytdhkmdgieflioaadoor", sum := "2787fb68be162a0551919c5abcceb2cc2443e9efbb084964ee585a3617c5d518", func := "seedcorn/seedcornlaw50.SeedSmall", spec := "seedSmall", inPlace := ["internal/bytealg.IndexByteString"], named := ["seedcorn/seed.code", "seedcorn/inst.kinds"], apart := false, laid := [("seedcorn/inst.kinds", laid_seedcorn_inst_kinds), ("seedcorn/seed.code", laid_seedcorn_seed_code)] }
def SeedSmallSaid : Prop := seedSmallRow.holds Tryd.pinned (OpenSpec.ofChange seedSmallSpec)

/-- ITS FALSE NEIGHBOUR: 'it returns false'. Refute it at one input. -/
def seedSmallWrong : ChangeSpec := { name := "seedSmall", fn := fun _ => fun
  | [] => { results := [.lit (.bool false)], args := [] }
  | _ => none }
def SeedSmallWrongFalsely : Prop := seedSmallRow.holds Tryd.pinned (OpenSpec.ofChange seedSmallWrong)

/-- 'seedcornlaw50.SeedImages': WHATEVER THE INPUT: true; the input reads as it did. -/
def seedImagesSpec : ChangeSpec := { name := "seedImages", fn := fun _ => fun
  | [d] => { results := [.lit (.bool true)], args := [d] }
  | _ => none }
def seedImagesRow : OpenClaim := { program := "ytdhkmdgieflioaadoor", sum := "2787fb68be162a0551919c5abcceb2cc2443e9efbb084964ee585a3617c5d518", func := "seedcorn/seedcornlaw50.SeedImages", spec := "seedImages", inPlace := ["internal/bytealg.IndexByteString"], named := ["seedcorn/seed.code", "seedcorn/inst.kinds"], apart := false, laid := [("seedcorn/inst.kinds", laid_seedcorn_inst_kinds), ("seedcorn/seed.code", laid_seedcorn_seed_code)] }
def SeedImagesSaid : Prop := seedImagesRow.holds Tryd.pinned (OpenSpec.ofChange seedImagesSpec)

/-- ITS FALSE NEIGHBOUR: 'it returns false'. Refute it at one input. -/
def seedImagesWrong : ChangeSpec := { name := "seedImages", fn := fun _ => fun
  | [d] => { results := [.lit (.bool false)], args := [d] }
  | _ => none }
def SeedImagesWrongFalsely : Prop := seedImagesRow.holds Tryd.pinned (OpenSpec.ofChange seedImagesWrong)

/-- 'seedcornlaw50.SeedNotes': WHATEVER THE INPUT: true; the input reads as it did. -/
def seedNotesSpec : ChangeSpec := { name := "seedNotes", fn := fun _ => fun
  | [d1, d2] => { results := [.lit (.bool true)], args := [d1, d2] }
  | _ => none }
def seedNotesRow : OpenClaim := { program := "ytdhkmdgieflioaadoor", sum := "2787fb68be162a0551919c5abcceb2cc2443e9efbb084964ee585a3617c5d518", func := "seedcorn/seedcornlaw50.SeedNotes", spec := "seedNotes", inPlace := ["internal/bytealg.IndexByteString"], named := ["seedcorn/seed.code", "seedcorn/inst.kinds"], apart := false, laid := [("seedcorn/inst.kinds", laid_seedcorn_inst_kinds), ("seedcorn/seed.code", laid_seedcorn_seed_code)] }
def SeedNotesSaid : Prop := seedNotesRow.holds Tryd.pinned (OpenSpec.ofChange seedNotesSpec)

/-- ITS FALSE NEIGHBOUR: 'it returns false'. Refute it at one input. -/
def seedNotesWrong : ChangeSpec := { name := "seedNotes", fn := fun _ => fun
  | [d1, d2] => { results := [.lit (.bool false)], args := [d1, d2] }
  | _ => none }
def SeedNotesWrongFalsely : Prop := seedNotesRow.holds Tryd.pinned (OpenSpec.ofChange seedNotesWrong)

/-- 'seedcornlaw50.SeedTwo': WHATEVER THE INPUT: true; the input reads as it did. -/
def seedTwoSpec : ChangeSpec := { name := "seedTwo", fn := fun _ => fun
  | [d1, d2] => { results := [.lit (.bool true)], args := [d1, d2] }
  | _ => none }
def seedTwoRow : OpenClaim := { program := "ytdhkmdgieflioaadoor", sum := "2787fb68be162a0551919c5abcceb2cc2443e9efbb084964ee585a3617c5d518", func := "seedcorn/seedcornlaw50.SeedTwo", spec := "seedTwo", inPlace := ["internal/bytealg.IndexByteString"], named := ["seedcorn/seed.code", "seedcorn/inst.kinds"], apart := false, laid := [("seedcorn/inst.kinds", laid_seedcorn_inst_kinds), ("seedcorn/seed.code", laid_seedcorn_seed_code)] }
def SeedTwoSaid : Prop := seedTwoRow.holds Tryd.pinned (OpenSpec.ofChange seedTwoSpec)

/-- ITS FALSE NEIGHBOUR: 'it returns false'. Refute it at one input. -/
def seedTwoWrong : ChangeSpec := { name := "seedTwo", fn := fun _ => fun
  | [d1, d2] => { results := [.lit (.bool false)], args := [d1, d2] }
  | _ => none }
def SeedTwoWrongFalsely : Prop := seedTwoRow.holds Tryd.pinned (OpenSpec.ofChange seedTwoWrong)

/-- 'seedcornlaw11.ListingGoesOn': WHATEVER THE INPUT: true; the input reads as it did. -/
def listingGoesOnSpec : ChangeSpec := { name := "listingGoesOn", fn := fun _ => fun
  | [d1, d2] => { results := [.lit (.bool true)], args := [d1, d2] }
  | _ => none }
def listingGoesOnRow : OpenClaim := { program := "ytdhkmdgieflioaadoor", sum := "2787fb68be162a0551919c5abcceb2cc2443e9efbb084964ee585a3617c5d518", func := "seedcorn/seedcornlaw11.ListingGoesOn", spec := "listingGoesOn", inPlace := ["internal/bytealg.IndexByteString", "internal/abi.NoEscape", "internal/bytealg.MakeNoZero"], unfollowed := true, recurses := true, named := ["seedcorn/inst.kinds", "internal/strconv.uint64pow10", "math/bits.deBruijn32tab", "math/bits.deBruijn64tab"], apart := false, laid := [("math/bits.deBruijn32tab", laid_math_bits_deBruijn32tab), ("math/bits.deBruijn64tab", laid_math_bits_deBruijn64tab), ("internal/strconv.uint64pow10", laid_internal_strconv_uint64pow10), ("seedcorn/inst.kinds", laid_seedcorn_inst_kinds)] }
def ListingGoesOnSaid : Prop := listingGoesOnRow.holds Tryd.pinned (OpenSpec.ofChange listingGoesOnSpec)

/-- ITS FALSE NEIGHBOUR: 'it returns false'. Refute it at one input. -/
def listingGoesOnWrong : ChangeSpec := { name := "listingGoesOn", fn := fun _ => fun
  | [d1, d2] => { results := [.lit (.bool false)], args := [d1, d2] }
  | _ => none }
def ListingGoesOnWrongFalsely : Prop := listingGoesOnRow.holds Tryd.pinned (OpenSpec.ofChange listingGoesOnWrong)

/-- 'seedcornlaw07.InstCodes': WHATEVER THE INPUT: true; the input reads as it did. -/
def instCodesSpec : ChangeSpec := { name := "instCodes", fn := fun _ => fun
  | [d] => { results := [.lit (.bool true)], args := [d] }
  | _ => none }
def instCodesRow : OpenClaim := { program := "ytdhkmdgieflioaadoor", sum := "2787fb68be162a0551919c5abcceb2cc2443e9efbb084964ee585a3617c5d518", func := "seedcorn/seedcornlaw07.InstCodes", spec := "instCodes", inPlace := ["internal/bytealg.IndexByteString", "internal/abi.NoEscape", "internal/bytealg.MakeNoZero"], named := ["seedcorn/inst.kinds", "internal/strconv.uint64pow10", "math/bits.deBruijn32tab", "math/bits.deBruijn64tab"], apart := false, laid := [("math/bits.deBruijn32tab", laid_math_bits_deBruijn32tab), ("math/bits.deBruijn64tab", laid_math_bits_deBruijn64tab), ("internal/strconv.uint64pow10", laid_internal_strconv_uint64pow10), ("seedcorn/inst.kinds", laid_seedcorn_inst_kinds)] }
def InstCodesSaid : Prop := instCodesRow.holds Tryd.pinned (OpenSpec.ofChange instCodesSpec)

/-- ITS FALSE NEIGHBOUR: 'it returns false'. Refute it at one input. -/
def instCodesWrong : ChangeSpec := { name := "instCodes", fn := fun _ => fun
  | [d] => { results := [.lit (.bool false)], args := [d] }
  | _ => none }
def InstCodesWrongFalsely : Prop := instCodesRow.holds Tryd.pinned (OpenSpec.ofChange instCodesWrong)

/-- 'seedcornlaw11.ListingData': WHATEVER THE INPUT: true; the input reads as it did. -/
def listingDataSpec : ChangeSpec := { name := "listingData", fn := fun _ => fun
  | [d1, d2] => { results := [.lit (.bool true)], args := [d1, d2] }
  | _ => none }
def listingDataRow : OpenClaim := { program := "ytdhkmdgieflioaadoor", sum := "2787fb68be162a0551919c5abcceb2cc2443e9efbb084964ee585a3617c5d518", func := "seedcorn/seedcornlaw11.ListingData", spec := "listingData", inPlace := ["internal/bytealg.IndexByteString", "internal/abi.NoEscape", "internal/bytealg.MakeNoZero"], unfollowed := true, recurses := true, named := ["seedcorn/inst.kinds", "internal/strconv.uint64pow10", "math/bits.deBruijn32tab", "math/bits.deBruijn64tab"], apart := false, laid := [("math/bits.deBruijn32tab", laid_math_bits_deBruijn32tab), ("math/bits.deBruijn64tab", laid_math_bits_deBruijn64tab), ("internal/strconv.uint64pow10", laid_internal_strconv_uint64pow10), ("seedcorn/inst.kinds", laid_seedcorn_inst_kinds)] }
def ListingDataSaid : Prop := listingDataRow.holds Tryd.pinned (OpenSpec.ofChange listingDataSpec)

/-- ITS FALSE NEIGHBOUR: 'it returns false'. Refute it at one input. -/
def listingDataWrong : ChangeSpec := { name := "listingData", fn := fun _ => fun
  | [d1, d2] => { results := [.lit (.bool false)], args := [d1, d2] }
  | _ => none }
def ListingDataWrongFalsely : Prop := listingDataRow.holds Tryd.pinned (OpenSpec.ofChange listingDataWrong)

/-- 'seedcornlaw07.InstReads': WHATEVER THE INPUT: true; the input reads as it did. -/
def instReadsSpec : ChangeSpec := { name := "instReads", fn := fun _ => fun
  | [d] => { results := [.lit (.bool true)], args := [d] }
  | _ => none }
def instReadsRow : OpenClaim := { program := "ytdhkmdgieflioaadoor", sum := "2787fb68be162a0551919c5abcceb2cc2443e9efbb084964ee585a3617c5d518", func := "seedcorn/seedcornlaw07.InstReads", spec := "instReads", inPlace := ["internal/bytealg.IndexByteString", "internal/abi.NoEscape", "internal/bytealg.MakeNoZero"], named := ["seedcorn/inst.kinds", "internal/strconv.uint64pow10", "math/bits.deBruijn32tab", "math/bits.deBruijn64tab"], apart := false, laid := [("math/bits.deBruijn32tab", laid_math_bits_deBruijn32tab), ("math/bits.deBruijn64tab", laid_math_bits_deBruijn64tab), ("internal/strconv.uint64pow10", laid_internal_strconv_uint64pow10), ("seedcorn/inst.kinds", laid_seedcorn_inst_kinds)] }
def InstReadsSaid : Prop := instReadsRow.holds Tryd.pinned (OpenSpec.ofChange instReadsSpec)

/-- ITS FALSE NEIGHBOUR: 'it returns false'. Refute it at one input. -/
def instReadsWrong : ChangeSpec := { name := "instReads", fn := fun _ => fun
  | [d] => { results := [.lit (.bool false)], args := [d] }
  | _ => none }
def InstReadsWrongFalsely : Prop := instReadsRow.holds Tryd.pinned (OpenSpec.ofChange instReadsWrong)

/-- 'seedcornlaw07.InstApart': WHATEVER THE INPUT: true; the input reads as it did. -/
def instApartSpec : ChangeSpec := { name := "instApart", fn := fun _ => fun
  | [d1, d2] => { results := [.lit (.bool true)], args := [d1, d2] }
  | _ => none }
def instApartRow : OpenClaim := { program := "ytdhkmdgieflioaadoor", sum := "2787fb68be162a0551919c5abcceb2cc2443e9efbb084964ee585a3617c5d518", func := "seedcorn/seedcornlaw07.InstApart", spec := "instApart", inPlace := ["internal/bytealg.IndexByteString", "internal/abi.NoEscape", "internal/bytealg.MakeNoZero"], named := ["seedcorn/inst.kinds", "internal/strconv.uint64pow10", "math/bits.deBruijn32tab", "math/bits.deBruijn64tab"], apart := false, laid := [("math/bits.deBruijn32tab", laid_math_bits_deBruijn32tab), ("math/bits.deBruijn64tab", laid_math_bits_deBruijn64tab), ("internal/strconv.uint64pow10", laid_internal_strconv_uint64pow10), ("seedcorn/inst.kinds", laid_seedcorn_inst_kinds)] }
def InstApartSaid : Prop := instApartRow.holds Tryd.pinned (OpenSpec.ofChange instApartSpec)

/-- ITS FALSE NEIGHBOUR: 'it returns false'. Refute it at one input. -/
def instApartWrong : ChangeSpec := { name := "instApart", fn := fun _ => fun
  | [d1, d2] => { results := [.lit (.bool false)], args := [d1, d2] }
  | _ => none }
def InstApartWrongFalsely : Prop := instApartRow.holds Tryd.pinned (OpenSpec.ofChange instApartWrong)

/-- 'seedcornlaw07.InstFields': WHATEVER THE INPUT: true; the input reads as it did. -/
def instFieldsSpec : ChangeSpec := { name := "instFields", fn := fun _ => fun
  | [d1, d2] => { results := [.lit (.bool true)], args := [d1, d2] }
  | _ => none }
def instFieldsRow : OpenClaim := { program := "ytdhkmdgieflioaadoor", sum := "2787fb68be162a0551919c5abcceb2cc2443e9efbb084964ee585a3617c5d518", func := "seedcorn/seedcornlaw07.InstFields", spec := "instFields", inPlace := ["internal/bytealg.IndexByteString", "internal/abi.NoEscape", "internal/bytealg.MakeNoZero"], named := ["seedcorn/inst.kinds", "internal/strconv.uint64pow10", "math/bits.deBruijn32tab", "math/bits.deBruijn64tab"], apart := false, laid := [("math/bits.deBruijn32tab", laid_math_bits_deBruijn32tab), ("math/bits.deBruijn64tab", laid_math_bits_deBruijn64tab), ("internal/strconv.uint64pow10", laid_internal_strconv_uint64pow10), ("seedcorn/inst.kinds", laid_seedcorn_inst_kinds)] }
def InstFieldsSaid : Prop := instFieldsRow.holds Tryd.pinned (OpenSpec.ofChange instFieldsSpec)

/-- ITS FALSE NEIGHBOUR: 'it returns false'. Refute it at one input. -/
def instFieldsWrong : ChangeSpec := { name := "instFields", fn := fun _ => fun
  | [d1, d2] => { results := [.lit (.bool false)], args := [d1, d2] }
  | _ => none }
def InstFieldsWrongFalsely : Prop := instFieldsRow.holds Tryd.pinned (OpenSpec.ofChange instFieldsWrong)

/-- 'seedcornlaw07.InstCounts': WHATEVER THE INPUT: true; the input reads as it did. -/
def instCountsSpec : ChangeSpec := { name := "instCounts", fn := fun _ => fun
  | [d] => { results := [.lit (.bool true)], args := [d] }
  | _ => none }
def instCountsRow : OpenClaim := { program := "ytdhkmdgieflioaadoor", sum := "2787fb68be162a0551919c5abcceb2cc2443e9efbb084964ee585a3617c5d518", func := "seedcorn/seedcornlaw07.InstCounts", spec := "instCounts", inPlace := ["internal/bytealg.IndexByteString", "internal/abi.NoEscape", "internal/bytealg.MakeNoZero"], named := ["seedcorn/inst.kinds", "internal/strconv.uint64pow10", "math/bits.deBruijn32tab", "math/bits.deBruijn64tab"], apart := false, laid := [("math/bits.deBruijn32tab", laid_math_bits_deBruijn32tab), ("math/bits.deBruijn64tab", laid_math_bits_deBruijn64tab), ("internal/strconv.uint64pow10", laid_internal_strconv_uint64pow10), ("seedcorn/inst.kinds", laid_seedcorn_inst_kinds)] }
def InstCountsSaid : Prop := instCountsRow.holds Tryd.pinned (OpenSpec.ofChange instCountsSpec)

/-- ITS FALSE NEIGHBOUR: 'it returns false'. Refute it at one input. -/
def instCountsWrong : ChangeSpec := { name := "instCounts", fn := fun _ => fun
  | [d] => { results := [.lit (.bool false)], args := [d] }
  | _ => none }
def InstCountsWrongFalsely : Prop := instCountsRow.holds Tryd.pinned (OpenSpec.ofChange instCountsWrong)

/-- 'seedcornlaw07.InstNames': WHATEVER THE INPUT: true; the input reads as it did. -/
def instNamesSpec : ChangeSpec := { name := "instNames", fn := fun _ => fun
  | [d1, d2] => { results := [.lit (.bool true)], args := [d1, d2] }
  | _ => none }
def instNamesRow : OpenClaim := { program := "ytdhkmdgieflioaadoor", sum := "2787fb68be162a0551919c5abcceb2cc2443e9efbb084964ee585a3617c5d518", func := "seedcorn/seedcornlaw07.InstNames", spec := "instNames", inPlace := ["internal/bytealg.IndexByteString", "internal/abi.NoEscape", "internal/bytealg.MakeNoZero"], named := ["seedcorn/inst.kinds", "internal/strconv.uint64pow10", "math/bits.deBruijn32tab", "math/bits.deBruijn64tab"], apart := false, laid := [("math/bits.deBruijn32tab", laid_math_bits_deBruijn32tab), ("math/bits.deBruijn64tab", laid_math_bits_deBruijn64tab), ("internal/strconv.uint64pow10", laid_internal_strconv_uint64pow10), ("seedcorn/inst.kinds", laid_seedcorn_inst_kinds)] }
def InstNamesSaid : Prop := instNamesRow.holds Tryd.pinned (OpenSpec.ofChange instNamesSpec)

/-- ITS FALSE NEIGHBOUR: 'it returns false'. Refute it at one input. -/
def instNamesWrong : ChangeSpec := { name := "instNames", fn := fun _ => fun
  | [d1, d2] => { results := [.lit (.bool false)], args := [d1, d2] }
  | _ => none }
def InstNamesWrongFalsely : Prop := instNamesRow.holds Tryd.pinned (OpenSpec.ofChange instNamesWrong)

/-- 'seedcornlaw50.SeedItself': WHATEVER THE INPUT: true; the input reads as it did. -/
def seedItselfSpec : ChangeSpec := { name := "seedItself", fn := fun _ => fun
  | [] => { results := [.lit (.bool true)], args := [] }
  | _ => none }
def seedItselfRow : OpenClaim := { program := "ytdhkmdgieflioaadoor", sum := "2787fb68be162a0551919c5abcceb2cc2443e9efbb084964ee585a3617c5d518", func := "seedcorn/seedcornlaw50.SeedItself", spec := "seedItself", inPlace := ["internal/bytealg.IndexByteString", "internal/abi.NoEscape", "internal/bytealg.MakeNoZero"], unfollowed := true, recurses := true, named := ["seedcorn/seed.code", "seedcorn/inst.kinds", "internal/strconv.uint64pow10", "math/bits.deBruijn32tab", "math/bits.deBruijn64tab"], apart := false, laid := [("math/bits.deBruijn32tab", laid_math_bits_deBruijn32tab), ("math/bits.deBruijn64tab", laid_math_bits_deBruijn64tab), ("internal/strconv.uint64pow10", laid_internal_strconv_uint64pow10), ("seedcorn/inst.kinds", laid_seedcorn_inst_kinds), ("seedcorn/seed.code", laid_seedcorn_seed_code)] }
def SeedItselfSaid : Prop := seedItselfRow.holds Tryd.pinned (OpenSpec.ofChange seedItselfSpec)

/-- ITS FALSE NEIGHBOUR: 'it returns false'. Refute it at one input. -/
def seedItselfWrong : ChangeSpec := { name := "seedItself", fn := fun _ => fun
  | [] => { results := [.lit (.bool false)], args := [] }
  | _ => none }
def SeedItselfWrongFalsely : Prop := seedItselfRow.holds Tryd.pinned (OpenSpec.ofChange seedItselfWrong)

/-- 'seedcornlaw11.ListingTargets': WHATEVER THE INPUT: true; the input reads as it did. -/
def listingTargetsSpec : ChangeSpec := { name := "listingTargets", fn := fun _ => fun
  | [d] => { results := [.lit (.bool true)], args := [d] }
  | _ => none }
def listingTargetsRow : OpenClaim := { program := "ytdhkmdgieflioaadoor", sum := "2787fb68be162a0551919c5abcceb2cc2443e9efbb084964ee585a3617c5d518", func := "seedcorn/seedcornlaw11.ListingTargets", spec := "listingTargets", inPlace := ["internal/bytealg.IndexByteString", "internal/abi.NoEscape", "internal/bytealg.MakeNoZero"], unfollowed := true, recurses := true, named := ["seedcorn/inst.kinds", "internal/strconv.uint64pow10", "math/bits.deBruijn32tab", "math/bits.deBruijn64tab"], apart := false, laid := [("math/bits.deBruijn32tab", laid_math_bits_deBruijn32tab), ("math/bits.deBruijn64tab", laid_math_bits_deBruijn64tab), ("internal/strconv.uint64pow10", laid_internal_strconv_uint64pow10), ("seedcorn/inst.kinds", laid_seedcorn_inst_kinds)] }
def ListingTargetsSaid : Prop := listingTargetsRow.holds Tryd.pinned (OpenSpec.ofChange listingTargetsSpec)

/-- ITS FALSE NEIGHBOUR: 'it returns false'. Refute it at one input. -/
def listingTargetsWrong : ChangeSpec := { name := "listingTargets", fn := fun _ => fun
  | [d] => { results := [.lit (.bool false)], args := [d] }
  | _ => none }
def ListingTargetsWrongFalsely : Prop := listingTargetsRow.holds Tryd.pinned (OpenSpec.ofChange listingTargetsWrong)

/-- 'seedcornlaw11.ListingText': WHATEVER THE INPUT: true; the input reads as it did. -/
def listingTextSpec : ChangeSpec := { name := "listingText", fn := fun _ => fun
  | [d] => { results := [.lit (.bool true)], args := [d] }
  | _ => none }
def listingTextRow : OpenClaim := { program := "ytdhkmdgieflioaadoor", sum := "2787fb68be162a0551919c5abcceb2cc2443e9efbb084964ee585a3617c5d518", func := "seedcorn/seedcornlaw11.ListingText", spec := "listingText", inPlace := ["internal/bytealg.IndexByteString", "internal/abi.NoEscape", "internal/bytealg.MakeNoZero"], unfollowed := true, recurses := true, named := ["seedcorn/inst.kinds", "internal/strconv.uint64pow10", "math/bits.deBruijn32tab", "math/bits.deBruijn64tab"], apart := false, laid := [("math/bits.deBruijn32tab", laid_math_bits_deBruijn32tab), ("math/bits.deBruijn64tab", laid_math_bits_deBruijn64tab), ("internal/strconv.uint64pow10", laid_internal_strconv_uint64pow10), ("seedcorn/inst.kinds", laid_seedcorn_inst_kinds)] }
def ListingTextSaid : Prop := listingTextRow.holds Tryd.pinned (OpenSpec.ofChange listingTextSpec)

/-- ITS FALSE NEIGHBOUR: 'it returns false'. Refute it at one input. -/
def listingTextWrong : ChangeSpec := { name := "listingText", fn := fun _ => fun
  | [d] => { results := [.lit (.bool false)], args := [d] }
  | _ => none }
def ListingTextWrongFalsely : Prop := listingTextRow.holds Tryd.pinned (OpenSpec.ofChange listingTextWrong)

/-- 'seedcornlaw11.ListingLines': WHATEVER THE INPUT: true; the input reads as it did. -/
def listingLinesSpec : ChangeSpec := { name := "listingLines", fn := fun _ => fun
  | [d] => { results := [.lit (.bool true)], args := [d] }
  | _ => none }
def listingLinesRow : OpenClaim := { program := "ytdhkmdgieflioaadoor", sum := "2787fb68be162a0551919c5abcceb2cc2443e9efbb084964ee585a3617c5d518", func := "seedcorn/seedcornlaw11.ListingLines", spec := "listingLines", inPlace := ["internal/bytealg.IndexByteString", "internal/abi.NoEscape", "internal/bytealg.MakeNoZero"], unfollowed := true, recurses := true, named := ["seedcorn/inst.kinds", "internal/strconv.uint64pow10", "math/bits.deBruijn32tab", "math/bits.deBruijn64tab"], apart := false, laid := [("math/bits.deBruijn32tab", laid_math_bits_deBruijn32tab), ("math/bits.deBruijn64tab", laid_math_bits_deBruijn64tab), ("internal/strconv.uint64pow10", laid_internal_strconv_uint64pow10), ("seedcorn/inst.kinds", laid_seedcorn_inst_kinds)] }
def ListingLinesSaid : Prop := listingLinesRow.holds Tryd.pinned (OpenSpec.ofChange listingLinesSpec)

/-- ITS FALSE NEIGHBOUR: 'it returns false'. Refute it at one input. -/
def listingLinesWrong : ChangeSpec := { name := "listingLines", fn := fun _ => fun
  | [d] => { results := [.lit (.bool false)], args := [d] }
  | _ => none }
def ListingLinesWrongFalsely : Prop := listingLinesRow.holds Tryd.pinned (OpenSpec.ofChange listingLinesWrong)

/-- 'seedcornlaw11.ListingPlaces': WHATEVER THE INPUT: true; the input reads as it did. -/
def listingPlacesSpec : ChangeSpec := { name := "listingPlaces", fn := fun _ => fun
  | [d1, d2] => { results := [.lit (.bool true)], args := [d1, d2] }
  | _ => none }
def listingPlacesRow : OpenClaim := { program := "ytdhkmdgieflioaadoor", sum := "2787fb68be162a0551919c5abcceb2cc2443e9efbb084964ee585a3617c5d518", func := "seedcorn/seedcornlaw11.ListingPlaces", spec := "listingPlaces", inPlace := ["internal/bytealg.IndexByteString", "internal/abi.NoEscape", "internal/bytealg.MakeNoZero"], unfollowed := true, recurses := true, named := ["seedcorn/inst.kinds", "internal/strconv.uint64pow10", "math/bits.deBruijn32tab", "math/bits.deBruijn64tab"], apart := false, laid := [("math/bits.deBruijn32tab", laid_math_bits_deBruijn32tab), ("math/bits.deBruijn64tab", laid_math_bits_deBruijn64tab), ("internal/strconv.uint64pow10", laid_internal_strconv_uint64pow10), ("seedcorn/inst.kinds", laid_seedcorn_inst_kinds)] }
def ListingPlacesSaid : Prop := listingPlacesRow.holds Tryd.pinned (OpenSpec.ofChange listingPlacesSpec)

/-- ITS FALSE NEIGHBOUR: 'it returns false'. Refute it at one input. -/
def listingPlacesWrong : ChangeSpec := { name := "listingPlaces", fn := fun _ => fun
  | [d1, d2] => { results := [.lit (.bool false)], args := [d1, d2] }
  | _ => none }
def ListingPlacesWrongFalsely : Prop := listingPlacesRow.holds Tryd.pinned (OpenSpec.ofChange listingPlacesWrong)

/-- 'seedcornlaw11.ListingApart': WHATEVER THE INPUT: true; the input reads as it did. -/
def listingApartSpec : ChangeSpec := { name := "listingApart", fn := fun _ => fun
  | [d1, d2] => { results := [.lit (.bool true)], args := [d1, d2] }
  | _ => none }
def listingApartRow : OpenClaim := { program := "ytdhkmdgieflioaadoor", sum := "2787fb68be162a0551919c5abcceb2cc2443e9efbb084964ee585a3617c5d518", func := "seedcorn/seedcornlaw11.ListingApart", spec := "listingApart", inPlace := ["internal/bytealg.IndexByteString", "internal/abi.NoEscape", "internal/bytealg.MakeNoZero"], unfollowed := true, recurses := true, named := ["seedcorn/inst.kinds", "internal/strconv.uint64pow10", "math/bits.deBruijn32tab", "math/bits.deBruijn64tab"], apart := false, laid := [("math/bits.deBruijn32tab", laid_math_bits_deBruijn32tab), ("math/bits.deBruijn64tab", laid_math_bits_deBruijn64tab), ("internal/strconv.uint64pow10", laid_internal_strconv_uint64pow10), ("seedcorn/inst.kinds", laid_seedcorn_inst_kinds)] }
def ListingApartSaid : Prop := listingApartRow.holds Tryd.pinned (OpenSpec.ofChange listingApartSpec)

/-- ITS FALSE NEIGHBOUR: 'it returns false'. Refute it at one input. -/
def listingApartWrong : ChangeSpec := { name := "listingApart", fn := fun _ => fun
  | [d1, d2] => { results := [.lit (.bool false)], args := [d1, d2] }
  | _ => none }
def ListingApartWrongFalsely : Prop := listingApartRow.holds Tryd.pinned (OpenSpec.ofChange listingApartWrong)

/- THE SECOND FORM. 'bulk': how many values and letters a reading holds, each counted each time it is reached (what is shared counts as often as it is met; a slice's spare places count too). A statement '..UptoSaid' is the law's where the arguments, and the package variables that the reading takes, are together of bulk at most 1048576: NARROWER than '..Said'. Prove '..Said' where nothing that the law and all that it calls make is longer than what came in: it says more and counts as full. Else prove '..UptoSaid'. A law counts once. -/
mutual
def uptoBulk {H : Type} : DataW H → Nat
  | .lit (.string bytes) => bytes.length + 1
  | .lit _ => 1
  | .nil => 1
  | .ptr d => uptoBulk d + 1
  | .slice elems spare => uptoBulkAll elems + uptoBulkAll spare + 1
  | .agg parts => uptoBulkAll parts + 1
  | .iface _ d => uptoBulk d + 1
  | .map entries => uptoBulkEntries entries + 1
  | .held _ => 1
def uptoBulkAll {H : Type} : List (DataW H) → Nat
  | [] => 0
  | d :: r => uptoBulk d + uptoBulkAll r
def uptoBulkEntries {H : Type} : List (Lit × DataW H) → Nat
  | [] => 0
  | x :: r => uptoBulkEntry x + uptoBulkEntries r
def uptoBulkEntry {H : Type} : Lit × DataW H → Nat
  | (.string bytes, d) => bytes.length + uptoBulk d + 1
  | (_, d) => uptoBulk d + 1
 end
def uptoSmall : (H : Type) → List (DataW H) → Bool := fun _ ds => decide (uptoBulkAll ds ≤ 1048576)
def OpenSpec.upto (s : _root_.Go.ChangeSpec) : _root_.Go.OpenSpec := { _root_.Go.OpenSpec.ofChange s with cond := some uptoSmall }

/-- 'seedcornlaw50.SeedLoads', WHERE WHAT IT READS IS OF BULK AT MOST 1048576: true; the input reads as it did. -/
def seedLoadsUptoRow : OpenClaim := { program := "ytdhkmdgieflioaadoor", sum := "2787fb68be162a0551919c5abcceb2cc2443e9efbb084964ee585a3617c5d518", func := "seedcorn/seedcornlaw50.SeedLoads", spec := "seedLoads", inPlace := ["internal/bytealg.IndexByteString"], named := ["seedcorn/seed.code", "seedcorn/inst.kinds"], apart := false, laid := [("seedcorn/inst.kinds", laid_seedcorn_inst_kinds), ("seedcorn/seed.code", laid_seedcorn_seed_code)], narrowed := true }
def SeedLoadsUptoSaid : Prop := seedLoadsUptoRow.holds Tryd.pinned (OpenSpec.upto seedLoadsSpec)

/-- 'seedcornlaw50.SeedSmall', WHERE WHAT IT READS IS OF BULK AT MOST 1048576: true; the input reads as it did. -/
def seedSmallUptoRow : OpenClaim := { program := "ytdhkmdgieflioaadoor", sum := "2787fb68be162a0551919c5abcceb2cc2443e9efbb084964ee585a3617c5d518", func := "seedcorn/seedcornlaw50.SeedSmall", spec := "seedSmall", inPlace := ["internal/bytealg.IndexByteString"], named := ["seedcorn/seed.code", "seedcorn/inst.kinds"], apart := false, laid := [("seedcorn/inst.kinds", laid_seedcorn_inst_kinds), ("seedcorn/seed.code", laid_seedcorn_seed_code)], narrowed := true }
def SeedSmallUptoSaid : Prop := seedSmallUptoRow.holds Tryd.pinned (OpenSpec.upto seedSmallSpec)

/-- 'seedcornlaw50.SeedImages', WHERE WHAT IT READS IS OF BULK AT MOST 1048576: true; the input reads as it did. -/
def seedImagesUptoRow : OpenClaim := { program := "ytdhkmdgieflioaadoor", sum := "2787fb68be162a0551919c5abcceb2cc2443e9efbb084964ee585a3617c5d518", func := "seedcorn/seedcornlaw50.SeedImages", spec := "seedImages", inPlace := ["internal/bytealg.IndexByteString"], named := ["seedcorn/seed.code", "seedcorn/inst.kinds"], apart := false, laid := [("seedcorn/inst.kinds", laid_seedcorn_inst_kinds), ("seedcorn/seed.code", laid_seedcorn_seed_code)], narrowed := true }
def SeedImagesUptoSaid : Prop := seedImagesUptoRow.holds Tryd.pinned (OpenSpec.upto seedImagesSpec)

/-- 'seedcornlaw50.SeedNotes', WHERE WHAT IT READS IS OF BULK AT MOST 1048576: true; the input reads as it did. -/
def seedNotesUptoRow : OpenClaim := { program := "ytdhkmdgieflioaadoor", sum := "2787fb68be162a0551919c5abcceb2cc2443e9efbb084964ee585a3617c5d518", func := "seedcorn/seedcornlaw50.SeedNotes", spec := "seedNotes", inPlace := ["internal/bytealg.IndexByteString"], named := ["seedcorn/seed.code", "seedcorn/inst.kinds"], apart := false, laid := [("seedcorn/inst.kinds", laid_seedcorn_inst_kinds), ("seedcorn/seed.code", laid_seedcorn_seed_code)], narrowed := true }
def SeedNotesUptoSaid : Prop := seedNotesUptoRow.holds Tryd.pinned (OpenSpec.upto seedNotesSpec)

/-- 'seedcornlaw50.SeedTwo', WHERE WHAT IT READS IS OF BULK AT MOST 1048576: true; the input reads as it did. -/
def seedTwoUptoRow : OpenClaim := { program := "ytdhkmdgieflioaadoor", sum := "2787fb68be162a0551919c5abcceb2cc2443e9efbb084964ee585a3617c5d518", func := "seedcorn/seedcornlaw50.SeedTwo", spec := "seedTwo", inPlace := ["internal/bytealg.IndexByteString"], named := ["seedcorn/seed.code", "seedcorn/inst.kinds"], apart := false, laid := [("seedcorn/inst.kinds", laid_seedcorn_inst_kinds), ("seedcorn/seed.code", laid_seedcorn_seed_code)], narrowed := true }
def SeedTwoUptoSaid : Prop := seedTwoUptoRow.holds Tryd.pinned (OpenSpec.upto seedTwoSpec)

/-- 'seedcornlaw11.ListingGoesOn', WHERE WHAT IT READS IS OF BULK AT MOST 1048576: true; the input reads as it did. -/
def listingGoesOnUptoRow : OpenClaim := { program := "ytdhkmdgieflioaadoor", sum := "2787fb68be162a0551919c5abcceb2cc2443e9efbb084964ee585a3617c5d518", func := "seedcorn/seedcornlaw11.ListingGoesOn", spec := "listingGoesOn", inPlace := ["internal/bytealg.IndexByteString", "internal/abi.NoEscape", "internal/bytealg.MakeNoZero"], unfollowed := true, recurses := true, named := ["seedcorn/inst.kinds", "internal/strconv.uint64pow10", "math/bits.deBruijn32tab", "math/bits.deBruijn64tab"], apart := false, laid := [("math/bits.deBruijn32tab", laid_math_bits_deBruijn32tab), ("math/bits.deBruijn64tab", laid_math_bits_deBruijn64tab), ("internal/strconv.uint64pow10", laid_internal_strconv_uint64pow10), ("seedcorn/inst.kinds", laid_seedcorn_inst_kinds)], narrowed := true }
def ListingGoesOnUptoSaid : Prop := listingGoesOnUptoRow.holds Tryd.pinned (OpenSpec.upto listingGoesOnSpec)

/-- 'seedcornlaw07.InstCodes', WHERE WHAT IT READS IS OF BULK AT MOST 1048576: true; the input reads as it did. -/
def instCodesUptoRow : OpenClaim := { program := "ytdhkmdgieflioaadoor", sum := "2787fb68be162a0551919c5abcceb2cc2443e9efbb084964ee585a3617c5d518", func := "seedcorn/seedcornlaw07.InstCodes", spec := "instCodes", inPlace := ["internal/bytealg.IndexByteString", "internal/abi.NoEscape", "internal/bytealg.MakeNoZero"], named := ["seedcorn/inst.kinds", "internal/strconv.uint64pow10", "math/bits.deBruijn32tab", "math/bits.deBruijn64tab"], apart := false, laid := [("math/bits.deBruijn32tab", laid_math_bits_deBruijn32tab), ("math/bits.deBruijn64tab", laid_math_bits_deBruijn64tab), ("internal/strconv.uint64pow10", laid_internal_strconv_uint64pow10), ("seedcorn/inst.kinds", laid_seedcorn_inst_kinds)], narrowed := true }
def InstCodesUptoSaid : Prop := instCodesUptoRow.holds Tryd.pinned (OpenSpec.upto instCodesSpec)

/-- 'seedcornlaw11.ListingData', WHERE WHAT IT READS IS OF BULK AT MOST 1048576: true; the input reads as it did. -/
def listingDataUptoRow : OpenClaim := { program := "ytdhkmdgieflioaadoor", sum := "2787fb68be162a0551919c5abcceb2cc2443e9efbb084964ee585a3617c5d518", func := "seedcorn/seedcornlaw11.ListingData", spec := "listingData", inPlace := ["internal/bytealg.IndexByteString", "internal/abi.NoEscape", "internal/bytealg.MakeNoZero"], unfollowed := true, recurses := true, named := ["seedcorn/inst.kinds", "internal/strconv.uint64pow10", "math/bits.deBruijn32tab", "math/bits.deBruijn64tab"], apart := false, laid := [("math/bits.deBruijn32tab", laid_math_bits_deBruijn32tab), ("math/bits.deBruijn64tab", laid_math_bits_deBruijn64tab), ("internal/strconv.uint64pow10", laid_internal_strconv_uint64pow10), ("seedcorn/inst.kinds", laid_seedcorn_inst_kinds)], narrowed := true }
def ListingDataUptoSaid : Prop := listingDataUptoRow.holds Tryd.pinned (OpenSpec.upto listingDataSpec)

/-- 'seedcornlaw07.InstReads', WHERE WHAT IT READS IS OF BULK AT MOST 1048576: true; the input reads as it did. -/
def instReadsUptoRow : OpenClaim := { program := "ytdhkmdgieflioaadoor", sum := "2787fb68be162a0551919c5abcceb2cc2443e9efbb084964ee585a3617c5d518", func := "seedcorn/seedcornlaw07.InstReads", spec := "instReads", inPlace := ["internal/bytealg.IndexByteString", "internal/abi.NoEscape", "internal/bytealg.MakeNoZero"], named := ["seedcorn/inst.kinds", "internal/strconv.uint64pow10", "math/bits.deBruijn32tab", "math/bits.deBruijn64tab"], apart := false, laid := [("math/bits.deBruijn32tab", laid_math_bits_deBruijn32tab), ("math/bits.deBruijn64tab", laid_math_bits_deBruijn64tab), ("internal/strconv.uint64pow10", laid_internal_strconv_uint64pow10), ("seedcorn/inst.kinds", laid_seedcorn_inst_kinds)], narrowed := true }
def InstReadsUptoSaid : Prop := instReadsUptoRow.holds Tryd.pinned (OpenSpec.upto instReadsSpec)

/-- 'seedcornlaw07.InstApart', WHERE WHAT IT READS IS OF BULK AT MOST 1048576: true; the input reads as it did. -/
def instApartUptoRow : OpenClaim := { program := "ytdhkmdgieflioaadoor", sum := "2787fb68be162a0551919c5abcceb2cc2443e9efbb084964ee585a3617c5d518", func := "seedcorn/seedcornlaw07.InstApart", spec := "instApart", inPlace := ["internal/bytealg.IndexByteString", "internal/abi.NoEscape", "internal/bytealg.MakeNoZero"], named := ["seedcorn/inst.kinds", "internal/strconv.uint64pow10", "math/bits.deBruijn32tab", "math/bits.deBruijn64tab"], apart := false, laid := [("math/bits.deBruijn32tab", laid_math_bits_deBruijn32tab), ("math/bits.deBruijn64tab", laid_math_bits_deBruijn64tab), ("internal/strconv.uint64pow10", laid_internal_strconv_uint64pow10), ("seedcorn/inst.kinds", laid_seedcorn_inst_kinds)], narrowed := true }
def InstApartUptoSaid : Prop := instApartUptoRow.holds Tryd.pinned (OpenSpec.upto instApartSpec)

/-- 'seedcornlaw07.InstFields', WHERE WHAT IT READS IS OF BULK AT MOST 1048576: true; the input reads as it did. -/
def instFieldsUptoRow : OpenClaim := { program := "ytdhkmdgieflioaadoor", sum := "2787fb68be162a0551919c5abcceb2cc2443e9efbb084964ee585a3617c5d518", func := "seedcorn/seedcornlaw07.InstFields", spec := "instFields", inPlace := ["internal/bytealg.IndexByteString", "internal/abi.NoEscape", "internal/bytealg.MakeNoZero"], named := ["seedcorn/inst.kinds", "internal/strconv.uint64pow10", "math/bits.deBruijn32tab", "math/bits.deBruijn64tab"], apart := false, laid := [("math/bits.deBruijn32tab", laid_math_bits_deBruijn32tab), ("math/bits.deBruijn64tab", laid_math_bits_deBruijn64tab), ("internal/strconv.uint64pow10", laid_internal_strconv_uint64pow10), ("seedcorn/inst.kinds", laid_seedcorn_inst_kinds)], narrowed := true }
def InstFieldsUptoSaid : Prop := instFieldsUptoRow.holds Tryd.pinned (OpenSpec.upto instFieldsSpec)

/-- 'seedcornlaw07.InstCounts', WHERE WHAT IT READS IS OF BULK AT MOST 1048576: true; the input reads as it did. -/
def instCountsUptoRow : OpenClaim := { program := "ytdhkmdgieflioaadoor", sum := "2787fb68be162a0551919c5abcceb2cc2443e9efbb084964ee585a3617c5d518", func := "seedcorn/seedcornlaw07.InstCounts", spec := "instCounts", inPlace := ["internal/bytealg.IndexByteString", "internal/abi.NoEscape", "internal/bytealg.MakeNoZero"], named := ["seedcorn/inst.kinds", "internal/strconv.uint64pow10", "math/bits.deBruijn32tab", "math/bits.deBruijn64tab"], apart := false, laid := [("math/bits.deBruijn32tab", laid_math_bits_deBruijn32tab), ("math/bits.deBruijn64tab", laid_math_bits_deBruijn64tab), ("internal/strconv.uint64pow10", laid_internal_strconv_uint64pow10), ("seedcorn/inst.kinds", laid_seedcorn_inst_kinds)], narrowed := true }
def InstCountsUptoSaid : Prop := instCountsUptoRow.holds Tryd.pinned (OpenSpec.upto instCountsSpec)

/-- 'seedcornlaw07.InstNames', WHERE WHAT IT READS IS OF BULK AT MOST 1048576: true; the input reads as it did. -/
def instNamesUptoRow : OpenClaim := { program := "ytdhkmdgieflioaadoor", sum := "2787fb68be162a0551919c5abcceb2cc2443e9efbb084964ee585a3617c5d518", func := "seedcorn/seedcornlaw07.InstNames", spec := "instNames", inPlace := ["internal/bytealg.IndexByteString", "internal/abi.NoEscape", "internal/bytealg.MakeNoZero"], named := ["seedcorn/inst.kinds", "internal/strconv.uint64pow10", "math/bits.deBruijn32tab", "math/bits.deBruijn64tab"], apart := false, laid := [("math/bits.deBruijn32tab", laid_math_bits_deBruijn32tab), ("math/bits.deBruijn64tab", laid_math_bits_deBruijn64tab), ("internal/strconv.uint64pow10", laid_internal_strconv_uint64pow10), ("seedcorn/inst.kinds", laid_seedcorn_inst_kinds)], narrowed := true }
def InstNamesUptoSaid : Prop := instNamesUptoRow.holds Tryd.pinned (OpenSpec.upto instNamesSpec)

/-- 'seedcornlaw50.SeedItself', WHERE WHAT IT READS IS OF BULK AT MOST 1048576: true; the input reads as it did. -/
def seedItselfUptoRow : OpenClaim := { program := "ytdhkmdgieflioaadoor", sum := "2787fb68be162a0551919c5abcceb2cc2443e9efbb084964ee585a3617c5d518", func := "seedcorn/seedcornlaw50.SeedItself", spec := "seedItself", inPlace := ["internal/bytealg.IndexByteString", "internal/abi.NoEscape", "internal/bytealg.MakeNoZero"], unfollowed := true, recurses := true, named := ["seedcorn/seed.code", "seedcorn/inst.kinds", "internal/strconv.uint64pow10", "math/bits.deBruijn32tab", "math/bits.deBruijn64tab"], apart := false, laid := [("math/bits.deBruijn32tab", laid_math_bits_deBruijn32tab), ("math/bits.deBruijn64tab", laid_math_bits_deBruijn64tab), ("internal/strconv.uint64pow10", laid_internal_strconv_uint64pow10), ("seedcorn/inst.kinds", laid_seedcorn_inst_kinds), ("seedcorn/seed.code", laid_seedcorn_seed_code)], narrowed := true }
def SeedItselfUptoSaid : Prop := seedItselfUptoRow.holds Tryd.pinned (OpenSpec.upto seedItselfSpec)

/-- 'seedcornlaw11.ListingTargets', WHERE WHAT IT READS IS OF BULK AT MOST 1048576: true; the input reads as it did. -/
def listingTargetsUptoRow : OpenClaim := { program := "ytdhkmdgieflioaadoor", sum := "2787fb68be162a0551919c5abcceb2cc2443e9efbb084964ee585a3617c5d518", func := "seedcorn/seedcornlaw11.ListingTargets", spec := "listingTargets", inPlace := ["internal/bytealg.IndexByteString", "internal/abi.NoEscape", "internal/bytealg.MakeNoZero"], unfollowed := true, recurses := true, named := ["seedcorn/inst.kinds", "internal/strconv.uint64pow10", "math/bits.deBruijn32tab", "math/bits.deBruijn64tab"], apart := false, laid := [("math/bits.deBruijn32tab", laid_math_bits_deBruijn32tab), ("math/bits.deBruijn64tab", laid_math_bits_deBruijn64tab), ("internal/strconv.uint64pow10", laid_internal_strconv_uint64pow10), ("seedcorn/inst.kinds", laid_seedcorn_inst_kinds)], narrowed := true }
def ListingTargetsUptoSaid : Prop := listingTargetsUptoRow.holds Tryd.pinned (OpenSpec.upto listingTargetsSpec)

/-- 'seedcornlaw11.ListingText', WHERE WHAT IT READS IS OF BULK AT MOST 1048576: true; the input reads as it did. -/
def listingTextUptoRow : OpenClaim := { program := "ytdhkmdgieflioaadoor", sum := "2787fb68be162a0551919c5abcceb2cc2443e9efbb084964ee585a3617c5d518", func := "seedcorn/seedcornlaw11.ListingText", spec := "listingText", inPlace := ["internal/bytealg.IndexByteString", "internal/abi.NoEscape", "internal/bytealg.MakeNoZero"], unfollowed := true, recurses := true, named := ["seedcorn/inst.kinds", "internal/strconv.uint64pow10", "math/bits.deBruijn32tab", "math/bits.deBruijn64tab"], apart := false, laid := [("math/bits.deBruijn32tab", laid_math_bits_deBruijn32tab), ("math/bits.deBruijn64tab", laid_math_bits_deBruijn64tab), ("internal/strconv.uint64pow10", laid_internal_strconv_uint64pow10), ("seedcorn/inst.kinds", laid_seedcorn_inst_kinds)], narrowed := true }
def ListingTextUptoSaid : Prop := listingTextUptoRow.holds Tryd.pinned (OpenSpec.upto listingTextSpec)

/-- 'seedcornlaw11.ListingLines', WHERE WHAT IT READS IS OF BULK AT MOST 1048576: true; the input reads as it did. -/
def listingLinesUptoRow : OpenClaim := { program := "ytdhkmdgieflioaadoor", sum := "2787fb68be162a0551919c5abcceb2cc2443e9efbb084964ee585a3617c5d518", func := "seedcorn/seedcornlaw11.ListingLines", spec := "listingLines", inPlace := ["internal/bytealg.IndexByteString", "internal/abi.NoEscape", "internal/bytealg.MakeNoZero"], unfollowed := true, recurses := true, named := ["seedcorn/inst.kinds", "internal/strconv.uint64pow10", "math/bits.deBruijn32tab", "math/bits.deBruijn64tab"], apart := false, laid := [("math/bits.deBruijn32tab", laid_math_bits_deBruijn32tab), ("math/bits.deBruijn64tab", laid_math_bits_deBruijn64tab), ("internal/strconv.uint64pow10", laid_internal_strconv_uint64pow10), ("seedcorn/inst.kinds", laid_seedcorn_inst_kinds)], narrowed := true }
def ListingLinesUptoSaid : Prop := listingLinesUptoRow.holds Tryd.pinned (OpenSpec.upto listingLinesSpec)

/-- 'seedcornlaw11.ListingPlaces', WHERE WHAT IT READS IS OF BULK AT MOST 1048576: true; the input reads as it did. -/
def listingPlacesUptoRow : OpenClaim := { program := "ytdhkmdgieflioaadoor", sum := "2787fb68be162a0551919c5abcceb2cc2443e9efbb084964ee585a3617c5d518", func := "seedcorn/seedcornlaw11.ListingPlaces", spec := "listingPlaces", inPlace := ["internal/bytealg.IndexByteString", "internal/abi.NoEscape", "internal/bytealg.MakeNoZero"], unfollowed := true, recurses := true, named := ["seedcorn/inst.kinds", "internal/strconv.uint64pow10", "math/bits.deBruijn32tab", "math/bits.deBruijn64tab"], apart := false, laid := [("math/bits.deBruijn32tab", laid_math_bits_deBruijn32tab), ("math/bits.deBruijn64tab", laid_math_bits_deBruijn64tab), ("internal/strconv.uint64pow10", laid_internal_strconv_uint64pow10), ("seedcorn/inst.kinds", laid_seedcorn_inst_kinds)], narrowed := true }
def ListingPlacesUptoSaid : Prop := listingPlacesUptoRow.holds Tryd.pinned (OpenSpec.upto listingPlacesSpec)

/-- 'seedcornlaw11.ListingApart', WHERE WHAT IT READS IS OF BULK AT MOST 1048576: true; the input reads as it did. -/
def listingApartUptoRow : OpenClaim := { program := "ytdhkmdgieflioaadoor", sum := "2787fb68be162a0551919c5abcceb2cc2443e9efbb084964ee585a3617c5d518", func := "seedcorn/seedcornlaw11.ListingApart", spec := "listingApart", inPlace := ["internal/bytealg.IndexByteString", "internal/abi.NoEscape", "internal/bytealg.MakeNoZero"], unfollowed := true, recurses := true, named := ["seedcorn/inst.kinds", "internal/strconv.uint64pow10", "math/bits.deBruijn32tab", "math/bits.deBruijn64tab"], apart := false, laid := [("math/bits.deBruijn32tab", laid_math_bits_deBruijn32tab), ("math/bits.deBruijn64tab", laid_math_bits_deBruijn64tab), ("internal/strconv.uint64pow10", laid_internal_strconv_uint64pow10), ("seedcorn/inst.kinds", laid_seedcorn_inst_kinds)], narrowed := true }
def ListingApartUptoSaid : Prop := listingApartUptoRow.holds Tryd.pinned (OpenSpec.upto listingApartSpec)

end Rows
end Go.Proofs.YtdhkmdgieflioaaDoor
