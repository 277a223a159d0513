/-
  NARROWER THAN 'FOR EVERY INPUT', by the rows' own cells (each row's printed sentence says how): SystemDigests: laid · DigestMixes: laid · DigestBack: laid · DigestTexts: laid · DigestReads: laid · DigestPairs: laid · DigestChain: laid · DigestOf: laid · DigestSponge: laid · RecipePuts: laid · RecipeReads: laid · RecipeApart: laid · RecipePrefix: laid · RecipeRight: laid · RecipeSwaps: laid.
  DERIVED. THE GIVEN ROWS OF THIS SEAT. 15 by the template 'for every input the law returns true; each argument reads behind the call as it read before'; 0 by the template 'total and deterministic' (their statements: YthimgiphlenjdaaDoorTotals.lean).
  GIVEN WITH THE SEED: the statements are not yours to turn. If you find one false, say at which input.
  Laid BY PROGRAM, IN A SANDBOX (cutbox-rows.mjs): the forced cells as the released guide's own fill.sh prints them over the translation 8be9fd453fc84d04… (all of the seat's roots in one cut). By AI agents, Wed Nov 11 2026. No macro, syntax, notation, axiom, sorry.
-/
import Derived.Test.YthimgiphlenjdaaDoorChecked
import GoSem.Claim
import GoSem.ClaimJoined
import GoSem.ClaimMapViews
import Derived.JoinedTies
import Derived.KernelRfl
namespace Go.Proofs.YthimgiphlenjdaaDoor
/- THE CELL 'sum', in the pinned program and in every row, IS THE sha256 OF THE DUMP (.gsa) THAT YthimgiphlenjdaaDoorProg.lean LOADS. Nothing in Lean hashes anything: it is a label: what it is worth is what the hold of that sum in a sandbox is worth. -/
noncomputable def Tryd.pinned : Pinned := { name := "ythimgiphlenjdaadoor", sum := "8be9fd453fc84d0400a8211ee305c56b2286ed7038680c278479b52ca19eaed8", checked := Tryd.checked }
namespace Rows
def none {H : Type} : Left H := { results := [], args := [] }

/- WHAT THE LISTED PACKAGE-LEVEL VARIABLES READ AS WHEN THE CALL BEGINS. Each datum BY PROGRAM (the guide's laid-datum.mjs) off the statement by which the dump's own 'gosem.cut.vars' lays the variable. In a bare row this is a premise. The card (YthimgiphlenjdaaDoorCards.lean) ties it to the program's text. -/
def laid_seedcorn_digest_turns {H : Type} : DataW H := .agg [.lit (.int .i64 7), .lit (.int .i64 9), .lit (.int .i64 13), .lit (.int .i64 18)]

/-- 'seedcorntop.SystemDigests': WHATEVER THE INPUT: true; the input reads as it did. -/
def systemDigestsSpec : ChangeSpec := { name := "systemDigests", fn := fun _ => fun
  | [d1, d2] => { results := [.lit (.bool true)], args := [d1, d2] }
  | _ => none }
def systemDigestsRow : OpenClaim := { program := "ythimgiphlenjdaadoor", sum := "8be9fd453fc84d0400a8211ee305c56b2286ed7038680c278479b52ca19eaed8", func := "seedcorn/seedcorntop.SystemDigests", spec := "systemDigests", inPlace := ["internal/abi.NoEscape", "internal/bytealg.MakeNoZero"], named := ["seedcorn/digest.turns"], apart := false, laid := [("seedcorn/digest.turns", laid_seedcorn_digest_turns)] }
def SystemDigestsSaid : Prop := systemDigestsRow.holds Tryd.pinned (OpenSpec.ofChange systemDigestsSpec)

/-- ITS FALSE NEIGHBOUR: 'it returns false'. Refute it at one input. -/
def systemDigestsWrong : ChangeSpec := { name := "systemDigests", fn := fun _ => fun
  | [d1, d2] => { results := [.lit (.bool false)], args := [d1, d2] }
  | _ => none }
def SystemDigestsWrongFalsely : Prop := systemDigestsRow.holds Tryd.pinned (OpenSpec.ofChange systemDigestsWrong)

/-- 'seedcornlaw03.DigestMixes': WHATEVER THE INPUT: true; the input reads as it did. -/
def digestMixesSpec : ChangeSpec := { name := "digestMixes", fn := fun _ => fun
  | [d] => { results := [.lit (.bool true)], args := [d] }
  | _ => none }
def digestMixesRow : OpenClaim := { program := "ythimgiphlenjdaadoor", sum := "8be9fd453fc84d0400a8211ee305c56b2286ed7038680c278479b52ca19eaed8", func := "seedcorn/seedcornlaw03.DigestMixes", spec := "digestMixes", inPlace := ["internal/abi.NoEscape"], named := ["seedcorn/digest.turns"], apart := false, laid := [("seedcorn/digest.turns", laid_seedcorn_digest_turns)] }
def DigestMixesSaid : Prop := digestMixesRow.holds Tryd.pinned (OpenSpec.ofChange digestMixesSpec)

/-- ITS FALSE NEIGHBOUR: 'it returns false'. Refute it at one input. -/
def digestMixesWrong : ChangeSpec := { name := "digestMixes", fn := fun _ => fun
  | [d] => { results := [.lit (.bool false)], args := [d] }
  | _ => none }
def DigestMixesWrongFalsely : Prop := digestMixesRow.holds Tryd.pinned (OpenSpec.ofChange digestMixesWrong)

/-- 'seedcornlaw03.DigestBack': WHATEVER THE INPUT: true; the input reads as it did. -/
def digestBackSpec : ChangeSpec := { name := "digestBack", fn := fun _ => fun
  | [d1, d2] => { results := [.lit (.bool true)], args := [d1, d2] }
  | _ => none }
def digestBackRow : OpenClaim := { program := "ythimgiphlenjdaadoor", sum := "8be9fd453fc84d0400a8211ee305c56b2286ed7038680c278479b52ca19eaed8", func := "seedcorn/seedcornlaw03.DigestBack", spec := "digestBack", inPlace := ["internal/abi.NoEscape"], named := ["seedcorn/digest.turns"], apart := false, laid := [("seedcorn/digest.turns", laid_seedcorn_digest_turns)] }
def DigestBackSaid : Prop := digestBackRow.holds Tryd.pinned (OpenSpec.ofChange digestBackSpec)

/-- ITS FALSE NEIGHBOUR: 'it returns false'. Refute it at one input. -/
def digestBackWrong : ChangeSpec := { name := "digestBack", fn := fun _ => fun
  | [d1, d2] => { results := [.lit (.bool false)], args := [d1, d2] }
  | _ => none }
def DigestBackWrongFalsely : Prop := digestBackRow.holds Tryd.pinned (OpenSpec.ofChange digestBackWrong)

/-- 'seedcornlaw03.DigestTexts': WHATEVER THE INPUT: true; the input reads as it did. -/
def digestTextsSpec : ChangeSpec := { name := "digestTexts", fn := fun _ => fun
  | [d] => { results := [.lit (.bool true)], args := [d] }
  | _ => none }
def digestTextsRow : OpenClaim := { program := "ythimgiphlenjdaadoor", sum := "8be9fd453fc84d0400a8211ee305c56b2286ed7038680c278479b52ca19eaed8", func := "seedcorn/seedcornlaw03.DigestTexts", spec := "digestTexts", inPlace := ["internal/abi.NoEscape"], named := ["seedcorn/digest.turns"], apart := false, laid := [("seedcorn/digest.turns", laid_seedcorn_digest_turns)] }
def DigestTextsSaid : Prop := digestTextsRow.holds Tryd.pinned (OpenSpec.ofChange digestTextsSpec)

/-- ITS FALSE NEIGHBOUR: 'it returns false'. Refute it at one input. -/
def digestTextsWrong : ChangeSpec := { name := "digestTexts", fn := fun _ => fun
  | [d] => { results := [.lit (.bool false)], args := [d] }
  | _ => none }
def DigestTextsWrongFalsely : Prop := digestTextsRow.holds Tryd.pinned (OpenSpec.ofChange digestTextsWrong)

/-- 'seedcornlaw03.DigestReads': WHATEVER THE INPUT: true; the input reads as it did. -/
def digestReadsSpec : ChangeSpec := { name := "digestReads", fn := fun _ => fun
  | [d] => { results := [.lit (.bool true)], args := [d] }
  | _ => none }
def digestReadsRow : OpenClaim := { program := "ythimgiphlenjdaadoor", sum := "8be9fd453fc84d0400a8211ee305c56b2286ed7038680c278479b52ca19eaed8", func := "seedcorn/seedcornlaw03.DigestReads", spec := "digestReads", inPlace := ["internal/abi.NoEscape"], named := ["seedcorn/digest.turns"], apart := false, laid := [("seedcorn/digest.turns", laid_seedcorn_digest_turns)] }
def DigestReadsSaid : Prop := digestReadsRow.holds Tryd.pinned (OpenSpec.ofChange digestReadsSpec)

/-- ITS FALSE NEIGHBOUR: 'it returns false'. Refute it at one input. -/
def digestReadsWrong : ChangeSpec := { name := "digestReads", fn := fun _ => fun
  | [d] => { results := [.lit (.bool false)], args := [d] }
  | _ => none }
def DigestReadsWrongFalsely : Prop := digestReadsRow.holds Tryd.pinned (OpenSpec.ofChange digestReadsWrong)

/-- 'seedcornlaw03.DigestPairs': WHATEVER THE INPUT: true; the input reads as it did. -/
def digestPairsSpec : ChangeSpec := { name := "digestPairs", fn := fun _ => fun
  | [d1, d2] => { results := [.lit (.bool true)], args := [d1, d2] }
  | _ => none }
def digestPairsRow : OpenClaim := { program := "ythimgiphlenjdaadoor", sum := "8be9fd453fc84d0400a8211ee305c56b2286ed7038680c278479b52ca19eaed8", func := "seedcorn/seedcornlaw03.DigestPairs", spec := "digestPairs", inPlace := ["internal/abi.NoEscape"], named := ["seedcorn/digest.turns"], apart := false, laid := [("seedcorn/digest.turns", laid_seedcorn_digest_turns)] }
def DigestPairsSaid : Prop := digestPairsRow.holds Tryd.pinned (OpenSpec.ofChange digestPairsSpec)

/-- ITS FALSE NEIGHBOUR: 'it returns false'. Refute it at one input. -/
def digestPairsWrong : ChangeSpec := { name := "digestPairs", fn := fun _ => fun
  | [d1, d2] => { results := [.lit (.bool false)], args := [d1, d2] }
  | _ => none }
def DigestPairsWrongFalsely : Prop := digestPairsRow.holds Tryd.pinned (OpenSpec.ofChange digestPairsWrong)

/-- 'seedcornlaw03.DigestChain': WHATEVER THE INPUT: true; the input reads as it did. -/
def digestChainSpec : ChangeSpec := { name := "digestChain", fn := fun _ => fun
  | [d1, d2] => { results := [.lit (.bool true)], args := [d1, d2] }
  | _ => none }
def digestChainRow : OpenClaim := { program := "ythimgiphlenjdaadoor", sum := "8be9fd453fc84d0400a8211ee305c56b2286ed7038680c278479b52ca19eaed8", func := "seedcorn/seedcornlaw03.DigestChain", spec := "digestChain", inPlace := ["internal/abi.NoEscape"], named := ["seedcorn/digest.turns"], apart := false, laid := [("seedcorn/digest.turns", laid_seedcorn_digest_turns)] }
def DigestChainSaid : Prop := digestChainRow.holds Tryd.pinned (OpenSpec.ofChange digestChainSpec)

/-- ITS FALSE NEIGHBOUR: 'it returns false'. Refute it at one input. -/
def digestChainWrong : ChangeSpec := { name := "digestChain", fn := fun _ => fun
  | [d1, d2] => { results := [.lit (.bool false)], args := [d1, d2] }
  | _ => none }
def DigestChainWrongFalsely : Prop := digestChainRow.holds Tryd.pinned (OpenSpec.ofChange digestChainWrong)

/-- 'seedcornlaw03.DigestOf': WHATEVER THE INPUT: true; the input reads as it did. -/
def digestOfSpec : ChangeSpec := { name := "digestOf", fn := fun _ => fun
  | [d] => { results := [.lit (.bool true)], args := [d] }
  | _ => none }
def digestOfRow : OpenClaim := { program := "ythimgiphlenjdaadoor", sum := "8be9fd453fc84d0400a8211ee305c56b2286ed7038680c278479b52ca19eaed8", func := "seedcorn/seedcornlaw03.DigestOf", spec := "digestOf", inPlace := ["internal/abi.NoEscape", "internal/bytealg.MakeNoZero"], named := ["seedcorn/digest.turns"], apart := false, laid := [("seedcorn/digest.turns", laid_seedcorn_digest_turns)] }
def DigestOfSaid : Prop := digestOfRow.holds Tryd.pinned (OpenSpec.ofChange digestOfSpec)

/-- ITS FALSE NEIGHBOUR: 'it returns false'. Refute it at one input. -/
def digestOfWrong : ChangeSpec := { name := "digestOf", fn := fun _ => fun
  | [d] => { results := [.lit (.bool false)], args := [d] }
  | _ => none }
def DigestOfWrongFalsely : Prop := digestOfRow.holds Tryd.pinned (OpenSpec.ofChange digestOfWrong)

/-- 'seedcornlaw03.DigestSponge': WHATEVER THE INPUT: true; the input reads as it did. -/
def digestSpongeSpec : ChangeSpec := { name := "digestSponge", fn := fun _ => fun
  | [d] => { results := [.lit (.bool true)], args := [d] }
  | _ => none }
def digestSpongeRow : OpenClaim := { program := "ythimgiphlenjdaadoor", sum := "8be9fd453fc84d0400a8211ee305c56b2286ed7038680c278479b52ca19eaed8", func := "seedcorn/seedcornlaw03.DigestSponge", spec := "digestSponge", inPlace := ["internal/abi.NoEscape", "internal/bytealg.MakeNoZero"], named := ["seedcorn/digest.turns"], apart := false, laid := [("seedcorn/digest.turns", laid_seedcorn_digest_turns)] }
def DigestSpongeSaid : Prop := digestSpongeRow.holds Tryd.pinned (OpenSpec.ofChange digestSpongeSpec)

/-- ITS FALSE NEIGHBOUR: 'it returns false'. Refute it at one input. -/
def digestSpongeWrong : ChangeSpec := { name := "digestSponge", fn := fun _ => fun
  | [d] => { results := [.lit (.bool false)], args := [d] }
  | _ => none }
def DigestSpongeWrongFalsely : Prop := digestSpongeRow.holds Tryd.pinned (OpenSpec.ofChange digestSpongeWrong)

/-- 'seedcornlaw37.RecipePuts': WHATEVER THE INPUT: true; the input reads as it did. -/
def recipePutsSpec : ChangeSpec := { name := "recipePuts", fn := fun _ => fun
  | [d] => { results := [.lit (.bool true)], args := [d] }
  | _ => none }
def recipePutsRow : OpenClaim := { program := "ythimgiphlenjdaadoor", sum := "8be9fd453fc84d0400a8211ee305c56b2286ed7038680c278479b52ca19eaed8", func := "seedcorn/seedcornlaw37.RecipePuts", spec := "recipePuts", inPlace := ["internal/abi.NoEscape", "internal/bytealg.MakeNoZero"], unfollowed := true, recurses := true, named := ["seedcorn/digest.turns"], apart := false, laid := [("seedcorn/digest.turns", laid_seedcorn_digest_turns)] }
def RecipePutsSaid : Prop := recipePutsRow.holds Tryd.pinned (OpenSpec.ofChange recipePutsSpec)

/-- ITS FALSE NEIGHBOUR: 'it returns false'. Refute it at one input. -/
def recipePutsWrong : ChangeSpec := { name := "recipePuts", fn := fun _ => fun
  | [d] => { results := [.lit (.bool false)], args := [d] }
  | _ => none }
def RecipePutsWrongFalsely : Prop := recipePutsRow.holds Tryd.pinned (OpenSpec.ofChange recipePutsWrong)

/-- 'seedcornlaw37.RecipeReads': WHATEVER THE INPUT: true; the input reads as it did. -/
def recipeReadsSpec : ChangeSpec := { name := "recipeReads", fn := fun _ => fun
  | [d] => { results := [.lit (.bool true)], args := [d] }
  | _ => none }
def recipeReadsRow : OpenClaim := { program := "ythimgiphlenjdaadoor", sum := "8be9fd453fc84d0400a8211ee305c56b2286ed7038680c278479b52ca19eaed8", func := "seedcorn/seedcornlaw37.RecipeReads", spec := "recipeReads", inPlace := ["internal/abi.NoEscape", "internal/bytealg.MakeNoZero"], unfollowed := true, recurses := true, named := ["seedcorn/digest.turns"], apart := false, laid := [("seedcorn/digest.turns", laid_seedcorn_digest_turns)] }
def RecipeReadsSaid : Prop := recipeReadsRow.holds Tryd.pinned (OpenSpec.ofChange recipeReadsSpec)

/-- ITS FALSE NEIGHBOUR: 'it returns false'. Refute it at one input. -/
def recipeReadsWrong : ChangeSpec := { name := "recipeReads", fn := fun _ => fun
  | [d] => { results := [.lit (.bool false)], args := [d] }
  | _ => none }
def RecipeReadsWrongFalsely : Prop := recipeReadsRow.holds Tryd.pinned (OpenSpec.ofChange recipeReadsWrong)

/-- 'seedcornlaw37.RecipeApart': WHATEVER THE INPUT: true; the input reads as it did. -/
def recipeApartSpec : ChangeSpec := { name := "recipeApart", fn := fun _ => fun
  | [d1, d2] => { results := [.lit (.bool true)], args := [d1, d2] }
  | _ => none }
def recipeApartRow : OpenClaim := { program := "ythimgiphlenjdaadoor", sum := "8be9fd453fc84d0400a8211ee305c56b2286ed7038680c278479b52ca19eaed8", func := "seedcorn/seedcornlaw37.RecipeApart", spec := "recipeApart", inPlace := ["internal/abi.NoEscape", "internal/bytealg.MakeNoZero"], unfollowed := true, recurses := true, named := ["seedcorn/digest.turns"], apart := false, laid := [("seedcorn/digest.turns", laid_seedcorn_digest_turns)] }
def RecipeApartSaid : Prop := recipeApartRow.holds Tryd.pinned (OpenSpec.ofChange recipeApartSpec)

/-- ITS FALSE NEIGHBOUR: 'it returns false'. Refute it at one input. -/
def recipeApartWrong : ChangeSpec := { name := "recipeApart", fn := fun _ => fun
  | [d1, d2] => { results := [.lit (.bool false)], args := [d1, d2] }
  | _ => none }
def RecipeApartWrongFalsely : Prop := recipeApartRow.holds Tryd.pinned (OpenSpec.ofChange recipeApartWrong)

/-- 'seedcornlaw37.RecipePrefix': WHATEVER THE INPUT: true; the input reads as it did. -/
def recipePrefixSpec : ChangeSpec := { name := "recipePrefix", fn := fun _ => fun
  | [d1, d2] => { results := [.lit (.bool true)], args := [d1, d2] }
  | _ => none }
def recipePrefixRow : OpenClaim := { program := "ythimgiphlenjdaadoor", sum := "8be9fd453fc84d0400a8211ee305c56b2286ed7038680c278479b52ca19eaed8", func := "seedcorn/seedcornlaw37.RecipePrefix", spec := "recipePrefix", inPlace := ["internal/abi.NoEscape", "internal/bytealg.MakeNoZero"], unfollowed := true, recurses := true, named := ["seedcorn/digest.turns"], apart := false, laid := [("seedcorn/digest.turns", laid_seedcorn_digest_turns)] }
def RecipePrefixSaid : Prop := recipePrefixRow.holds Tryd.pinned (OpenSpec.ofChange recipePrefixSpec)

/-- ITS FALSE NEIGHBOUR: 'it returns false'. Refute it at one input. -/
def recipePrefixWrong : ChangeSpec := { name := "recipePrefix", fn := fun _ => fun
  | [d1, d2] => { results := [.lit (.bool false)], args := [d1, d2] }
  | _ => none }
def RecipePrefixWrongFalsely : Prop := recipePrefixRow.holds Tryd.pinned (OpenSpec.ofChange recipePrefixWrong)

/-- 'seedcornlaw37.RecipeRight': WHATEVER THE INPUT: true; the input reads as it did. -/
def recipeRightSpec : ChangeSpec := { name := "recipeRight", fn := fun _ => fun
  | [d1, d2] => { results := [.lit (.bool true)], args := [d1, d2] }
  | _ => none }
def recipeRightRow : OpenClaim := { program := "ythimgiphlenjdaadoor", sum := "8be9fd453fc84d0400a8211ee305c56b2286ed7038680c278479b52ca19eaed8", func := "seedcorn/seedcornlaw37.RecipeRight", spec := "recipeRight", inPlace := ["internal/abi.NoEscape", "internal/bytealg.MakeNoZero"], unfollowed := true, recurses := true, named := ["seedcorn/digest.turns"], apart := false, laid := [("seedcorn/digest.turns", laid_seedcorn_digest_turns)] }
def RecipeRightSaid : Prop := recipeRightRow.holds Tryd.pinned (OpenSpec.ofChange recipeRightSpec)

/-- ITS FALSE NEIGHBOUR: 'it returns false'. Refute it at one input. -/
def recipeRightWrong : ChangeSpec := { name := "recipeRight", fn := fun _ => fun
  | [d1, d2] => { results := [.lit (.bool false)], args := [d1, d2] }
  | _ => none }
def RecipeRightWrongFalsely : Prop := recipeRightRow.holds Tryd.pinned (OpenSpec.ofChange recipeRightWrong)

/-- 'seedcornlaw37.RecipeSwaps': WHATEVER THE INPUT: true; the input reads as it did. -/
def recipeSwapsSpec : ChangeSpec := { name := "recipeSwaps", fn := fun _ => fun
  | [d1, d2, d3] => { results := [.lit (.bool true)], args := [d1, d2, d3] }
  | _ => none }
def recipeSwapsRow : OpenClaim := { program := "ythimgiphlenjdaadoor", sum := "8be9fd453fc84d0400a8211ee305c56b2286ed7038680c278479b52ca19eaed8", func := "seedcorn/seedcornlaw37.RecipeSwaps", spec := "recipeSwaps", inPlace := ["internal/abi.NoEscape", "internal/bytealg.MakeNoZero"], unfollowed := true, recurses := true, named := ["seedcorn/digest.turns"], apart := false, laid := [("seedcorn/digest.turns", laid_seedcorn_digest_turns)] }
def RecipeSwapsSaid : Prop := recipeSwapsRow.holds Tryd.pinned (OpenSpec.ofChange recipeSwapsSpec)

/-- ITS FALSE NEIGHBOUR: 'it returns false'. Refute it at one input. -/
def recipeSwapsWrong : ChangeSpec := { name := "recipeSwaps", fn := fun _ => fun
  | [d1, d2, d3] => { results := [.lit (.bool false)], args := [d1, d2, d3] }
  | _ => none }
def RecipeSwapsWrongFalsely : Prop := recipeSwapsRow.holds Tryd.pinned (OpenSpec.ofChange recipeSwapsWrong)

/- THE SECOND FORM. 'bulk': how many values and letters a reading holds, each counted each time it is reached (what is shared counts as often as it is met; a slice's spare places count too). A statement '..UptoSaid' is the law's where the arguments, and the package variables that the reading takes, are together of bulk at most 1048576: NARROWER than '..Said'. Prove '..Said' where nothing that the law and all that it calls make is longer than what came in: it says more and counts as full. Else prove '..UptoSaid'. A law counts once. -/
mutual
def uptoBulk {H : Type} : DataW H → Nat
  | .lit (.string bytes) => bytes.length + 1
  | .lit _ => 1
  | .nil => 1
  | .ptr d => uptoBulk d + 1
  | .slice elems spare => uptoBulkAll elems + uptoBulkAll spare + 1
  | .agg parts => uptoBulkAll parts + 1
  | .iface _ d => uptoBulk d + 1
  | .map entries => uptoBulkEntries entries + 1
  | .held _ => 1
def uptoBulkAll {H : Type} : List (DataW H) → Nat
  | [] => 0
  | d :: r => uptoBulk d + uptoBulkAll r
def uptoBulkEntries {H : Type} : List (Lit × DataW H) → Nat
  | [] => 0
  | x :: r => uptoBulkEntry x + uptoBulkEntries r
def uptoBulkEntry {H : Type} : Lit × DataW H → Nat
  | (.string bytes, d) => bytes.length + uptoBulk d + 1
  | (_, d) => uptoBulk d + 1
 end
def uptoSmall : (H : Type) → List (DataW H) → Bool := fun _ ds => decide (uptoBulkAll ds ≤ 1048576)
def OpenSpec.upto (s : _root_.Go.ChangeSpec) : _root_.Go.OpenSpec := { _root_.Go.OpenSpec.ofChange s with cond := some uptoSmall }

/-- 'seedcorntop.SystemDigests', WHERE WHAT IT READS IS OF BULK AT MOST 1048576: true; the input reads as it did. -/
def systemDigestsUptoRow : OpenClaim := { program := "ythimgiphlenjdaadoor", sum := "8be9fd453fc84d0400a8211ee305c56b2286ed7038680c278479b52ca19eaed8", func := "seedcorn/seedcorntop.SystemDigests", spec := "systemDigests", inPlace := ["internal/abi.NoEscape", "internal/bytealg.MakeNoZero"], named := ["seedcorn/digest.turns"], apart := false, laid := [("seedcorn/digest.turns", laid_seedcorn_digest_turns)], narrowed := true }
def SystemDigestsUptoSaid : Prop := systemDigestsUptoRow.holds Tryd.pinned (OpenSpec.upto systemDigestsSpec)

/-- 'seedcornlaw03.DigestMixes', WHERE WHAT IT READS IS OF BULK AT MOST 1048576: true; the input reads as it did. -/
def digestMixesUptoRow : OpenClaim := { program := "ythimgiphlenjdaadoor", sum := "8be9fd453fc84d0400a8211ee305c56b2286ed7038680c278479b52ca19eaed8", func := "seedcorn/seedcornlaw03.DigestMixes", spec := "digestMixes", inPlace := ["internal/abi.NoEscape"], named := ["seedcorn/digest.turns"], apart := false, laid := [("seedcorn/digest.turns", laid_seedcorn_digest_turns)], narrowed := true }
def DigestMixesUptoSaid : Prop := digestMixesUptoRow.holds Tryd.pinned (OpenSpec.upto digestMixesSpec)

/-- 'seedcornlaw03.DigestBack', WHERE WHAT IT READS IS OF BULK AT MOST 1048576: true; the input reads as it did. -/
def digestBackUptoRow : OpenClaim := { program := "ythimgiphlenjdaadoor", sum := "8be9fd453fc84d0400a8211ee305c56b2286ed7038680c278479b52ca19eaed8", func := "seedcorn/seedcornlaw03.DigestBack", spec := "digestBack", inPlace := ["internal/abi.NoEscape"], named := ["seedcorn/digest.turns"], apart := false, laid := [("seedcorn/digest.turns", laid_seedcorn_digest_turns)], narrowed := true }
def DigestBackUptoSaid : Prop := digestBackUptoRow.holds Tryd.pinned (OpenSpec.upto digestBackSpec)

/-- 'seedcornlaw03.DigestTexts', WHERE WHAT IT READS IS OF BULK AT MOST 1048576: true; the input reads as it did. -/
def digestTextsUptoRow : OpenClaim := { program := "ythimgiphlenjdaadoor", sum := "8be9fd453fc84d0400a8211ee305c56b2286ed7038680c278479b52ca19eaed8", func := "seedcorn/seedcornlaw03.DigestTexts", spec := "digestTexts", inPlace := ["internal/abi.NoEscape"], named := ["seedcorn/digest.turns"], apart := false, laid := [("seedcorn/digest.turns", laid_seedcorn_digest_turns)], narrowed := true }
def DigestTextsUptoSaid : Prop := digestTextsUptoRow.holds Tryd.pinned (OpenSpec.upto digestTextsSpec)

/-- 'seedcornlaw03.DigestReads', WHERE WHAT IT READS IS OF BULK AT MOST 1048576: true; the input reads as it did. -/
def digestReadsUptoRow : OpenClaim := { program := "ythimgiphlenjdaadoor", sum := "8be9fd453fc84d0400a8211ee305c56b2286ed7038680c278479b52ca19eaed8", func := "seedcorn/seedcornlaw03.DigestReads", spec := "digestReads", inPlace := ["internal/abi.NoEscape"], named := ["seedcorn/digest.turns"], apart := false, laid := [("seedcorn/digest.turns", laid_seedcorn_digest_turns)], narrowed := true }
def DigestReadsUptoSaid : Prop := digestReadsUptoRow.holds Tryd.pinned (OpenSpec.upto digestReadsSpec)

/-- 'seedcornlaw03.DigestPairs', WHERE WHAT IT READS IS OF BULK AT MOST 1048576: true; the input reads as it did. -/
def digestPairsUptoRow : OpenClaim := { program := "ythimgiphlenjdaadoor", sum := "8be9fd453fc84d0400a8211ee305c56b2286ed7038680c278479b52ca19eaed8", func := "seedcorn/seedcornlaw03.DigestPairs", spec := "digestPairs", inPlace := ["internal/abi.NoEscape"], named := ["seedcorn/digest.turns"], apart := false, laid := [("seedcorn/digest.turns", laid_seedcorn_digest_turns)], narrowed := true }
def DigestPairsUptoSaid : Prop := digestPairsUptoRow.holds Tryd.pinned (OpenSpec.upto digestPairsSpec)

/-- 'seedcornlaw03.DigestChain', WHERE WHAT IT READS IS OF BULK AT MOST 1048576: true; the input reads as it did. -/
def digestChainUptoRow : OpenClaim := { program := "ythimgiphlenjdaadoor", sum := "8be9fd453fc84d0400a8211ee305c56b2286ed7038680c278479b52ca19eaed8", func := "seedcorn/seedcornlaw03.DigestChain", spec := "digestChain", inPlace := ["internal/abi.NoEscape"], named := ["seedcorn/digest.turns"], apart := false, laid := [("seedcorn/digest.turns", laid_seedcorn_digest_turns)], narrowed := true }
def DigestChainUptoSaid : Prop := digestChainUptoRow.holds Tryd.pinned (OpenSpec.upto digestChainSpec)

/-- 'seedcornlaw03.DigestOf', WHERE WHAT IT READS IS OF BULK AT MOST 1048576: true; the input reads as it did. -/
def digestOfUptoRow : OpenClaim := { program := "ythimgiphlenjdaadoor", sum := "8be9fd453fc84d0400a8211ee305c56b2286ed7038680c278479b52ca19eaed8", func := "seedcorn/seedcornlaw03.DigestOf", spec := "digestOf", inPlace := ["internal/abi.NoEscape", "internal/bytealg.MakeNoZero"], named := ["seedcorn/digest.turns"], apart := false, laid := [("seedcorn/digest.turns", laid_seedcorn_digest_turns)], narrowed := true }
def DigestOfUptoSaid : Prop := digestOfUptoRow.holds Tryd.pinned (OpenSpec.upto digestOfSpec)

/-- 'seedcornlaw03.DigestSponge', WHERE WHAT IT READS IS OF BULK AT MOST 1048576: true; the input reads as it did. -/
def digestSpongeUptoRow : OpenClaim := { program := "ythimgiphlenjdaadoor", sum := "8be9fd453fc84d0400a8211ee305c56b2286ed7038680c278479b52ca19eaed8", func := "seedcorn/seedcornlaw03.DigestSponge", spec := "digestSponge", inPlace := ["internal/abi.NoEscape", "internal/bytealg.MakeNoZero"], named := ["seedcorn/digest.turns"], apart := false, laid := [("seedcorn/digest.turns", laid_seedcorn_digest_turns)], narrowed := true }
def DigestSpongeUptoSaid : Prop := digestSpongeUptoRow.holds Tryd.pinned (OpenSpec.upto digestSpongeSpec)

/-- 'seedcornlaw37.RecipePuts', WHERE WHAT IT READS IS OF BULK AT MOST 1048576: true; the input reads as it did. -/
def recipePutsUptoRow : OpenClaim := { program := "ythimgiphlenjdaadoor", sum := "8be9fd453fc84d0400a8211ee305c56b2286ed7038680c278479b52ca19eaed8", func := "seedcorn/seedcornlaw37.RecipePuts", spec := "recipePuts", inPlace := ["internal/abi.NoEscape", "internal/bytealg.MakeNoZero"], unfollowed := true, recurses := true, named := ["seedcorn/digest.turns"], apart := false, laid := [("seedcorn/digest.turns", laid_seedcorn_digest_turns)], narrowed := true }
def RecipePutsUptoSaid : Prop := recipePutsUptoRow.holds Tryd.pinned (OpenSpec.upto recipePutsSpec)

/-- 'seedcornlaw37.RecipeReads', WHERE WHAT IT READS IS OF BULK AT MOST 1048576: true; the input reads as it did. -/
def recipeReadsUptoRow : OpenClaim := { program := "ythimgiphlenjdaadoor", sum := "8be9fd453fc84d0400a8211ee305c56b2286ed7038680c278479b52ca19eaed8", func := "seedcorn/seedcornlaw37.RecipeReads", spec := "recipeReads", inPlace := ["internal/abi.NoEscape", "internal/bytealg.MakeNoZero"], unfollowed := true, recurses := true, named := ["seedcorn/digest.turns"], apart := false, laid := [("seedcorn/digest.turns", laid_seedcorn_digest_turns)], narrowed := true }
def RecipeReadsUptoSaid : Prop := recipeReadsUptoRow.holds Tryd.pinned (OpenSpec.upto recipeReadsSpec)

/-- 'seedcornlaw37.RecipeApart', WHERE WHAT IT READS IS OF BULK AT MOST 1048576: true; the input reads as it did. -/
def recipeApartUptoRow : OpenClaim := { program := "ythimgiphlenjdaadoor", sum := "8be9fd453fc84d0400a8211ee305c56b2286ed7038680c278479b52ca19eaed8", func := "seedcorn/seedcornlaw37.RecipeApart", spec := "recipeApart", inPlace := ["internal/abi.NoEscape", "internal/bytealg.MakeNoZero"], unfollowed := true, recurses := true, named := ["seedcorn/digest.turns"], apart := false, laid := [("seedcorn/digest.turns", laid_seedcorn_digest_turns)], narrowed := true }
def RecipeApartUptoSaid : Prop := recipeApartUptoRow.holds Tryd.pinned (OpenSpec.upto recipeApartSpec)

/-- 'seedcornlaw37.RecipePrefix', WHERE WHAT IT READS IS OF BULK AT MOST 1048576: true; the input reads as it did. -/
def recipePrefixUptoRow : OpenClaim := { program := "ythimgiphlenjdaadoor", sum := "8be9fd453fc84d0400a8211ee305c56b2286ed7038680c278479b52ca19eaed8", func := "seedcorn/seedcornlaw37.RecipePrefix", spec := "recipePrefix", inPlace := ["internal/abi.NoEscape", "internal/bytealg.MakeNoZero"], unfollowed := true, recurses := true, named := ["seedcorn/digest.turns"], apart := false, laid := [("seedcorn/digest.turns", laid_seedcorn_digest_turns)], narrowed := true }
def RecipePrefixUptoSaid : Prop := recipePrefixUptoRow.holds Tryd.pinned (OpenSpec.upto recipePrefixSpec)

/-- 'seedcornlaw37.RecipeRight', WHERE WHAT IT READS IS OF BULK AT MOST 1048576: true; the input reads as it did. -/
def recipeRightUptoRow : OpenClaim := { program := "ythimgiphlenjdaadoor", sum := "8be9fd453fc84d0400a8211ee305c56b2286ed7038680c278479b52ca19eaed8", func := "seedcorn/seedcornlaw37.RecipeRight", spec := "recipeRight", inPlace := ["internal/abi.NoEscape", "internal/bytealg.MakeNoZero"], unfollowed := true, recurses := true, named := ["seedcorn/digest.turns"], apart := false, laid := [("seedcorn/digest.turns", laid_seedcorn_digest_turns)], narrowed := true }
def RecipeRightUptoSaid : Prop := recipeRightUptoRow.holds Tryd.pinned (OpenSpec.upto recipeRightSpec)

/-- 'seedcornlaw37.RecipeSwaps', WHERE WHAT IT READS IS OF BULK AT MOST 1048576: true; the input reads as it did. -/
def recipeSwapsUptoRow : OpenClaim := { program := "ythimgiphlenjdaadoor", sum := "8be9fd453fc84d0400a8211ee305c56b2286ed7038680c278479b52ca19eaed8", func := "seedcorn/seedcornlaw37.RecipeSwaps", spec := "recipeSwaps", inPlace := ["internal/abi.NoEscape", "internal/bytealg.MakeNoZero"], unfollowed := true, recurses := true, named := ["seedcorn/digest.turns"], apart := false, laid := [("seedcorn/digest.turns", laid_seedcorn_digest_turns)], narrowed := true }
def RecipeSwapsUptoSaid : Prop := recipeSwapsUptoRow.holds Tryd.pinned (OpenSpec.upto recipeSwapsSpec)

end Rows
end Go.Proofs.YthimgiphlenjdaaDoor
