/-
  DERIVED. GIVEN WITH THE SEED: THE CARDS: each row of YthimgiphlenjdaaDoorRows.lean that lists a variable, with what it lists TIED to the program's text (the seventh form; the later family's looks); each row that meets fmt, with fmt's text TOLD by the authors' own Lean function (tested against real Go, not proved from fmt's source: count such statements apart). THE CARD IS WHAT COUNTS. Prove the row's statement (the work); the ties are given (YthimgiphlenjdaaDoorTie.lean); close each card by the builder's one call (the guide's Derived/Test/ToyasCard.lean, 'card_holds'). Laid BY PROGRAM, IN A SANDBOX (cutbox-door.mjs). By AI agents, Wed Nov 11 2026. No macro, syntax, notation, axiom, sorry.
-/
import Derived.Test.YthimgiphlenjdaaDoorRows
import GoSem.ClaimSeven
namespace Go.Proofs.YthimgiphlenjdaaDoor
namespace Rows

/-- THE TIED CARD OF 'seedcorntop.SystemDigests'. -/
def systemDigestsCard : Claim7 := { stood := { row := systemDigestsRow, standIns := [], harness := (true, "789c2f21c0f2bd10c566355158956c78aef9dee7ebab747dab842b2f7e30d23b"), looks := false }, kinds := [], alts := [], laidByText := true, laidKinds := [.data], laidTests := true, laidLooks := .later }
def SystemDigestsCardSaid : Prop := Claim7.holds Tryd.pinned (.plain (OpenSpec.ofChange systemDigestsSpec)) systemDigestsCard

/-- THE TIED CARD OF 'seedcornlaw03.DigestMixes'. -/
def digestMixesCard : Claim7 := { stood := { row := digestMixesRow, standIns := [], harness := (true, "789c2f21c0f2bd10c566355158956c78aef9dee7ebab747dab842b2f7e30d23b"), looks := false }, kinds := [], alts := [], laidByText := true, laidKinds := [.data], laidTests := true, laidLooks := .later }
def DigestMixesCardSaid : Prop := Claim7.holds Tryd.pinned (.plain (OpenSpec.ofChange digestMixesSpec)) digestMixesCard

/-- THE TIED CARD OF 'seedcornlaw03.DigestBack'. -/
def digestBackCard : Claim7 := { stood := { row := digestBackRow, standIns := [], harness := (true, "789c2f21c0f2bd10c566355158956c78aef9dee7ebab747dab842b2f7e30d23b"), looks := false }, kinds := [], alts := [], laidByText := true, laidKinds := [.data], laidTests := true, laidLooks := .later }
def DigestBackCardSaid : Prop := Claim7.holds Tryd.pinned (.plain (OpenSpec.ofChange digestBackSpec)) digestBackCard

/-- THE TIED CARD OF 'seedcornlaw03.DigestTexts'. -/
def digestTextsCard : Claim7 := { stood := { row := digestTextsRow, standIns := [], harness := (true, "789c2f21c0f2bd10c566355158956c78aef9dee7ebab747dab842b2f7e30d23b"), looks := false }, kinds := [], alts := [], laidByText := true, laidKinds := [.data], laidTests := true, laidLooks := .later }
def DigestTextsCardSaid : Prop := Claim7.holds Tryd.pinned (.plain (OpenSpec.ofChange digestTextsSpec)) digestTextsCard

/-- THE TIED CARD OF 'seedcornlaw03.DigestReads'. -/
def digestReadsCard : Claim7 := { stood := { row := digestReadsRow, standIns := [], harness := (true, "789c2f21c0f2bd10c566355158956c78aef9dee7ebab747dab842b2f7e30d23b"), looks := false }, kinds := [], alts := [], laidByText := true, laidKinds := [.data], laidTests := true, laidLooks := .later }
def DigestReadsCardSaid : Prop := Claim7.holds Tryd.pinned (.plain (OpenSpec.ofChange digestReadsSpec)) digestReadsCard

/-- THE TIED CARD OF 'seedcornlaw03.DigestPairs'. -/
def digestPairsCard : Claim7 := { stood := { row := digestPairsRow, standIns := [], harness := (true, "789c2f21c0f2bd10c566355158956c78aef9dee7ebab747dab842b2f7e30d23b"), looks := false }, kinds := [], alts := [], laidByText := true, laidKinds := [.data], laidTests := true, laidLooks := .later }
def DigestPairsCardSaid : Prop := Claim7.holds Tryd.pinned (.plain (OpenSpec.ofChange digestPairsSpec)) digestPairsCard

/-- THE TIED CARD OF 'seedcornlaw03.DigestChain'. -/
def digestChainCard : Claim7 := { stood := { row := digestChainRow, standIns := [], harness := (true, "789c2f21c0f2bd10c566355158956c78aef9dee7ebab747dab842b2f7e30d23b"), looks := false }, kinds := [], alts := [], laidByText := true, laidKinds := [.data], laidTests := true, laidLooks := .later }
def DigestChainCardSaid : Prop := Claim7.holds Tryd.pinned (.plain (OpenSpec.ofChange digestChainSpec)) digestChainCard

/-- THE TIED CARD OF 'seedcornlaw03.DigestOf'. -/
def digestOfCard : Claim7 := { stood := { row := digestOfRow, standIns := [], harness := (true, "789c2f21c0f2bd10c566355158956c78aef9dee7ebab747dab842b2f7e30d23b"), looks := false }, kinds := [], alts := [], laidByText := true, laidKinds := [.data], laidTests := true, laidLooks := .later }
def DigestOfCardSaid : Prop := Claim7.holds Tryd.pinned (.plain (OpenSpec.ofChange digestOfSpec)) digestOfCard

/-- THE TIED CARD OF 'seedcornlaw03.DigestSponge'. -/
def digestSpongeCard : Claim7 := { stood := { row := digestSpongeRow, standIns := [], harness := (true, "789c2f21c0f2bd10c566355158956c78aef9dee7ebab747dab842b2f7e30d23b"), looks := false }, kinds := [], alts := [], laidByText := true, laidKinds := [.data], laidTests := true, laidLooks := .later }
def DigestSpongeCardSaid : Prop := Claim7.holds Tryd.pinned (.plain (OpenSpec.ofChange digestSpongeSpec)) digestSpongeCard

/-- THE TIED CARD OF 'seedcornlaw37.RecipePuts'. -/
def recipePutsCard : Claim7 := { stood := { row := recipePutsRow, standIns := [], harness := (true, "789c2f21c0f2bd10c566355158956c78aef9dee7ebab747dab842b2f7e30d23b"), looks := false }, kinds := [], alts := [], laidByText := true, laidKinds := [.data], laidTests := true, laidLooks := .later }
def RecipePutsCardSaid : Prop := Claim7.holds Tryd.pinned (.plain (OpenSpec.ofChange recipePutsSpec)) recipePutsCard

/-- THE TIED CARD OF 'seedcornlaw37.RecipeReads'. -/
def recipeReadsCard : Claim7 := { stood := { row := recipeReadsRow, standIns := [], harness := (true, "789c2f21c0f2bd10c566355158956c78aef9dee7ebab747dab842b2f7e30d23b"), looks := false }, kinds := [], alts := [], laidByText := true, laidKinds := [.data], laidTests := true, laidLooks := .later }
def RecipeReadsCardSaid : Prop := Claim7.holds Tryd.pinned (.plain (OpenSpec.ofChange recipeReadsSpec)) recipeReadsCard

/-- THE TIED CARD OF 'seedcornlaw37.RecipeApart'. -/
def recipeApartCard : Claim7 := { stood := { row := recipeApartRow, standIns := [], harness := (true, "789c2f21c0f2bd10c566355158956c78aef9dee7ebab747dab842b2f7e30d23b"), looks := false }, kinds := [], alts := [], laidByText := true, laidKinds := [.data], laidTests := true, laidLooks := .later }
def RecipeApartCardSaid : Prop := Claim7.holds Tryd.pinned (.plain (OpenSpec.ofChange recipeApartSpec)) recipeApartCard

/-- THE TIED CARD OF 'seedcornlaw37.RecipePrefix'. -/
def recipePrefixCard : Claim7 := { stood := { row := recipePrefixRow, standIns := [], harness := (true, "789c2f21c0f2bd10c566355158956c78aef9dee7ebab747dab842b2f7e30d23b"), looks := false }, kinds := [], alts := [], laidByText := true, laidKinds := [.data], laidTests := true, laidLooks := .later }
def RecipePrefixCardSaid : Prop := Claim7.holds Tryd.pinned (.plain (OpenSpec.ofChange recipePrefixSpec)) recipePrefixCard

/-- THE TIED CARD OF 'seedcornlaw37.RecipeRight'. -/
def recipeRightCard : Claim7 := { stood := { row := recipeRightRow, standIns := [], harness := (true, "789c2f21c0f2bd10c566355158956c78aef9dee7ebab747dab842b2f7e30d23b"), looks := false }, kinds := [], alts := [], laidByText := true, laidKinds := [.data], laidTests := true, laidLooks := .later }
def RecipeRightCardSaid : Prop := Claim7.holds Tryd.pinned (.plain (OpenSpec.ofChange recipeRightSpec)) recipeRightCard

/-- THE TIED CARD OF 'seedcornlaw37.RecipeSwaps'. -/
def recipeSwapsCard : Claim7 := { stood := { row := recipeSwapsRow, standIns := [], harness := (true, "789c2f21c0f2bd10c566355158956c78aef9dee7ebab747dab842b2f7e30d23b"), looks := false }, kinds := [], alts := [], laidByText := true, laidKinds := [.data], laidTests := true, laidLooks := .later }
def RecipeSwapsCardSaid : Prop := Claim7.holds Tryd.pinned (.plain (OpenSpec.ofChange recipeSwapsSpec)) recipeSwapsCard

/-- THE SECOND FORM's CARD OF 'seedcorntop.SystemDigests'. -/
def systemDigestsUptoCard : Claim7 := { stood := { row := systemDigestsUptoRow, standIns := [], harness := (true, "789c2f21c0f2bd10c566355158956c78aef9dee7ebab747dab842b2f7e30d23b"), looks := false }, kinds := [], alts := [], laidByText := true, laidKinds := [.data], laidTests := true, laidLooks := .later }
def SystemDigestsUptoCardSaid : Prop := Claim7.holds Tryd.pinned (.plain (OpenSpec.upto systemDigestsSpec)) systemDigestsUptoCard

/-- THE SECOND FORM's CARD OF 'seedcornlaw03.DigestMixes'. -/
def digestMixesUptoCard : Claim7 := { stood := { row := digestMixesUptoRow, standIns := [], harness := (true, "789c2f21c0f2bd10c566355158956c78aef9dee7ebab747dab842b2f7e30d23b"), looks := false }, kinds := [], alts := [], laidByText := true, laidKinds := [.data], laidTests := true, laidLooks := .later }
def DigestMixesUptoCardSaid : Prop := Claim7.holds Tryd.pinned (.plain (OpenSpec.upto digestMixesSpec)) digestMixesUptoCard

/-- THE SECOND FORM's CARD OF 'seedcornlaw03.DigestBack'. -/
def digestBackUptoCard : Claim7 := { stood := { row := digestBackUptoRow, standIns := [], harness := (true, "789c2f21c0f2bd10c566355158956c78aef9dee7ebab747dab842b2f7e30d23b"), looks := false }, kinds := [], alts := [], laidByText := true, laidKinds := [.data], laidTests := true, laidLooks := .later }
def DigestBackUptoCardSaid : Prop := Claim7.holds Tryd.pinned (.plain (OpenSpec.upto digestBackSpec)) digestBackUptoCard

/-- THE SECOND FORM's CARD OF 'seedcornlaw03.DigestTexts'. -/
def digestTextsUptoCard : Claim7 := { stood := { row := digestTextsUptoRow, standIns := [], harness := (true, "789c2f21c0f2bd10c566355158956c78aef9dee7ebab747dab842b2f7e30d23b"), looks := false }, kinds := [], alts := [], laidByText := true, laidKinds := [.data], laidTests := true, laidLooks := .later }
def DigestTextsUptoCardSaid : Prop := Claim7.holds Tryd.pinned (.plain (OpenSpec.upto digestTextsSpec)) digestTextsUptoCard

/-- THE SECOND FORM's CARD OF 'seedcornlaw03.DigestReads'. -/
def digestReadsUptoCard : Claim7 := { stood := { row := digestReadsUptoRow, standIns := [], harness := (true, "789c2f21c0f2bd10c566355158956c78aef9dee7ebab747dab842b2f7e30d23b"), looks := false }, kinds := [], alts := [], laidByText := true, laidKinds := [.data], laidTests := true, laidLooks := .later }
def DigestReadsUptoCardSaid : Prop := Claim7.holds Tryd.pinned (.plain (OpenSpec.upto digestReadsSpec)) digestReadsUptoCard

/-- THE SECOND FORM's CARD OF 'seedcornlaw03.DigestPairs'. -/
def digestPairsUptoCard : Claim7 := { stood := { row := digestPairsUptoRow, standIns := [], harness := (true, "789c2f21c0f2bd10c566355158956c78aef9dee7ebab747dab842b2f7e30d23b"), looks := false }, kinds := [], alts := [], laidByText := true, laidKinds := [.data], laidTests := true, laidLooks := .later }
def DigestPairsUptoCardSaid : Prop := Claim7.holds Tryd.pinned (.plain (OpenSpec.upto digestPairsSpec)) digestPairsUptoCard

/-- THE SECOND FORM's CARD OF 'seedcornlaw03.DigestChain'. -/
def digestChainUptoCard : Claim7 := { stood := { row := digestChainUptoRow, standIns := [], harness := (true, "789c2f21c0f2bd10c566355158956c78aef9dee7ebab747dab842b2f7e30d23b"), looks := false }, kinds := [], alts := [], laidByText := true, laidKinds := [.data], laidTests := true, laidLooks := .later }
def DigestChainUptoCardSaid : Prop := Claim7.holds Tryd.pinned (.plain (OpenSpec.upto digestChainSpec)) digestChainUptoCard

/-- THE SECOND FORM's CARD OF 'seedcornlaw03.DigestOf'. -/
def digestOfUptoCard : Claim7 := { stood := { row := digestOfUptoRow, standIns := [], harness := (true, "789c2f21c0f2bd10c566355158956c78aef9dee7ebab747dab842b2f7e30d23b"), looks := false }, kinds := [], alts := [], laidByText := true, laidKinds := [.data], laidTests := true, laidLooks := .later }
def DigestOfUptoCardSaid : Prop := Claim7.holds Tryd.pinned (.plain (OpenSpec.upto digestOfSpec)) digestOfUptoCard

/-- THE SECOND FORM's CARD OF 'seedcornlaw03.DigestSponge'. -/
def digestSpongeUptoCard : Claim7 := { stood := { row := digestSpongeUptoRow, standIns := [], harness := (true, "789c2f21c0f2bd10c566355158956c78aef9dee7ebab747dab842b2f7e30d23b"), looks := false }, kinds := [], alts := [], laidByText := true, laidKinds := [.data], laidTests := true, laidLooks := .later }
def DigestSpongeUptoCardSaid : Prop := Claim7.holds Tryd.pinned (.plain (OpenSpec.upto digestSpongeSpec)) digestSpongeUptoCard

/-- THE SECOND FORM's CARD OF 'seedcornlaw37.RecipePuts'. -/
def recipePutsUptoCard : Claim7 := { stood := { row := recipePutsUptoRow, standIns := [], harness := (true, "789c2f21c0f2bd10c566355158956c78aef9dee7ebab747dab842b2f7e30d23b"), looks := false }, kinds := [], alts := [], laidByText := true, laidKinds := [.data], laidTests := true, laidLooks := .later }
def RecipePutsUptoCardSaid : Prop := Claim7.holds Tryd.pinned (.plain (OpenSpec.upto recipePutsSpec)) recipePutsUptoCard

/-- THE SECOND FORM's CARD OF 'seedcornlaw37.RecipeReads'. -/
def recipeReadsUptoCard : Claim7 := { stood := { row := recipeReadsUptoRow, standIns := [], harness := (true, "789c2f21c0f2bd10c566355158956c78aef9dee7ebab747dab842b2f7e30d23b"), looks := false }, kinds := [], alts := [], laidByText := true, laidKinds := [.data], laidTests := true, laidLooks := .later }
def RecipeReadsUptoCardSaid : Prop := Claim7.holds Tryd.pinned (.plain (OpenSpec.upto recipeReadsSpec)) recipeReadsUptoCard

/-- THE SECOND FORM's CARD OF 'seedcornlaw37.RecipeApart'. -/
def recipeApartUptoCard : Claim7 := { stood := { row := recipeApartUptoRow, standIns := [], harness := (true, "789c2f21c0f2bd10c566355158956c78aef9dee7ebab747dab842b2f7e30d23b"), looks := false }, kinds := [], alts := [], laidByText := true, laidKinds := [.data], laidTests := true, laidLooks := .later }
def RecipeApartUptoCardSaid : Prop := Claim7.holds Tryd.pinned (.plain (OpenSpec.upto recipeApartSpec)) recipeApartUptoCard

/-- THE SECOND FORM's CARD OF 'seedcornlaw37.RecipePrefix'. -/
def recipePrefixUptoCard : Claim7 := { stood := { row := recipePrefixUptoRow, standIns := [], harness := (true, "789c2f21c0f2bd10c566355158956c78aef9dee7ebab747dab842b2f7e30d23b"), looks := false }, kinds := [], alts := [], laidByText := true, laidKinds := [.data], laidTests := true, laidLooks := .later }
def RecipePrefixUptoCardSaid : Prop := Claim7.holds Tryd.pinned (.plain (OpenSpec.upto recipePrefixSpec)) recipePrefixUptoCard

/-- THE SECOND FORM's CARD OF 'seedcornlaw37.RecipeRight'. -/
def recipeRightUptoCard : Claim7 := { stood := { row := recipeRightUptoRow, standIns := [], harness := (true, "789c2f21c0f2bd10c566355158956c78aef9dee7ebab747dab842b2f7e30d23b"), looks := false }, kinds := [], alts := [], laidByText := true, laidKinds := [.data], laidTests := true, laidLooks := .later }
def RecipeRightUptoCardSaid : Prop := Claim7.holds Tryd.pinned (.plain (OpenSpec.upto recipeRightSpec)) recipeRightUptoCard

/-- THE SECOND FORM's CARD OF 'seedcornlaw37.RecipeSwaps'. -/
def recipeSwapsUptoCard : Claim7 := { stood := { row := recipeSwapsUptoRow, standIns := [], harness := (true, "789c2f21c0f2bd10c566355158956c78aef9dee7ebab747dab842b2f7e30d23b"), looks := false }, kinds := [], alts := [], laidByText := true, laidKinds := [.data], laidTests := true, laidLooks := .later }
def RecipeSwapsUptoCardSaid : Prop := Claim7.holds Tryd.pinned (.plain (OpenSpec.upto recipeSwapsSpec)) recipeSwapsUptoCard
end Rows
end Go.Proofs.YthimgiphlenjdaaDoor
