/-
  DERIVED. GIVEN WITH THE SEED: THE CARDS: each row of YtiojohpghhccpaaDoorRows.lean that lists a variable, with what it lists TIED to the program's text (the seventh form; the later family's looks); each row that meets fmt, with fmt's text TOLD by the authors' own Lean function (tested against real Go, not proved from fmt's source: count such statements apart). THE CARD IS WHAT COUNTS. Prove the row's statement (the work); the ties are given (YtiojohpghhccpaaDoorTie.lean); close each card by the builder's one call (the guide's Derived/Test/ToyasCard.lean, 'card_holds'). Laid BY PROGRAM, IN A SANDBOX (cutbox-door.mjs). By AI agents, Wed Nov 11 2026. No macro, syntax, notation, axiom, sorry.
-/
import Derived.Test.YtiojohpghhccpaaDoorRows
import GoSem.ClaimSeven
namespace Go.Proofs.YtiojohpghhccpaaDoor
namespace Rows

/-- THE TIED CARD OF 'joinerylaw16.MatchFirst'. -/
def matchFirstCard : Claim7 := { stood := { row := matchFirstRow, standIns := [], harness := (true, "7d2df7018238aaea6faf644acbdcb6bb671b7db8a8bf3521dcc9ef09298420a7"), looks := true }, kinds := [], alts := [], laidByText := true, laidKinds := [.data, .data, .data], laidTests := true, laidLooks := .later }
def MatchFirstCardSaid : Prop := Claim7.holds Tryd.pinned (.plain (OpenSpec.ofChange matchFirstSpec)) matchFirstCard

/-- THE TIED CARD OF 'joinerylaw16.MatchNone'. -/
def matchNoneCard : Claim7 := { stood := { row := matchNoneRow, standIns := [], harness := (true, "7d2df7018238aaea6faf644acbdcb6bb671b7db8a8bf3521dcc9ef09298420a7"), looks := true }, kinds := [], alts := [], laidByText := true, laidKinds := [.data, .data, .data], laidTests := true, laidLooks := .later }
def MatchNoneCardSaid : Prop := Claim7.holds Tryd.pinned (.plain (OpenSpec.ofChange matchNoneSpec)) matchNoneCard

/-- THE TIED CARD OF 'joinerylaw16.MatchAlike'. -/
def matchAlikeCard : Claim7 := { stood := { row := matchAlikeRow, standIns := [], harness := (true, "7d2df7018238aaea6faf644acbdcb6bb671b7db8a8bf3521dcc9ef09298420a7"), looks := true }, kinds := [], alts := [], laidByText := true, laidKinds := [.data, .data, .data], laidTests := true, laidLooks := .later }
def MatchAlikeCardSaid : Prop := Claim7.holds Tryd.pinned (.plain (OpenSpec.ofChange matchAlikeSpec)) matchAlikeCard

/-- THE TIED CARD OF 'joinerylaw16.MatchSelf'. -/
def matchSelfCard : Claim7 := { stood := { row := matchSelfRow, standIns := [], harness := (true, "7d2df7018238aaea6faf644acbdcb6bb671b7db8a8bf3521dcc9ef09298420a7"), looks := true }, kinds := [], alts := [], laidByText := true, laidKinds := [.data, .data, .data], laidTests := true, laidLooks := .later }
def MatchSelfCardSaid : Prop := Claim7.holds Tryd.pinned (.plain (OpenSpec.ofChange matchSelfSpec)) matchSelfCard

/-- THE TIED CARD OF 'joinerylaw16.MatchAhead'. -/
def matchAheadCard : Claim7 := { stood := { row := matchAheadRow, standIns := [], harness := (true, "7d2df7018238aaea6faf644acbdcb6bb671b7db8a8bf3521dcc9ef09298420a7"), looks := true }, kinds := [], alts := [], laidByText := true, laidKinds := [.data, .data, .data], laidTests := true, laidLooks := .later }
def MatchAheadCardSaid : Prop := Claim7.holds Tryd.pinned (.plain (OpenSpec.ofChange matchAheadSpec)) matchAheadCard

/-- THE TIED CARD OF 'joinerylaw18.DifferNever'. -/
def differNeverCard : Claim7 := { stood := { row := differNeverRow, standIns := [], harness := (true, "7d2df7018238aaea6faf644acbdcb6bb671b7db8a8bf3521dcc9ef09298420a7"), looks := true }, kinds := [], alts := [], laidByText := true, laidKinds := [.data, .data], laidTests := true, laidLooks := .later }
def DifferNeverCardSaid : Prop := Claim7.holds Tryd.pinned (.plain (OpenSpec.ofChange differNeverSpec)) differNeverCard

/-- THE TIED CARD OF 'joinerylaw15.EngineGrows'. -/
def engineGrowsCard : Claim7 := { stood := { row := engineGrowsRow, standIns := [], harness := (true, "7d2df7018238aaea6faf644acbdcb6bb671b7db8a8bf3521dcc9ef09298420a7"), looks := true }, kinds := [], alts := [], laidByText := true, laidKinds := [.data, .data, .data], laidTests := true, laidLooks := .later }
def EngineGrowsCardSaid : Prop := Claim7.holds Tryd.pinned (.plain (OpenSpec.ofChange engineGrowsSpec)) engineGrowsCard

/-- THE TIED CARD OF 'joinerylaw15.EngineNone'. -/
def engineNoneCard : Claim7 := { stood := { row := engineNoneRow, standIns := [], harness := (true, "7d2df7018238aaea6faf644acbdcb6bb671b7db8a8bf3521dcc9ef09298420a7"), looks := true }, kinds := [], alts := [], laidByText := true, laidKinds := [.data, .data, .data], laidTests := true, laidLooks := .later }
def EngineNoneCardSaid : Prop := Claim7.holds Tryd.pinned (.plain (OpenSpec.ofChange engineNoneSpec)) engineNoneCard

/-- THE TIED CARD OF 'joinerylaw15.EngineAnswers'. -/
def engineAnswersCard : Claim7 := { stood := { row := engineAnswersRow, standIns := [], harness := (true, "7d2df7018238aaea6faf644acbdcb6bb671b7db8a8bf3521dcc9ef09298420a7"), looks := true }, kinds := [], alts := [], laidByText := true, laidKinds := [.data, .data, .data], laidTests := true, laidLooks := .later }
def EngineAnswersCardSaid : Prop := Claim7.holds Tryd.pinned (.plain (OpenSpec.ofChange engineAnswersSpec)) engineAnswersCard

/-- THE TIED CARD OF 'joinerylaw14.ShapePrints'. -/
def shapePrintsCard : Claim7 := { stood := { row := shapePrintsRow, standIns := [], harness := (true, "7d2df7018238aaea6faf644acbdcb6bb671b7db8a8bf3521dcc9ef09298420a7"), looks := true }, kinds := [], alts := [], laidByText := true, laidKinds := [.data, .data, .data], laidTests := true, laidLooks := .later }
def ShapePrintsCardSaid : Prop := Claim7.holds Tryd.pinned (.plain (OpenSpec.ofChange shapePrintsSpec)) shapePrintsCard

/-- THE TIED CARD OF 'joinerylaw14.ShapeParses'. -/
def shapeParsesCard : Claim7 := { stood := { row := shapeParsesRow, standIns := [], harness := (true, "7d2df7018238aaea6faf644acbdcb6bb671b7db8a8bf3521dcc9ef09298420a7"), looks := true }, kinds := [], alts := [], laidByText := true, laidKinds := [.data, .data, .data], laidTests := true, laidLooks := .later }
def ShapeParsesCardSaid : Prop := Claim7.holds Tryd.pinned (.plain (OpenSpec.ofChange shapeParsesSpec)) shapeParsesCard

/-- THE TIED CARD OF 'joinerylaw14.ShapeBack'. -/
def shapeBackCard : Claim7 := { stood := { row := shapeBackRow, standIns := [], harness := (true, "7d2df7018238aaea6faf644acbdcb6bb671b7db8a8bf3521dcc9ef09298420a7"), looks := true }, kinds := [], alts := [], laidByText := true, laidKinds := [.data, .data, .data], laidTests := true, laidLooks := .later }
def ShapeBackCardSaid : Prop := Claim7.holds Tryd.pinned (.plain (OpenSpec.ofChange shapeBackSpec)) shapeBackCard

/-- THE TIED CARD OF 'joinerylaw14.ShapeNormal'. -/
def shapeNormalCard : Claim7 := { stood := { row := shapeNormalRow, standIns := [], harness := (true, "7d2df7018238aaea6faf644acbdcb6bb671b7db8a8bf3521dcc9ef09298420a7"), looks := true }, kinds := [], alts := [], laidByText := true, laidKinds := [.data, .data, .data], laidTests := true, laidLooks := .later }
def ShapeNormalCardSaid : Prop := Claim7.holds Tryd.pinned (.plain (OpenSpec.ofChange shapeNormalSpec)) shapeNormalCard

/-- THE TIED CARD OF 'joinerylaw14.ShapeApart'. -/
def shapeApartCard : Claim7 := { stood := { row := shapeApartRow, standIns := [], harness := (true, "7d2df7018238aaea6faf644acbdcb6bb671b7db8a8bf3521dcc9ef09298420a7"), looks := true }, kinds := [], alts := [], laidByText := true, laidKinds := [.data, .data, .data], laidTests := true, laidLooks := .later }
def ShapeApartCardSaid : Prop := Claim7.holds Tryd.pinned (.plain (OpenSpec.ofChange shapeApartSpec)) shapeApartCard

/-- THE TIED CARD OF 'joinerylaw14.ShapeCut'. -/
def shapeCutCard : Claim7 := { stood := { row := shapeCutRow, standIns := [], harness := (true, "7d2df7018238aaea6faf644acbdcb6bb671b7db8a8bf3521dcc9ef09298420a7"), looks := true }, kinds := [], alts := [], laidByText := true, laidKinds := [.data, .data, .data], laidTests := true, laidLooks := .later }
def ShapeCutCardSaid : Prop := Claim7.holds Tryd.pinned (.plain (OpenSpec.ofChange shapeCutSpec)) shapeCutCard

/-- THE TIED CARD OF 'joinerylaw14.ShapeWays'. -/
def shapeWaysCard : Claim7 := { stood := { row := shapeWaysRow, standIns := [], harness := (true, "7d2df7018238aaea6faf644acbdcb6bb671b7db8a8bf3521dcc9ef09298420a7"), looks := true }, kinds := [], alts := [], laidByText := true, laidKinds := [.data, .data, .data], laidTests := true, laidLooks := .later }
def ShapeWaysCardSaid : Prop := Claim7.holds Tryd.pinned (.plain (OpenSpec.ofChange shapeWaysSpec)) shapeWaysCard

/-- THE TIED CARD OF 'joinerylaw15.EngineMoves'. -/
def engineMovesCard : Claim7 := { stood := { row := engineMovesRow, standIns := [], harness := (true, "7d2df7018238aaea6faf644acbdcb6bb671b7db8a8bf3521dcc9ef09298420a7"), looks := true }, kinds := [], alts := [], laidByText := true, laidKinds := [.data, .data, .data], laidTests := true, laidLooks := .later }
def EngineMovesCardSaid : Prop := Claim7.holds Tryd.pinned (.plain (OpenSpec.ofChange engineMovesSpec)) engineMovesCard

/-- THE SECOND FORM's CARD OF 'joinerylaw16.MatchFirst'. -/
def matchFirstUptoCard : Claim7 := { stood := { row := matchFirstUptoRow, standIns := [], harness := (true, "7d2df7018238aaea6faf644acbdcb6bb671b7db8a8bf3521dcc9ef09298420a7"), looks := true }, kinds := [], alts := [], laidByText := true, laidKinds := [.data, .data, .data], laidTests := true, laidLooks := .later }
def MatchFirstUptoCardSaid : Prop := Claim7.holds Tryd.pinned (.plain (OpenSpec.upto matchFirstSpec)) matchFirstUptoCard

/-- THE SECOND FORM's CARD OF 'joinerylaw16.MatchNone'. -/
def matchNoneUptoCard : Claim7 := { stood := { row := matchNoneUptoRow, standIns := [], harness := (true, "7d2df7018238aaea6faf644acbdcb6bb671b7db8a8bf3521dcc9ef09298420a7"), looks := true }, kinds := [], alts := [], laidByText := true, laidKinds := [.data, .data, .data], laidTests := true, laidLooks := .later }
def MatchNoneUptoCardSaid : Prop := Claim7.holds Tryd.pinned (.plain (OpenSpec.upto matchNoneSpec)) matchNoneUptoCard

/-- THE SECOND FORM's CARD OF 'joinerylaw16.MatchAlike'. -/
def matchAlikeUptoCard : Claim7 := { stood := { row := matchAlikeUptoRow, standIns := [], harness := (true, "7d2df7018238aaea6faf644acbdcb6bb671b7db8a8bf3521dcc9ef09298420a7"), looks := true }, kinds := [], alts := [], laidByText := true, laidKinds := [.data, .data, .data], laidTests := true, laidLooks := .later }
def MatchAlikeUptoCardSaid : Prop := Claim7.holds Tryd.pinned (.plain (OpenSpec.upto matchAlikeSpec)) matchAlikeUptoCard

/-- THE SECOND FORM's CARD OF 'joinerylaw16.MatchSelf'. -/
def matchSelfUptoCard : Claim7 := { stood := { row := matchSelfUptoRow, standIns := [], harness := (true, "7d2df7018238aaea6faf644acbdcb6bb671b7db8a8bf3521dcc9ef09298420a7"), looks := true }, kinds := [], alts := [], laidByText := true, laidKinds := [.data, .data, .data], laidTests := true, laidLooks := .later }
def MatchSelfUptoCardSaid : Prop := Claim7.holds Tryd.pinned (.plain (OpenSpec.upto matchSelfSpec)) matchSelfUptoCard

/-- THE SECOND FORM's CARD OF 'joinerylaw16.MatchAhead'. -/
def matchAheadUptoCard : Claim7 := { stood := { row := matchAheadUptoRow, standIns := [], harness := (true, "7d2df7018238aaea6faf644acbdcb6bb671b7db8a8bf3521dcc9ef09298420a7"), looks := true }, kinds := [], alts := [], laidByText := true, laidKinds := [.data, .data, .data], laidTests := true, laidLooks := .later }
def MatchAheadUptoCardSaid : Prop := Claim7.holds Tryd.pinned (.plain (OpenSpec.upto matchAheadSpec)) matchAheadUptoCard

/-- THE SECOND FORM's CARD OF 'joinerylaw18.DifferNever'. -/
def differNeverUptoCard : Claim7 := { stood := { row := differNeverUptoRow, standIns := [], harness := (true, "7d2df7018238aaea6faf644acbdcb6bb671b7db8a8bf3521dcc9ef09298420a7"), looks := true }, kinds := [], alts := [], laidByText := true, laidKinds := [.data, .data], laidTests := true, laidLooks := .later }
def DifferNeverUptoCardSaid : Prop := Claim7.holds Tryd.pinned (.plain (OpenSpec.upto differNeverSpec)) differNeverUptoCard

/-- THE SECOND FORM's CARD OF 'joinerylaw15.EngineGrows'. -/
def engineGrowsUptoCard : Claim7 := { stood := { row := engineGrowsUptoRow, standIns := [], harness := (true, "7d2df7018238aaea6faf644acbdcb6bb671b7db8a8bf3521dcc9ef09298420a7"), looks := true }, kinds := [], alts := [], laidByText := true, laidKinds := [.data, .data, .data], laidTests := true, laidLooks := .later }
def EngineGrowsUptoCardSaid : Prop := Claim7.holds Tryd.pinned (.plain (OpenSpec.upto engineGrowsSpec)) engineGrowsUptoCard

/-- THE SECOND FORM's CARD OF 'joinerylaw15.EngineNone'. -/
def engineNoneUptoCard : Claim7 := { stood := { row := engineNoneUptoRow, standIns := [], harness := (true, "7d2df7018238aaea6faf644acbdcb6bb671b7db8a8bf3521dcc9ef09298420a7"), looks := true }, kinds := [], alts := [], laidByText := true, laidKinds := [.data, .data, .data], laidTests := true, laidLooks := .later }
def EngineNoneUptoCardSaid : Prop := Claim7.holds Tryd.pinned (.plain (OpenSpec.upto engineNoneSpec)) engineNoneUptoCard

/-- THE SECOND FORM's CARD OF 'joinerylaw15.EngineAnswers'. -/
def engineAnswersUptoCard : Claim7 := { stood := { row := engineAnswersUptoRow, standIns := [], harness := (true, "7d2df7018238aaea6faf644acbdcb6bb671b7db8a8bf3521dcc9ef09298420a7"), looks := true }, kinds := [], alts := [], laidByText := true, laidKinds := [.data, .data, .data], laidTests := true, laidLooks := .later }
def EngineAnswersUptoCardSaid : Prop := Claim7.holds Tryd.pinned (.plain (OpenSpec.upto engineAnswersSpec)) engineAnswersUptoCard

/-- THE SECOND FORM's CARD OF 'joinerylaw14.ShapePrints'. -/
def shapePrintsUptoCard : Claim7 := { stood := { row := shapePrintsUptoRow, standIns := [], harness := (true, "7d2df7018238aaea6faf644acbdcb6bb671b7db8a8bf3521dcc9ef09298420a7"), looks := true }, kinds := [], alts := [], laidByText := true, laidKinds := [.data, .data, .data], laidTests := true, laidLooks := .later }
def ShapePrintsUptoCardSaid : Prop := Claim7.holds Tryd.pinned (.plain (OpenSpec.upto shapePrintsSpec)) shapePrintsUptoCard

/-- THE SECOND FORM's CARD OF 'joinerylaw14.ShapeParses'. -/
def shapeParsesUptoCard : Claim7 := { stood := { row := shapeParsesUptoRow, standIns := [], harness := (true, "7d2df7018238aaea6faf644acbdcb6bb671b7db8a8bf3521dcc9ef09298420a7"), looks := true }, kinds := [], alts := [], laidByText := true, laidKinds := [.data, .data, .data], laidTests := true, laidLooks := .later }
def ShapeParsesUptoCardSaid : Prop := Claim7.holds Tryd.pinned (.plain (OpenSpec.upto shapeParsesSpec)) shapeParsesUptoCard

/-- THE SECOND FORM's CARD OF 'joinerylaw14.ShapeBack'. -/
def shapeBackUptoCard : Claim7 := { stood := { row := shapeBackUptoRow, standIns := [], harness := (true, "7d2df7018238aaea6faf644acbdcb6bb671b7db8a8bf3521dcc9ef09298420a7"), looks := true }, kinds := [], alts := [], laidByText := true, laidKinds := [.data, .data, .data], laidTests := true, laidLooks := .later }
def ShapeBackUptoCardSaid : Prop := Claim7.holds Tryd.pinned (.plain (OpenSpec.upto shapeBackSpec)) shapeBackUptoCard

/-- THE SECOND FORM's CARD OF 'joinerylaw14.ShapeNormal'. -/
def shapeNormalUptoCard : Claim7 := { stood := { row := shapeNormalUptoRow, standIns := [], harness := (true, "7d2df7018238aaea6faf644acbdcb6bb671b7db8a8bf3521dcc9ef09298420a7"), looks := true }, kinds := [], alts := [], laidByText := true, laidKinds := [.data, .data, .data], laidTests := true, laidLooks := .later }
def ShapeNormalUptoCardSaid : Prop := Claim7.holds Tryd.pinned (.plain (OpenSpec.upto shapeNormalSpec)) shapeNormalUptoCard

/-- THE SECOND FORM's CARD OF 'joinerylaw14.ShapeApart'. -/
def shapeApartUptoCard : Claim7 := { stood := { row := shapeApartUptoRow, standIns := [], harness := (true, "7d2df7018238aaea6faf644acbdcb6bb671b7db8a8bf3521dcc9ef09298420a7"), looks := true }, kinds := [], alts := [], laidByText := true, laidKinds := [.data, .data, .data], laidTests := true, laidLooks := .later }
def ShapeApartUptoCardSaid : Prop := Claim7.holds Tryd.pinned (.plain (OpenSpec.upto shapeApartSpec)) shapeApartUptoCard

/-- THE SECOND FORM's CARD OF 'joinerylaw14.ShapeCut'. -/
def shapeCutUptoCard : Claim7 := { stood := { row := shapeCutUptoRow, standIns := [], harness := (true, "7d2df7018238aaea6faf644acbdcb6bb671b7db8a8bf3521dcc9ef09298420a7"), looks := true }, kinds := [], alts := [], laidByText := true, laidKinds := [.data, .data, .data], laidTests := true, laidLooks := .later }
def ShapeCutUptoCardSaid : Prop := Claim7.holds Tryd.pinned (.plain (OpenSpec.upto shapeCutSpec)) shapeCutUptoCard

/-- THE SECOND FORM's CARD OF 'joinerylaw14.ShapeWays'. -/
def shapeWaysUptoCard : Claim7 := { stood := { row := shapeWaysUptoRow, standIns := [], harness := (true, "7d2df7018238aaea6faf644acbdcb6bb671b7db8a8bf3521dcc9ef09298420a7"), looks := true }, kinds := [], alts := [], laidByText := true, laidKinds := [.data, .data, .data], laidTests := true, laidLooks := .later }
def ShapeWaysUptoCardSaid : Prop := Claim7.holds Tryd.pinned (.plain (OpenSpec.upto shapeWaysSpec)) shapeWaysUptoCard

/-- THE SECOND FORM's CARD OF 'joinerylaw15.EngineMoves'. -/
def engineMovesUptoCard : Claim7 := { stood := { row := engineMovesUptoRow, standIns := [], harness := (true, "7d2df7018238aaea6faf644acbdcb6bb671b7db8a8bf3521dcc9ef09298420a7"), looks := true }, kinds := [], alts := [], laidByText := true, laidKinds := [.data, .data, .data], laidTests := true, laidLooks := .later }
def EngineMovesUptoCardSaid : Prop := Claim7.holds Tryd.pinned (.plain (OpenSpec.upto engineMovesSpec)) engineMovesUptoCard
end Rows
end Go.Proofs.YtiojohpghhccpaaDoor
