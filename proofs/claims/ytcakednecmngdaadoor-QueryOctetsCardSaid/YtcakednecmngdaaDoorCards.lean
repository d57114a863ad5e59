/-
  DERIVED. GIVEN WITH THE SEED: THE CARDS: each row of YtcakednecmngdaaDoorRows.lean that lists a variable, with what it lists TIED to the program's text (the seventh form; the later family's looks); each row that meets fmt, with fmt's text TOLD by the authors' own Lean function (tested against real Go, not proved from fmt's source: count such statements apart). THE CARD IS WHAT COUNTS. Prove the row's statement (the work); the ties are given (YtcakednecmngdaaDoorTie.lean); close each card by the builder's one call (the guide's Derived/Test/ToyasCard.lean, 'card_holds'). Laid BY PROGRAM, IN A SANDBOX (cutbox-door.mjs). By AI agents, Wed Nov 11 2026. No macro, syntax, notation, axiom, sorry.
-/
import Derived.Test.YtcakednecmngdaaDoorRows
import GoSem.ClaimSeven
namespace Go.Proofs.YtcakednecmngdaaDoor
namespace Rows

/-- THE TIED CARD OF 'tolllaw01.DnsUnders'. -/
def dnsUndersCard : Claim7 := { stood := { row := dnsUndersRow, standIns := [], harness := (true, "d75507db2a88d81330456835d569fc8e35a844794ce3343c87ac0712c07b36f6"), looks := true }, kinds := [], alts := [], laidByText := true, laidKinds := [.data, .pinned], laidTests := true, laidLooks := .later }
def DnsUndersCardSaid : Prop := Claim7.holds Tryd.pinned (.plain (OpenSpec.ofChange dnsUndersSpec)) dnsUndersCard

/-- THE TIED CARD OF 'tolllaw01.DnsGoes'. -/
def dnsGoesCard : Claim7 := { stood := { row := dnsGoesRow, standIns := [], harness := (true, "d75507db2a88d81330456835d569fc8e35a844794ce3343c87ac0712c07b36f6"), looks := true }, kinds := [], alts := [], laidByText := true, laidKinds := [.data, .pinned], laidTests := true, laidLooks := .later }
def DnsGoesCardSaid : Prop := Claim7.holds Tryd.pinned (.plain (OpenSpec.ofChange dnsGoesSpec)) dnsGoesCard

/-- THE TIED CARD OF 'tolllaw01.DnsLabels'. -/
def dnsLabelsCard : Claim7 := { stood := { row := dnsLabelsRow, standIns := [], harness := (true, "d75507db2a88d81330456835d569fc8e35a844794ce3343c87ac0712c07b36f6"), looks := true }, kinds := [], alts := [], laidByText := true, laidKinds := [.data, .pinned], laidTests := true, laidLooks := .later }
def DnsLabelsCardSaid : Prop := Claim7.holds Tryd.pinned (.plain (OpenSpec.ofChange dnsLabelsSpec)) dnsLabelsCard

/-- THE TIED CARD OF 'tolllaw19.QueueOnce'. -/
def queueOnceCard : Claim7 := { stood := { row := queueOnceRow, standIns := [], harness := (true, "d75507db2a88d81330456835d569fc8e35a844794ce3343c87ac0712c07b36f6"), looks := true }, kinds := [], alts := [], laidByText := true, laidKinds := [.data, .pinned], laidTests := true, laidLooks := .later }
def QueueOnceCardSaid : Prop := Claim7.holds Tryd.pinned (.plain (OpenSpec.ofChange queueOnceSpec)) queueOnceCard

/-- THE TIED CARD OF 'tolllaw19.QueueRest'. -/
def queueRestCard : Claim7 := { stood := { row := queueRestRow, standIns := [], harness := (true, "d75507db2a88d81330456835d569fc8e35a844794ce3343c87ac0712c07b36f6"), looks := true }, kinds := [], alts := [], laidByText := true, laidKinds := [.data, .pinned], laidTests := true, laidLooks := .later }
def QueueRestCardSaid : Prop := Claim7.holds Tryd.pinned (.plain (OpenSpec.ofChange queueRestSpec)) queueRestCard

/-- THE TIED CARD OF 'tolllaw19.QueueFull'. -/
def queueFullCard : Claim7 := { stood := { row := queueFullRow, standIns := [], harness := (true, "d75507db2a88d81330456835d569fc8e35a844794ce3343c87ac0712c07b36f6"), looks := true }, kinds := [], alts := [], laidByText := true, laidKinds := [.data, .pinned], laidTests := true, laidLooks := .later }
def QueueFullCardSaid : Prop := Claim7.holds Tryd.pinned (.plain (OpenSpec.ofChange queueFullSpec)) queueFullCard

/-- THE TIED CARD OF 'tolllaw01.DnsNames'. -/
def dnsNamesCard : Claim7 := { stood := { row := dnsNamesRow, standIns := [], harness := (true, "d75507db2a88d81330456835d569fc8e35a844794ce3343c87ac0712c07b36f6"), looks := true }, kinds := [], alts := [], laidByText := true, laidKinds := [.data, .pinned], laidTests := true, laidLooks := .later }
def DnsNamesCardSaid : Prop := Claim7.holds Tryd.pinned (.plain (OpenSpec.ofChange dnsNamesSpec)) dnsNamesCard

/-- THE TIED CARD OF 'tolllaw01.DnsFolds'. -/
def dnsFoldsCard : Claim7 := { stood := { row := dnsFoldsRow, standIns := [], harness := (true, "d75507db2a88d81330456835d569fc8e35a844794ce3343c87ac0712c07b36f6"), looks := true }, kinds := [], alts := [], laidByText := true, laidKinds := [.data, .pinned], laidTests := true, laidLooks := .later }
def DnsFoldsCardSaid : Prop := Claim7.holds Tryd.pinned (.plain (OpenSpec.ofChange dnsFoldsSpec)) dnsFoldsCard

/-- THE TIED CARD OF 'tolllaw08.LabelOne'. -/
def labelOneCard : Claim7 := { stood := { row := labelOneRow, standIns := [], harness := (true, "d75507db2a88d81330456835d569fc8e35a844794ce3343c87ac0712c07b36f6"), looks := true }, kinds := [], alts := [], laidByText := true, laidKinds := [.data, .pinned], laidTests := true, laidLooks := .later }
def LabelOneCardSaid : Prop := Claim7.holds Tryd.pinned (.plain (OpenSpec.ofChange labelOneSpec)) labelOneCard

/-- THE TIED CARD OF 'tolllaw08.LabelKinds'. -/
def labelKindsCard : Claim7 := { stood := { row := labelKindsRow, standIns := [], harness := (true, "d75507db2a88d81330456835d569fc8e35a844794ce3343c87ac0712c07b36f6"), looks := true }, kinds := [], alts := [], laidByText := true, laidKinds := [.data, .pinned], laidTests := true, laidLooks := .later }
def LabelKindsCardSaid : Prop := Claim7.holds Tryd.pinned (.plain (OpenSpec.ofChange labelKindsSpec)) labelKindsCard

/-- THE TIED CARD OF 'tolllaw08.LabelOrder'. -/
def labelOrderCard : Claim7 := { stood := { row := labelOrderRow, standIns := [], harness := (true, "d75507db2a88d81330456835d569fc8e35a844794ce3343c87ac0712c07b36f6"), looks := true }, kinds := [], alts := [], laidByText := true, laidKinds := [.data, .pinned], laidTests := true, laidLooks := .later }
def LabelOrderCardSaid : Prop := Claim7.holds Tryd.pinned (.plain (OpenSpec.ofChange labelOrderSpec)) labelOrderCard

/-- THE TIED CARD OF 'tolllaw08.LabelNots'. -/
def labelNotsCard : Claim7 := { stood := { row := labelNotsRow, standIns := [], harness := (true, "d75507db2a88d81330456835d569fc8e35a844794ce3343c87ac0712c07b36f6"), looks := true }, kinds := [], alts := [], laidByText := true, laidKinds := [.data, .pinned], laidTests := true, laidLooks := .later }
def LabelNotsCardSaid : Prop := Claim7.holds Tryd.pinned (.plain (OpenSpec.ofChange labelNotsSpec)) labelNotsCard

/-- THE TIED CARD OF 'tolllaw08.LabelMore'. -/
def labelMoreCard : Claim7 := { stood := { row := labelMoreRow, standIns := [], harness := (true, "d75507db2a88d81330456835d569fc8e35a844794ce3343c87ac0712c07b36f6"), looks := true }, kinds := [], alts := [], laidByText := true, laidKinds := [.data, .pinned], laidTests := true, laidLooks := .later }
def LabelMoreCardSaid : Prop := Claim7.holds Tryd.pinned (.plain (OpenSpec.ofChange labelMoreSpec)) labelMoreCard

/-- THE TIED CARD OF 'tolllaw08.LabelNone'. -/
def labelNoneCard : Claim7 := { stood := { row := labelNoneRow, standIns := [], harness := (true, "d75507db2a88d81330456835d569fc8e35a844794ce3343c87ac0712c07b36f6"), looks := true }, kinds := [], alts := [], laidByText := true, laidKinds := [.data, .pinned], laidTests := true, laidLooks := .later }
def LabelNoneCardSaid : Prop := Claim7.holds Tryd.pinned (.plain (OpenSpec.ofChange labelNoneSpec)) labelNoneCard

/-- THE TIED CARD OF 'tolllaw01.DnsKeys'. -/
def dnsKeysCard : Claim7 := { stood := { row := dnsKeysRow, standIns := [], harness := (true, "d75507db2a88d81330456835d569fc8e35a844794ce3343c87ac0712c07b36f6"), looks := true }, kinds := [], alts := [], laidByText := true, laidKinds := [.data, .pinned], laidTests := true, laidLooks := .later }
def DnsKeysCardSaid : Prop := Claim7.holds Tryd.pinned (.plain (OpenSpec.ofChange dnsKeysSpec)) dnsKeysCard

/-- THE TIED CARD OF 'tolllaw01.DnsBacks'. -/
def dnsBacksCard : Claim7 := { stood := { row := dnsBacksRow, standIns := [], harness := (true, "d75507db2a88d81330456835d569fc8e35a844794ce3343c87ac0712c07b36f6"), looks := true }, kinds := [], alts := [], laidByText := true, laidKinds := [.data, .pinned], laidTests := true, laidLooks := .later }
def DnsBacksCardSaid : Prop := Claim7.holds Tryd.pinned (.plain (OpenSpec.ofChange dnsBacksSpec)) dnsBacksCard

/-- THE TIED CARD OF 'tolllaw19.QueueDoes'. -/
def queueDoesCard : Claim7 := { stood := { row := queueDoesRow, standIns := [], harness := (true, "d75507db2a88d81330456835d569fc8e35a844794ce3343c87ac0712c07b36f6"), looks := true }, kinds := [], alts := [], laidByText := true, laidKinds := [.data, .pinned], laidTests := true, laidLooks := .later }
def QueueDoesCardSaid : Prop := Claim7.holds Tryd.pinned (.plain (OpenSpec.ofChange queueDoesSpec)) queueDoesCard

/-- THE TIED CARD OF 'tolllaw19.QueueTwice'. -/
def queueTwiceCard : Claim7 := { stood := { row := queueTwiceRow, standIns := [], harness := (true, "d75507db2a88d81330456835d569fc8e35a844794ce3343c87ac0712c07b36f6"), looks := true }, kinds := [], alts := [], laidByText := true, laidKinds := [.data, .pinned], laidTests := true, laidLooks := .later }
def QueueTwiceCardSaid : Prop := Claim7.holds Tryd.pinned (.plain (OpenSpec.ofChange queueTwiceSpec)) queueTwiceCard

/-- THE TIED CARD OF 'tolllaw19.QueueDrops'. -/
def queueDropsCard : Claim7 := { stood := { row := queueDropsRow, standIns := [], harness := (true, "d75507db2a88d81330456835d569fc8e35a844794ce3343c87ac0712c07b36f6"), looks := true }, kinds := [], alts := [], laidByText := true, laidKinds := [.data, .pinned], laidTests := true, laidLooks := .later }
def QueueDropsCardSaid : Prop := Claim7.holds Tryd.pinned (.plain (OpenSpec.ofChange queueDropsSpec)) queueDropsCard

/-- THE TIED CARD OF 'tolllaw08.LabelMeets'. -/
def labelMeetsCard : Claim7 := { stood := { row := labelMeetsRow, standIns := [], harness := (true, "d75507db2a88d81330456835d569fc8e35a844794ce3343c87ac0712c07b36f6"), looks := true }, kinds := [], alts := [], laidByText := true, laidKinds := [.data, .pinned], laidTests := true, laidLooks := .later }
def LabelMeetsCardSaid : Prop := Claim7.holds Tryd.pinned (.plain (OpenSpec.ofChange labelMeetsSpec)) labelMeetsCard

/-- THE TIED CARD OF 'tolllaw04.QueryTexts'. -/
def queryTextsCard : Claim7 := { stood := { row := queryTextsRow, standIns := [], harness := (true, "d75507db2a88d81330456835d569fc8e35a844794ce3343c87ac0712c07b36f6"), looks := true }, kinds := [], alts := [], laidByText := true, laidKinds := [.data, .pinned], laidTests := true, laidLooks := .later }
def QueryTextsCardSaid : Prop := Claim7.holds Tryd.pinned (.plain (OpenSpec.ofChange queryTextsSpec)) queryTextsCard

/-- THE TIED CARD OF 'tolllaw04.QueryParses'. -/
def queryParsesCard : Claim7 := { stood := { row := queryParsesRow, standIns := [], harness := (true, "d75507db2a88d81330456835d569fc8e35a844794ce3343c87ac0712c07b36f6"), looks := true }, kinds := [], alts := [], laidByText := true, laidKinds := [.data, .pinned], laidTests := true, laidLooks := .later }
def QueryParsesCardSaid : Prop := Claim7.holds Tryd.pinned (.plain (OpenSpec.ofChange queryParsesSpec)) queryParsesCard

/-- THE TIED CARD OF 'tolllaw04.QueryJoins'. -/
def queryJoinsCard : Claim7 := { stood := { row := queryJoinsRow, standIns := [], harness := (true, "d75507db2a88d81330456835d569fc8e35a844794ce3343c87ac0712c07b36f6"), looks := true }, kinds := [], alts := [], laidByText := true, laidKinds := [.data, .pinned], laidTests := true, laidLooks := .later }
def QueryJoinsCardSaid : Prop := Claim7.holds Tryd.pinned (.plain (OpenSpec.ofChange queryJoinsSpec)) queryJoinsCard

/-- THE TIED CARD OF 'tolllaw04.QueryOctets'. -/
def queryOctetsCard : Claim7 := { stood := { row := queryOctetsRow, standIns := [], harness := (true, "d75507db2a88d81330456835d569fc8e35a844794ce3343c87ac0712c07b36f6"), looks := true }, kinds := [], alts := [], laidByText := true, laidKinds := [.data, .pinned], laidTests := true, laidLooks := .later }
def QueryOctetsCardSaid : Prop := Claim7.holds Tryd.pinned (.plain (OpenSpec.ofChange queryOctetsSpec)) queryOctetsCard

/-- THE TIED CARD OF 'tolllaw04.QueryApart'. -/
def queryApartCard : Claim7 := { stood := { row := queryApartRow, standIns := [], harness := (true, "d75507db2a88d81330456835d569fc8e35a844794ce3343c87ac0712c07b36f6"), looks := true }, kinds := [], alts := [], laidByText := true, laidKinds := [.data, .pinned], laidTests := true, laidLooks := .later }
def QueryApartCardSaid : Prop := Claim7.holds Tryd.pinned (.plain (OpenSpec.ofChange queryApartSpec)) queryApartCard

/-- THE TIED CARD OF 'tolllaw04.QueryTurns'. -/
def queryTurnsCard : Claim7 := { stood := { row := queryTurnsRow, standIns := [], harness := (true, "d75507db2a88d81330456835d569fc8e35a844794ce3343c87ac0712c07b36f6"), looks := true }, kinds := [], alts := [], laidByText := true, laidKinds := [.data, .pinned], laidTests := true, laidLooks := .later }
def QueryTurnsCardSaid : Prop := Claim7.holds Tryd.pinned (.plain (OpenSpec.ofChange queryTurnsSpec)) queryTurnsCard

/-- THE TIED CARD OF 'tolllaw04.QueryDigits'. -/
def queryDigitsCard : Claim7 := { stood := { row := queryDigitsRow, standIns := [], harness := (true, "d75507db2a88d81330456835d569fc8e35a844794ce3343c87ac0712c07b36f6"), looks := true }, kinds := [], alts := [], laidByText := true, laidKinds := [.data, .pinned], laidTests := true, laidLooks := .later }
def QueryDigitsCardSaid : Prop := Claim7.holds Tryd.pinned (.plain (OpenSpec.ofChange queryDigitsSpec)) queryDigitsCard

/-- THE SECOND FORM's CARD OF 'tolllaw01.DnsUnders'. -/
def dnsUndersUptoCard : Claim7 := { stood := { row := dnsUndersUptoRow, standIns := [], harness := (true, "d75507db2a88d81330456835d569fc8e35a844794ce3343c87ac0712c07b36f6"), looks := true }, kinds := [], alts := [], laidByText := true, laidKinds := [.data, .pinned], laidTests := true, laidLooks := .later }
def DnsUndersUptoCardSaid : Prop := Claim7.holds Tryd.pinned (.plain (OpenSpec.upto dnsUndersSpec)) dnsUndersUptoCard

/-- THE SECOND FORM's CARD OF 'tolllaw01.DnsGoes'. -/
def dnsGoesUptoCard : Claim7 := { stood := { row := dnsGoesUptoRow, standIns := [], harness := (true, "d75507db2a88d81330456835d569fc8e35a844794ce3343c87ac0712c07b36f6"), looks := true }, kinds := [], alts := [], laidByText := true, laidKinds := [.data, .pinned], laidTests := true, laidLooks := .later }
def DnsGoesUptoCardSaid : Prop := Claim7.holds Tryd.pinned (.plain (OpenSpec.upto dnsGoesSpec)) dnsGoesUptoCard

/-- THE SECOND FORM's CARD OF 'tolllaw01.DnsLabels'. -/
def dnsLabelsUptoCard : Claim7 := { stood := { row := dnsLabelsUptoRow, standIns := [], harness := (true, "d75507db2a88d81330456835d569fc8e35a844794ce3343c87ac0712c07b36f6"), looks := true }, kinds := [], alts := [], laidByText := true, laidKinds := [.data, .pinned], laidTests := true, laidLooks := .later }
def DnsLabelsUptoCardSaid : Prop := Claim7.holds Tryd.pinned (.plain (OpenSpec.upto dnsLabelsSpec)) dnsLabelsUptoCard

/-- THE SECOND FORM's CARD OF 'tolllaw19.QueueOnce'. -/
def queueOnceUptoCard : Claim7 := { stood := { row := queueOnceUptoRow, standIns := [], harness := (true, "d75507db2a88d81330456835d569fc8e35a844794ce3343c87ac0712c07b36f6"), looks := true }, kinds := [], alts := [], laidByText := true, laidKinds := [.data, .pinned], laidTests := true, laidLooks := .later }
def QueueOnceUptoCardSaid : Prop := Claim7.holds Tryd.pinned (.plain (OpenSpec.upto queueOnceSpec)) queueOnceUptoCard

/-- THE SECOND FORM's CARD OF 'tolllaw19.QueueRest'. -/
def queueRestUptoCard : Claim7 := { stood := { row := queueRestUptoRow, standIns := [], harness := (true, "d75507db2a88d81330456835d569fc8e35a844794ce3343c87ac0712c07b36f6"), looks := true }, kinds := [], alts := [], laidByText := true, laidKinds := [.data, .pinned], laidTests := true, laidLooks := .later }
def QueueRestUptoCardSaid : Prop := Claim7.holds Tryd.pinned (.plain (OpenSpec.upto queueRestSpec)) queueRestUptoCard

/-- THE SECOND FORM's CARD OF 'tolllaw19.QueueFull'. -/
def queueFullUptoCard : Claim7 := { stood := { row := queueFullUptoRow, standIns := [], harness := (true, "d75507db2a88d81330456835d569fc8e35a844794ce3343c87ac0712c07b36f6"), looks := true }, kinds := [], alts := [], laidByText := true, laidKinds := [.data, .pinned], laidTests := true, laidLooks := .later }
def QueueFullUptoCardSaid : Prop := Claim7.holds Tryd.pinned (.plain (OpenSpec.upto queueFullSpec)) queueFullUptoCard

/-- THE SECOND FORM's CARD OF 'tolllaw01.DnsNames'. -/
def dnsNamesUptoCard : Claim7 := { stood := { row := dnsNamesUptoRow, standIns := [], harness := (true, "d75507db2a88d81330456835d569fc8e35a844794ce3343c87ac0712c07b36f6"), looks := true }, kinds := [], alts := [], laidByText := true, laidKinds := [.data, .pinned], laidTests := true, laidLooks := .later }
def DnsNamesUptoCardSaid : Prop := Claim7.holds Tryd.pinned (.plain (OpenSpec.upto dnsNamesSpec)) dnsNamesUptoCard

/-- THE SECOND FORM's CARD OF 'tolllaw01.DnsFolds'. -/
def dnsFoldsUptoCard : Claim7 := { stood := { row := dnsFoldsUptoRow, standIns := [], harness := (true, "d75507db2a88d81330456835d569fc8e35a844794ce3343c87ac0712c07b36f6"), looks := true }, kinds := [], alts := [], laidByText := true, laidKinds := [.data, .pinned], laidTests := true, laidLooks := .later }
def DnsFoldsUptoCardSaid : Prop := Claim7.holds Tryd.pinned (.plain (OpenSpec.upto dnsFoldsSpec)) dnsFoldsUptoCard

/-- THE SECOND FORM's CARD OF 'tolllaw08.LabelOne'. -/
def labelOneUptoCard : Claim7 := { stood := { row := labelOneUptoRow, standIns := [], harness := (true, "d75507db2a88d81330456835d569fc8e35a844794ce3343c87ac0712c07b36f6"), looks := true }, kinds := [], alts := [], laidByText := true, laidKinds := [.data, .pinned], laidTests := true, laidLooks := .later }
def LabelOneUptoCardSaid : Prop := Claim7.holds Tryd.pinned (.plain (OpenSpec.upto labelOneSpec)) labelOneUptoCard

/-- THE SECOND FORM's CARD OF 'tolllaw08.LabelKinds'. -/
def labelKindsUptoCard : Claim7 := { stood := { row := labelKindsUptoRow, standIns := [], harness := (true, "d75507db2a88d81330456835d569fc8e35a844794ce3343c87ac0712c07b36f6"), looks := true }, kinds := [], alts := [], laidByText := true, laidKinds := [.data, .pinned], laidTests := true, laidLooks := .later }
def LabelKindsUptoCardSaid : Prop := Claim7.holds Tryd.pinned (.plain (OpenSpec.upto labelKindsSpec)) labelKindsUptoCard

/-- THE SECOND FORM's CARD OF 'tolllaw08.LabelOrder'. -/
def labelOrderUptoCard : Claim7 := { stood := { row := labelOrderUptoRow, standIns := [], harness := (true, "d75507db2a88d81330456835d569fc8e35a844794ce3343c87ac0712c07b36f6"), looks := true }, kinds := [], alts := [], laidByText := true, laidKinds := [.data, .pinned], laidTests := true, laidLooks := .later }
def LabelOrderUptoCardSaid : Prop := Claim7.holds Tryd.pinned (.plain (OpenSpec.upto labelOrderSpec)) labelOrderUptoCard

/-- THE SECOND FORM's CARD OF 'tolllaw08.LabelNots'. -/
def labelNotsUptoCard : Claim7 := { stood := { row := labelNotsUptoRow, standIns := [], harness := (true, "d75507db2a88d81330456835d569fc8e35a844794ce3343c87ac0712c07b36f6"), looks := true }, kinds := [], alts := [], laidByText := true, laidKinds := [.data, .pinned], laidTests := true, laidLooks := .later }
def LabelNotsUptoCardSaid : Prop := Claim7.holds Tryd.pinned (.plain (OpenSpec.upto labelNotsSpec)) labelNotsUptoCard

/-- THE SECOND FORM's CARD OF 'tolllaw08.LabelMore'. -/
def labelMoreUptoCard : Claim7 := { stood := { row := labelMoreUptoRow, standIns := [], harness := (true, "d75507db2a88d81330456835d569fc8e35a844794ce3343c87ac0712c07b36f6"), looks := true }, kinds := [], alts := [], laidByText := true, laidKinds := [.data, .pinned], laidTests := true, laidLooks := .later }
def LabelMoreUptoCardSaid : Prop := Claim7.holds Tryd.pinned (.plain (OpenSpec.upto labelMoreSpec)) labelMoreUptoCard

/-- THE SECOND FORM's CARD OF 'tolllaw08.LabelNone'. -/
def labelNoneUptoCard : Claim7 := { stood := { row := labelNoneUptoRow, standIns := [], harness := (true, "d75507db2a88d81330456835d569fc8e35a844794ce3343c87ac0712c07b36f6"), looks := true }, kinds := [], alts := [], laidByText := true, laidKinds := [.data, .pinned], laidTests := true, laidLooks := .later }
def LabelNoneUptoCardSaid : Prop := Claim7.holds Tryd.pinned (.plain (OpenSpec.upto labelNoneSpec)) labelNoneUptoCard

/-- THE SECOND FORM's CARD OF 'tolllaw01.DnsKeys'. -/
def dnsKeysUptoCard : Claim7 := { stood := { row := dnsKeysUptoRow, standIns := [], harness := (true, "d75507db2a88d81330456835d569fc8e35a844794ce3343c87ac0712c07b36f6"), looks := true }, kinds := [], alts := [], laidByText := true, laidKinds := [.data, .pinned], laidTests := true, laidLooks := .later }
def DnsKeysUptoCardSaid : Prop := Claim7.holds Tryd.pinned (.plain (OpenSpec.upto dnsKeysSpec)) dnsKeysUptoCard

/-- THE SECOND FORM's CARD OF 'tolllaw01.DnsBacks'. -/
def dnsBacksUptoCard : Claim7 := { stood := { row := dnsBacksUptoRow, standIns := [], harness := (true, "d75507db2a88d81330456835d569fc8e35a844794ce3343c87ac0712c07b36f6"), looks := true }, kinds := [], alts := [], laidByText := true, laidKinds := [.data, .pinned], laidTests := true, laidLooks := .later }
def DnsBacksUptoCardSaid : Prop := Claim7.holds Tryd.pinned (.plain (OpenSpec.upto dnsBacksSpec)) dnsBacksUptoCard

/-- THE SECOND FORM's CARD OF 'tolllaw19.QueueDoes'. -/
def queueDoesUptoCard : Claim7 := { stood := { row := queueDoesUptoRow, standIns := [], harness := (true, "d75507db2a88d81330456835d569fc8e35a844794ce3343c87ac0712c07b36f6"), looks := true }, kinds := [], alts := [], laidByText := true, laidKinds := [.data, .pinned], laidTests := true, laidLooks := .later }
def QueueDoesUptoCardSaid : Prop := Claim7.holds Tryd.pinned (.plain (OpenSpec.upto queueDoesSpec)) queueDoesUptoCard

/-- THE SECOND FORM's CARD OF 'tolllaw19.QueueTwice'. -/
def queueTwiceUptoCard : Claim7 := { stood := { row := queueTwiceUptoRow, standIns := [], harness := (true, "d75507db2a88d81330456835d569fc8e35a844794ce3343c87ac0712c07b36f6"), looks := true }, kinds := [], alts := [], laidByText := true, laidKinds := [.data, .pinned], laidTests := true, laidLooks := .later }
def QueueTwiceUptoCardSaid : Prop := Claim7.holds Tryd.pinned (.plain (OpenSpec.upto queueTwiceSpec)) queueTwiceUptoCard

/-- THE SECOND FORM's CARD OF 'tolllaw19.QueueDrops'. -/
def queueDropsUptoCard : Claim7 := { stood := { row := queueDropsUptoRow, standIns := [], harness := (true, "d75507db2a88d81330456835d569fc8e35a844794ce3343c87ac0712c07b36f6"), looks := true }, kinds := [], alts := [], laidByText := true, laidKinds := [.data, .pinned], laidTests := true, laidLooks := .later }
def QueueDropsUptoCardSaid : Prop := Claim7.holds Tryd.pinned (.plain (OpenSpec.upto queueDropsSpec)) queueDropsUptoCard

/-- THE SECOND FORM's CARD OF 'tolllaw08.LabelMeets'. -/
def labelMeetsUptoCard : Claim7 := { stood := { row := labelMeetsUptoRow, standIns := [], harness := (true, "d75507db2a88d81330456835d569fc8e35a844794ce3343c87ac0712c07b36f6"), looks := true }, kinds := [], alts := [], laidByText := true, laidKinds := [.data, .pinned], laidTests := true, laidLooks := .later }
def LabelMeetsUptoCardSaid : Prop := Claim7.holds Tryd.pinned (.plain (OpenSpec.upto labelMeetsSpec)) labelMeetsUptoCard

/-- THE SECOND FORM's CARD OF 'tolllaw04.QueryTexts'. -/
def queryTextsUptoCard : Claim7 := { stood := { row := queryTextsUptoRow, standIns := [], harness := (true, "d75507db2a88d81330456835d569fc8e35a844794ce3343c87ac0712c07b36f6"), looks := true }, kinds := [], alts := [], laidByText := true, laidKinds := [.data, .pinned], laidTests := true, laidLooks := .later }
def QueryTextsUptoCardSaid : Prop := Claim7.holds Tryd.pinned (.plain (OpenSpec.upto queryTextsSpec)) queryTextsUptoCard

/-- THE SECOND FORM's CARD OF 'tolllaw04.QueryParses'. -/
def queryParsesUptoCard : Claim7 := { stood := { row := queryParsesUptoRow, standIns := [], harness := (true, "d75507db2a88d81330456835d569fc8e35a844794ce3343c87ac0712c07b36f6"), looks := true }, kinds := [], alts := [], laidByText := true, laidKinds := [.data, .pinned], laidTests := true, laidLooks := .later }
def QueryParsesUptoCardSaid : Prop := Claim7.holds Tryd.pinned (.plain (OpenSpec.upto queryParsesSpec)) queryParsesUptoCard

/-- THE SECOND FORM's CARD OF 'tolllaw04.QueryJoins'. -/
def queryJoinsUptoCard : Claim7 := { stood := { row := queryJoinsUptoRow, standIns := [], harness := (true, "d75507db2a88d81330456835d569fc8e35a844794ce3343c87ac0712c07b36f6"), looks := true }, kinds := [], alts := [], laidByText := true, laidKinds := [.data, .pinned], laidTests := true, laidLooks := .later }
def QueryJoinsUptoCardSaid : Prop := Claim7.holds Tryd.pinned (.plain (OpenSpec.upto queryJoinsSpec)) queryJoinsUptoCard

/-- THE SECOND FORM's CARD OF 'tolllaw04.QueryOctets'. -/
def queryOctetsUptoCard : Claim7 := { stood := { row := queryOctetsUptoRow, standIns := [], harness := (true, "d75507db2a88d81330456835d569fc8e35a844794ce3343c87ac0712c07b36f6"), looks := true }, kinds := [], alts := [], laidByText := true, laidKinds := [.data, .pinned], laidTests := true, laidLooks := .later }
def QueryOctetsUptoCardSaid : Prop := Claim7.holds Tryd.pinned (.plain (OpenSpec.upto queryOctetsSpec)) queryOctetsUptoCard

/-- THE SECOND FORM's CARD OF 'tolllaw04.QueryApart'. -/
def queryApartUptoCard : Claim7 := { stood := { row := queryApartUptoRow, standIns := [], harness := (true, "d75507db2a88d81330456835d569fc8e35a844794ce3343c87ac0712c07b36f6"), looks := true }, kinds := [], alts := [], laidByText := true, laidKinds := [.data, .pinned], laidTests := true, laidLooks := .later }
def QueryApartUptoCardSaid : Prop := Claim7.holds Tryd.pinned (.plain (OpenSpec.upto queryApartSpec)) queryApartUptoCard

/-- THE SECOND FORM's CARD OF 'tolllaw04.QueryTurns'. -/
def queryTurnsUptoCard : Claim7 := { stood := { row := queryTurnsUptoRow, standIns := [], harness := (true, "d75507db2a88d81330456835d569fc8e35a844794ce3343c87ac0712c07b36f6"), looks := true }, kinds := [], alts := [], laidByText := true, laidKinds := [.data, .pinned], laidTests := true, laidLooks := .later }
def QueryTurnsUptoCardSaid : Prop := Claim7.holds Tryd.pinned (.plain (OpenSpec.upto queryTurnsSpec)) queryTurnsUptoCard

/-- THE SECOND FORM's CARD OF 'tolllaw04.QueryDigits'. -/
def queryDigitsUptoCard : Claim7 := { stood := { row := queryDigitsUptoRow, standIns := [], harness := (true, "d75507db2a88d81330456835d569fc8e35a844794ce3343c87ac0712c07b36f6"), looks := true }, kinds := [], alts := [], laidByText := true, laidKinds := [.data, .pinned], laidTests := true, laidLooks := .later }
def QueryDigitsUptoCardSaid : Prop := Claim7.holds Tryd.pinned (.plain (OpenSpec.upto queryDigitsSpec)) queryDigitsUptoCard
end Rows
end Go.Proofs.YtcakednecmngdaaDoor
