/-
  NARROWER THAN 'FOR EVERY INPUT', by the rows' own cells (each row's printed sentence says how): DnsUnders: laid · DnsGoes: laid · DnsLabels: laid · QueueOnce: laid · QueueRest: laid · QueueFull: laid · DnsNames: laid · DnsFolds: laid · LabelOne: laid · LabelKinds: laid · LabelOrder: laid · LabelNots: laid · LabelMore: laid · LabelNone: laid · DnsKeys: laid · DnsBacks: laid · QueueDoes: laid · QueueTwice: laid · QueueDrops: laid · LabelMeets: laid · QueryTexts: laid · QueryParses: laid · QueryJoins: laid · QueryOctets: laid · QueryApart: laid · QueryTurns: laid · QueryDigits: laid.
  DERIVED. THE GIVEN ROWS OF THIS SEAT. 27 by the template 'for every input the law returns true; each argument reads behind the call as it read before'; 0 by the template 'total and deterministic' (their statements: YtcakednecmngdaaDoorTotals.lean).
  GIVEN WITH THE SEED: the statements are not yours to turn. If you find one false, say at which input.
  Laid BY PROGRAM, IN A SANDBOX (cutbox-rows.mjs): the forced cells as the released guide's own fill.sh prints them over the translation 26666058a5e98a19… (all of the seat's roots in one cut). By AI agents, Wed Nov 11 2026. No macro, syntax, notation, axiom, sorry.
-/
import Derived.Test.YtcakednecmngdaaDoorChecked
import GoSem.PinnedTables
import GoSem.Claim
import GoSem.ClaimJoined
import GoSem.ClaimMapViews
import Derived.JoinedTies
import Derived.KernelRfl
namespace Go.Proofs.YtcakednecmngdaaDoor
/- THE CELL 'sum', in the pinned program and in every row, IS THE sha256 OF THE DUMP (.gsa) THAT YtcakednecmngdaaDoorProg.lean LOADS. Nothing in Lean hashes anything: it is a label: what it is worth is what the hold of that sum in a sandbox is worth. -/
noncomputable def Tryd.pinned : Pinned := { name := "ytcakednecmngdaadoor", sum := "26666058a5e98a19cb143d72cf89c0feb583481a047248b881d1050a7b063a7a", checked := Tryd.checked }
namespace Rows
def none {H : Type} : Left H := { results := [], args := [] }

/- WHAT THE LISTED PACKAGE-LEVEL VARIABLES READ AS WHEN THE CALL BEGINS. Each datum BY PROGRAM (the guide's laid-datum.mjs) off the statement by which the dump's own 'gosem.cut.vars' lays the variable. In a bare row this is a premise. The card (YtcakednecmngdaaDoorCards.lean) ties it to the program's text. -/
def laid_unicode_utf8_acceptRanges {H : Type} : DataW H := .agg [.agg [.lit (.int .u8 128), .lit (.int .u8 191)], .agg [.lit (.int .u8 160), .lit (.int .u8 191)], .agg [.lit (.int .u8 128), .lit (.int .u8 159)], .agg [.lit (.int .u8 144), .lit (.int .u8 191)], .agg [.lit (.int .u8 128), .lit (.int .u8 143)], .agg [.lit (.int .u8 0), .lit (.int .u8 0)], .agg [.lit (.int .u8 0), .lit (.int .u8 0)], .agg [.lit (.int .u8 0), .lit (.int .u8 0)], .agg [.lit (.int .u8 0), .lit (.int .u8 0)], .agg [.lit (.int .u8 0), .lit (.int .u8 0)], .agg [.lit (.int .u8 0), .lit (.int .u8 0)], .agg [.lit (.int .u8 0), .lit (.int .u8 0)], .agg [.lit (.int .u8 0), .lit (.int .u8 0)], .agg [.lit (.int .u8 0), .lit (.int .u8 0)], .agg [.lit (.int .u8 0), .lit (.int .u8 0)], .agg [.lit (.int .u8 0), .lit (.int .u8 0)]]
/-- One of Go's own tables, pinned by name: the form's constant. -/
def laid_unicode_utf8_first : DataW Unit := Go.Pinned.utf8First

/-- 'tolllaw01.DnsUnders': WHATEVER THE INPUT: true; the input reads as it did. -/
def dnsUndersSpec : ChangeSpec := { name := "dnsUnders", fn := fun _ => fun
  | [d1, d2] => { results := [.lit (.bool true)], args := [d1, d2] }
  | _ => none }
def dnsUndersRow : OpenClaim := { program := "ytcakednecmngdaadoor", sum := "26666058a5e98a19cb143d72cf89c0feb583481a047248b881d1050a7b063a7a", func := "toll/tolllaw01.DnsUnders", spec := "dnsUnders", inPlace := ["internal/bytealg.IndexByteString", "internal/bytealg.IndexString", "internal/bytealg.CountString"], unfollowed := true, recurses := true, named := ["unicode/utf8.first", "unicode/utf8.acceptRanges", "internal/bytealg.MaxLen"], plainKeys := false, apart := false, laid := [("unicode/utf8.acceptRanges", laid_unicode_utf8_acceptRanges), ("unicode/utf8.first", laid_unicode_utf8_first)] }
def DnsUndersSaid : Prop := dnsUndersRow.holds Tryd.pinned (OpenSpec.ofChange dnsUndersSpec)

/-- ITS FALSE NEIGHBOUR: 'it returns false'. Refute it at one input. -/
def dnsUndersWrong : ChangeSpec := { name := "dnsUnders", fn := fun _ => fun
  | [d1, d2] => { results := [.lit (.bool false)], args := [d1, d2] }
  | _ => none }
def DnsUndersWrongFalsely : Prop := dnsUndersRow.holds Tryd.pinned (OpenSpec.ofChange dnsUndersWrong)

/-- 'tolllaw01.DnsGoes': WHATEVER THE INPUT: true; the input reads as it did. -/
def dnsGoesSpec : ChangeSpec := { name := "dnsGoes", fn := fun _ => fun
  | [d1, d2, d3] => { results := [.lit (.bool true)], args := [d1, d2, d3] }
  | _ => none }
def dnsGoesRow : OpenClaim := { program := "ytcakednecmngdaadoor", sum := "26666058a5e98a19cb143d72cf89c0feb583481a047248b881d1050a7b063a7a", func := "toll/tolllaw01.DnsGoes", spec := "dnsGoes", inPlace := ["internal/bytealg.IndexByteString", "internal/bytealg.IndexString", "internal/bytealg.CountString"], unfollowed := true, recurses := true, named := ["unicode/utf8.first", "unicode/utf8.acceptRanges", "internal/bytealg.MaxLen"], plainKeys := false, apart := false, laid := [("unicode/utf8.acceptRanges", laid_unicode_utf8_acceptRanges), ("unicode/utf8.first", laid_unicode_utf8_first)] }
def DnsGoesSaid : Prop := dnsGoesRow.holds Tryd.pinned (OpenSpec.ofChange dnsGoesSpec)

/-- ITS FALSE NEIGHBOUR: 'it returns false'. Refute it at one input. -/
def dnsGoesWrong : ChangeSpec := { name := "dnsGoes", fn := fun _ => fun
  | [d1, d2, d3] => { results := [.lit (.bool false)], args := [d1, d2, d3] }
  | _ => none }
def DnsGoesWrongFalsely : Prop := dnsGoesRow.holds Tryd.pinned (OpenSpec.ofChange dnsGoesWrong)

/-- 'tolllaw01.DnsLabels': WHATEVER THE INPUT: true; the input reads as it did. -/
def dnsLabelsSpec : ChangeSpec := { name := "dnsLabels", fn := fun _ => fun
  | [d1, d2] => { results := [.lit (.bool true)], args := [d1, d2] }
  | _ => none }
def dnsLabelsRow : OpenClaim := { program := "ytcakednecmngdaadoor", sum := "26666058a5e98a19cb143d72cf89c0feb583481a047248b881d1050a7b063a7a", func := "toll/tolllaw01.DnsLabels", spec := "dnsLabels", inPlace := ["internal/bytealg.IndexByteString", "internal/bytealg.IndexString", "internal/bytealg.CountString"], unfollowed := true, recurses := true, named := ["unicode/utf8.first", "unicode/utf8.acceptRanges", "internal/bytealg.MaxLen"], plainKeys := false, apart := false, laid := [("unicode/utf8.acceptRanges", laid_unicode_utf8_acceptRanges), ("unicode/utf8.first", laid_unicode_utf8_first)] }
def DnsLabelsSaid : Prop := dnsLabelsRow.holds Tryd.pinned (OpenSpec.ofChange dnsLabelsSpec)

/-- ITS FALSE NEIGHBOUR: 'it returns false'. Refute it at one input. -/
def dnsLabelsWrong : ChangeSpec := { name := "dnsLabels", fn := fun _ => fun
  | [d1, d2] => { results := [.lit (.bool false)], args := [d1, d2] }
  | _ => none }
def DnsLabelsWrongFalsely : Prop := dnsLabelsRow.holds Tryd.pinned (OpenSpec.ofChange dnsLabelsWrong)

/-- 'tolllaw19.QueueOnce': WHATEVER THE INPUT: true; the input reads as it did. -/
def queueOnceSpec : ChangeSpec := { name := "queueOnce", fn := fun _ => fun
  | [d1, d2] => { results := [.lit (.bool true)], args := [d1, d2] }
  | _ => none }
def queueOnceRow : OpenClaim := { program := "ytcakednecmngdaadoor", sum := "26666058a5e98a19cb143d72cf89c0feb583481a047248b881d1050a7b063a7a", func := "toll/tolllaw19.QueueOnce", spec := "queueOnce", inPlace := ["internal/bytealg.IndexByteString", "internal/bytealg.IndexString"], unfollowed := true, recurses := true, named := ["unicode/utf8.first", "unicode/utf8.acceptRanges", "internal/bytealg.MaxLen"], plainKeys := false, apart := false, laid := [("unicode/utf8.acceptRanges", laid_unicode_utf8_acceptRanges), ("unicode/utf8.first", laid_unicode_utf8_first)] }
def QueueOnceSaid : Prop := queueOnceRow.holds Tryd.pinned (OpenSpec.ofChange queueOnceSpec)

/-- ITS FALSE NEIGHBOUR: 'it returns false'. Refute it at one input. -/
def queueOnceWrong : ChangeSpec := { name := "queueOnce", fn := fun _ => fun
  | [d1, d2] => { results := [.lit (.bool false)], args := [d1, d2] }
  | _ => none }
def QueueOnceWrongFalsely : Prop := queueOnceRow.holds Tryd.pinned (OpenSpec.ofChange queueOnceWrong)

/-- 'tolllaw19.QueueRest': WHATEVER THE INPUT: true; the input reads as it did. -/
def queueRestSpec : ChangeSpec := { name := "queueRest", fn := fun _ => fun
  | [d1, d2] => { results := [.lit (.bool true)], args := [d1, d2] }
  | _ => none }
def queueRestRow : OpenClaim := { program := "ytcakednecmngdaadoor", sum := "26666058a5e98a19cb143d72cf89c0feb583481a047248b881d1050a7b063a7a", func := "toll/tolllaw19.QueueRest", spec := "queueRest", inPlace := ["internal/bytealg.IndexByteString", "internal/bytealg.IndexString"], unfollowed := true, recurses := true, named := ["unicode/utf8.first", "unicode/utf8.acceptRanges", "internal/bytealg.MaxLen"], plainKeys := false, apart := false, laid := [("unicode/utf8.acceptRanges", laid_unicode_utf8_acceptRanges), ("unicode/utf8.first", laid_unicode_utf8_first)] }
def QueueRestSaid : Prop := queueRestRow.holds Tryd.pinned (OpenSpec.ofChange queueRestSpec)

/-- ITS FALSE NEIGHBOUR: 'it returns false'. Refute it at one input. -/
def queueRestWrong : ChangeSpec := { name := "queueRest", fn := fun _ => fun
  | [d1, d2] => { results := [.lit (.bool false)], args := [d1, d2] }
  | _ => none }
def QueueRestWrongFalsely : Prop := queueRestRow.holds Tryd.pinned (OpenSpec.ofChange queueRestWrong)

/-- 'tolllaw19.QueueFull': WHATEVER THE INPUT: true; the input reads as it did. -/
def queueFullSpec : ChangeSpec := { name := "queueFull", fn := fun _ => fun
  | [d] => { results := [.lit (.bool true)], args := [d] }
  | _ => none }
def queueFullRow : OpenClaim := { program := "ytcakednecmngdaadoor", sum := "26666058a5e98a19cb143d72cf89c0feb583481a047248b881d1050a7b063a7a", func := "toll/tolllaw19.QueueFull", spec := "queueFull", inPlace := ["internal/bytealg.IndexByteString", "internal/bytealg.IndexString"], unfollowed := true, recurses := true, named := ["unicode/utf8.first", "unicode/utf8.acceptRanges", "internal/bytealg.MaxLen"], plainKeys := false, apart := false, laid := [("unicode/utf8.acceptRanges", laid_unicode_utf8_acceptRanges), ("unicode/utf8.first", laid_unicode_utf8_first)] }
def QueueFullSaid : Prop := queueFullRow.holds Tryd.pinned (OpenSpec.ofChange queueFullSpec)

/-- ITS FALSE NEIGHBOUR: 'it returns false'. Refute it at one input. -/
def queueFullWrong : ChangeSpec := { name := "queueFull", fn := fun _ => fun
  | [d] => { results := [.lit (.bool false)], args := [d] }
  | _ => none }
def QueueFullWrongFalsely : Prop := queueFullRow.holds Tryd.pinned (OpenSpec.ofChange queueFullWrong)

/-- 'tolllaw01.DnsNames': WHATEVER THE INPUT: true; the input reads as it did. -/
def dnsNamesSpec : ChangeSpec := { name := "dnsNames", fn := fun _ => fun
  | [d] => { results := [.lit (.bool true)], args := [d] }
  | _ => none }
def dnsNamesRow : OpenClaim := { program := "ytcakednecmngdaadoor", sum := "26666058a5e98a19cb143d72cf89c0feb583481a047248b881d1050a7b063a7a", func := "toll/tolllaw01.DnsNames", spec := "dnsNames", inPlace := ["internal/bytealg.IndexByteString", "internal/bytealg.IndexString", "internal/bytealg.CountString"], unfollowed := true, recurses := true, named := ["unicode/utf8.first", "unicode/utf8.acceptRanges", "internal/bytealg.MaxLen"], plainKeys := false, apart := false, laid := [("unicode/utf8.acceptRanges", laid_unicode_utf8_acceptRanges), ("unicode/utf8.first", laid_unicode_utf8_first)] }
def DnsNamesSaid : Prop := dnsNamesRow.holds Tryd.pinned (OpenSpec.ofChange dnsNamesSpec)

/-- ITS FALSE NEIGHBOUR: 'it returns false'. Refute it at one input. -/
def dnsNamesWrong : ChangeSpec := { name := "dnsNames", fn := fun _ => fun
  | [d] => { results := [.lit (.bool false)], args := [d] }
  | _ => none }
def DnsNamesWrongFalsely : Prop := dnsNamesRow.holds Tryd.pinned (OpenSpec.ofChange dnsNamesWrong)

/-- 'tolllaw01.DnsFolds': WHATEVER THE INPUT: true; the input reads as it did. -/
def dnsFoldsSpec : ChangeSpec := { name := "dnsFolds", fn := fun _ => fun
  | [d] => { results := [.lit (.bool true)], args := [d] }
  | _ => none }
def dnsFoldsRow : OpenClaim := { program := "ytcakednecmngdaadoor", sum := "26666058a5e98a19cb143d72cf89c0feb583481a047248b881d1050a7b063a7a", func := "toll/tolllaw01.DnsFolds", spec := "dnsFolds", inPlace := ["internal/bytealg.IndexByteString", "internal/bytealg.IndexString", "internal/bytealg.CountString"], unfollowed := true, recurses := true, named := ["unicode/utf8.first", "unicode/utf8.acceptRanges", "internal/bytealg.MaxLen"], plainKeys := false, apart := false, laid := [("unicode/utf8.acceptRanges", laid_unicode_utf8_acceptRanges), ("unicode/utf8.first", laid_unicode_utf8_first)] }
def DnsFoldsSaid : Prop := dnsFoldsRow.holds Tryd.pinned (OpenSpec.ofChange dnsFoldsSpec)

/-- ITS FALSE NEIGHBOUR: 'it returns false'. Refute it at one input. -/
def dnsFoldsWrong : ChangeSpec := { name := "dnsFolds", fn := fun _ => fun
  | [d] => { results := [.lit (.bool false)], args := [d] }
  | _ => none }
def DnsFoldsWrongFalsely : Prop := dnsFoldsRow.holds Tryd.pinned (OpenSpec.ofChange dnsFoldsWrong)

/-- 'tolllaw08.LabelOne': WHATEVER THE INPUT: true; the input reads as it did. -/
def labelOneSpec : ChangeSpec := { name := "labelOne", fn := fun _ => fun
  | [d1, d2, d3] => { results := [.lit (.bool true)], args := [d1, d2, d3] }
  | _ => none }
def labelOneRow : OpenClaim := { program := "ytcakednecmngdaadoor", sum := "26666058a5e98a19cb143d72cf89c0feb583481a047248b881d1050a7b063a7a", func := "toll/tolllaw08.LabelOne", spec := "labelOne", inPlace := ["internal/bytealg.IndexByteString", "internal/bytealg.IndexString"], unfollowed := true, recurses := true, named := ["unicode/utf8.first", "unicode/utf8.acceptRanges", "internal/bytealg.MaxLen"], plainKeys := false, apart := false, laid := [("unicode/utf8.acceptRanges", laid_unicode_utf8_acceptRanges), ("unicode/utf8.first", laid_unicode_utf8_first)] }
def LabelOneSaid : Prop := labelOneRow.holds Tryd.pinned (OpenSpec.ofChange labelOneSpec)

/-- ITS FALSE NEIGHBOUR: 'it returns false'. Refute it at one input. -/
def labelOneWrong : ChangeSpec := { name := "labelOne", fn := fun _ => fun
  | [d1, d2, d3] => { results := [.lit (.bool false)], args := [d1, d2, d3] }
  | _ => none }
def LabelOneWrongFalsely : Prop := labelOneRow.holds Tryd.pinned (OpenSpec.ofChange labelOneWrong)

/-- 'tolllaw08.LabelKinds': WHATEVER THE INPUT: true; the input reads as it did. -/
def labelKindsSpec : ChangeSpec := { name := "labelKinds", fn := fun _ => fun
  | [d1, d2, d3] => { results := [.lit (.bool true)], args := [d1, d2, d3] }
  | _ => none }
def labelKindsRow : OpenClaim := { program := "ytcakednecmngdaadoor", sum := "26666058a5e98a19cb143d72cf89c0feb583481a047248b881d1050a7b063a7a", func := "toll/tolllaw08.LabelKinds", spec := "labelKinds", inPlace := ["internal/bytealg.IndexByteString", "internal/bytealg.IndexString"], unfollowed := true, recurses := true, named := ["unicode/utf8.first", "unicode/utf8.acceptRanges", "internal/bytealg.MaxLen"], plainKeys := false, apart := false, laid := [("unicode/utf8.acceptRanges", laid_unicode_utf8_acceptRanges), ("unicode/utf8.first", laid_unicode_utf8_first)] }
def LabelKindsSaid : Prop := labelKindsRow.holds Tryd.pinned (OpenSpec.ofChange labelKindsSpec)

/-- ITS FALSE NEIGHBOUR: 'it returns false'. Refute it at one input. -/
def labelKindsWrong : ChangeSpec := { name := "labelKinds", fn := fun _ => fun
  | [d1, d2, d3] => { results := [.lit (.bool false)], args := [d1, d2, d3] }
  | _ => none }
def LabelKindsWrongFalsely : Prop := labelKindsRow.holds Tryd.pinned (OpenSpec.ofChange labelKindsWrong)

/-- 'tolllaw08.LabelOrder': WHATEVER THE INPUT: true; the input reads as it did. -/
def labelOrderSpec : ChangeSpec := { name := "labelOrder", fn := fun _ => fun
  | [d1, d2, d3] => { results := [.lit (.bool true)], args := [d1, d2, d3] }
  | _ => none }
def labelOrderRow : OpenClaim := { program := "ytcakednecmngdaadoor", sum := "26666058a5e98a19cb143d72cf89c0feb583481a047248b881d1050a7b063a7a", func := "toll/tolllaw08.LabelOrder", spec := "labelOrder", inPlace := ["internal/bytealg.IndexByteString", "internal/bytealg.IndexString"], unfollowed := true, recurses := true, named := ["unicode/utf8.first", "unicode/utf8.acceptRanges", "internal/bytealg.MaxLen"], plainKeys := false, apart := false, laid := [("unicode/utf8.acceptRanges", laid_unicode_utf8_acceptRanges), ("unicode/utf8.first", laid_unicode_utf8_first)] }
def LabelOrderSaid : Prop := labelOrderRow.holds Tryd.pinned (OpenSpec.ofChange labelOrderSpec)

/-- ITS FALSE NEIGHBOUR: 'it returns false'. Refute it at one input. -/
def labelOrderWrong : ChangeSpec := { name := "labelOrder", fn := fun _ => fun
  | [d1, d2, d3] => { results := [.lit (.bool false)], args := [d1, d2, d3] }
  | _ => none }
def LabelOrderWrongFalsely : Prop := labelOrderRow.holds Tryd.pinned (OpenSpec.ofChange labelOrderWrong)

/-- 'tolllaw08.LabelNots': WHATEVER THE INPUT: true; the input reads as it did. -/
def labelNotsSpec : ChangeSpec := { name := "labelNots", fn := fun _ => fun
  | [d1, d2] => { results := [.lit (.bool true)], args := [d1, d2] }
  | _ => none }
def labelNotsRow : OpenClaim := { program := "ytcakednecmngdaadoor", sum := "26666058a5e98a19cb143d72cf89c0feb583481a047248b881d1050a7b063a7a", func := "toll/tolllaw08.LabelNots", spec := "labelNots", inPlace := ["internal/bytealg.IndexByteString", "internal/bytealg.IndexString"], unfollowed := true, recurses := true, named := ["unicode/utf8.first", "unicode/utf8.acceptRanges", "internal/bytealg.MaxLen"], plainKeys := false, apart := false, laid := [("unicode/utf8.acceptRanges", laid_unicode_utf8_acceptRanges), ("unicode/utf8.first", laid_unicode_utf8_first)] }
def LabelNotsSaid : Prop := labelNotsRow.holds Tryd.pinned (OpenSpec.ofChange labelNotsSpec)

/-- ITS FALSE NEIGHBOUR: 'it returns false'. Refute it at one input. -/
def labelNotsWrong : ChangeSpec := { name := "labelNots", fn := fun _ => fun
  | [d1, d2] => { results := [.lit (.bool false)], args := [d1, d2] }
  | _ => none }
def LabelNotsWrongFalsely : Prop := labelNotsRow.holds Tryd.pinned (OpenSpec.ofChange labelNotsWrong)

/-- 'tolllaw08.LabelMore': WHATEVER THE INPUT: true; the input reads as it did. -/
def labelMoreSpec : ChangeSpec := { name := "labelMore", fn := fun _ => fun
  | [d1, d2, d3] => { results := [.lit (.bool true)], args := [d1, d2, d3] }
  | _ => none }
def labelMoreRow : OpenClaim := { program := "ytcakednecmngdaadoor", sum := "26666058a5e98a19cb143d72cf89c0feb583481a047248b881d1050a7b063a7a", func := "toll/tolllaw08.LabelMore", spec := "labelMore", inPlace := ["internal/bytealg.IndexByteString", "internal/bytealg.IndexString"], unfollowed := true, recurses := true, named := ["unicode/utf8.first", "unicode/utf8.acceptRanges", "internal/bytealg.MaxLen"], plainKeys := false, apart := false, laid := [("unicode/utf8.acceptRanges", laid_unicode_utf8_acceptRanges), ("unicode/utf8.first", laid_unicode_utf8_first)] }
def LabelMoreSaid : Prop := labelMoreRow.holds Tryd.pinned (OpenSpec.ofChange labelMoreSpec)

/-- ITS FALSE NEIGHBOUR: 'it returns false'. Refute it at one input. -/
def labelMoreWrong : ChangeSpec := { name := "labelMore", fn := fun _ => fun
  | [d1, d2, d3] => { results := [.lit (.bool false)], args := [d1, d2, d3] }
  | _ => none }
def LabelMoreWrongFalsely : Prop := labelMoreRow.holds Tryd.pinned (OpenSpec.ofChange labelMoreWrong)

/-- 'tolllaw08.LabelNone': WHATEVER THE INPUT: true; the input reads as it did. -/
def labelNoneSpec : ChangeSpec := { name := "labelNone", fn := fun _ => fun
  | [d1, d2] => { results := [.lit (.bool true)], args := [d1, d2] }
  | _ => none }
def labelNoneRow : OpenClaim := { program := "ytcakednecmngdaadoor", sum := "26666058a5e98a19cb143d72cf89c0feb583481a047248b881d1050a7b063a7a", func := "toll/tolllaw08.LabelNone", spec := "labelNone", inPlace := ["internal/bytealg.IndexByteString", "internal/bytealg.IndexString"], unfollowed := true, recurses := true, named := ["unicode/utf8.first", "unicode/utf8.acceptRanges", "internal/bytealg.MaxLen"], plainKeys := false, apart := false, laid := [("unicode/utf8.acceptRanges", laid_unicode_utf8_acceptRanges), ("unicode/utf8.first", laid_unicode_utf8_first)] }
def LabelNoneSaid : Prop := labelNoneRow.holds Tryd.pinned (OpenSpec.ofChange labelNoneSpec)

/-- ITS FALSE NEIGHBOUR: 'it returns false'. Refute it at one input. -/
def labelNoneWrong : ChangeSpec := { name := "labelNone", fn := fun _ => fun
  | [d1, d2] => { results := [.lit (.bool false)], args := [d1, d2] }
  | _ => none }
def LabelNoneWrongFalsely : Prop := labelNoneRow.holds Tryd.pinned (OpenSpec.ofChange labelNoneWrong)

/-- 'tolllaw01.DnsKeys': WHATEVER THE INPUT: true; the input reads as it did. -/
def dnsKeysSpec : ChangeSpec := { name := "dnsKeys", fn := fun _ => fun
  | [d1, d2, d3] => { results := [.lit (.bool true)], args := [d1, d2, d3] }
  | _ => none }
def dnsKeysRow : OpenClaim := { program := "ytcakednecmngdaadoor", sum := "26666058a5e98a19cb143d72cf89c0feb583481a047248b881d1050a7b063a7a", func := "toll/tolllaw01.DnsKeys", spec := "dnsKeys", inPlace := ["internal/bytealg.IndexByteString", "internal/bytealg.IndexString", "internal/bytealg.CountString"], unfollowed := true, recurses := true, named := ["unicode/utf8.first", "unicode/utf8.acceptRanges", "internal/bytealg.MaxLen"], plainKeys := false, apart := false, laid := [("unicode/utf8.acceptRanges", laid_unicode_utf8_acceptRanges), ("unicode/utf8.first", laid_unicode_utf8_first)] }
def DnsKeysSaid : Prop := dnsKeysRow.holds Tryd.pinned (OpenSpec.ofChange dnsKeysSpec)

/-- ITS FALSE NEIGHBOUR: 'it returns false'. Refute it at one input. -/
def dnsKeysWrong : ChangeSpec := { name := "dnsKeys", fn := fun _ => fun
  | [d1, d2, d3] => { results := [.lit (.bool false)], args := [d1, d2, d3] }
  | _ => none }
def DnsKeysWrongFalsely : Prop := dnsKeysRow.holds Tryd.pinned (OpenSpec.ofChange dnsKeysWrong)

/-- 'tolllaw01.DnsBacks': WHATEVER THE INPUT: true; the input reads as it did. -/
def dnsBacksSpec : ChangeSpec := { name := "dnsBacks", fn := fun _ => fun
  | [d1, d2] => { results := [.lit (.bool true)], args := [d1, d2] }
  | _ => none }
def dnsBacksRow : OpenClaim := { program := "ytcakednecmngdaadoor", sum := "26666058a5e98a19cb143d72cf89c0feb583481a047248b881d1050a7b063a7a", func := "toll/tolllaw01.DnsBacks", spec := "dnsBacks", inPlace := ["internal/bytealg.IndexByteString", "internal/bytealg.IndexString", "internal/bytealg.CountString"], unfollowed := true, recurses := true, named := ["unicode/utf8.first", "unicode/utf8.acceptRanges", "internal/bytealg.MaxLen"], plainKeys := false, apart := false, laid := [("unicode/utf8.acceptRanges", laid_unicode_utf8_acceptRanges), ("unicode/utf8.first", laid_unicode_utf8_first)] }
def DnsBacksSaid : Prop := dnsBacksRow.holds Tryd.pinned (OpenSpec.ofChange dnsBacksSpec)

/-- ITS FALSE NEIGHBOUR: 'it returns false'. Refute it at one input. -/
def dnsBacksWrong : ChangeSpec := { name := "dnsBacks", fn := fun _ => fun
  | [d1, d2] => { results := [.lit (.bool false)], args := [d1, d2] }
  | _ => none }
def DnsBacksWrongFalsely : Prop := dnsBacksRow.holds Tryd.pinned (OpenSpec.ofChange dnsBacksWrong)

/-- 'tolllaw19.QueueDoes': WHATEVER THE INPUT: true; the input reads as it did. -/
def queueDoesSpec : ChangeSpec := { name := "queueDoes", fn := fun _ => fun
  | [d] => { results := [.lit (.bool true)], args := [d] }
  | _ => none }
def queueDoesRow : OpenClaim := { program := "ytcakednecmngdaadoor", sum := "26666058a5e98a19cb143d72cf89c0feb583481a047248b881d1050a7b063a7a", func := "toll/tolllaw19.QueueDoes", spec := "queueDoes", inPlace := ["internal/bytealg.IndexByteString", "internal/bytealg.IndexString"], unfollowed := true, recurses := true, named := ["unicode/utf8.first", "unicode/utf8.acceptRanges", "internal/bytealg.MaxLen"], plainKeys := false, apart := false, laid := [("unicode/utf8.acceptRanges", laid_unicode_utf8_acceptRanges), ("unicode/utf8.first", laid_unicode_utf8_first)] }
def QueueDoesSaid : Prop := queueDoesRow.holds Tryd.pinned (OpenSpec.ofChange queueDoesSpec)

/-- ITS FALSE NEIGHBOUR: 'it returns false'. Refute it at one input. -/
def queueDoesWrong : ChangeSpec := { name := "queueDoes", fn := fun _ => fun
  | [d] => { results := [.lit (.bool false)], args := [d] }
  | _ => none }
def QueueDoesWrongFalsely : Prop := queueDoesRow.holds Tryd.pinned (OpenSpec.ofChange queueDoesWrong)

/-- 'tolllaw19.QueueTwice': WHATEVER THE INPUT: true; the input reads as it did. -/
def queueTwiceSpec : ChangeSpec := { name := "queueTwice", fn := fun _ => fun
  | [d1, d2, d3] => { results := [.lit (.bool true)], args := [d1, d2, d3] }
  | _ => none }
def queueTwiceRow : OpenClaim := { program := "ytcakednecmngdaadoor", sum := "26666058a5e98a19cb143d72cf89c0feb583481a047248b881d1050a7b063a7a", func := "toll/tolllaw19.QueueTwice", spec := "queueTwice", inPlace := ["internal/bytealg.IndexByteString", "internal/bytealg.IndexString"], unfollowed := true, recurses := true, named := ["unicode/utf8.first", "unicode/utf8.acceptRanges", "internal/bytealg.MaxLen"], plainKeys := false, apart := false, laid := [("unicode/utf8.acceptRanges", laid_unicode_utf8_acceptRanges), ("unicode/utf8.first", laid_unicode_utf8_first)] }
def QueueTwiceSaid : Prop := queueTwiceRow.holds Tryd.pinned (OpenSpec.ofChange queueTwiceSpec)

/-- ITS FALSE NEIGHBOUR: 'it returns false'. Refute it at one input. -/
def queueTwiceWrong : ChangeSpec := { name := "queueTwice", fn := fun _ => fun
  | [d1, d2, d3] => { results := [.lit (.bool false)], args := [d1, d2, d3] }
  | _ => none }
def QueueTwiceWrongFalsely : Prop := queueTwiceRow.holds Tryd.pinned (OpenSpec.ofChange queueTwiceWrong)

/-- 'tolllaw19.QueueDrops': WHATEVER THE INPUT: true; the input reads as it did. -/
def queueDropsSpec : ChangeSpec := { name := "queueDrops", fn := fun _ => fun
  | [d1, d2] => { results := [.lit (.bool true)], args := [d1, d2] }
  | _ => none }
def queueDropsRow : OpenClaim := { program := "ytcakednecmngdaadoor", sum := "26666058a5e98a19cb143d72cf89c0feb583481a047248b881d1050a7b063a7a", func := "toll/tolllaw19.QueueDrops", spec := "queueDrops", inPlace := ["internal/bytealg.IndexByteString", "internal/bytealg.IndexString"], unfollowed := true, recurses := true, named := ["unicode/utf8.first", "unicode/utf8.acceptRanges", "internal/bytealg.MaxLen"], plainKeys := false, apart := false, laid := [("unicode/utf8.acceptRanges", laid_unicode_utf8_acceptRanges), ("unicode/utf8.first", laid_unicode_utf8_first)] }
def QueueDropsSaid : Prop := queueDropsRow.holds Tryd.pinned (OpenSpec.ofChange queueDropsSpec)

/-- ITS FALSE NEIGHBOUR: 'it returns false'. Refute it at one input. -/
def queueDropsWrong : ChangeSpec := { name := "queueDrops", fn := fun _ => fun
  | [d1, d2] => { results := [.lit (.bool false)], args := [d1, d2] }
  | _ => none }
def QueueDropsWrongFalsely : Prop := queueDropsRow.holds Tryd.pinned (OpenSpec.ofChange queueDropsWrong)

/-- 'tolllaw08.LabelMeets': WHATEVER THE INPUT: true; the input reads as it did. -/
def labelMeetsSpec : ChangeSpec := { name := "labelMeets", fn := fun _ => fun
  | [d1, d2, d3] => { results := [.lit (.bool true)], args := [d1, d2, d3] }
  | _ => none }
def labelMeetsRow : OpenClaim := { program := "ytcakednecmngdaadoor", sum := "26666058a5e98a19cb143d72cf89c0feb583481a047248b881d1050a7b063a7a", func := "toll/tolllaw08.LabelMeets", spec := "labelMeets", inPlace := ["internal/bytealg.IndexByteString", "internal/bytealg.IndexString"], unfollowed := true, recurses := true, named := ["unicode/utf8.first", "unicode/utf8.acceptRanges", "internal/bytealg.MaxLen"], plainKeys := false, apart := false, laid := [("unicode/utf8.acceptRanges", laid_unicode_utf8_acceptRanges), ("unicode/utf8.first", laid_unicode_utf8_first)] }
def LabelMeetsSaid : Prop := labelMeetsRow.holds Tryd.pinned (OpenSpec.ofChange labelMeetsSpec)

/-- ITS FALSE NEIGHBOUR: 'it returns false'. Refute it at one input. -/
def labelMeetsWrong : ChangeSpec := { name := "labelMeets", fn := fun _ => fun
  | [d1, d2, d3] => { results := [.lit (.bool false)], args := [d1, d2, d3] }
  | _ => none }
def LabelMeetsWrongFalsely : Prop := labelMeetsRow.holds Tryd.pinned (OpenSpec.ofChange labelMeetsWrong)

/-- 'tolllaw04.QueryTexts': WHATEVER THE INPUT: true; the input reads as it did. -/
def queryTextsSpec : ChangeSpec := { name := "queryTexts", fn := fun _ => fun
  | [d1, d2] => { results := [.lit (.bool true)], args := [d1, d2] }
  | _ => none }
def queryTextsRow : OpenClaim := { program := "ytcakednecmngdaadoor", sum := "26666058a5e98a19cb143d72cf89c0feb583481a047248b881d1050a7b063a7a", func := "toll/tolllaw04.QueryTexts", spec := "queryTexts", inPlace := ["internal/bytealg.IndexByteString", "internal/abi.NoEscape", "internal/bytealg.MakeNoZero", "internal/bytealg.IndexString"], unfollowed := true, recurses := true, named := ["unicode/utf8.first", "unicode/utf8.acceptRanges", "internal/bytealg.MaxLen"], plainKeys := false, apart := false, laid := [("unicode/utf8.acceptRanges", laid_unicode_utf8_acceptRanges), ("unicode/utf8.first", laid_unicode_utf8_first)] }
def QueryTextsSaid : Prop := queryTextsRow.holds Tryd.pinned (OpenSpec.ofChange queryTextsSpec)

/-- ITS FALSE NEIGHBOUR: 'it returns false'. Refute it at one input. -/
def queryTextsWrong : ChangeSpec := { name := "queryTexts", fn := fun _ => fun
  | [d1, d2] => { results := [.lit (.bool false)], args := [d1, d2] }
  | _ => none }
def QueryTextsWrongFalsely : Prop := queryTextsRow.holds Tryd.pinned (OpenSpec.ofChange queryTextsWrong)

/-- 'tolllaw04.QueryParses': WHATEVER THE INPUT: true; the input reads as it did. -/
def queryParsesSpec : ChangeSpec := { name := "queryParses", fn := fun _ => fun
  | [d] => { results := [.lit (.bool true)], args := [d] }
  | _ => none }
def queryParsesRow : OpenClaim := { program := "ytcakednecmngdaadoor", sum := "26666058a5e98a19cb143d72cf89c0feb583481a047248b881d1050a7b063a7a", func := "toll/tolllaw04.QueryParses", spec := "queryParses", inPlace := ["internal/bytealg.IndexByteString", "internal/bytealg.IndexString", "internal/abi.NoEscape", "internal/bytealg.MakeNoZero"], unfollowed := true, recurses := true, named := ["unicode/utf8.first", "unicode/utf8.acceptRanges", "internal/bytealg.MaxLen"], plainKeys := false, apart := false, laid := [("unicode/utf8.acceptRanges", laid_unicode_utf8_acceptRanges), ("unicode/utf8.first", laid_unicode_utf8_first)] }
def QueryParsesSaid : Prop := queryParsesRow.holds Tryd.pinned (OpenSpec.ofChange queryParsesSpec)

/-- ITS FALSE NEIGHBOUR: 'it returns false'. Refute it at one input. -/
def queryParsesWrong : ChangeSpec := { name := "queryParses", fn := fun _ => fun
  | [d] => { results := [.lit (.bool false)], args := [d] }
  | _ => none }
def QueryParsesWrongFalsely : Prop := queryParsesRow.holds Tryd.pinned (OpenSpec.ofChange queryParsesWrong)

/-- 'tolllaw04.QueryJoins': WHATEVER THE INPUT: true; the input reads as it did. -/
def queryJoinsSpec : ChangeSpec := { name := "queryJoins", fn := fun _ => fun
  | [d1, d2] => { results := [.lit (.bool true)], args := [d1, d2] }
  | _ => none }
def queryJoinsRow : OpenClaim := { program := "ytcakednecmngdaadoor", sum := "26666058a5e98a19cb143d72cf89c0feb583481a047248b881d1050a7b063a7a", func := "toll/tolllaw04.QueryJoins", spec := "queryJoins", inPlace := ["internal/bytealg.IndexByteString", "internal/bytealg.IndexString", "internal/abi.NoEscape", "internal/bytealg.MakeNoZero"], unfollowed := true, recurses := true, named := ["unicode/utf8.first", "unicode/utf8.acceptRanges", "internal/bytealg.MaxLen"], plainKeys := false, apart := false, laid := [("unicode/utf8.acceptRanges", laid_unicode_utf8_acceptRanges), ("unicode/utf8.first", laid_unicode_utf8_first)] }
def QueryJoinsSaid : Prop := queryJoinsRow.holds Tryd.pinned (OpenSpec.ofChange queryJoinsSpec)

/-- ITS FALSE NEIGHBOUR: 'it returns false'. Refute it at one input. -/
def queryJoinsWrong : ChangeSpec := { name := "queryJoins", fn := fun _ => fun
  | [d1, d2] => { results := [.lit (.bool false)], args := [d1, d2] }
  | _ => none }
def QueryJoinsWrongFalsely : Prop := queryJoinsRow.holds Tryd.pinned (OpenSpec.ofChange queryJoinsWrong)

/-- 'tolllaw04.QueryOctets': WHATEVER THE INPUT: true; the input reads as it did. -/
def queryOctetsSpec : ChangeSpec := { name := "queryOctets", fn := fun _ => fun
  | [d1, d2] => { results := [.lit (.bool true)], args := [d1, d2] }
  | _ => none }
def queryOctetsRow : OpenClaim := { program := "ytcakednecmngdaadoor", sum := "26666058a5e98a19cb143d72cf89c0feb583481a047248b881d1050a7b063a7a", func := "toll/tolllaw04.QueryOctets", spec := "queryOctets", inPlace := ["internal/bytealg.IndexByteString", "internal/abi.NoEscape", "internal/bytealg.MakeNoZero", "internal/bytealg.IndexString"], unfollowed := true, recurses := true, named := ["unicode/utf8.first", "unicode/utf8.acceptRanges", "internal/bytealg.MaxLen"], plainKeys := false, apart := false, laid := [("unicode/utf8.acceptRanges", laid_unicode_utf8_acceptRanges), ("unicode/utf8.first", laid_unicode_utf8_first)] }
def QueryOctetsSaid : Prop := queryOctetsRow.holds Tryd.pinned (OpenSpec.ofChange queryOctetsSpec)

/-- ITS FALSE NEIGHBOUR: 'it returns false'. Refute it at one input. -/
def queryOctetsWrong : ChangeSpec := { name := "queryOctets", fn := fun _ => fun
  | [d1, d2] => { results := [.lit (.bool false)], args := [d1, d2] }
  | _ => none }
def QueryOctetsWrongFalsely : Prop := queryOctetsRow.holds Tryd.pinned (OpenSpec.ofChange queryOctetsWrong)

/-- 'tolllaw04.QueryApart': WHATEVER THE INPUT: true; the input reads as it did. -/
def queryApartSpec : ChangeSpec := { name := "queryApart", fn := fun _ => fun
  | [d1, d2] => { results := [.lit (.bool true)], args := [d1, d2] }
  | _ => none }
def queryApartRow : OpenClaim := { program := "ytcakednecmngdaadoor", sum := "26666058a5e98a19cb143d72cf89c0feb583481a047248b881d1050a7b063a7a", func := "toll/tolllaw04.QueryApart", spec := "queryApart", inPlace := ["internal/bytealg.IndexByteString", "internal/abi.NoEscape", "internal/bytealg.MakeNoZero", "internal/bytealg.IndexString"], unfollowed := true, recurses := true, named := ["unicode/utf8.first", "unicode/utf8.acceptRanges", "internal/bytealg.MaxLen"], plainKeys := false, apart := false, laid := [("unicode/utf8.acceptRanges", laid_unicode_utf8_acceptRanges), ("unicode/utf8.first", laid_unicode_utf8_first)] }
def QueryApartSaid : Prop := queryApartRow.holds Tryd.pinned (OpenSpec.ofChange queryApartSpec)

/-- ITS FALSE NEIGHBOUR: 'it returns false'. Refute it at one input. -/
def queryApartWrong : ChangeSpec := { name := "queryApart", fn := fun _ => fun
  | [d1, d2] => { results := [.lit (.bool false)], args := [d1, d2] }
  | _ => none }
def QueryApartWrongFalsely : Prop := queryApartRow.holds Tryd.pinned (OpenSpec.ofChange queryApartWrong)

/-- 'tolllaw04.QueryTurns': WHATEVER THE INPUT: true; the input reads as it did. -/
def queryTurnsSpec : ChangeSpec := { name := "queryTurns", fn := fun _ => fun
  | [d1, d2] => { results := [.lit (.bool true)], args := [d1, d2] }
  | _ => none }
def queryTurnsRow : OpenClaim := { program := "ytcakednecmngdaadoor", sum := "26666058a5e98a19cb143d72cf89c0feb583481a047248b881d1050a7b063a7a", func := "toll/tolllaw04.QueryTurns", spec := "queryTurns", inPlace := ["internal/bytealg.IndexByteString", "internal/abi.NoEscape", "internal/bytealg.MakeNoZero", "internal/bytealg.IndexString"], unfollowed := true, recurses := true, named := ["unicode/utf8.first", "unicode/utf8.acceptRanges", "internal/bytealg.MaxLen"], plainKeys := false, apart := false, laid := [("unicode/utf8.acceptRanges", laid_unicode_utf8_acceptRanges), ("unicode/utf8.first", laid_unicode_utf8_first)] }
def QueryTurnsSaid : Prop := queryTurnsRow.holds Tryd.pinned (OpenSpec.ofChange queryTurnsSpec)

/-- ITS FALSE NEIGHBOUR: 'it returns false'. Refute it at one input. -/
def queryTurnsWrong : ChangeSpec := { name := "queryTurns", fn := fun _ => fun
  | [d1, d2] => { results := [.lit (.bool false)], args := [d1, d2] }
  | _ => none }
def QueryTurnsWrongFalsely : Prop := queryTurnsRow.holds Tryd.pinned (OpenSpec.ofChange queryTurnsWrong)

/-- 'tolllaw04.QueryDigits': WHATEVER THE INPUT: true; the input reads as it did. -/
def queryDigitsSpec : ChangeSpec := { name := "queryDigits", fn := fun _ => fun
  | [d] => { results := [.lit (.bool true)], args := [d] }
  | _ => none }
def queryDigitsRow : OpenClaim := { program := "ytcakednecmngdaadoor", sum := "26666058a5e98a19cb143d72cf89c0feb583481a047248b881d1050a7b063a7a", func := "toll/tolllaw04.QueryDigits", spec := "queryDigits", inPlace := ["internal/bytealg.IndexByteString", "internal/bytealg.IndexString", "internal/abi.NoEscape", "internal/bytealg.MakeNoZero"], unfollowed := true, recurses := true, named := ["unicode/utf8.first", "unicode/utf8.acceptRanges", "internal/bytealg.MaxLen"], plainKeys := false, apart := false, laid := [("unicode/utf8.acceptRanges", laid_unicode_utf8_acceptRanges), ("unicode/utf8.first", laid_unicode_utf8_first)] }
def QueryDigitsSaid : Prop := queryDigitsRow.holds Tryd.pinned (OpenSpec.ofChange queryDigitsSpec)

/-- ITS FALSE NEIGHBOUR: 'it returns false'. Refute it at one input. -/
def queryDigitsWrong : ChangeSpec := { name := "queryDigits", fn := fun _ => fun
  | [d] => { results := [.lit (.bool false)], args := [d] }
  | _ => none }
def QueryDigitsWrongFalsely : Prop := queryDigitsRow.holds Tryd.pinned (OpenSpec.ofChange queryDigitsWrong)

/- THE SECOND FORM. 'bulk': how many values and letters a reading holds, each counted each time it is reached (what is shared counts as often as it is met; a slice's spare places count too). A statement '..UptoSaid' is the law's where the arguments, and the package variables that the reading takes, are together of bulk at most 1048576: NARROWER than '..Said'. Prove '..Said' where nothing that the law and all that it calls make is longer than what came in: it says more and counts as full. Else prove '..UptoSaid'. A law counts once. -/
mutual
def uptoBulk {H : Type} : DataW H → Nat
  | .lit (.string bytes) => bytes.length + 1
  | .lit _ => 1
  | .nil => 1
  | .ptr d => uptoBulk d + 1
  | .slice elems spare => uptoBulkAll elems + uptoBulkAll spare + 1
  | .agg parts => uptoBulkAll parts + 1
  | .iface _ d => uptoBulk d + 1
  | .map entries => uptoBulkEntries entries + 1
  | .held _ => 1
def uptoBulkAll {H : Type} : List (DataW H) → Nat
  | [] => 0
  | d :: r => uptoBulk d + uptoBulkAll r
def uptoBulkEntries {H : Type} : List (Lit × DataW H) → Nat
  | [] => 0
  | x :: r => uptoBulkEntry x + uptoBulkEntries r
def uptoBulkEntry {H : Type} : Lit × DataW H → Nat
  | (.string bytes, d) => bytes.length + uptoBulk d + 1
  | (_, d) => uptoBulk d + 1
 end
def uptoSmall : (H : Type) → List (DataW H) → Bool := fun _ ds => decide (uptoBulkAll ds ≤ 1048576)
def OpenSpec.upto (s : _root_.Go.ChangeSpec) : _root_.Go.OpenSpec := { _root_.Go.OpenSpec.ofChange s with cond := some uptoSmall }

/-- 'tolllaw01.DnsUnders', WHERE WHAT IT READS IS OF BULK AT MOST 1048576: true; the input reads as it did. -/
def dnsUndersUptoRow : OpenClaim := { program := "ytcakednecmngdaadoor", sum := "26666058a5e98a19cb143d72cf89c0feb583481a047248b881d1050a7b063a7a", func := "toll/tolllaw01.DnsUnders", spec := "dnsUnders", inPlace := ["internal/bytealg.IndexByteString", "internal/bytealg.IndexString", "internal/bytealg.CountString"], unfollowed := true, recurses := true, named := ["unicode/utf8.first", "unicode/utf8.acceptRanges", "internal/bytealg.MaxLen"], plainKeys := false, apart := false, laid := [("unicode/utf8.acceptRanges", laid_unicode_utf8_acceptRanges), ("unicode/utf8.first", laid_unicode_utf8_first)], narrowed := true }
def DnsUndersUptoSaid : Prop := dnsUndersUptoRow.holds Tryd.pinned (OpenSpec.upto dnsUndersSpec)

/-- 'tolllaw01.DnsGoes', WHERE WHAT IT READS IS OF BULK AT MOST 1048576: true; the input reads as it did. -/
def dnsGoesUptoRow : OpenClaim := { program := "ytcakednecmngdaadoor", sum := "26666058a5e98a19cb143d72cf89c0feb583481a047248b881d1050a7b063a7a", func := "toll/tolllaw01.DnsGoes", spec := "dnsGoes", inPlace := ["internal/bytealg.IndexByteString", "internal/bytealg.IndexString", "internal/bytealg.CountString"], unfollowed := true, recurses := true, named := ["unicode/utf8.first", "unicode/utf8.acceptRanges", "internal/bytealg.MaxLen"], plainKeys := false, apart := false, laid := [("unicode/utf8.acceptRanges", laid_unicode_utf8_acceptRanges), ("unicode/utf8.first", laid_unicode_utf8_first)], narrowed := true }
def DnsGoesUptoSaid : Prop := dnsGoesUptoRow.holds Tryd.pinned (OpenSpec.upto dnsGoesSpec)

/-- 'tolllaw01.DnsLabels', WHERE WHAT IT READS IS OF BULK AT MOST 1048576: true; the input reads as it did. -/
def dnsLabelsUptoRow : OpenClaim := { program := "ytcakednecmngdaadoor", sum := "26666058a5e98a19cb143d72cf89c0feb583481a047248b881d1050a7b063a7a", func := "toll/tolllaw01.DnsLabels", spec := "dnsLabels", inPlace := ["internal/bytealg.IndexByteString", "internal/bytealg.IndexString", "internal/bytealg.CountString"], unfollowed := true, recurses := true, named := ["unicode/utf8.first", "unicode/utf8.acceptRanges", "internal/bytealg.MaxLen"], plainKeys := false, apart := false, laid := [("unicode/utf8.acceptRanges", laid_unicode_utf8_acceptRanges), ("unicode/utf8.first", laid_unicode_utf8_first)], narrowed := true }
def DnsLabelsUptoSaid : Prop := dnsLabelsUptoRow.holds Tryd.pinned (OpenSpec.upto dnsLabelsSpec)

/-- 'tolllaw19.QueueOnce', WHERE WHAT IT READS IS OF BULK AT MOST 1048576: true; the input reads as it did. -/
def queueOnceUptoRow : OpenClaim := { program := "ytcakednecmngdaadoor", sum := "26666058a5e98a19cb143d72cf89c0feb583481a047248b881d1050a7b063a7a", func := "toll/tolllaw19.QueueOnce", spec := "queueOnce", inPlace := ["internal/bytealg.IndexByteString", "internal/bytealg.IndexString"], unfollowed := true, recurses := true, named := ["unicode/utf8.first", "unicode/utf8.acceptRanges", "internal/bytealg.MaxLen"], plainKeys := false, apart := false, laid := [("unicode/utf8.acceptRanges", laid_unicode_utf8_acceptRanges), ("unicode/utf8.first", laid_unicode_utf8_first)], narrowed := true }
def QueueOnceUptoSaid : Prop := queueOnceUptoRow.holds Tryd.pinned (OpenSpec.upto queueOnceSpec)

/-- 'tolllaw19.QueueRest', WHERE WHAT IT READS IS OF BULK AT MOST 1048576: true; the input reads as it did. -/
def queueRestUptoRow : OpenClaim := { program := "ytcakednecmngdaadoor", sum := "26666058a5e98a19cb143d72cf89c0feb583481a047248b881d1050a7b063a7a", func := "toll/tolllaw19.QueueRest", spec := "queueRest", inPlace := ["internal/bytealg.IndexByteString", "internal/bytealg.IndexString"], unfollowed := true, recurses := true, named := ["unicode/utf8.first", "unicode/utf8.acceptRanges", "internal/bytealg.MaxLen"], plainKeys := false, apart := false, laid := [("unicode/utf8.acceptRanges", laid_unicode_utf8_acceptRanges), ("unicode/utf8.first", laid_unicode_utf8_first)], narrowed := true }
def QueueRestUptoSaid : Prop := queueRestUptoRow.holds Tryd.pinned (OpenSpec.upto queueRestSpec)

/-- 'tolllaw19.QueueFull', WHERE WHAT IT READS IS OF BULK AT MOST 1048576: true; the input reads as it did. -/
def queueFullUptoRow : OpenClaim := { program := "ytcakednecmngdaadoor", sum := "26666058a5e98a19cb143d72cf89c0feb583481a047248b881d1050a7b063a7a", func := "toll/tolllaw19.QueueFull", spec := "queueFull", inPlace := ["internal/bytealg.IndexByteString", "internal/bytealg.IndexString"], unfollowed := true, recurses := true, named := ["unicode/utf8.first", "unicode/utf8.acceptRanges", "internal/bytealg.MaxLen"], plainKeys := false, apart := false, laid := [("unicode/utf8.acceptRanges", laid_unicode_utf8_acceptRanges), ("unicode/utf8.first", laid_unicode_utf8_first)], narrowed := true }
def QueueFullUptoSaid : Prop := queueFullUptoRow.holds Tryd.pinned (OpenSpec.upto queueFullSpec)

/-- 'tolllaw01.DnsNames', WHERE WHAT IT READS IS OF BULK AT MOST 1048576: true; the input reads as it did. -/
def dnsNamesUptoRow : OpenClaim := { program := "ytcakednecmngdaadoor", sum := "26666058a5e98a19cb143d72cf89c0feb583481a047248b881d1050a7b063a7a", func := "toll/tolllaw01.DnsNames", spec := "dnsNames", inPlace := ["internal/bytealg.IndexByteString", "internal/bytealg.IndexString", "internal/bytealg.CountString"], unfollowed := true, recurses := true, named := ["unicode/utf8.first", "unicode/utf8.acceptRanges", "internal/bytealg.MaxLen"], plainKeys := false, apart := false, laid := [("unicode/utf8.acceptRanges", laid_unicode_utf8_acceptRanges), ("unicode/utf8.first", laid_unicode_utf8_first)], narrowed := true }
def DnsNamesUptoSaid : Prop := dnsNamesUptoRow.holds Tryd.pinned (OpenSpec.upto dnsNamesSpec)

/-- 'tolllaw01.DnsFolds', WHERE WHAT IT READS IS OF BULK AT MOST 1048576: true; the input reads as it did. -/
def dnsFoldsUptoRow : OpenClaim := { program := "ytcakednecmngdaadoor", sum := "26666058a5e98a19cb143d72cf89c0feb583481a047248b881d1050a7b063a7a", func := "toll/tolllaw01.DnsFolds", spec := "dnsFolds", inPlace := ["internal/bytealg.IndexByteString", "internal/bytealg.IndexString", "internal/bytealg.CountString"], unfollowed := true, recurses := true, named := ["unicode/utf8.first", "unicode/utf8.acceptRanges", "internal/bytealg.MaxLen"], plainKeys := false, apart := false, laid := [("unicode/utf8.acceptRanges", laid_unicode_utf8_acceptRanges), ("unicode/utf8.first", laid_unicode_utf8_first)], narrowed := true }
def DnsFoldsUptoSaid : Prop := dnsFoldsUptoRow.holds Tryd.pinned (OpenSpec.upto dnsFoldsSpec)

/-- 'tolllaw08.LabelOne', WHERE WHAT IT READS IS OF BULK AT MOST 1048576: true; the input reads as it did. -/
def labelOneUptoRow : OpenClaim := { program := "ytcakednecmngdaadoor", sum := "26666058a5e98a19cb143d72cf89c0feb583481a047248b881d1050a7b063a7a", func := "toll/tolllaw08.LabelOne", spec := "labelOne", inPlace := ["internal/bytealg.IndexByteString", "internal/bytealg.IndexString"], unfollowed := true, recurses := true, named := ["unicode/utf8.first", "unicode/utf8.acceptRanges", "internal/bytealg.MaxLen"], plainKeys := false, apart := false, laid := [("unicode/utf8.acceptRanges", laid_unicode_utf8_acceptRanges), ("unicode/utf8.first", laid_unicode_utf8_first)], narrowed := true }
def LabelOneUptoSaid : Prop := labelOneUptoRow.holds Tryd.pinned (OpenSpec.upto labelOneSpec)

/-- 'tolllaw08.LabelKinds', WHERE WHAT IT READS IS OF BULK AT MOST 1048576: true; the input reads as it did. -/
def labelKindsUptoRow : OpenClaim := { program := "ytcakednecmngdaadoor", sum := "26666058a5e98a19cb143d72cf89c0feb583481a047248b881d1050a7b063a7a", func := "toll/tolllaw08.LabelKinds", spec := "labelKinds", inPlace := ["internal/bytealg.IndexByteString", "internal/bytealg.IndexString"], unfollowed := true, recurses := true, named := ["unicode/utf8.first", "unicode/utf8.acceptRanges", "internal/bytealg.MaxLen"], plainKeys := false, apart := false, laid := [("unicode/utf8.acceptRanges", laid_unicode_utf8_acceptRanges), ("unicode/utf8.first", laid_unicode_utf8_first)], narrowed := true }
def LabelKindsUptoSaid : Prop := labelKindsUptoRow.holds Tryd.pinned (OpenSpec.upto labelKindsSpec)

/-- 'tolllaw08.LabelOrder', WHERE WHAT IT READS IS OF BULK AT MOST 1048576: true; the input reads as it did. -/
def labelOrderUptoRow : OpenClaim := { program := "ytcakednecmngdaadoor", sum := "26666058a5e98a19cb143d72cf89c0feb583481a047248b881d1050a7b063a7a", func := "toll/tolllaw08.LabelOrder", spec := "labelOrder", inPlace := ["internal/bytealg.IndexByteString", "internal/bytealg.IndexString"], unfollowed := true, recurses := true, named := ["unicode/utf8.first", "unicode/utf8.acceptRanges", "internal/bytealg.MaxLen"], plainKeys := false, apart := false, laid := [("unicode/utf8.acceptRanges", laid_unicode_utf8_acceptRanges), ("unicode/utf8.first", laid_unicode_utf8_first)], narrowed := true }
def LabelOrderUptoSaid : Prop := labelOrderUptoRow.holds Tryd.pinned (OpenSpec.upto labelOrderSpec)

/-- 'tolllaw08.LabelNots', WHERE WHAT IT READS IS OF BULK AT MOST 1048576: true; the input reads as it did. -/
def labelNotsUptoRow : OpenClaim := { program := "ytcakednecmngdaadoor", sum := "26666058a5e98a19cb143d72cf89c0feb583481a047248b881d1050a7b063a7a", func := "toll/tolllaw08.LabelNots", spec := "labelNots", inPlace := ["internal/bytealg.IndexByteString", "internal/bytealg.IndexString"], unfollowed := true, recurses := true, named := ["unicode/utf8.first", "unicode/utf8.acceptRanges", "internal/bytealg.MaxLen"], plainKeys := false, apart := false, laid := [("unicode/utf8.acceptRanges", laid_unicode_utf8_acceptRanges), ("unicode/utf8.first", laid_unicode_utf8_first)], narrowed := true }
def LabelNotsUptoSaid : Prop := labelNotsUptoRow.holds Tryd.pinned (OpenSpec.upto labelNotsSpec)

/-- 'tolllaw08.LabelMore', WHERE WHAT IT READS IS OF BULK AT MOST 1048576: true; the input reads as it did. -/
def labelMoreUptoRow : OpenClaim := { program := "ytcakednecmngdaadoor", sum := "26666058a5e98a19cb143d72cf89c0feb583481a047248b881d1050a7b063a7a", func := "toll/tolllaw08.LabelMore", spec := "labelMore", inPlace := ["internal/bytealg.IndexByteString", "internal/bytealg.IndexString"], unfollowed := true, recurses := true, named := ["unicode/utf8.first", "unicode/utf8.acceptRanges", "internal/bytealg.MaxLen"], plainKeys := false, apart := false, laid := [("unicode/utf8.acceptRanges", laid_unicode_utf8_acceptRanges), ("unicode/utf8.first", laid_unicode_utf8_first)], narrowed := true }
def LabelMoreUptoSaid : Prop := labelMoreUptoRow.holds Tryd.pinned (OpenSpec.upto labelMoreSpec)

/-- 'tolllaw08.LabelNone', WHERE WHAT IT READS IS OF BULK AT MOST 1048576: true; the input reads as it did. -/
def labelNoneUptoRow : OpenClaim := { program := "ytcakednecmngdaadoor", sum := "26666058a5e98a19cb143d72cf89c0feb583481a047248b881d1050a7b063a7a", func := "toll/tolllaw08.LabelNone", spec := "labelNone", inPlace := ["internal/bytealg.IndexByteString", "internal/bytealg.IndexString"], unfollowed := true, recurses := true, named := ["unicode/utf8.first", "unicode/utf8.acceptRanges", "internal/bytealg.MaxLen"], plainKeys := false, apart := false, laid := [("unicode/utf8.acceptRanges", laid_unicode_utf8_acceptRanges), ("unicode/utf8.first", laid_unicode_utf8_first)], narrowed := true }
def LabelNoneUptoSaid : Prop := labelNoneUptoRow.holds Tryd.pinned (OpenSpec.upto labelNoneSpec)

/-- 'tolllaw01.DnsKeys', WHERE WHAT IT READS IS OF BULK AT MOST 1048576: true; the input reads as it did. -/
def dnsKeysUptoRow : OpenClaim := { program := "ytcakednecmngdaadoor", sum := "26666058a5e98a19cb143d72cf89c0feb583481a047248b881d1050a7b063a7a", func := "toll/tolllaw01.DnsKeys", spec := "dnsKeys", inPlace := ["internal/bytealg.IndexByteString", "internal/bytealg.IndexString", "internal/bytealg.CountString"], unfollowed := true, recurses := true, named := ["unicode/utf8.first", "unicode/utf8.acceptRanges", "internal/bytealg.MaxLen"], plainKeys := false, apart := false, laid := [("unicode/utf8.acceptRanges", laid_unicode_utf8_acceptRanges), ("unicode/utf8.first", laid_unicode_utf8_first)], narrowed := true }
def DnsKeysUptoSaid : Prop := dnsKeysUptoRow.holds Tryd.pinned (OpenSpec.upto dnsKeysSpec)

/-- 'tolllaw01.DnsBacks', WHERE WHAT IT READS IS OF BULK AT MOST 1048576: true; the input reads as it did. -/
def dnsBacksUptoRow : OpenClaim := { program := "ytcakednecmngdaadoor", sum := "26666058a5e98a19cb143d72cf89c0feb583481a047248b881d1050a7b063a7a", func := "toll/tolllaw01.DnsBacks", spec := "dnsBacks", inPlace := ["internal/bytealg.IndexByteString", "internal/bytealg.IndexString", "internal/bytealg.CountString"], unfollowed := true, recurses := true, named := ["unicode/utf8.first", "unicode/utf8.acceptRanges", "internal/bytealg.MaxLen"], plainKeys := false, apart := false, laid := [("unicode/utf8.acceptRanges", laid_unicode_utf8_acceptRanges), ("unicode/utf8.first", laid_unicode_utf8_first)], narrowed := true }
def DnsBacksUptoSaid : Prop := dnsBacksUptoRow.holds Tryd.pinned (OpenSpec.upto dnsBacksSpec)

/-- 'tolllaw19.QueueDoes', WHERE WHAT IT READS IS OF BULK AT MOST 1048576: true; the input reads as it did. -/
def queueDoesUptoRow : OpenClaim := { program := "ytcakednecmngdaadoor", sum := "26666058a5e98a19cb143d72cf89c0feb583481a047248b881d1050a7b063a7a", func := "toll/tolllaw19.QueueDoes", spec := "queueDoes", inPlace := ["internal/bytealg.IndexByteString", "internal/bytealg.IndexString"], unfollowed := true, recurses := true, named := ["unicode/utf8.first", "unicode/utf8.acceptRanges", "internal/bytealg.MaxLen"], plainKeys := false, apart := false, laid := [("unicode/utf8.acceptRanges", laid_unicode_utf8_acceptRanges), ("unicode/utf8.first", laid_unicode_utf8_first)], narrowed := true }
def QueueDoesUptoSaid : Prop := queueDoesUptoRow.holds Tryd.pinned (OpenSpec.upto queueDoesSpec)

/-- 'tolllaw19.QueueTwice', WHERE WHAT IT READS IS OF BULK AT MOST 1048576: true; the input reads as it did. -/
def queueTwiceUptoRow : OpenClaim := { program := "ytcakednecmngdaadoor", sum := "26666058a5e98a19cb143d72cf89c0feb583481a047248b881d1050a7b063a7a", func := "toll/tolllaw19.QueueTwice", spec := "queueTwice", inPlace := ["internal/bytealg.IndexByteString", "internal/bytealg.IndexString"], unfollowed := true, recurses := true, named := ["unicode/utf8.first", "unicode/utf8.acceptRanges", "internal/bytealg.MaxLen"], plainKeys := false, apart := false, laid := [("unicode/utf8.acceptRanges", laid_unicode_utf8_acceptRanges), ("unicode/utf8.first", laid_unicode_utf8_first)], narrowed := true }
def QueueTwiceUptoSaid : Prop := queueTwiceUptoRow.holds Tryd.pinned (OpenSpec.upto queueTwiceSpec)

/-- 'tolllaw19.QueueDrops', WHERE WHAT IT READS IS OF BULK AT MOST 1048576: true; the input reads as it did. -/
def queueDropsUptoRow : OpenClaim := { program := "ytcakednecmngdaadoor", sum := "26666058a5e98a19cb143d72cf89c0feb583481a047248b881d1050a7b063a7a", func := "toll/tolllaw19.QueueDrops", spec := "queueDrops", inPlace := ["internal/bytealg.IndexByteString", "internal/bytealg.IndexString"], unfollowed := true, recurses := true, named := ["unicode/utf8.first", "unicode/utf8.acceptRanges", "internal/bytealg.MaxLen"], plainKeys := false, apart := false, laid := [("unicode/utf8.acceptRanges", laid_unicode_utf8_acceptRanges), ("unicode/utf8.first", laid_unicode_utf8_first)], narrowed := true }
def QueueDropsUptoSaid : Prop := queueDropsUptoRow.holds Tryd.pinned (OpenSpec.upto queueDropsSpec)

/-- 'tolllaw08.LabelMeets', WHERE WHAT IT READS IS OF BULK AT MOST 1048576: true; the input reads as it did. -/
def labelMeetsUptoRow : OpenClaim := { program := "ytcakednecmngdaadoor", sum := "26666058a5e98a19cb143d72cf89c0feb583481a047248b881d1050a7b063a7a", func := "toll/tolllaw08.LabelMeets", spec := "labelMeets", inPlace := ["internal/bytealg.IndexByteString", "internal/bytealg.IndexString"], unfollowed := true, recurses := true, named := ["unicode/utf8.first", "unicode/utf8.acceptRanges", "internal/bytealg.MaxLen"], plainKeys := false, apart := false, laid := [("unicode/utf8.acceptRanges", laid_unicode_utf8_acceptRanges), ("unicode/utf8.first", laid_unicode_utf8_first)], narrowed := true }
def LabelMeetsUptoSaid : Prop := labelMeetsUptoRow.holds Tryd.pinned (OpenSpec.upto labelMeetsSpec)

/-- 'tolllaw04.QueryTexts', WHERE WHAT IT READS IS OF BULK AT MOST 1048576: true; the input reads as it did. -/
def queryTextsUptoRow : OpenClaim := { program := "ytcakednecmngdaadoor", sum := "26666058a5e98a19cb143d72cf89c0feb583481a047248b881d1050a7b063a7a", func := "toll/tolllaw04.QueryTexts", spec := "queryTexts", inPlace := ["internal/bytealg.IndexByteString", "internal/abi.NoEscape", "internal/bytealg.MakeNoZero", "internal/bytealg.IndexString"], unfollowed := true, recurses := true, named := ["unicode/utf8.first", "unicode/utf8.acceptRanges", "internal/bytealg.MaxLen"], plainKeys := false, apart := false, laid := [("unicode/utf8.acceptRanges", laid_unicode_utf8_acceptRanges), ("unicode/utf8.first", laid_unicode_utf8_first)], narrowed := true }
def QueryTextsUptoSaid : Prop := queryTextsUptoRow.holds Tryd.pinned (OpenSpec.upto queryTextsSpec)

/-- 'tolllaw04.QueryParses', WHERE WHAT IT READS IS OF BULK AT MOST 1048576: true; the input reads as it did. -/
def queryParsesUptoRow : OpenClaim := { program := "ytcakednecmngdaadoor", sum := "26666058a5e98a19cb143d72cf89c0feb583481a047248b881d1050a7b063a7a", func := "toll/tolllaw04.QueryParses", spec := "queryParses", inPlace := ["internal/bytealg.IndexByteString", "internal/bytealg.IndexString", "internal/abi.NoEscape", "internal/bytealg.MakeNoZero"], unfollowed := true, recurses := true, named := ["unicode/utf8.first", "unicode/utf8.acceptRanges", "internal/bytealg.MaxLen"], plainKeys := false, apart := false, laid := [("unicode/utf8.acceptRanges", laid_unicode_utf8_acceptRanges), ("unicode/utf8.first", laid_unicode_utf8_first)], narrowed := true }
def QueryParsesUptoSaid : Prop := queryParsesUptoRow.holds Tryd.pinned (OpenSpec.upto queryParsesSpec)

/-- 'tolllaw04.QueryJoins', WHERE WHAT IT READS IS OF BULK AT MOST 1048576: true; the input reads as it did. -/
def queryJoinsUptoRow : OpenClaim := { program := "ytcakednecmngdaadoor", sum := "26666058a5e98a19cb143d72cf89c0feb583481a047248b881d1050a7b063a7a", func := "toll/tolllaw04.QueryJoins", spec := "queryJoins", inPlace := ["internal/bytealg.IndexByteString", "internal/bytealg.IndexString", "internal/abi.NoEscape", "internal/bytealg.MakeNoZero"], unfollowed := true, recurses := true, named := ["unicode/utf8.first", "unicode/utf8.acceptRanges", "internal/bytealg.MaxLen"], plainKeys := false, apart := false, laid := [("unicode/utf8.acceptRanges", laid_unicode_utf8_acceptRanges), ("unicode/utf8.first", laid_unicode_utf8_first)], narrowed := true }
def QueryJoinsUptoSaid : Prop := queryJoinsUptoRow.holds Tryd.pinned (OpenSpec.upto queryJoinsSpec)

/-- 'tolllaw04.QueryOctets', WHERE WHAT IT READS IS OF BULK AT MOST 1048576: true; the input reads as it did. -/
def queryOctetsUptoRow : OpenClaim := { program := "ytcakednecmngdaadoor", sum := "26666058a5e98a19cb143d72cf89c0feb583481a047248b881d1050a7b063a7a", func := "toll/tolllaw04.QueryOctets", spec := "queryOctets", inPlace := ["internal/bytealg.IndexByteString", "internal/abi.NoEscape", "internal/bytealg.MakeNoZero", "internal/bytealg.IndexString"], unfollowed := true, recurses := true, named := ["unicode/utf8.first", "unicode/utf8.acceptRanges", "internal/bytealg.MaxLen"], plainKeys := false, apart := false, laid := [("unicode/utf8.acceptRanges", laid_unicode_utf8_acceptRanges), ("unicode/utf8.first", laid_unicode_utf8_first)], narrowed := true }
def QueryOctetsUptoSaid : Prop := queryOctetsUptoRow.holds Tryd.pinned (OpenSpec.upto queryOctetsSpec)

/-- 'tolllaw04.QueryApart', WHERE WHAT IT READS IS OF BULK AT MOST 1048576: true; the input reads as it did. -/
def queryApartUptoRow : OpenClaim := { program := "ytcakednecmngdaadoor", sum := "26666058a5e98a19cb143d72cf89c0feb583481a047248b881d1050a7b063a7a", func := "toll/tolllaw04.QueryApart", spec := "queryApart", inPlace := ["internal/bytealg.IndexByteString", "internal/abi.NoEscape", "internal/bytealg.MakeNoZero", "internal/bytealg.IndexString"], unfollowed := true, recurses := true, named := ["unicode/utf8.first", "unicode/utf8.acceptRanges", "internal/bytealg.MaxLen"], plainKeys := false, apart := false, laid := [("unicode/utf8.acceptRanges", laid_unicode_utf8_acceptRanges), ("unicode/utf8.first", laid_unicode_utf8_first)], narrowed := true }
def QueryApartUptoSaid : Prop := queryApartUptoRow.holds Tryd.pinned (OpenSpec.upto queryApartSpec)

/-- 'tolllaw04.QueryTurns', WHERE WHAT IT READS IS OF BULK AT MOST 1048576: true; the input reads as it did. -/
def queryTurnsUptoRow : OpenClaim := { program := "ytcakednecmngdaadoor", sum := "26666058a5e98a19cb143d72cf89c0feb583481a047248b881d1050a7b063a7a", func := "toll/tolllaw04.QueryTurns", spec := "queryTurns", inPlace := ["internal/bytealg.IndexByteString", "internal/abi.NoEscape", "internal/bytealg.MakeNoZero", "internal/bytealg.IndexString"], unfollowed := true, recurses := true, named := ["unicode/utf8.first", "unicode/utf8.acceptRanges", "internal/bytealg.MaxLen"], plainKeys := false, apart := false, laid := [("unicode/utf8.acceptRanges", laid_unicode_utf8_acceptRanges), ("unicode/utf8.first", laid_unicode_utf8_first)], narrowed := true }
def QueryTurnsUptoSaid : Prop := queryTurnsUptoRow.holds Tryd.pinned (OpenSpec.upto queryTurnsSpec)

/-- 'tolllaw04.QueryDigits', WHERE WHAT IT READS IS OF BULK AT MOST 1048576: true; the input reads as it did. -/
def queryDigitsUptoRow : OpenClaim := { program := "ytcakednecmngdaadoor", sum := "26666058a5e98a19cb143d72cf89c0feb583481a047248b881d1050a7b063a7a", func := "toll/tolllaw04.QueryDigits", spec := "queryDigits", inPlace := ["internal/bytealg.IndexByteString", "internal/bytealg.IndexString", "internal/abi.NoEscape", "internal/bytealg.MakeNoZero"], unfollowed := true, recurses := true, named := ["unicode/utf8.first", "unicode/utf8.acceptRanges", "internal/bytealg.MaxLen"], plainKeys := false, apart := false, laid := [("unicode/utf8.acceptRanges", laid_unicode_utf8_acceptRanges), ("unicode/utf8.first", laid_unicode_utf8_first)], narrowed := true }
def QueryDigitsUptoSaid : Prop := queryDigitsUptoRow.holds Tryd.pinned (OpenSpec.upto queryDigitsSpec)

end Rows
end Go.Proofs.YtcakednecmngdaaDoor
