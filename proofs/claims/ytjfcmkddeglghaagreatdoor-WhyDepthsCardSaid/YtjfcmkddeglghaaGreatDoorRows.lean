/-
  NARROWER THAN 'FOR EVERY INPUT', by the rows' own cells (each row's printed sentence says how): WhyTells: laid · WhyDepths: laid · DiffTells: laid · DiffEdits: laid · DiffGoes: laid · TallyTells: laid · RoomFits: laid · RoomRoots: laid · RoomMore: laid · RoomOf: laid · RoomBounds: laid · RoomTakes: laid.
  DERIVED. THE GIVEN ROWS OF THIS SEAT. 12 by the template 'for every input the law returns true; each argument reads behind the call as it read before'; 0 by the template 'total and deterministic' (their statements: YtjfcmkddeglghaaGreatDoorTotals.lean).
  GIVEN WITH THE SEED: the statements are not yours to turn. If you find one false, say at which input.
  Laid BY PROGRAM, IN A SANDBOX (cutbox-rows.mjs): the forced cells as the released guide's own fill.sh prints them over the translation 9896fd5f65bbe21b… (all of the seat's roots in one cut). By AI agents, Wed Nov 11 2026. No macro, syntax, notation, axiom, sorry.
-/
import Derived.Test.YtjfcmkddeglghaaGreatDoorChecked
import GoSem.PinnedTables
import GoSem.Claim
import GoSem.ClaimJoined
import GoSem.ClaimMapViews
import Derived.JoinedTies
import Derived.KernelRfl
namespace Go.Proofs.YtjfcmkddeglghaaGreatDoor
/- THE CELL 'sum', in the pinned program and in every row, IS THE sha256 OF THE DUMP (.gsa) THAT YtjfcmkddeglghaaGreatDoorProg.lean LOADS. Nothing in Lean hashes anything: it is a label: what it is worth is what the hold of that sum in a sandbox is worth. -/
noncomputable def Tryz.pinned : Pinned := { name := "ytjfcmkddeglghaagreatdoor", sum := "9896fd5f65bbe21bc32f4a8a211206a9a78b23ca70f3e954226ff7c4648d718c", checked := Tryz.checked }
namespace Rows
def none {H : Type} : Left H := { results := [], args := [] }

/- WHAT THE LISTED PACKAGE-LEVEL VARIABLES READ AS WHEN THE CALL BEGINS. Each datum BY PROGRAM (the guide's laid-datum.mjs) off the statement by which the dump's own 'gosem.cut.vars' lays the variable. In a bare row this is a premise. The card (YtjfcmkddeglghaaGreatDoorCards.lean) ties it to the program's text. -/
def laid_unicode_utf8_acceptRanges {H : Type} : DataW H := .agg [.agg [.lit (.int .u8 128), .lit (.int .u8 191)], .agg [.lit (.int .u8 160), .lit (.int .u8 191)], .agg [.lit (.int .u8 128), .lit (.int .u8 159)], .agg [.lit (.int .u8 144), .lit (.int .u8 191)], .agg [.lit (.int .u8 128), .lit (.int .u8 143)], .agg [.lit (.int .u8 0), .lit (.int .u8 0)], .agg [.lit (.int .u8 0), .lit (.int .u8 0)], .agg [.lit (.int .u8 0), .lit (.int .u8 0)], .agg [.lit (.int .u8 0), .lit (.int .u8 0)], .agg [.lit (.int .u8 0), .lit (.int .u8 0)], .agg [.lit (.int .u8 0), .lit (.int .u8 0)], .agg [.lit (.int .u8 0), .lit (.int .u8 0)], .agg [.lit (.int .u8 0), .lit (.int .u8 0)], .agg [.lit (.int .u8 0), .lit (.int .u8 0)], .agg [.lit (.int .u8 0), .lit (.int .u8 0)], .agg [.lit (.int .u8 0), .lit (.int .u8 0)]]
/-- One of Go's own tables, pinned by name: the form's constant. -/
def laid_unicode_utf8_first : DataW Unit := Go.Pinned.utf8First

/-- 'graftwoodlaw19.WhyTells': WHATEVER THE INPUT: true; the input reads as it did. -/
def whyTellsSpec : ChangeSpec := { name := "whyTells", fn := fun _ => fun
  | [d1, d2] => { results := [.lit (.bool true)], args := [d1, d2] }
  | _ => none }
def whyTellsRow : OpenClaim := { program := "ytjfcmkddeglghaagreatdoor", sum := "9896fd5f65bbe21bc32f4a8a211206a9a78b23ca70f3e954226ff7c4648d718c", func := "graftwood/graftwoodlaw19.WhyTells", spec := "whyTells", inPlace := ["internal/bytealg.CountString", "internal/bytealg.IndexByteString", "internal/bytealg.IndexString"], unfollowed := true, recurses := true, named := ["unicode/utf8.first", "unicode/utf8.acceptRanges", "internal/bytealg.MaxLen"], plainKeys := false, apart := false, laid := [("unicode/utf8.acceptRanges", laid_unicode_utf8_acceptRanges), ("unicode/utf8.first", laid_unicode_utf8_first)] }
def WhyTellsSaid : Prop := whyTellsRow.holds Tryz.pinned (OpenSpec.ofChange whyTellsSpec)

/-- ITS FALSE NEIGHBOUR: 'it returns false'. Refute it at one input. -/
def whyTellsWrong : ChangeSpec := { name := "whyTells", fn := fun _ => fun
  | [d1, d2] => { results := [.lit (.bool false)], args := [d1, d2] }
  | _ => none }
def WhyTellsWrongFalsely : Prop := whyTellsRow.holds Tryz.pinned (OpenSpec.ofChange whyTellsWrong)

/-- 'graftwoodlaw19.WhyDepths': WHATEVER THE INPUT: true; the input reads as it did. -/
def whyDepthsSpec : ChangeSpec := { name := "whyDepths", fn := fun _ => fun
  | [d] => { results := [.lit (.bool true)], args := [d] }
  | _ => none }
def whyDepthsRow : OpenClaim := { program := "ytjfcmkddeglghaagreatdoor", sum := "9896fd5f65bbe21bc32f4a8a211206a9a78b23ca70f3e954226ff7c4648d718c", func := "graftwood/graftwoodlaw19.WhyDepths", spec := "whyDepths", inPlace := ["internal/bytealg.CountString", "internal/bytealg.IndexByteString", "internal/bytealg.IndexString"], unfollowed := true, recurses := true, named := ["unicode/utf8.first", "unicode/utf8.acceptRanges", "internal/bytealg.MaxLen"], plainKeys := false, apart := false, laid := [("unicode/utf8.acceptRanges", laid_unicode_utf8_acceptRanges), ("unicode/utf8.first", laid_unicode_utf8_first)] }
def WhyDepthsSaid : Prop := whyDepthsRow.holds Tryz.pinned (OpenSpec.ofChange whyDepthsSpec)

/-- ITS FALSE NEIGHBOUR: 'it returns false'. Refute it at one input. -/
def whyDepthsWrong : ChangeSpec := { name := "whyDepths", fn := fun _ => fun
  | [d] => { results := [.lit (.bool false)], args := [d] }
  | _ => none }
def WhyDepthsWrongFalsely : Prop := whyDepthsRow.holds Tryz.pinned (OpenSpec.ofChange whyDepthsWrong)

/-- 'graftwoodlaw13.DiffTells': WHATEVER THE INPUT: true; the input reads as it did. -/
def diffTellsSpec : ChangeSpec := { name := "diffTells", fn := fun _ => fun
  | [d1, d2] => { results := [.lit (.bool true)], args := [d1, d2] }
  | _ => none }
def diffTellsRow : OpenClaim := { program := "ytjfcmkddeglghaagreatdoor", sum := "9896fd5f65bbe21bc32f4a8a211206a9a78b23ca70f3e954226ff7c4648d718c", func := "graftwood/graftwoodlaw13.DiffTells", spec := "diffTells", inPlace := ["internal/bytealg.CountString", "internal/bytealg.IndexByteString", "internal/bytealg.IndexString"], unfollowed := true, recurses := true, named := ["unicode/utf8.first", "unicode/utf8.acceptRanges", "internal/bytealg.MaxLen"], plainKeys := false, apart := false, laid := [("unicode/utf8.acceptRanges", laid_unicode_utf8_acceptRanges), ("unicode/utf8.first", laid_unicode_utf8_first)] }
def DiffTellsSaid : Prop := diffTellsRow.holds Tryz.pinned (OpenSpec.ofChange diffTellsSpec)

/-- ITS FALSE NEIGHBOUR: 'it returns false'. Refute it at one input. -/
def diffTellsWrong : ChangeSpec := { name := "diffTells", fn := fun _ => fun
  | [d1, d2] => { results := [.lit (.bool false)], args := [d1, d2] }
  | _ => none }
def DiffTellsWrongFalsely : Prop := diffTellsRow.holds Tryz.pinned (OpenSpec.ofChange diffTellsWrong)

/-- 'graftwoodlaw13.DiffEdits': WHATEVER THE INPUT: true; the input reads as it did. -/
def diffEditsSpec : ChangeSpec := { name := "diffEdits", fn := fun _ => fun
  | [d1, d2] => { results := [.lit (.bool true)], args := [d1, d2] }
  | _ => none }
def diffEditsRow : OpenClaim := { program := "ytjfcmkddeglghaagreatdoor", sum := "9896fd5f65bbe21bc32f4a8a211206a9a78b23ca70f3e954226ff7c4648d718c", func := "graftwood/graftwoodlaw13.DiffEdits", spec := "diffEdits", inPlace := ["internal/bytealg.CountString", "internal/bytealg.IndexByteString", "internal/bytealg.IndexString"], unfollowed := true, recurses := true, named := ["unicode/utf8.first", "unicode/utf8.acceptRanges", "internal/bytealg.MaxLen"], plainKeys := false, apart := false, laid := [("unicode/utf8.acceptRanges", laid_unicode_utf8_acceptRanges), ("unicode/utf8.first", laid_unicode_utf8_first)] }
def DiffEditsSaid : Prop := diffEditsRow.holds Tryz.pinned (OpenSpec.ofChange diffEditsSpec)

/-- ITS FALSE NEIGHBOUR: 'it returns false'. Refute it at one input. -/
def diffEditsWrong : ChangeSpec := { name := "diffEdits", fn := fun _ => fun
  | [d1, d2] => { results := [.lit (.bool false)], args := [d1, d2] }
  | _ => none }
def DiffEditsWrongFalsely : Prop := diffEditsRow.holds Tryz.pinned (OpenSpec.ofChange diffEditsWrong)

/-- 'graftwoodlaw13.DiffGoes': WHATEVER THE INPUT: true; the input reads as it did. -/
def diffGoesSpec : ChangeSpec := { name := "diffGoes", fn := fun _ => fun
  | [d1, d2, d3] => { results := [.lit (.bool true)], args := [d1, d2, d3] }
  | _ => none }
def diffGoesRow : OpenClaim := { program := "ytjfcmkddeglghaagreatdoor", sum := "9896fd5f65bbe21bc32f4a8a211206a9a78b23ca70f3e954226ff7c4648d718c", func := "graftwood/graftwoodlaw13.DiffGoes", spec := "diffGoes", inPlace := ["internal/bytealg.CountString", "internal/bytealg.IndexByteString", "internal/bytealg.IndexString"], unfollowed := true, recurses := true, named := ["unicode/utf8.first", "unicode/utf8.acceptRanges", "internal/bytealg.MaxLen"], plainKeys := false, apart := false, laid := [("unicode/utf8.acceptRanges", laid_unicode_utf8_acceptRanges), ("unicode/utf8.first", laid_unicode_utf8_first)] }
def DiffGoesSaid : Prop := diffGoesRow.holds Tryz.pinned (OpenSpec.ofChange diffGoesSpec)

/-- ITS FALSE NEIGHBOUR: 'it returns false'. Refute it at one input. -/
def diffGoesWrong : ChangeSpec := { name := "diffGoes", fn := fun _ => fun
  | [d1, d2, d3] => { results := [.lit (.bool false)], args := [d1, d2, d3] }
  | _ => none }
def DiffGoesWrongFalsely : Prop := diffGoesRow.holds Tryz.pinned (OpenSpec.ofChange diffGoesWrong)

/-- 'graftwoodlaw16.TallyTells': WHATEVER THE INPUT: true; the input reads as it did. -/
def tallyTellsSpec : ChangeSpec := { name := "tallyTells", fn := fun _ => fun
  | [d1, d2, d3] => { results := [.lit (.bool true)], args := [d1, d2, d3] }
  | _ => none }
def tallyTellsRow : OpenClaim := { program := "ytjfcmkddeglghaagreatdoor", sum := "9896fd5f65bbe21bc32f4a8a211206a9a78b23ca70f3e954226ff7c4648d718c", func := "graftwood/graftwoodlaw16.TallyTells", spec := "tallyTells", inPlace := ["internal/bytealg.CountString", "internal/bytealg.IndexByteString", "internal/bytealg.IndexString"], unfollowed := true, recurses := true, named := ["unicode/utf8.first", "unicode/utf8.acceptRanges", "internal/bytealg.MaxLen"], plainKeys := false, apart := false, laid := [("unicode/utf8.acceptRanges", laid_unicode_utf8_acceptRanges), ("unicode/utf8.first", laid_unicode_utf8_first)] }
def TallyTellsSaid : Prop := tallyTellsRow.holds Tryz.pinned (OpenSpec.ofChange tallyTellsSpec)

/-- ITS FALSE NEIGHBOUR: 'it returns false'. Refute it at one input. -/
def tallyTellsWrong : ChangeSpec := { name := "tallyTells", fn := fun _ => fun
  | [d1, d2, d3] => { results := [.lit (.bool false)], args := [d1, d2, d3] }
  | _ => none }
def TallyTellsWrongFalsely : Prop := tallyTellsRow.holds Tryz.pinned (OpenSpec.ofChange tallyTellsWrong)

/-- 'graftwoodlaw14.RoomFits': WHATEVER THE INPUT: true; the input reads as it did. -/
def roomFitsSpec : ChangeSpec := { name := "roomFits", fn := fun _ => fun
  | [d1, d2, d3] => { results := [.lit (.bool true)], args := [d1, d2, d3] }
  | _ => none }
def roomFitsRow : OpenClaim := { program := "ytjfcmkddeglghaagreatdoor", sum := "9896fd5f65bbe21bc32f4a8a211206a9a78b23ca70f3e954226ff7c4648d718c", func := "graftwood/graftwoodlaw14.RoomFits", spec := "roomFits", inPlace := ["internal/bytealg.CountString", "internal/bytealg.IndexByteString", "internal/bytealg.IndexString"], unfollowed := true, recurses := true, named := ["unicode/utf8.first", "unicode/utf8.acceptRanges", "internal/bytealg.MaxLen"], plainKeys := false, apart := false, laid := [("unicode/utf8.acceptRanges", laid_unicode_utf8_acceptRanges), ("unicode/utf8.first", laid_unicode_utf8_first)] }
def RoomFitsSaid : Prop := roomFitsRow.holds Tryz.pinned (OpenSpec.ofChange roomFitsSpec)

/-- ITS FALSE NEIGHBOUR: 'it returns false'. Refute it at one input. -/
def roomFitsWrong : ChangeSpec := { name := "roomFits", fn := fun _ => fun
  | [d1, d2, d3] => { results := [.lit (.bool false)], args := [d1, d2, d3] }
  | _ => none }
def RoomFitsWrongFalsely : Prop := roomFitsRow.holds Tryz.pinned (OpenSpec.ofChange roomFitsWrong)

/-- 'graftwoodlaw14.RoomRoots': WHATEVER THE INPUT: true; the input reads as it did. -/
def roomRootsSpec : ChangeSpec := { name := "roomRoots", fn := fun _ => fun
  | [d1, d2, d3] => { results := [.lit (.bool true)], args := [d1, d2, d3] }
  | _ => none }
def roomRootsRow : OpenClaim := { program := "ytjfcmkddeglghaagreatdoor", sum := "9896fd5f65bbe21bc32f4a8a211206a9a78b23ca70f3e954226ff7c4648d718c", func := "graftwood/graftwoodlaw14.RoomRoots", spec := "roomRoots", inPlace := ["internal/bytealg.CountString", "internal/bytealg.IndexByteString", "internal/bytealg.IndexString"], unfollowed := true, recurses := true, named := ["unicode/utf8.first", "unicode/utf8.acceptRanges", "internal/bytealg.MaxLen"], plainKeys := false, apart := false, laid := [("unicode/utf8.acceptRanges", laid_unicode_utf8_acceptRanges), ("unicode/utf8.first", laid_unicode_utf8_first)] }
def RoomRootsSaid : Prop := roomRootsRow.holds Tryz.pinned (OpenSpec.ofChange roomRootsSpec)

/-- ITS FALSE NEIGHBOUR: 'it returns false'. Refute it at one input. -/
def roomRootsWrong : ChangeSpec := { name := "roomRoots", fn := fun _ => fun
  | [d1, d2, d3] => { results := [.lit (.bool false)], args := [d1, d2, d3] }
  | _ => none }
def RoomRootsWrongFalsely : Prop := roomRootsRow.holds Tryz.pinned (OpenSpec.ofChange roomRootsWrong)

/-- 'graftwoodlaw14.RoomMore': WHATEVER THE INPUT: true; the input reads as it did. -/
def roomMoreSpec : ChangeSpec := { name := "roomMore", fn := fun _ => fun
  | [d1, d2, d3] => { results := [.lit (.bool true)], args := [d1, d2, d3] }
  | _ => none }
def roomMoreRow : OpenClaim := { program := "ytjfcmkddeglghaagreatdoor", sum := "9896fd5f65bbe21bc32f4a8a211206a9a78b23ca70f3e954226ff7c4648d718c", func := "graftwood/graftwoodlaw14.RoomMore", spec := "roomMore", inPlace := ["internal/bytealg.CountString", "internal/bytealg.IndexByteString", "internal/bytealg.IndexString"], unfollowed := true, recurses := true, named := ["unicode/utf8.first", "unicode/utf8.acceptRanges", "internal/bytealg.MaxLen"], plainKeys := false, apart := false, laid := [("unicode/utf8.acceptRanges", laid_unicode_utf8_acceptRanges), ("unicode/utf8.first", laid_unicode_utf8_first)] }
def RoomMoreSaid : Prop := roomMoreRow.holds Tryz.pinned (OpenSpec.ofChange roomMoreSpec)

/-- ITS FALSE NEIGHBOUR: 'it returns false'. Refute it at one input. -/
def roomMoreWrong : ChangeSpec := { name := "roomMore", fn := fun _ => fun
  | [d1, d2, d3] => { results := [.lit (.bool false)], args := [d1, d2, d3] }
  | _ => none }
def RoomMoreWrongFalsely : Prop := roomMoreRow.holds Tryz.pinned (OpenSpec.ofChange roomMoreWrong)

/-- 'graftwoodlaw14.RoomOf': WHATEVER THE INPUT: true; the input reads as it did. -/
def roomOfSpec : ChangeSpec := { name := "roomOf", fn := fun _ => fun
  | [d1, d2, d3] => { results := [.lit (.bool true)], args := [d1, d2, d3] }
  | _ => none }
def roomOfRow : OpenClaim := { program := "ytjfcmkddeglghaagreatdoor", sum := "9896fd5f65bbe21bc32f4a8a211206a9a78b23ca70f3e954226ff7c4648d718c", func := "graftwood/graftwoodlaw14.RoomOf", spec := "roomOf", inPlace := ["internal/bytealg.CountString", "internal/bytealg.IndexByteString", "internal/bytealg.IndexString"], unfollowed := true, recurses := true, named := ["unicode/utf8.first", "unicode/utf8.acceptRanges", "internal/bytealg.MaxLen"], plainKeys := false, apart := false, laid := [("unicode/utf8.acceptRanges", laid_unicode_utf8_acceptRanges), ("unicode/utf8.first", laid_unicode_utf8_first)] }
def RoomOfSaid : Prop := roomOfRow.holds Tryz.pinned (OpenSpec.ofChange roomOfSpec)

/-- ITS FALSE NEIGHBOUR: 'it returns false'. Refute it at one input. -/
def roomOfWrong : ChangeSpec := { name := "roomOf", fn := fun _ => fun
  | [d1, d2, d3] => { results := [.lit (.bool false)], args := [d1, d2, d3] }
  | _ => none }
def RoomOfWrongFalsely : Prop := roomOfRow.holds Tryz.pinned (OpenSpec.ofChange roomOfWrong)

/-- 'graftwoodlaw14.RoomBounds': WHATEVER THE INPUT: true; the input reads as it did. -/
def roomBoundsSpec : ChangeSpec := { name := "roomBounds", fn := fun _ => fun
  | [d1, d2, d3] => { results := [.lit (.bool true)], args := [d1, d2, d3] }
  | _ => none }
def roomBoundsRow : OpenClaim := { program := "ytjfcmkddeglghaagreatdoor", sum := "9896fd5f65bbe21bc32f4a8a211206a9a78b23ca70f3e954226ff7c4648d718c", func := "graftwood/graftwoodlaw14.RoomBounds", spec := "roomBounds", inPlace := ["internal/bytealg.CountString", "internal/bytealg.IndexByteString", "internal/bytealg.IndexString"], unfollowed := true, recurses := true, named := ["unicode/utf8.first", "unicode/utf8.acceptRanges", "internal/bytealg.MaxLen"], plainKeys := false, apart := false, laid := [("unicode/utf8.acceptRanges", laid_unicode_utf8_acceptRanges), ("unicode/utf8.first", laid_unicode_utf8_first)] }
def RoomBoundsSaid : Prop := roomBoundsRow.holds Tryz.pinned (OpenSpec.ofChange roomBoundsSpec)

/-- ITS FALSE NEIGHBOUR: 'it returns false'. Refute it at one input. -/
def roomBoundsWrong : ChangeSpec := { name := "roomBounds", fn := fun _ => fun
  | [d1, d2, d3] => { results := [.lit (.bool false)], args := [d1, d2, d3] }
  | _ => none }
def RoomBoundsWrongFalsely : Prop := roomBoundsRow.holds Tryz.pinned (OpenSpec.ofChange roomBoundsWrong)

/-- 'graftwoodlaw14.RoomTakes': WHATEVER THE INPUT: true; the input reads as it did. -/
def roomTakesSpec : ChangeSpec := { name := "roomTakes", fn := fun _ => fun
  | [d1, d2, d3] => { results := [.lit (.bool true)], args := [d1, d2, d3] }
  | _ => none }
def roomTakesRow : OpenClaim := { program := "ytjfcmkddeglghaagreatdoor", sum := "9896fd5f65bbe21bc32f4a8a211206a9a78b23ca70f3e954226ff7c4648d718c", func := "graftwood/graftwoodlaw14.RoomTakes", spec := "roomTakes", inPlace := ["internal/bytealg.CountString", "internal/bytealg.IndexByteString", "internal/bytealg.IndexString"], unfollowed := true, recurses := true, named := ["unicode/utf8.first", "unicode/utf8.acceptRanges", "internal/bytealg.MaxLen"], plainKeys := false, apart := false, laid := [("unicode/utf8.acceptRanges", laid_unicode_utf8_acceptRanges), ("unicode/utf8.first", laid_unicode_utf8_first)] }
def RoomTakesSaid : Prop := roomTakesRow.holds Tryz.pinned (OpenSpec.ofChange roomTakesSpec)

/-- ITS FALSE NEIGHBOUR: 'it returns false'. Refute it at one input. -/
def roomTakesWrong : ChangeSpec := { name := "roomTakes", fn := fun _ => fun
  | [d1, d2, d3] => { results := [.lit (.bool false)], args := [d1, d2, d3] }
  | _ => none }
def RoomTakesWrongFalsely : Prop := roomTakesRow.holds Tryz.pinned (OpenSpec.ofChange roomTakesWrong)

/- THE SECOND FORM. 'bulk': how many values and letters a reading holds, each counted each time it is reached (what is shared counts as often as it is met; a slice's spare places count too). A statement '..UptoSaid' is the law's where the arguments, and the package variables that the reading takes, are together of bulk at most 1048576: NARROWER than '..Said'. Prove '..Said' where nothing that the law and all that it calls make is longer than what came in: it says more and counts as full. Else prove '..UptoSaid'. A law counts once. -/
mutual
def uptoBulk {H : Type} : DataW H → Nat
  | .lit (.string bytes) => bytes.length + 1
  | .lit _ => 1
  | .nil => 1
  | .ptr d => uptoBulk d + 1
  | .slice elems spare => uptoBulkAll elems + uptoBulkAll spare + 1
  | .agg parts => uptoBulkAll parts + 1
  | .iface _ d => uptoBulk d + 1
  | .map entries => uptoBulkEntries entries + 1
  | .held _ => 1
def uptoBulkAll {H : Type} : List (DataW H) → Nat
  | [] => 0
  | d :: r => uptoBulk d + uptoBulkAll r
def uptoBulkEntries {H : Type} : List (Lit × DataW H) → Nat
  | [] => 0
  | x :: r => uptoBulkEntry x + uptoBulkEntries r
def uptoBulkEntry {H : Type} : Lit × DataW H → Nat
  | (.string bytes, d) => bytes.length + uptoBulk d + 1
  | (_, d) => uptoBulk d + 1
 end
def uptoSmall : (H : Type) → List (DataW H) → Bool := fun _ ds => decide (uptoBulkAll ds ≤ 1048576)
def OpenSpec.upto (s : _root_.Go.ChangeSpec) : _root_.Go.OpenSpec := { _root_.Go.OpenSpec.ofChange s with cond := some uptoSmall }

/-- 'graftwoodlaw19.WhyTells', WHERE WHAT IT READS IS OF BULK AT MOST 1048576: true; the input reads as it did. -/
def whyTellsUptoRow : OpenClaim := { program := "ytjfcmkddeglghaagreatdoor", sum := "9896fd5f65bbe21bc32f4a8a211206a9a78b23ca70f3e954226ff7c4648d718c", func := "graftwood/graftwoodlaw19.WhyTells", spec := "whyTells", inPlace := ["internal/bytealg.CountString", "internal/bytealg.IndexByteString", "internal/bytealg.IndexString"], unfollowed := true, recurses := true, named := ["unicode/utf8.first", "unicode/utf8.acceptRanges", "internal/bytealg.MaxLen"], plainKeys := false, apart := false, laid := [("unicode/utf8.acceptRanges", laid_unicode_utf8_acceptRanges), ("unicode/utf8.first", laid_unicode_utf8_first)], narrowed := true }
def WhyTellsUptoSaid : Prop := whyTellsUptoRow.holds Tryz.pinned (OpenSpec.upto whyTellsSpec)

/-- 'graftwoodlaw19.WhyDepths', WHERE WHAT IT READS IS OF BULK AT MOST 1048576: true; the input reads as it did. -/
def whyDepthsUptoRow : OpenClaim := { program := "ytjfcmkddeglghaagreatdoor", sum := "9896fd5f65bbe21bc32f4a8a211206a9a78b23ca70f3e954226ff7c4648d718c", func := "graftwood/graftwoodlaw19.WhyDepths", spec := "whyDepths", inPlace := ["internal/bytealg.CountString", "internal/bytealg.IndexByteString", "internal/bytealg.IndexString"], unfollowed := true, recurses := true, named := ["unicode/utf8.first", "unicode/utf8.acceptRanges", "internal/bytealg.MaxLen"], plainKeys := false, apart := false, laid := [("unicode/utf8.acceptRanges", laid_unicode_utf8_acceptRanges), ("unicode/utf8.first", laid_unicode_utf8_first)], narrowed := true }
def WhyDepthsUptoSaid : Prop := whyDepthsUptoRow.holds Tryz.pinned (OpenSpec.upto whyDepthsSpec)

/-- 'graftwoodlaw13.DiffTells', WHERE WHAT IT READS IS OF BULK AT MOST 1048576: true; the input reads as it did. -/
def diffTellsUptoRow : OpenClaim := { program := "ytjfcmkddeglghaagreatdoor", sum := "9896fd5f65bbe21bc32f4a8a211206a9a78b23ca70f3e954226ff7c4648d718c", func := "graftwood/graftwoodlaw13.DiffTells", spec := "diffTells", inPlace := ["internal/bytealg.CountString", "internal/bytealg.IndexByteString", "internal/bytealg.IndexString"], unfollowed := true, recurses := true, named := ["unicode/utf8.first", "unicode/utf8.acceptRanges", "internal/bytealg.MaxLen"], plainKeys := false, apart := false, laid := [("unicode/utf8.acceptRanges", laid_unicode_utf8_acceptRanges), ("unicode/utf8.first", laid_unicode_utf8_first)], narrowed := true }
def DiffTellsUptoSaid : Prop := diffTellsUptoRow.holds Tryz.pinned (OpenSpec.upto diffTellsSpec)

/-- 'graftwoodlaw13.DiffEdits', WHERE WHAT IT READS IS OF BULK AT MOST 1048576: true; the input reads as it did. -/
def diffEditsUptoRow : OpenClaim := { program := "ytjfcmkddeglghaagreatdoor", sum := "9896fd5f65bbe21bc32f4a8a211206a9a78b23ca70f3e954226ff7c4648d718c", func := "graftwood/graftwoodlaw13.DiffEdits", spec := "diffEdits", inPlace := ["internal/bytealg.CountString", "internal/bytealg.IndexByteString", "internal/bytealg.IndexString"], unfollowed := true, recurses := true, named := ["unicode/utf8.first", "unicode/utf8.acceptRanges", "internal/bytealg.MaxLen"], plainKeys := false, apart := false, laid := [("unicode/utf8.acceptRanges", laid_unicode_utf8_acceptRanges), ("unicode/utf8.first", laid_unicode_utf8_first)], narrowed := true }
def DiffEditsUptoSaid : Prop := diffEditsUptoRow.holds Tryz.pinned (OpenSpec.upto diffEditsSpec)

/-- 'graftwoodlaw13.DiffGoes', WHERE WHAT IT READS IS OF BULK AT MOST 1048576: true; the input reads as it did. -/
def diffGoesUptoRow : OpenClaim := { program := "ytjfcmkddeglghaagreatdoor", sum := "9896fd5f65bbe21bc32f4a8a211206a9a78b23ca70f3e954226ff7c4648d718c", func := "graftwood/graftwoodlaw13.DiffGoes", spec := "diffGoes", inPlace := ["internal/bytealg.CountString", "internal/bytealg.IndexByteString", "internal/bytealg.IndexString"], unfollowed := true, recurses := true, named := ["unicode/utf8.first", "unicode/utf8.acceptRanges", "internal/bytealg.MaxLen"], plainKeys := false, apart := false, laid := [("unicode/utf8.acceptRanges", laid_unicode_utf8_acceptRanges), ("unicode/utf8.first", laid_unicode_utf8_first)], narrowed := true }
def DiffGoesUptoSaid : Prop := diffGoesUptoRow.holds Tryz.pinned (OpenSpec.upto diffGoesSpec)

/-- 'graftwoodlaw16.TallyTells', WHERE WHAT IT READS IS OF BULK AT MOST 1048576: true; the input reads as it did. -/
def tallyTellsUptoRow : OpenClaim := { program := "ytjfcmkddeglghaagreatdoor", sum := "9896fd5f65bbe21bc32f4a8a211206a9a78b23ca70f3e954226ff7c4648d718c", func := "graftwood/graftwoodlaw16.TallyTells", spec := "tallyTells", inPlace := ["internal/bytealg.CountString", "internal/bytealg.IndexByteString", "internal/bytealg.IndexString"], unfollowed := true, recurses := true, named := ["unicode/utf8.first", "unicode/utf8.acceptRanges", "internal/bytealg.MaxLen"], plainKeys := false, apart := false, laid := [("unicode/utf8.acceptRanges", laid_unicode_utf8_acceptRanges), ("unicode/utf8.first", laid_unicode_utf8_first)], narrowed := true }
def TallyTellsUptoSaid : Prop := tallyTellsUptoRow.holds Tryz.pinned (OpenSpec.upto tallyTellsSpec)

/-- 'graftwoodlaw14.RoomFits', WHERE WHAT IT READS IS OF BULK AT MOST 1048576: true; the input reads as it did. -/
def roomFitsUptoRow : OpenClaim := { program := "ytjfcmkddeglghaagreatdoor", sum := "9896fd5f65bbe21bc32f4a8a211206a9a78b23ca70f3e954226ff7c4648d718c", func := "graftwood/graftwoodlaw14.RoomFits", spec := "roomFits", inPlace := ["internal/bytealg.CountString", "internal/bytealg.IndexByteString", "internal/bytealg.IndexString"], unfollowed := true, recurses := true, named := ["unicode/utf8.first", "unicode/utf8.acceptRanges", "internal/bytealg.MaxLen"], plainKeys := false, apart := false, laid := [("unicode/utf8.acceptRanges", laid_unicode_utf8_acceptRanges), ("unicode/utf8.first", laid_unicode_utf8_first)], narrowed := true }
def RoomFitsUptoSaid : Prop := roomFitsUptoRow.holds Tryz.pinned (OpenSpec.upto roomFitsSpec)

/-- 'graftwoodlaw14.RoomRoots', WHERE WHAT IT READS IS OF BULK AT MOST 1048576: true; the input reads as it did. -/
def roomRootsUptoRow : OpenClaim := { program := "ytjfcmkddeglghaagreatdoor", sum := "9896fd5f65bbe21bc32f4a8a211206a9a78b23ca70f3e954226ff7c4648d718c", func := "graftwood/graftwoodlaw14.RoomRoots", spec := "roomRoots", inPlace := ["internal/bytealg.CountString", "internal/bytealg.IndexByteString", "internal/bytealg.IndexString"], unfollowed := true, recurses := true, named := ["unicode/utf8.first", "unicode/utf8.acceptRanges", "internal/bytealg.MaxLen"], plainKeys := false, apart := false, laid := [("unicode/utf8.acceptRanges", laid_unicode_utf8_acceptRanges), ("unicode/utf8.first", laid_unicode_utf8_first)], narrowed := true }
def RoomRootsUptoSaid : Prop := roomRootsUptoRow.holds Tryz.pinned (OpenSpec.upto roomRootsSpec)

/-- 'graftwoodlaw14.RoomMore', WHERE WHAT IT READS IS OF BULK AT MOST 1048576: true; the input reads as it did. -/
def roomMoreUptoRow : OpenClaim := { program := "ytjfcmkddeglghaagreatdoor", sum := "9896fd5f65bbe21bc32f4a8a211206a9a78b23ca70f3e954226ff7c4648d718c", func := "graftwood/graftwoodlaw14.RoomMore", spec := "roomMore", inPlace := ["internal/bytealg.CountString", "internal/bytealg.IndexByteString", "internal/bytealg.IndexString"], unfollowed := true, recurses := true, named := ["unicode/utf8.first", "unicode/utf8.acceptRanges", "internal/bytealg.MaxLen"], plainKeys := false, apart := false, laid := [("unicode/utf8.acceptRanges", laid_unicode_utf8_acceptRanges), ("unicode/utf8.first", laid_unicode_utf8_first)], narrowed := true }
def RoomMoreUptoSaid : Prop := roomMoreUptoRow.holds Tryz.pinned (OpenSpec.upto roomMoreSpec)

/-- 'graftwoodlaw14.RoomOf', WHERE WHAT IT READS IS OF BULK AT MOST 1048576: true; the input reads as it did. -/
def roomOfUptoRow : OpenClaim := { program := "ytjfcmkddeglghaagreatdoor", sum := "9896fd5f65bbe21bc32f4a8a211206a9a78b23ca70f3e954226ff7c4648d718c", func := "graftwood/graftwoodlaw14.RoomOf", spec := "roomOf", inPlace := ["internal/bytealg.CountString", "internal/bytealg.IndexByteString", "internal/bytealg.IndexString"], unfollowed := true, recurses := true, named := ["unicode/utf8.first", "unicode/utf8.acceptRanges", "internal/bytealg.MaxLen"], plainKeys := false, apart := false, laid := [("unicode/utf8.acceptRanges", laid_unicode_utf8_acceptRanges), ("unicode/utf8.first", laid_unicode_utf8_first)], narrowed := true }
def RoomOfUptoSaid : Prop := roomOfUptoRow.holds Tryz.pinned (OpenSpec.upto roomOfSpec)

/-- 'graftwoodlaw14.RoomBounds', WHERE WHAT IT READS IS OF BULK AT MOST 1048576: true; the input reads as it did. -/
def roomBoundsUptoRow : OpenClaim := { program := "ytjfcmkddeglghaagreatdoor", sum := "9896fd5f65bbe21bc32f4a8a211206a9a78b23ca70f3e954226ff7c4648d718c", func := "graftwood/graftwoodlaw14.RoomBounds", spec := "roomBounds", inPlace := ["internal/bytealg.CountString", "internal/bytealg.IndexByteString", "internal/bytealg.IndexString"], unfollowed := true, recurses := true, named := ["unicode/utf8.first", "unicode/utf8.acceptRanges", "internal/bytealg.MaxLen"], plainKeys := false, apart := false, laid := [("unicode/utf8.acceptRanges", laid_unicode_utf8_acceptRanges), ("unicode/utf8.first", laid_unicode_utf8_first)], narrowed := true }
def RoomBoundsUptoSaid : Prop := roomBoundsUptoRow.holds Tryz.pinned (OpenSpec.upto roomBoundsSpec)

/-- 'graftwoodlaw14.RoomTakes', WHERE WHAT IT READS IS OF BULK AT MOST 1048576: true; the input reads as it did. -/
def roomTakesUptoRow : OpenClaim := { program := "ytjfcmkddeglghaagreatdoor", sum := "9896fd5f65bbe21bc32f4a8a211206a9a78b23ca70f3e954226ff7c4648d718c", func := "graftwood/graftwoodlaw14.RoomTakes", spec := "roomTakes", inPlace := ["internal/bytealg.CountString", "internal/bytealg.IndexByteString", "internal/bytealg.IndexString"], unfollowed := true, recurses := true, named := ["unicode/utf8.first", "unicode/utf8.acceptRanges", "internal/bytealg.MaxLen"], plainKeys := false, apart := false, laid := [("unicode/utf8.acceptRanges", laid_unicode_utf8_acceptRanges), ("unicode/utf8.first", laid_unicode_utf8_first)], narrowed := true }
def RoomTakesUptoSaid : Prop := roomTakesUptoRow.holds Tryz.pinned (OpenSpec.upto roomTakesSpec)

end Rows
end Go.Proofs.YtjfcmkddeglghaaGreatDoor
