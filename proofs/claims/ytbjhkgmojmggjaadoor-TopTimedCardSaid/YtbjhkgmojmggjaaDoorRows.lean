/-
  NARROWER THAN 'FOR EVERY INPUT', by the rows' own cells (each row's printed sentence says how): TopTimed: laid · TopSummed: laid · TopWheeled: laid · TopPorted: laid · TopWatched: laid.
  DERIVED. THE GIVEN ROWS OF THIS SEAT. 5 by the template 'for every input the law returns true; each argument reads behind the call as it read before'; 0 by the template 'total and deterministic' (their statements: YtbjhkgmojmggjaaDoorTotals.lean).
  GIVEN WITH THE SEED: the statements are not yours to turn. If you find one false, say at which input.
  Laid BY PROGRAM, IN A SANDBOX (cutbox-rows.mjs): the forced cells as the released guide's own fill.sh prints them over the translation 21b0d178aef876eb… (all of the seat's roots in one cut). By AI agents, Wed Nov 11 2026. No macro, syntax, notation, axiom, sorry.
-/
import Derived.Test.YtbjhkgmojmggjaaDoorChecked
import GoSem.PinnedTables
import GoSem.Claim
import GoSem.ClaimJoined
import GoSem.ClaimMapViews
import Derived.JoinedTies
import Derived.KernelRfl
namespace Go.Proofs.YtbjhkgmojmggjaaDoor
/- THE CELL 'sum', in the pinned program and in every row, IS THE sha256 OF THE DUMP (.gsa) THAT YtbjhkgmojmggjaaDoorProg.lean LOADS. Nothing in Lean hashes anything: it is a label: what it is worth is what the hold of that sum in a sandbox is worth. -/
noncomputable def Tryd.pinned : Pinned := { name := "ytbjhkgmojmggjaadoor", sum := "21b0d178aef876ebea6a24827331be28e191acd01d8ccf38240a8695b220d211", checked := Tryd.checked }
namespace Rows
def none {H : Type} : Left H := { results := [], args := [] }

/- WHAT THE LISTED PACKAGE-LEVEL VARIABLES READ AS WHEN THE CALL BEGINS. Each datum BY PROGRAM (the guide's laid-datum.mjs) off the statement by which the dump's own 'gosem.cut.vars' lays the variable. In a bare row this is a premise. The card (YtbjhkgmojmggjaaDoorCards.lean) ties it to the program's text. -/
def laid_unicode_utf8_acceptRanges {H : Type} : DataW H := .agg [.agg [.lit (.int .u8 128), .lit (.int .u8 191)], .agg [.lit (.int .u8 160), .lit (.int .u8 191)], .agg [.lit (.int .u8 128), .lit (.int .u8 159)], .agg [.lit (.int .u8 144), .lit (.int .u8 191)], .agg [.lit (.int .u8 128), .lit (.int .u8 143)], .agg [.lit (.int .u8 0), .lit (.int .u8 0)], .agg [.lit (.int .u8 0), .lit (.int .u8 0)], .agg [.lit (.int .u8 0), .lit (.int .u8 0)], .agg [.lit (.int .u8 0), .lit (.int .u8 0)], .agg [.lit (.int .u8 0), .lit (.int .u8 0)], .agg [.lit (.int .u8 0), .lit (.int .u8 0)], .agg [.lit (.int .u8 0), .lit (.int .u8 0)], .agg [.lit (.int .u8 0), .lit (.int .u8 0)], .agg [.lit (.int .u8 0), .lit (.int .u8 0)], .agg [.lit (.int .u8 0), .lit (.int .u8 0)], .agg [.lit (.int .u8 0), .lit (.int .u8 0)]]
/-- One of Go's own tables, pinned by name: the form's constant. -/
def laid_unicode_utf8_first : DataW Unit := Go.Pinned.utf8First

/-- 'cochinealtop.TopTimed': WHATEVER THE INPUT: true; the input reads as it did. -/
def topTimedSpec : ChangeSpec := { name := "topTimed", fn := fun _ => fun
  | [d] => { results := [.lit (.bool true)], args := [d] }
  | _ => none }
def topTimedRow : OpenClaim := { program := "ytbjhkgmojmggjaadoor", sum := "21b0d178aef876ebea6a24827331be28e191acd01d8ccf38240a8695b220d211", func := "cochineal/cochinealtop.TopTimed", spec := "topTimed", inPlace := ["internal/bytealg.CountString", "internal/bytealg.IndexByteString", "internal/bytealg.IndexString"], unfollowed := true, recurses := true, named := ["unicode/utf8.first", "unicode/utf8.acceptRanges", "internal/bytealg.MaxLen"], apart := false, laid := [("unicode/utf8.acceptRanges", laid_unicode_utf8_acceptRanges), ("unicode/utf8.first", laid_unicode_utf8_first)] }
def TopTimedSaid : Prop := topTimedRow.holds Tryd.pinned (OpenSpec.ofChange topTimedSpec)

/-- ITS FALSE NEIGHBOUR: 'it returns false'. Refute it at one input. -/
def topTimedWrong : ChangeSpec := { name := "topTimed", fn := fun _ => fun
  | [d] => { results := [.lit (.bool false)], args := [d] }
  | _ => none }
def TopTimedWrongFalsely : Prop := topTimedRow.holds Tryd.pinned (OpenSpec.ofChange topTimedWrong)

/-- 'cochinealtop.TopSummed': WHATEVER THE INPUT: true; the input reads as it did. -/
def topSummedSpec : ChangeSpec := { name := "topSummed", fn := fun _ => fun
  | [d1, d2, d3, d4, d5, d6] => { results := [.lit (.bool true)], args := [d1, d2, d3, d4, d5, d6] }
  | _ => none }
def topSummedRow : OpenClaim := { program := "ytbjhkgmojmggjaadoor", sum := "21b0d178aef876ebea6a24827331be28e191acd01d8ccf38240a8695b220d211", func := "cochineal/cochinealtop.TopSummed", spec := "topSummed", inPlace := ["internal/bytealg.CountString", "internal/bytealg.IndexByteString", "internal/bytealg.IndexString"], unfollowed := true, recurses := true, named := ["unicode/utf8.first", "unicode/utf8.acceptRanges", "internal/bytealg.MaxLen"], apart := false, laid := [("unicode/utf8.acceptRanges", laid_unicode_utf8_acceptRanges), ("unicode/utf8.first", laid_unicode_utf8_first)] }
def TopSummedSaid : Prop := topSummedRow.holds Tryd.pinned (OpenSpec.ofChange topSummedSpec)

/-- ITS FALSE NEIGHBOUR: 'it returns false'. Refute it at one input. -/
def topSummedWrong : ChangeSpec := { name := "topSummed", fn := fun _ => fun
  | [d1, d2, d3, d4, d5, d6] => { results := [.lit (.bool false)], args := [d1, d2, d3, d4, d5, d6] }
  | _ => none }
def TopSummedWrongFalsely : Prop := topSummedRow.holds Tryd.pinned (OpenSpec.ofChange topSummedWrong)

/-- 'cochinealtop.TopWheeled': WHATEVER THE INPUT: true; the input reads as it did. -/
def topWheeledSpec : ChangeSpec := { name := "topWheeled", fn := fun _ => fun
  | [d] => { results := [.lit (.bool true)], args := [d] }
  | _ => none }
def topWheeledRow : OpenClaim := { program := "ytbjhkgmojmggjaadoor", sum := "21b0d178aef876ebea6a24827331be28e191acd01d8ccf38240a8695b220d211", func := "cochineal/cochinealtop.TopWheeled", spec := "topWheeled", inPlace := ["internal/bytealg.CountString", "internal/bytealg.IndexByteString", "internal/bytealg.IndexString", "math.archTrunc", "math.Float64bits", "math.Float64frombits"], unfollowed := true, recurses := true, named := ["unicode/utf8.first", "unicode/utf8.acceptRanges", "internal/bytealg.MaxLen"], apart := false, laid := [("unicode/utf8.acceptRanges", laid_unicode_utf8_acceptRanges), ("unicode/utf8.first", laid_unicode_utf8_first)] }
def TopWheeledSaid : Prop := topWheeledRow.holds Tryd.pinned (OpenSpec.ofChange topWheeledSpec)

/-- ITS FALSE NEIGHBOUR: 'it returns false'. Refute it at one input. -/
def topWheeledWrong : ChangeSpec := { name := "topWheeled", fn := fun _ => fun
  | [d] => { results := [.lit (.bool false)], args := [d] }
  | _ => none }
def TopWheeledWrongFalsely : Prop := topWheeledRow.holds Tryd.pinned (OpenSpec.ofChange topWheeledWrong)

/-- 'cochinealtop.TopPorted': WHATEVER THE INPUT: true; the input reads as it did. -/
def topPortedSpec : ChangeSpec := { name := "topPorted", fn := fun _ => fun
  | [d1, d2, d3] => { results := [.lit (.bool true)], args := [d1, d2, d3] }
  | _ => none }
def topPortedRow : OpenClaim := { program := "ytbjhkgmojmggjaadoor", sum := "21b0d178aef876ebea6a24827331be28e191acd01d8ccf38240a8695b220d211", func := "cochineal/cochinealtop.TopPorted", spec := "topPorted", inPlace := ["internal/bytealg.CountString", "internal/bytealg.IndexByteString", "internal/bytealg.IndexString"], unfollowed := true, recurses := true, named := ["unicode/utf8.first", "unicode/utf8.acceptRanges", "internal/bytealg.MaxLen"], apart := false, laid := [("unicode/utf8.acceptRanges", laid_unicode_utf8_acceptRanges), ("unicode/utf8.first", laid_unicode_utf8_first)] }
def TopPortedSaid : Prop := topPortedRow.holds Tryd.pinned (OpenSpec.ofChange topPortedSpec)

/-- ITS FALSE NEIGHBOUR: 'it returns false'. Refute it at one input. -/
def topPortedWrong : ChangeSpec := { name := "topPorted", fn := fun _ => fun
  | [d1, d2, d3] => { results := [.lit (.bool false)], args := [d1, d2, d3] }
  | _ => none }
def TopPortedWrongFalsely : Prop := topPortedRow.holds Tryd.pinned (OpenSpec.ofChange topPortedWrong)

/-- 'cochinealtop.TopWatched': WHATEVER THE INPUT: true; the input reads as it did. -/
def topWatchedSpec : ChangeSpec := { name := "topWatched", fn := fun _ => fun
  | [d1, d2, d3, d4] => { results := [.lit (.bool true)], args := [d1, d2, d3, d4] }
  | _ => none }
def topWatchedRow : OpenClaim := { program := "ytbjhkgmojmggjaadoor", sum := "21b0d178aef876ebea6a24827331be28e191acd01d8ccf38240a8695b220d211", func := "cochineal/cochinealtop.TopWatched", spec := "topWatched", inPlace := ["internal/bytealg.CountString", "internal/bytealg.IndexByteString", "internal/bytealg.IndexString"], unfollowed := true, recurses := true, named := ["unicode/utf8.first", "unicode/utf8.acceptRanges", "internal/bytealg.MaxLen"], apart := false, laid := [("unicode/utf8.acceptRanges", laid_unicode_utf8_acceptRanges), ("unicode/utf8.first", laid_unicode_utf8_first)] }
def TopWatchedSaid : Prop := topWatchedRow.holds Tryd.pinned (OpenSpec.ofChange topWatchedSpec)

/-- ITS FALSE NEIGHBOUR: 'it returns false'. Refute it at one input. -/
def topWatchedWrong : ChangeSpec := { name := "topWatched", fn := fun _ => fun
  | [d1, d2, d3, d4] => { results := [.lit (.bool false)], args := [d1, d2, d3, d4] }
  | _ => none }
def TopWatchedWrongFalsely : Prop := topWatchedRow.holds Tryd.pinned (OpenSpec.ofChange topWatchedWrong)

/- THE SECOND FORM. 'bulk': how many values and letters a reading holds, each counted each time it is reached (what is shared counts as often as it is met; a slice's spare places count too). A statement '..UptoSaid' is the law's where the arguments, and the package variables that the reading takes, are together of bulk at most 1048576: NARROWER than '..Said'. Prove '..Said' where nothing that the law and all that it calls make is longer than what came in: it says more and counts as full. Else prove '..UptoSaid'. A law counts once. -/
mutual
def uptoBulk {H : Type} : DataW H → Nat
  | .lit (.string bytes) => bytes.length + 1
  | .lit _ => 1
  | .nil => 1
  | .ptr d => uptoBulk d + 1
  | .slice elems spare => uptoBulkAll elems + uptoBulkAll spare + 1
  | .agg parts => uptoBulkAll parts + 1
  | .iface _ d => uptoBulk d + 1
  | .map entries => uptoBulkEntries entries + 1
  | .held _ => 1
def uptoBulkAll {H : Type} : List (DataW H) → Nat
  | [] => 0
  | d :: r => uptoBulk d + uptoBulkAll r
def uptoBulkEntries {H : Type} : List (Lit × DataW H) → Nat
  | [] => 0
  | x :: r => uptoBulkEntry x + uptoBulkEntries r
def uptoBulkEntry {H : Type} : Lit × DataW H → Nat
  | (.string bytes, d) => bytes.length + uptoBulk d + 1
  | (_, d) => uptoBulk d + 1
 end
def uptoSmall : (H : Type) → List (DataW H) → Bool := fun _ ds => decide (uptoBulkAll ds ≤ 1048576)
def OpenSpec.upto (s : _root_.Go.ChangeSpec) : _root_.Go.OpenSpec := { _root_.Go.OpenSpec.ofChange s with cond := some uptoSmall }

/-- 'cochinealtop.TopTimed', WHERE WHAT IT READS IS OF BULK AT MOST 1048576: true; the input reads as it did. -/
def topTimedUptoRow : OpenClaim := { program := "ytbjhkgmojmggjaadoor", sum := "21b0d178aef876ebea6a24827331be28e191acd01d8ccf38240a8695b220d211", func := "cochineal/cochinealtop.TopTimed", spec := "topTimed", inPlace := ["internal/bytealg.CountString", "internal/bytealg.IndexByteString", "internal/bytealg.IndexString"], unfollowed := true, recurses := true, named := ["unicode/utf8.first", "unicode/utf8.acceptRanges", "internal/bytealg.MaxLen"], apart := false, laid := [("unicode/utf8.acceptRanges", laid_unicode_utf8_acceptRanges), ("unicode/utf8.first", laid_unicode_utf8_first)], narrowed := true }
def TopTimedUptoSaid : Prop := topTimedUptoRow.holds Tryd.pinned (OpenSpec.upto topTimedSpec)

/-- 'cochinealtop.TopSummed', WHERE WHAT IT READS IS OF BULK AT MOST 1048576: true; the input reads as it did. -/
def topSummedUptoRow : OpenClaim := { program := "ytbjhkgmojmggjaadoor", sum := "21b0d178aef876ebea6a24827331be28e191acd01d8ccf38240a8695b220d211", func := "cochineal/cochinealtop.TopSummed", spec := "topSummed", inPlace := ["internal/bytealg.CountString", "internal/bytealg.IndexByteString", "internal/bytealg.IndexString"], unfollowed := true, recurses := true, named := ["unicode/utf8.first", "unicode/utf8.acceptRanges", "internal/bytealg.MaxLen"], apart := false, laid := [("unicode/utf8.acceptRanges", laid_unicode_utf8_acceptRanges), ("unicode/utf8.first", laid_unicode_utf8_first)], narrowed := true }
def TopSummedUptoSaid : Prop := topSummedUptoRow.holds Tryd.pinned (OpenSpec.upto topSummedSpec)

/-- 'cochinealtop.TopWheeled', WHERE WHAT IT READS IS OF BULK AT MOST 1048576: true; the input reads as it did. -/
def topWheeledUptoRow : OpenClaim := { program := "ytbjhkgmojmggjaadoor", sum := "21b0d178aef876ebea6a24827331be28e191acd01d8ccf38240a8695b220d211", func := "cochineal/cochinealtop.TopWheeled", spec := "topWheeled", inPlace := ["internal/bytealg.CountString", "internal/bytealg.IndexByteString", "internal/bytealg.IndexString", "math.archTrunc", "math.Float64bits", "math.Float64frombits"], unfollowed := true, recurses := true, named := ["unicode/utf8.first", "unicode/utf8.acceptRanges", "internal/bytealg.MaxLen"], apart := false, laid := [("unicode/utf8.acceptRanges", laid_unicode_utf8_acceptRanges), ("unicode/utf8.first", laid_unicode_utf8_first)], narrowed := true }
def TopWheeledUptoSaid : Prop := topWheeledUptoRow.holds Tryd.pinned (OpenSpec.upto topWheeledSpec)

/-- 'cochinealtop.TopPorted', WHERE WHAT IT READS IS OF BULK AT MOST 1048576: true; the input reads as it did. -/
def topPortedUptoRow : OpenClaim := { program := "ytbjhkgmojmggjaadoor", sum := "21b0d178aef876ebea6a24827331be28e191acd01d8ccf38240a8695b220d211", func := "cochineal/cochinealtop.TopPorted", spec := "topPorted", inPlace := ["internal/bytealg.CountString", "internal/bytealg.IndexByteString", "internal/bytealg.IndexString"], unfollowed := true, recurses := true, named := ["unicode/utf8.first", "unicode/utf8.acceptRanges", "internal/bytealg.MaxLen"], apart := false, laid := [("unicode/utf8.acceptRanges", laid_unicode_utf8_acceptRanges), ("unicode/utf8.first", laid_unicode_utf8_first)], narrowed := true }
def TopPortedUptoSaid : Prop := topPortedUptoRow.holds Tryd.pinned (OpenSpec.upto topPortedSpec)

/-- 'cochinealtop.TopWatched', WHERE WHAT IT READS IS OF BULK AT MOST 1048576: true; the input reads as it did. -/
def topWatchedUptoRow : OpenClaim := { program := "ytbjhkgmojmggjaadoor", sum := "21b0d178aef876ebea6a24827331be28e191acd01d8ccf38240a8695b220d211", func := "cochineal/cochinealtop.TopWatched", spec := "topWatched", inPlace := ["internal/bytealg.CountString", "internal/bytealg.IndexByteString", "internal/bytealg.IndexString"], unfollowed := true, recurses := true, named := ["unicode/utf8.first", "unicode/utf8.acceptRanges", "internal/bytealg.MaxLen"], apart := false, laid := [("unicode/utf8.acceptRanges", laid_unicode_utf8_acceptRanges), ("unicode/utf8.first", laid_unicode_utf8_first)], narrowed := true }
def TopWatchedUptoSaid : Prop := topWatchedUptoRow.holds Tryd.pinned (OpenSpec.upto topWatchedSpec)

end Rows
end Go.Proofs.YtbjhkgmojmggjaaDoor
