/-
  DERIVED. GIVEN WITH THE SEED: THE CARDS: each row of YtbjhkgmojmggjaaDoorRows.lean that lists a variable, with what it lists TIED to the program's text (the seventh form; the later family's looks); each row that meets fmt, with fmt's text TOLD by the authors' own Lean function (tested against real Go, not proved from fmt's source: count such statements apart). THE CARD IS WHAT COUNTS. Prove the row's statement (the work); the ties are given (YtbjhkgmojmggjaaDoorTie.lean); close each card by the builder's one call (the guide's Derived/Test/ToyasCard.lean, 'card_holds'). Laid BY PROGRAM, IN A SANDBOX (cutbox-door.mjs). By AI agents, Wed Nov 11 2026. No macro, syntax, notation, axiom, sorry.
-/
import Derived.Test.YtbjhkgmojmggjaaDoorRows
import GoSem.ClaimSeven
namespace Go.Proofs.YtbjhkgmojmggjaaDoor
namespace Rows

/-- THE TIED CARD OF 'cochinealtop.TopTimed'. -/
def topTimedCard : Claim7 := { stood := { row := topTimedRow, standIns := [], harness := (true, "a4155c6b140e66278497686af2528edb3aaa6946b34068d4356accbc85051067"), looks := false }, kinds := [], alts := [], laidByText := true, laidKinds := [.data, .pinned], laidTests := true, laidLooks := .later }
def TopTimedCardSaid : Prop := Claim7.holds Tryd.pinned (.plain (OpenSpec.ofChange topTimedSpec)) topTimedCard

/-- THE TIED CARD OF 'cochinealtop.TopSummed'. -/
def topSummedCard : Claim7 := { stood := { row := topSummedRow, standIns := [], harness := (true, "a4155c6b140e66278497686af2528edb3aaa6946b34068d4356accbc85051067"), looks := false }, kinds := [], alts := [], laidByText := true, laidKinds := [.data, .pinned], laidTests := true, laidLooks := .later }
def TopSummedCardSaid : Prop := Claim7.holds Tryd.pinned (.plain (OpenSpec.ofChange topSummedSpec)) topSummedCard

/-- THE TIED CARD OF 'cochinealtop.TopWheeled'. -/
def topWheeledCard : Claim7 := { stood := { row := topWheeledRow, standIns := [], harness := (true, "a4155c6b140e66278497686af2528edb3aaa6946b34068d4356accbc85051067"), looks := false }, kinds := [], alts := [], laidByText := true, laidKinds := [.data, .pinned], laidTests := true, laidLooks := .later }
def TopWheeledCardSaid : Prop := Claim7.holds Tryd.pinned (.plain (OpenSpec.ofChange topWheeledSpec)) topWheeledCard

/-- THE TIED CARD OF 'cochinealtop.TopPorted'. -/
def topPortedCard : Claim7 := { stood := { row := topPortedRow, standIns := [], harness := (true, "a4155c6b140e66278497686af2528edb3aaa6946b34068d4356accbc85051067"), looks := false }, kinds := [], alts := [], laidByText := true, laidKinds := [.data, .pinned], laidTests := true, laidLooks := .later }
def TopPortedCardSaid : Prop := Claim7.holds Tryd.pinned (.plain (OpenSpec.ofChange topPortedSpec)) topPortedCard

/-- THE TIED CARD OF 'cochinealtop.TopWatched'. -/
def topWatchedCard : Claim7 := { stood := { row := topWatchedRow, standIns := [], harness := (true, "a4155c6b140e66278497686af2528edb3aaa6946b34068d4356accbc85051067"), looks := false }, kinds := [], alts := [], laidByText := true, laidKinds := [.data, .pinned], laidTests := true, laidLooks := .later }
def TopWatchedCardSaid : Prop := Claim7.holds Tryd.pinned (.plain (OpenSpec.ofChange topWatchedSpec)) topWatchedCard

/-- THE SECOND FORM's CARD OF 'cochinealtop.TopTimed'. -/
def topTimedUptoCard : Claim7 := { stood := { row := topTimedUptoRow, standIns := [], harness := (true, "a4155c6b140e66278497686af2528edb3aaa6946b34068d4356accbc85051067"), looks := false }, kinds := [], alts := [], laidByText := true, laidKinds := [.data, .pinned], laidTests := true, laidLooks := .later }
def TopTimedUptoCardSaid : Prop := Claim7.holds Tryd.pinned (.plain (OpenSpec.upto topTimedSpec)) topTimedUptoCard

/-- THE SECOND FORM's CARD OF 'cochinealtop.TopSummed'. -/
def topSummedUptoCard : Claim7 := { stood := { row := topSummedUptoRow, standIns := [], harness := (true, "a4155c6b140e66278497686af2528edb3aaa6946b34068d4356accbc85051067"), looks := false }, kinds := [], alts := [], laidByText := true, laidKinds := [.data, .pinned], laidTests := true, laidLooks := .later }
def TopSummedUptoCardSaid : Prop := Claim7.holds Tryd.pinned (.plain (OpenSpec.upto topSummedSpec)) topSummedUptoCard

/-- THE SECOND FORM's CARD OF 'cochinealtop.TopWheeled'. -/
def topWheeledUptoCard : Claim7 := { stood := { row := topWheeledUptoRow, standIns := [], harness := (true, "a4155c6b140e66278497686af2528edb3aaa6946b34068d4356accbc85051067"), looks := false }, kinds := [], alts := [], laidByText := true, laidKinds := [.data, .pinned], laidTests := true, laidLooks := .later }
def TopWheeledUptoCardSaid : Prop := Claim7.holds Tryd.pinned (.plain (OpenSpec.upto topWheeledSpec)) topWheeledUptoCard

/-- THE SECOND FORM's CARD OF 'cochinealtop.TopPorted'. -/
def topPortedUptoCard : Claim7 := { stood := { row := topPortedUptoRow, standIns := [], harness := (true, "a4155c6b140e66278497686af2528edb3aaa6946b34068d4356accbc85051067"), looks := false }, kinds := [], alts := [], laidByText := true, laidKinds := [.data, .pinned], laidTests := true, laidLooks := .later }
def TopPortedUptoCardSaid : Prop := Claim7.holds Tryd.pinned (.plain (OpenSpec.upto topPortedSpec)) topPortedUptoCard

/-- THE SECOND FORM's CARD OF 'cochinealtop.TopWatched'. -/
def topWatchedUptoCard : Claim7 := { stood := { row := topWatchedUptoRow, standIns := [], harness := (true, "a4155c6b140e66278497686af2528edb3aaa6946b34068d4356accbc85051067"), looks := false }, kinds := [], alts := [], laidByText := true, laidKinds := [.data, .pinned], laidTests := true, laidLooks := .later }
def TopWatchedUptoCardSaid : Prop := Claim7.holds Tryd.pinned (.plain (OpenSpec.upto topWatchedSpec)) topWatchedUptoCard
end Rows
end Go.Proofs.YtbjhkgmojmggjaaDoor
