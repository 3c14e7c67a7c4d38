/-
  DERIVED. GIVEN WITH THE SEED: THE CARDS: each row of YtmdfllipmnekoaaDoorRows.lean that lists a variable, with what it lists TIED to the program's text (the seventh form; the later family's looks); each row that meets fmt, with fmt's text TOLD by the authors' own Lean function (tested against real Go, not proved from fmt's source: count such statements apart). THE CARD IS WHAT COUNTS. Prove the row's statement (the work); the ties are given (YtmdfllipmnekoaaDoorTie.lean); close each card by the builder's one call (the guide's Derived/Test/ToyasCard.lean, 'card_holds'). Laid BY PROGRAM, IN A SANDBOX (cutbox-door.mjs). By AI agents, Wed Nov 11 2026. No macro, syntax, notation, axiom, sorry.
-/
import Derived.Test.YtmdfllipmnekoaaDoorRows
import GoSem.ClaimSeven
namespace Go.Proofs.YtmdfllipmnekoaaDoor
namespace Rows

/-- THE TIED CARD OF 'quernlaw17.LiveIntervals'. -/
def liveIntervalsCard : Claim7 := { stood := { row := liveIntervalsRow, standIns := [], harness := (true, "122d97d6ebf76d45435bd2ba7350e0714a75f6614d346b040fd1af68453be442"), looks := false }, kinds := [], alts := [], laidByText := true, laidKinds := [.data], laidTests := true, laidLooks := .later }
def LiveIntervalsCardSaid : Prop := Claim7.holds Tryd.pinned (.plain (OpenSpec.ofChange liveIntervalsSpec)) liveIntervalsCard

/-- THE TIED CARD OF 'quernlaw17.LiveSpans'. -/
def liveSpansCard : Claim7 := { stood := { row := liveSpansRow, standIns := [], harness := (true, "122d97d6ebf76d45435bd2ba7350e0714a75f6614d346b040fd1af68453be442"), looks := false }, kinds := [], alts := [], laidByText := true, laidKinds := [.data], laidTests := true, laidLooks := .later }
def LiveSpansCardSaid : Prop := Claim7.holds Tryd.pinned (.plain (OpenSpec.ofChange liveSpansSpec)) liveSpansCard

/-- THE TIED CARD OF 'quernlaw17.LiveAll'. -/
def liveAllCard : Claim7 := { stood := { row := liveAllRow, standIns := [], harness := (true, "122d97d6ebf76d45435bd2ba7350e0714a75f6614d346b040fd1af68453be442"), looks := false }, kinds := [], alts := [], laidByText := true, laidKinds := [.data], laidTests := true, laidLooks := .later }
def LiveAllCardSaid : Prop := Claim7.holds Tryd.pinned (.plain (OpenSpec.ofChange liveAllSpec)) liveAllCard

/-- THE SECOND FORM's CARD OF 'quernlaw17.LiveIntervals'. -/
def liveIntervalsUptoCard : Claim7 := { stood := { row := liveIntervalsUptoRow, standIns := [], harness := (true, "122d97d6ebf76d45435bd2ba7350e0714a75f6614d346b040fd1af68453be442"), looks := false }, kinds := [], alts := [], laidByText := true, laidKinds := [.data], laidTests := true, laidLooks := .later }
def LiveIntervalsUptoCardSaid : Prop := Claim7.holds Tryd.pinned (.plain (OpenSpec.upto liveIntervalsSpec)) liveIntervalsUptoCard

/-- THE SECOND FORM's CARD OF 'quernlaw17.LiveSpans'. -/
def liveSpansUptoCard : Claim7 := { stood := { row := liveSpansUptoRow, standIns := [], harness := (true, "122d97d6ebf76d45435bd2ba7350e0714a75f6614d346b040fd1af68453be442"), looks := false }, kinds := [], alts := [], laidByText := true, laidKinds := [.data], laidTests := true, laidLooks := .later }
def LiveSpansUptoCardSaid : Prop := Claim7.holds Tryd.pinned (.plain (OpenSpec.upto liveSpansSpec)) liveSpansUptoCard

/-- THE SECOND FORM's CARD OF 'quernlaw17.LiveAll'. -/
def liveAllUptoCard : Claim7 := { stood := { row := liveAllUptoRow, standIns := [], harness := (true, "122d97d6ebf76d45435bd2ba7350e0714a75f6614d346b040fd1af68453be442"), looks := false }, kinds := [], alts := [], laidByText := true, laidKinds := [.data], laidTests := true, laidLooks := .later }
def LiveAllUptoCardSaid : Prop := Claim7.holds Tryd.pinned (.plain (OpenSpec.upto liveAllSpec)) liveAllUptoCard
end Rows
end Go.Proofs.YtmdfllipmnekoaaDoor
