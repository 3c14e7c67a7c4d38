/-
  The statement LiveIntervals (quernlaw17) holds of the given program: for every function of blocks and every line that can be read as data, and laid where the program's own text lays the table math/bits.deBruijn64tab, it returns true, and its input reads as it did.
-/
import Derived.Test.YtmdfllipmnekoaaDoorw8
import Derived.Test.YtmdfllipmnekoaaDoorCards
import Derived.Test.YtmdfllipmnekoaaDoorTie
import Derived.SevenTiedAt
set_option maxHeartbeats 1000000

/- The tied card of LiveIntervals. -/
set_option maxRecDepth 100000
namespace Go.Proofs.YtmdfllipmnekoaaDoor
open Go

theorem liveIntervals_card : Rows.LiveIntervalsCardSaid :=
  Claim7.holds_tied_plain_at .later [] [.data] true (true, "122d97d6ebf76d45435bd2ba7350e0714a75f6614d346b040fd1af68453be442") false
    Go.Proofs.Try.Li.holds (fun _ h => by cases h) (by kernel_rfl) (fun _ h => by cases h) liveIntervals_row_tie rfl ⟨rfl, rfl⟩ (by kernel_rfl) rfl
    (fun f fn hf hfn => by
      obtain rfl : f = 3 := Option.some.inj ((show Tryd.prog.funcNamed "quern/quernlaw17.LiveIntervals" = some 3 by kernel_rfl).symm.trans hf) |>.symm
      obtain rfl : fn = Tryd.f3 := (Option.some.inj (Tryd.func3.symm.trans hfn)).symm
      exact ⟨by kernel_rfl, fun j t ht => by
        rw [Tryd.params3] at ht
        have h3 : t = 25 ∨ t = 22 := by
          rcases j with _ | _ | j
          · left; simpa using ht.symm
          · right; simpa using ht.symm
          · simp at ht
        rcases h3 with rfl | rfl
        · exact (show Tryd.prog.wantsStandIn 25 = false by kernel_rfl)
        · exact (show Tryd.prog.wantsStandIn 22 = false by kernel_rfl)⟩)
    (by kernel_rfl)
end Go.Proofs.YtmdfllipmnekoaaDoor
