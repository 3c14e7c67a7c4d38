/-
  The statement LiveSpans (quernlaw17), in its second form, holds of the given program: for every function of blocks and every number that can be read as data of bulk at most 1048576, and laid where the program's own text lays the table math/bits.deBruijn64tab, it returns true, and its input reads as it did.
-/
import Derived.Test.YtmdfllipmnekoaaDoorw9
import Derived.Test.YtmdfllipmnekoaaDoorCards
import Derived.Test.YtmdfllipmnekoaaDoorTie
import Derived.JoinedCond
import Derived.SevenTiedAt
set_option maxHeartbeats 1000000

/- The rows and the cards of LiveSpans. -/
set_option maxRecDepth 100000
set_option linter.unusedVariables false
set_option linter.unusedSimpArgs false
open Go Go.Fw Go.Proofs
namespace Go.Proofs.Try
open Go.ChangeShapes Go.WideShapes Go.ChangeAt Go.RowKit
namespace Ls
open YtmdfllipmnekoaaDoor

theorem contract (K : Type) (enc : TypeId × Value → K) (W : World) (base : Nat) (args : Array Value) (ds gs : List (DataW K)) (before : List MemPlace)
    (hval : ∀ (j : Nat) t v, Tryd.f4.params[j]? = some t → args[j]? = some v → Value.okWide Tryd.prog W .any base t v)
    (hW : DataW.Whole enc Tryd.prog Tryd.f4.params.toList Rows.liveSpansSpec.vars false W args.toList ds gs before)
    (hsz : (DataW.weightsEach Tryd.prog (Tryd.f4.params.toList ++ Rows.liveSpansSpec.plain.varTypes Tryd.prog) (ds ++ gs)).all (· ≤ reachBytes) = true) (hT : TabAt W.heap) :
    Calls Tryd.prog 4 args W fun e W' => ∃ v, e = .returned v ∧ Rows.liveSpansSpec.post enc Tryd.prog Tryd.f4 false true false false W args v W' := by
  have hW' := hW
  obtain ⟨p, q, hA0, hV, rfl, hfz, hnd⟩ := hW
  have hA : DataW.TrodAll enc Tryd.prog W 0 (fun _ => true) true Tryd.f4.params.toList args.toList ds p := hA0
  rw [Tryd.params4] at hA hval hsz
  obtain ⟨v0, v1, d0, d1, p0, p1, rfl, rfl, rfl, h0, h1⟩ := trodAll_two hA
  obtain ⟨rfl, rfl⟩ := trodVars_none hV
  obtain ⟨cs, rfl⟩ := Li.okWide_agg Tryd.underlying25 (hval 0 25 v0 rfl rfl)
  obtain ⟨a1, rfl, rfl, rfl, w1⟩ := open_int Tryd.underlying3 (hval 1 3 v1 rfl rfl) h1
  have k0 := h0
  have lt0 : ∀ x ∈ p0, x.block < W.heap.size := by obtain ⟨m, hm⟩ := k0; exact DataW.trod_lt m _ _ _ hm
  have fits0 : Fits Tryd.prog 25 d0 := fun n hn => by simpa using List.all_eq_true.1 hsz _ (DataW.weights_mem_each (j := 0) (t := 25) (d := d0) rfl rfl n hn)
  obtain ⟨fuel0, hf0⟩ := h0
  obtain ⟨f, fp, fn, fc, fq, fm, fd, hcs, hF, hSz, hnm⟩ := open_fnc hf0 fits0
  have hcs' : cs = ⟨fv f fp fn fc fq fm fd⟩ := by
    have : cs.toList = fv f fp fn fc fq fm fd := by simpa [Value.cells] using hcs
    cases cs; simpa using this
  subst hcs'
  have main : HC Tryd.prog 4 [.agg ⟨fv f fp fn fc fq fm fd⟩, .int .i64 a1] W.heap fun v h' => v = .bool true ∧ Fw.Ext W.heap h' :=
    c4 hT hF hSz hnm fun h' e => ⟨rfl, e⟩
  refine (main W rfl).mono fun e W' ⟨v, he, ⟨hv, hx⟩, ho, hu⟩ => ?_
  subst he; subst hv
  have bel := Li.frame hx ho hu
  exact ⟨_, rfl, _, _, _, [], p0 ++ [], [], hW', trodAll_mk1 (shut_bool Tryd.underlying4 _),
    trodAll_mk2 (Li.trodAll_tape (Below.trod Li.laidOut (by kernel_rfl) (of_decide_eq_true (by kernel_rfl)) k0 bel lt0)) (shut_int Tryd.underlying3 w1), rfl, Li.kept_tape (bel.frame _), fun h => by cases h⟩
abbrev arg0 : Array Value := #[.agg #[.string ByteArray.empty, .slice none 0 0, .int .i64 0, .int .i64 0, .slice none 0 0], .int .i64 0]
theorem reads (os : Os) {K : Type} (enc : TypeId × Value → K) : ∃ places, DataW.whole enc Tryd.prog ((Li.laidWorld os).forCall (fun _ _ => 0) ⟨#[], arg0, []⟩).memory Tryd.f4.params.toList Rows.liveSpansSpec.vars false arg0.toList 8 = some ([.agg [.lit (.string []), .nil, .lit (.int .i64 0), .lit (.int .i64 0), .nil], .lit (.int .i64 0)], [], places) :=
  ⟨[], by kernel_rfl⟩
theorem laid_met (os : Os) : laidMet Tryd.prog Rows.liveSpansUptoRow.laid ((Li.laidWorld os).forCall (fun _ _ => 0) ⟨#[], arg0, []⟩).memory := Li.laid_met os _
theorem liftedUpto (os : Os) (started : os.Started) (K : Type) (enc : TypeId × Value → K) (F : Stop.Interp) :
    ReturnsInHanded {} Tryd.checked os 4 .any ((Rows.OpenSpec.upto Rows.liveSpansSpec).preRow enc Tryd.prog Tryd.f4 Rows.liveSpansUptoRow.domain false Rows.liveSpansUptoRow.laid) (((Rows.OpenSpec.upto Rows.liveSpansSpec).at F).post enc Tryd.prog Tryd.f4 false true false false) := by
  obtain ⟨places, hx⟩ := reads os enc
  refine returnsInHanded_of_row (C := Tryd.checked) (s := Rows.OpenSpec.upto Rows.liveSpansSpec) Li.own started (by kernel_rfl) Tryd.func4
    (witness_row_at (enc := enc) (C := Tryd.checked) false (Li.laidWorld os) arg0 rfl (by kernel_rfl) (by kernel_rfl) (by kernel_rfl)
      (OpenSpec.preRow_of_cond 8 hx (by kernel_rfl) (fun k hk => by cases hk; kernel_rfl) (by kernel_rfl) (laid_met os))) ?_
  intro W base args ds gs before hval hW _ _ hsz hL _ _
  exact contract K enc W base args ds gs before hval hW hsz (tab_at hL)
theorem saidUpto : Rows.LiveSpansUptoSaid :=
  OpenClaim.holds_of_cond 4 Tryd.f4 rfl rfl rfl rfl rfl rfl rfl ⟨rfl, rfl, rfl, rfl, rfl⟩ rfl rfl rfl rfl rfl (by kernel_rfl) Tryd.func4 (by kernel_rfl)
    (of_decide_eq_true (by kernel_rfl)) (by unfold Func.isWrapper; first | (rw [if_pos (by decide +kernel)]; kernel_rfl) | (rw [if_neg (by decide +kernel)]; exact ⟨rfl, rfl⟩))
    (fun os started K enc _ F => by rw [OpenClaim.pre_eq_preRow]; exact liftedUpto os started K enc F)
theorem plain (f : FuncId) (fn : Func) (hf : Tryd.pinned.checked.prog.funcNamed "quern/quernlaw17.LiveSpans" = some f) (hfn : Tryd.pinned.checked.prog.funcs[f]? = some fn) :
    false = Tryd.pinned.checked.prog.looks [] ∧ ∀ (j : Nat) t, fn.params[j]? = some t → Tryd.pinned.checked.prog.wantsStandIn t = false := by
  obtain rfl : f = 4 := Option.some.inj ((show Tryd.prog.funcNamed "quern/quernlaw17.LiveSpans" = some 4 by kernel_rfl).symm.trans hf) |>.symm
  obtain rfl : fn = Tryd.f4 := (Option.some.inj (Tryd.func4.symm.trans hfn)).symm
  refine ⟨by kernel_rfl, fun j t ht => ?_⟩
  rw [Tryd.params4] at ht
  have h3 : t = 25 ∨ t = 3 := by
    rcases j with _ | _ | j
    · left; simpa using ht.symm
    · right; simpa using ht.symm
    · simp at ht
  rcases h3 with rfl | rfl
  · exact (show Tryd.prog.wantsStandIn 25 = false by kernel_rfl)
  · exact (show Tryd.prog.wantsStandIn 3 = false by kernel_rfl)
end Ls
end Go.Proofs.Try
namespace Go.Proofs.YtmdfllipmnekoaaDoor
theorem liveSpans_cardUpto : Rows.LiveSpansUptoCardSaid :=
  Claim7.holds_tied_plain_at .later [] _ _ _ _ Go.Proofs.Try.Ls.saidUpto (fun _ h => by cases h) (by kernel_rfl) (fun _ h => by cases h) liveSpansUpto_row_tie rfl ⟨rfl, rfl⟩ (by kernel_rfl) rfl Go.Proofs.Try.Ls.plain (by kernel_rfl)
end Go.Proofs.YtmdfllipmnekoaaDoor
